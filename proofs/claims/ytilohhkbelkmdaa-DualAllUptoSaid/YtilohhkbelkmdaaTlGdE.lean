import Derived.Test.YtilohhkbelkmdaaTlP3
import Derived.Test.YtilohhkbelkmdaaTlGdA
import Derived.Test.YtilohhkbelkmdaaTlGenO
import Derived.Test.YtilohhkbelkmdaaTlGdC
import Derived.Test.YtilohhkbelkmdaaProg
set_option linter.all false
set_option maxRecDepth 20000
namespace TL
open Go Go.Proofs
theorem og : Try.prog.follows .mixedOrders = true := by kernel_rfl
theorem tN : Try.f68.body.isNone = false := rfl
theorem sZ : (Try.f68.name == "runtime.NumGoroutine") = false := by decide +kernel
set_option maxHeartbeats 1000000 in
theorem ri (w0 : World) (g : (Int) × (List ((Int) × (Int)))) (g_v : Value) (hg_v : Ro w0 g_v g.2) (r : bj) (r_v : Value) (hr_v : Ro w0 r_v r) (from_ : Int) (to : Int) :
    Calls Try.prog 25 #[vg [vi g.1, g_v], r_v, vi from_, vi to] w0 (fun ee w => ∃ xx : aE × Value, ee = .returned ((fun ⟨δ, rv0⟩ => vt [rv0, vi ((bB g r from_ to).2)]) xx) ∧ (fun (⟨δ, rv0⟩ : aE × Value) (w : World) => cC w0 δ w ∧ Ow δ (is 1) (is 1) w rv0 ((bB g r from_ to).1)) xx w) := by
 refine az Try.func25 rfl (Nat.le_of_ble_eq_true rfl) ?_
 have bH := b9.start w0
 have Rg := hg_v.sl
 have Rr := hr_v.sl
 refine a9 (a8 rfl (cr rfl (bR c0 (is 1) (1, 0) rfl rfl ?_)))
 intro g4 w1 b3 ch2 bx5
 replace bx5 : Bx g4 (is 1) w1 b3 [vi g.1, g_v] := bx5
 refine ma vn (ai 0 (aa (a9 (a8 rfl (lx (aq (ds := [vi g.1, g_v]) ak rfl bx5 rfl rfl) (mv r_v ?_))))))
 replace Rg := Rg.cn ch2
 replace Rr := Rr.cn ch2
 refine lo (aV (aD (vals := [vg [vi g.1, g_v], r_v]) Try.func47 kI kL rfl) (jh w1 g g_v (Rg).ro r r_v (Rr).ro) ?_)
 rintro ⟨d7, v9⟩ w6 ⟨fr8, o10⟩
 obtain ⟨g11, ch12, G11⟩ := dw g4 fr8 (fun n => if n = 1 then 2 else 0)
 replace o10 := o10.gl G11 2
 refine mv (vt [v9, vi ((ar g r).2)]) (lx (aH rfl rfl) (lx (aH rfl rfl) (ma v9 (ai ((ar g r).2) (aa (a9 (ah (a9 (a8 rfl (mi ((ar g r).2) (lx (cl (m := (ar g r).2) (n := 0) rfl rfl) ?_)))))))))))
 refine ma (Value.bool (!(decide (((ar g r).2) = 0)))) (aa ?_)
 by_cases p2 : ((ar g r).2) = 0
 ·
  obtain ⟨hm, hrp⟩ := dD (fL p2)
  have hm0 := hm
  obtain ⟨hm1, hm2, hm3, hm4⟩ := hm0
  have hrl := hrp.1
  have hFe := bG (br hm hrp)
  have hOe := eN (br hm hrp)
  have hFl := cT g r hm hrp
  have hol0 : ((bU g r).1.length : Int) = 2 * (g.2.length : Int) := by rw [hOe]; exact ec g r
  refine ag rfl (congrArg Bool.not (dt p2)) (a9 (a8 rfl (mi from_ (lx (bc (m := from_) (n := 0) rfl rfl) (mv (Value.bool (decide (from_ < 0))) ?_)))))
  by_cases q32 : from_ < 0
  ·
   refine al (wn (dt q32)) (al (wn (dt q32)) (al (wn (dt q32)) (al (wn (dt q32)) (lw (Value.bool true) (aY rfl (dt q32) rfl) (mv (Value.bool true) (al (wn rfl) (al (wn rfl) (lw (Value.bool true) (aY rfl rfl rfl) (mv (Value.bool true) (al (wn rfl) (al (wn rfl) (al (wn rfl) (al (wn rfl) ?_)))))))))))))
   refine lw (Value.bool true) (aY rfl rfl rfl) (ma (Value.bool true) (aa (ae rfl rfl (a9 ?_))))
   clear bx5 o10
   refine a8 rfl (ma vn (ai 2 (aa (av (vs := [vn, vi 2]) Try.func25 (.tmp rfl (.tmp rfl .nil)) ?_))))
   replace bH := bH.cn ch2
   replace bH := bH.cn ch12
   have e0 : ([] : List Int) = ((bB g r from_ to).1) := by
     rw [dp ‹_› (by omega)]
   have e1 : (2 : Int) = ((bB g r from_ to).2) := by
     rw [dp ‹_› (by omega)]
   exact ⟨(fin w0 g11 (fun n => 0), vn), (ci (a := []) (b := 2) (fun (z0 : List Int) (z1 : Int) => Ending.returned (vt [vn, vi z1])) e0 e1), bH.fresh _, (e0 ▸ Ow.nil)⟩
  refine lv (vi from_) (wy (df q32)) (au rfl) (lv (v9) (wy (df q32)) (au rfl) ?_)
  have len13 := (o10.sl).small
  refine lv (vi (List.length ((ar g r).1) : Int)) (wy (df q32)) (aO Try.underlying25 rfl o10.sl) (lv (Value.bool (decide ((List.length ((ar g r).1) : Int) ≤ from_))) (wy (df q32)) (dy (m := from_) (n := (List.length ((ar g r).1) : Int)) rfl rfl) (lw (Value.bool (decide ((List.length ((ar g r).1) : Int) ≤ from_))) (b7 rfl (df q32) rfl) (mv (Value.bool (decide ((List.length ((ar g r).1) : Int) ≤ from_))) ?_)))
  by_cases q38 : (List.length ((ar g r).1) : Int) ≤ from_
  ·
   refine al (wn (dt q38)) (al (wn (dt q38)) (lw (Value.bool true) (aY rfl (dt q38) rfl) (mv (Value.bool true) (al (wn rfl) (al (wn rfl) (al (wn rfl) (al (wn rfl) (lw (Value.bool true) (aY rfl rfl rfl) (ma (Value.bool true) (aa (ae rfl rfl (a9 ?_))))))))))))
   clear bx5 o10
   refine a8 rfl (ma vn (ai 2 (aa (av (vs := [vn, vi 2]) Try.func25 (.tmp rfl (.tmp rfl .nil)) ?_))))
   replace bH := bH.cn ch2
   replace bH := bH.cn ch12
   have e0 : ([] : List Int) = ((bB g r from_ to).1) := by
     rw [dp ‹_› (by omega)]
   have e1 : (2 : Int) = ((bB g r from_ to).2) := by
     rw [dp ‹_› (by omega)]
   exact ⟨(fin w0 g11 (fun n => 0), vn), (ci (a := []) (b := 2) (fun (z0 : List Int) (z1 : Int) => Ending.returned (vt [vn, vi z1])) e0 e1), bH.fresh _, (e0 ▸ Ow.nil)⟩
  refine lv (vi to) (wy (df q38)) (au rfl) (lv (Value.bool (decide (to < 0))) (wy (df q38)) (bc (m := to) (n := 0) rfl rfl) (lw (Value.bool (decide (to < 0))) (b7 rfl (df q38) rfl) (mv (Value.bool (decide (to < 0))) ?_)))
  by_cases q42 : to < 0
  ·
   refine al (wn (dt q42)) (al (wn (dt q42)) (al (wn (dt q42)) (al (wn (dt q42)) (lw (Value.bool true) (aY rfl (dt q42) rfl) (ma (Value.bool true) (aa (ae rfl rfl (a9 ?_))))))))
   clear bx5 o10
   refine a8 rfl (ma vn (ai 2 (aa (av (vs := [vn, vi 2]) Try.func25 (.tmp rfl (.tmp rfl .nil)) ?_))))
   replace bH := bH.cn ch2
   replace bH := bH.cn ch12
   have e0 : ([] : List Int) = ((bB g r from_ to).1) := by
     rw [dp ‹_› (by omega)]
   have e1 : (2 : Int) = ((bB g r from_ to).2) := by
     rw [dp ‹_› (by omega)]
   exact ⟨(fin w0 g11 (fun n => 0), vn), (ci (a := []) (b := 2) (fun (z0 : List Int) (z1 : Int) => Ending.returned (vt [vn, vi z1])) e0 e1), bH.fresh _, (e0 ▸ Ow.nil)⟩
  refine lv (vi to) (wy (df q42)) (au rfl) (lv (v9) (wy (df q42)) (au rfl) (lv (vi (List.length ((ar g r).1) : Int)) (wy (df q42)) (aO Try.underlying25 rfl o10.sl) (lv (Value.bool (decide ((List.length ((ar g r).1) : Int) ≤ to))) (wy (df q42)) (dy (m := to) (n := (List.length ((ar g r).1) : Int)) rfl rfl) (lw (Value.bool (decide ((List.length ((ar g r).1) : Int) ≤ to))) (b7 rfl (df q42) rfl) (ma (Value.bool (decide ((List.length ((ar g r).1) : Int) ≤ to))) (aa ?_))))))
  by_cases p4 : (List.length ((ar g r).1) : Int) ≤ to
  ·
   refine ae rfl (dt p4) (a9 ?_)
   clear bx5 o10
   refine a8 rfl (ma vn (ai 2 (aa (av (vs := [vn, vi 2]) Try.func25 (.tmp rfl (.tmp rfl .nil)) ?_))))
   replace bH := bH.cn ch2
   replace bH := bH.cn ch12
   have e0 : ([] : List Int) = ((bB g r from_ to).1) := by
     rw [dp ‹_› (by omega)]
   have e1 : (2 : Int) = ((bB g r from_ to).2) := by
     rw [dp ‹_› (by omega)]
   exact ⟨(fin w0 g11 (fun n => 0), vn), (ci (a := []) (b := 2) (fun (z0 : List Int) (z1 : Int) => Ending.returned (vt [vn, vi z1])) e0 e1), bH.fresh _, (e0 ▸ Ow.nil)⟩
  refine ag rfl (df p4) (aj (ao (a9 (a8 rfl ?_))))
  replace bx5 := bx5.cn ch12
  refine lx (aq (ds := [vi g.1, g_v]) ak rfl bx5 rfl rfl) (mv r_v ?_)
  replace Rg := Rg.cn ch12
  replace Rr := Rr.cn ch12
  refine lo (aV (aD (vals := [vg [vi g.1, g_v], r_v]) Try.func54 kJ kH rfl) (mE w6 g g_v (Rg).ro r r_v (Rr).ro) ?_)
  rintro ⟨d15, v17⟩ w14 ⟨fr16, o18⟩
  obtain ⟨g19, ch20, G19⟩ := dw g11 fr16 (fun n => if n = 1 then 3 else 0)
  replace o18 := o18.gl G19 3
  refine mv (vt [v17, vi ((bU g r).2)]) (lx (aH rfl rfl) (lx (aH rfl rfl) (ma v17 (ai ((bU g r).2) (aa (a9 (a8 rfl ?_)))))))
  replace bx5 := bx5.cn ch20
  refine lx (aq (ds := [vi g.1, g_v]) ak rfl bx5 rfl rfl) (mv v17 (mv v9 ?_))
  replace o10 := o10.cn ch20
  refine lx (aO Try.underlying25 rfl o10.sl) (mi to (lo (aA (α := Int) g19 (is 4) (is 4) (4, 0) rfl [to] Try.underlying27 am (by decide) (by decide) (vs := [(0, vi to)]) rfl rfl (.cons rfl .nil) ?_)))
  intro g21 w22 v23 ch24 o25
  replace Rg := (Rg.cn ch20).cn ch24
  replace o18 := o18.cn ch24
  refine lo (aV (aD (vals := [vg [vi g.1, g_v], v17, vi (List.length ((ar g r).1) : Int), v23]) Try.func68 tN sZ rfl) (uu w22 g g_v (Rg).ro ((bU g r).1) v17 (o18.flat).ro (List.length ((ar g r).1) : Int) ([to]) v23 (o25.flat).ro (by exact hm) (by exact nE hm hrp) (by omega) (by simpa using ⟨by omega, by omega⟩) (by simp)) ?_)
  rintro ⟨d27, v29⟩ w26 ⟨fr28, o30⟩
  obtain ⟨g31, ch32, G31⟩ := dw g21 fr28 (fun n => if n = 1 then 5 else 0)
  replace o30 := o30.gl G31 5
  refine ma v29 (aa (a9 (a9 ?_)))
  clear o10 o25
  have hP : gz g.2.length (bU g r).1 ((ar g r).1.length : Int) [to] (bT g.2.length (bU g r).1 ((ar g r).1.length : Int) [to]) := oT (by omega) (nE hm hrp) (by simpa using ⟨by omega, by omega⟩)
  have hfl := hP.len
  have hof := nE hm hrp
  refine a8 rfl (mv v29 (mi from_ (lx (ab (v := v29) (i := from_) Try.underlying27 rfl rfl o30.flat rfl (by omega) (by omega)) (lx (ay (v := v29) (i := from_) am rfl o30.flat (by omega) (by omega) (by decide) rfl) (lx (bc (m := (gI (bT g.2.length ((bU g r).1) (List.length ((ar g r).1) : Int) ([to])) from_)) (n := 0) rfl rfl) (aa ?_))))))
  by_cases p8 : (gI (bT g.2.length ((bU g r).1) (List.length ((ar g r).1) : Int) ([to])) from_) < 0
  ·
   refine ae rfl (dt p8) (a9 ?_)
   clear bx5 o18 o30
   refine a8 rfl (ma vn (ai 14 (aa (av (vs := [vn, vi 14]) Try.func25 (.tmp rfl (.tmp rfl .nil)) ?_))))
   have C33 := cg [] (ch2.n.seq (ch12.n.seq (ch20.n.seq (ch24.n.seq ch32.n))))
   replace bH := bH.ca C33
   have e0 : ([] : List Int) = ((bB g r from_ to).1) := by
     rw [ir ‹_› (by omega) ‹_›]
   have e1 : (14 : Int) = ((bB g r from_ to).2) := by
     rw [ir ‹_› (by omega) ‹_›]
   exact ⟨(fin w0 g31 (fun n => 0), vn), (ci (a := []) (b := 14) (fun (z0 : List Int) (z1 : Int) => Ending.returned (vt [vn, vi z1])) e0 e1), bH.fresh _, (e0 ▸ Ow.nil)⟩
  refine ag rfl (df p8) (aj (a9 (a8 rfl (ma vn (aa (a9 (a9 (a8 rfl (mi from_ (ai from_ (aa (ah ?_))))))))))))
  refine aN (σ := Value × (List Int) × Int × aE) (fun ⟨l_v, l, f_, gq⟩ f w => b9 w0 gq w ∧ f 3 = vi to ∧ f 4 = vp b3 0 ∧ f 12 = v17 ∧ f 14 = v29 ∧ f 15 = l_v ∧ f 16 = vi f_ ∧ Sl gq (is 0) w g_v g.2 ∧ Sl gq (is 0) w r_v r ∧ Bx gq (is 1) w b3 [vi g.1, g_v] ∧ Ow gq (is 3) (is 3) w v17 ((bU g r).1) ∧ Ow gq (is 5) (is 5) w v29 (bT g.2.length ((bU g r).1) (List.length ((ar g r).1) : Int) ([to])) ∧ Ow gq (is 8) (is 8) w l_v l ∧ (dk l f_ g.2.length (bU g r).1 ((ar g r).1.length : Int) (bT g.2.length (bU g r).1 ((ar g r).1.length : Int) [to]) from_ to)) (fun ⟨l_v, l, f_, gq⟩ => Int.toNat (gI (bT g.2.length (bU g r).1 ((ar g r).1.length : Int) [to]) f_)) (vn, [], from_, g31) ?_ ?_
  have C35 := cg [] (ch20.n.seq (ch24.n.seq ch32.n))
  have C34 := ch2.n.seq (ch12.n.seq C35)
  · exact ⟨bH.ca C34, rfl, rfl, rfl, rfl, rfl, rfl, Rg.cn ch32, Rr.ca C35, (bx5.cn ch24).cn ch32, o18.cn ch32, o30, Ow.nil, by exact dk.start (by omega) (by omega) p8⟩
  clear Rg Rr bx5 o18 o30 bH
  rintro ⟨l_v, l, f_, g38⟩ f36 w37 ⟨bH, zs3, zs4, zs12, zs14, zs15, zs16, Rg, Rr, bx5, o18, o30, o_l, hh⟩ back12
  obtain ⟨hf1, hf2⟩ := hh.rng
  obtain ⟨hf3, hf4⟩ := hh.pos
  have hf5 := hh.len
  have hfb := hP.top (by omega) hf1 hf2
  have hfb2 := hP.top (f := from_) (by omega) (by omega) (by omega)
  refine a9 (a9 (a8 rfl (mz zs16 (mz zs3 (lx (cl (m := f_) (n := to) rfl rfl) (aa ?_))))))
  by_cases p12 : f_ = to
  ·
   refine ag rfl (congrArg Bool.not (dt p12)) (aI rfl (a9 ?_))
   clear bx5 o18 o30
   refine a8 rfl (mz zs15 (ma l_v (ai 0 (aa (av (vs := [l_v, vi 0]) Try.func25 (.tmp rfl (.tmp rfl .nil)) ?_)))))
   have e0 : (l : List Int) = ((bB g r from_ to).1) := by
     (have hft : f_ = to := ‹_›
      subst hft
      rw [jv ‹_› (by omega) ‹_›]
      exact hh.done hP)
   have e1 : (0 : Int) = ((bB g r from_ to).2) := by
     (have hft : f_ = to := ‹_›
      subst hft
      rw [jv ‹_› (by omega) ‹_›]
      done)
   exact ⟨(fin w0 g38 (fun n => if n = 8 then 1 else 0), l_v), (ci (a := l) (b := 0) (fun (z0 : List Int) (z1 : Int) => Ending.returned (vt [l_v, vi z1])) e0 e1), bH.fresh _, (e0 ▸ (o_l.glue (γ := c0) (ren := (fun n => if n = 8 then 1 else 0)) (k := 1) bH.col rfl rfl))⟩
  refine ae rfl (congrArg Bool.not (df p12)) ?_
  obtain ⟨e0, he0, hst⟩ := po hP hf1 hf2 hf3 ‹_›
  refine aj (ah (a9 (a8 rfl (lx (ad Try.underlying24 rfl rfl zs4 rfl) (lx (af bo rfl bx5 rfl) ?_)))))
  have len39 := (Rg).small
  refine lx (aO Try.underlying22 rfl Rg) (mi 0 (aa (ah ?_)))
  refine aN (σ := Nat × aE) (fun ⟨e, gq⟩ f w => b9 w0 gq w ∧ f 3 = vi to ∧ f 4 = vp b3 0 ∧ f 12 = v17 ∧ f 14 = v29 ∧ f 15 = l_v ∧ f 16 = vi f_ ∧ f 72 = vi (g.2.length : Int) ∧ f 73 = vi (e : Int) ∧ Sl gq (is 0) w g_v g.2 ∧ Sl gq (is 0) w r_v r ∧ Bx gq (is 1) w b3 [vi g.1, g_v] ∧ Ow gq (is 3) (is 3) w v17 ((bU g r).1) ∧ Ow gq (is 5) (is 5) w v29 (bT g.2.length ((bU g r).1) (List.length ((ar g r).1) : Int) ([to])) ∧ Ow gq (is 8) (is 8) w l_v l ∧ (e : Int) ≤ ((g.2.length : Int) : Int) ∧ (∀ j : Nat, j < e → ¬ es (bU g r).1 (bT g.2.length (bU g r).1 ((ar g r).1.length : Int) [to]) f_ (j : Int))) (fun ⟨e, gq⟩ => Int.toNat (((g.2.length : Int) : Int) - (e : Int))) (0, g38) ?_ ?_
  · exact ⟨bH, zs3, zs4, zs12, zs14, zs15, zs16, rfl, rfl, Rg, Rr, bx5, o18, o30, o_l, by omega, by intro j hj; omega⟩
  clear Rg Rr bx5 o18 o30 o_l bH
  rintro ⟨e, g42⟩ f40 w41 ⟨bH, zs3, zs4, zs12, zs14, zs15, zs16, zs72, zs73, Rg, Rr, bx5, o18, o30, o_l, hle_e, hno⟩ back14
  refine a9 (a8 rfl (lx (bc (m := (e : Int)) (n := (g.2.length : Int)) zs73 zs72) (aa (a9 ?_))))
  by_cases p14 : (e : Int) < (g.2.length : Int)
  ·
   refine ae rfl (dt p14) ?_
   obtain ⟨⟨hes1, hes2⟩, hes3, hes4⟩ := hof.ends (e := e) (by omega)
   refine aj (a9 (ah (a9 (a8 rfl (mz zs73 (ai (e : Int) (aa (a9 (a8 rfl (mz zs12 (mi (e : Int) (lo ?_))))))))))))
   refine bO (v := vg [vi ((aB ((bU g r).1) (e : Int)).1), vi ((aB ((bU g r).1) (e : Int)).2)]) (aD (vals := [v17, vi (e : Int)]) Try.func67 kC kM rfl) (kO w41 ((bU g r).1) v17 (o18.flat).ro (e : Int) (by omega) (by omega)) ?_
   intro w43 hb44
   replace hb44 := aG hb44 g42
   refine lo (bw g42 (is 6) (6, 0) rfl bD ?_)
   intro g48 w45 b47 ch46 bx49
   replace bx49 : Bx g48 (is 6) w45 b47 [vi 0, vi 0] := bx49
   refine lo (aC (cs' := [vi ((aB ((bU g r).1) (e : Int)).1), vi ((aB ((bU g r).1) (e : Int)).2)]) bD rfl rfl bx49 rfl (Nat.le_of_ble_eq_true rfl) (AllOne.all (.cons rfl (.cons rfl .nil))) rfl ?_)
   intro w50 ch51 bx52
   clear bx49
   refine aa (a9 (a9 (a8 rfl (lx (bL Try.underlying60 rfl rfl rfl (by decide) (by decide) rfl) (lx (af am rfl bx52 rfl) (mz zs16 (lx (cR (m := (aB ((bU g r).1) (e : Int)).2) (n := f_) rfl rfl) (aa ?_))))))))
   by_cases p17 : ((aB ((bU g r).1) (e : Int)).2) = f_
   ·
    refine ae rfl (dt p17) (a8 rfl (lx (bL Try.underlying60 rfl rfl rfl (by decide) (by decide) rfl) (lx (af am rfl bx52 rfl) (lx (bL Try.underlying60 rfl rfl rfl (by decide) (by decide) rfl) (lx (af am rfl bx52 rfl) (lx (bL Try.underlying60 rfl rfl rfl (by decide) (by decide) rfl) (lo (aC (cs' := [vi ((aB ((bU g r).1) (e : Int)).2), vi ((aB ((bU g r).1) (e : Int)).2)]) am rfl rfl bx52 rfl (Nat.le_of_ble_eq_true rfl) (AllOne.all (.cons rfl .nil)) rfl ?_))))))))
    intro w53 ch54 bx55
    clear bx52
    refine lx (bL Try.underlying60 rfl rfl rfl (by decide) (by decide) rfl) (lo (aC (cs' := [vi ((aB ((bU g r).1) (e : Int)).2), vi ((aB ((bU g r).1) (e : Int)).1)]) am rfl rfl bx55 rfl (Nat.le_of_ble_eq_true rfl) (AllOne.all (.cons rfl .nil)) rfl ?_))
    intro w56 ch57 bx58
    clear bx55
    refine aa (a9 (ck g48 rfl og (by kernel_rfl) ?_))
    intro w60 ch59
    refine qx (fun w' hw' => bL Try.underlying60 rfl rfl rfl (by decide) (by decide) rfl) ?_
    replace bx58 := bx58.cn ch59
    refine qx (fun w' hw' => af am rfl (bx58.bel hw') rfl) (qz zs16 (qx (fun w' hw' => cR (m := (aB ((bU g r).1) (e : Int)).2) (n := f_) rfl rfl) (qm (Value.bool (decide (((aB ((bU g r).1) (e : Int)).2) = f_))) (bE (v := v29) (wy (dt p17)) (fun w' hw' => au zs14) (bE (v := vp b47 1) (wy (dt p17)) (fun w' hw' => bL Try.underlying60 rfl rfl rfl (by decide) (by decide) rfl) (bE (v := vi ((aB ((bU g r).1) (e : Int)).1)) (wy (dt p17)) (fun w' hw' => af am rfl (bx58.bel hw') rfl) ?_))))))
    have C61 := cg [6] (hb44.n.seq (ch46.n.seq ((ch51.l rfl).seq ((ch54.l rfl).seq ((ch57.l rfl).seq ch59.n)))))
    replace o30 := o30.ca C61
    refine bE (v := Value.pointer (some (ba v29 1 (Int.toNat ((aB ((bU g r).1) (e : Int)).1))))) (wy (dt p17)) (fun w' hw' => ab (α := Int) (xs := bT g.2.length ((bU g r).1) (List.length ((ar g r).1) : Int) ([to])) (v := v29) (i := (aB ((bU g r).1) (e : Int)).1) Try.underlying27 rfl rfl (o30.flat.bel hw') rfl (by omega) (by omega)) (bE (v := vi (gI (bT g.2.length ((bU g r).1) (List.length ((ar g r).1) : Int) ([to])) ((aB ((bU g r).1) (e : Int)).1))) (wy (dt p17)) (fun w' hw' => ay (α := Int) (xs := bT g.2.length ((bU g r).1) (List.length ((ar g r).1) : Int) ([to])) (v := v29) (i := (aB ((bU g r).1) (e : Int)).1) am rfl (o30.flat.bel hw') (by omega) (by omega) (by decide) rfl) ?_)
    refine bE (v := v29) (wy (dt p17)) (fun w' hw' => au zs14) (bE (v := vi f_) (wy (dt p17)) (fun w' hw' => au zs16) (bE (v := Value.pointer (some (ba v29 1 (Int.toNat f_)))) (wy (dt p17)) (fun w' hw' => ab (α := Int) (xs := bT g.2.length ((bU g r).1) (List.length ((ar g r).1) : Int) ([to])) (v := v29) (i := f_) Try.underlying27 rfl rfl (o30.flat.bel hw') rfl (by omega) (by omega)) (bE (v := vi (gI (bT g.2.length ((bU g r).1) (List.length ((ar g r).1) : Int) ([to])) f_)) (wy (dt p17)) (fun w' hw' => ay (α := Int) (xs := bT g.2.length ((bU g r).1) (List.length ((ar g r).1) : Int) ([to])) (v := v29) (i := f_) am rfl (o30.flat.bel hw') (by omega) (by omega) (by decide) rfl) ?_)))
    refine bE (v := vi ((gI (bT g.2.length ((bU g r).1) (List.length ((ar g r).1) : Int) ([to])) f_) - 1)) (wy (dt p17)) (fun w' hw' => eR (m := (gI (bT g.2.length ((bU g r).1) (List.length ((ar g r).1) : Int) ([to])) f_)) (n := 1) rfl rfl (by omega)) (bE (v := Value.bool (decide ((gI (bT g.2.length ((bU g r).1) (List.length ((ar g r).1) : Int) ([to])) ((aB ((bU g r).1) (e : Int)).1)) = ((gI (bT g.2.length ((bU g r).1) (List.length ((ar g r).1) : Int) ([to])) f_) - 1)))) (wy (dt p17)) (fun w' hw' => cR (m := (gI (bT g.2.length ((bU g r).1) (List.length ((ar g r).1) : Int) ([to])) ((aB ((bU g r).1) (e : Int)).1))) (n := (gI (bT g.2.length ((bU g r).1) (List.length ((ar g r).1) : Int) ([to])) f_) - 1) rfl rfl) ?_)
    refine qv (Value.bool (decide ((gI (bT g.2.length ((bU g r).1) (List.length ((ar g r).1) : Int) ([to])) ((aB ((bU g r).1) (e : Int)).1)) = ((gI (bT g.2.length ((bU g r).1) (List.length ((ar g r).1) : Int) ([to])) f_) - 1)))) (fun w' hw' => aY rfl (dt p17) rfl) (cV ?_)
    intro w62 hc63
    replace hc63 := aG hc63 g48
    by_cases p19 : (gI (bT g.2.length ((bU g r).1) (List.length ((ar g r).1) : Int) ([to])) ((aB ((bU g r).1) (e : Int)).1)) = ((gI (bT g.2.length ((bU g r).1) (List.length ((ar g r).1) : Int) ([to])) f_) - 1)
    ·
     refine ae rfl (dt p19) (a9 (a8 rfl (mz zs15 (mi (e : Int) (lo (aA (α := Int) g48 (is 7) (is 7) (7, 0) rfl [(e : Int)] Try.underlying27 am (by decide) (by decide) (vs := [(0, vi (e : Int))]) rfl rfl (.cons rfl .nil) ?_))))))
     intro g64 w65 v66 ch67 o68
     refine lo ?_
     have C69 := cg [6] (hb44.n.seq (ch46.n.seq ((ch51.l rfl).seq ((ch54.l rfl).seq ((ch57.l rfl).seq (ch59.n.seq (hc63.n.seq ch67.n)))))))
     replace o_l := o_l.ca C69
     refine aR (α := Int) (xs := l) (ys := ([(e : Int)])) g64 (J := is 8) (S := is 8) (8, 0) rfl Try.underlying27 am (by decide) rfl rfl rfl o_l o68.flat (by decide) (by (simp; omega)) ?_
     intro g70 w71 v72 ch73 o74
     clear o_l
     refine ma v72 (aa (a9 ?_))
     clear o68
     refine a8 rfl (lx (bL Try.underlying60 rfl rfl rfl (by decide) (by decide) rfl) ?_)
     have C75 := cg [8] (hc63.n.seq (ch67.n.seq (ch73.l rfl)))
     replace bx58 := bx58.ca C75
     refine lx (af am rfl bx58 rfl) (ai ((aB ((bU g r).1) (e : Int)).1) (aa (aI rfl (ao ?_))))
     have C76 := cg [6, 8] (hb44.n.seq (ch46.n.seq ((ch51.l rfl).seq ((ch54.l rfl).seq ((ch57.l rfl).seq (ch59.n.seq (hc63.n.seq (ch67.n.seq (ch73.l rfl)))))))))
     refine back12 (v72, (l ++ [(e : Int)]), (aB ((bU g r).1) (e : Int)).1, g70) _ _ ⟨bH.ca C76, zs3, zs4, zs12, zs14, rfl, rfl, Rg.ca C76, Rr.ca C76, bx5.ca C76, o18.ca C76, o30.ca C75, o74, ?_⟩ ?_
     · show dk (l ++ [(e : Int)]) ((aB ((bU g r).1) (e : Int)).1) g.2.length (bU g r).1 ((ar g r).1.length : Int) (bT g.2.length (bU g r).1 ((ar g r).1.length : Int) [to]) from_ to
       (have h7 := vv (of := (bU g r).1) (far := (bT g.2.length (bU g r).1 ((ar g r).1.length : Int) [to])) (e := (e : Int)) (f := f_) ‹_› ‹_›
        obtain ⟨hs9, he9⟩ := h7
        have h9 := (hh.next hof hP ‹_› ‹_› hs9 hno).1
        rw [he9] at h9
        exact h9)
     · show Int.toNat (gI (bT g.2.length (bU g r).1 ((ar g r).1.length : Int) [to]) ((aB ((bU g r).1) (e : Int)).1)) < Int.toNat (gI (bT g.2.length (bU g r).1 ((ar g r).1.length : Int) [to]) f_)
       (have h7 := vv (of := (bU g r).1) (far := (bT g.2.length (bU g r).1 ((ar g r).1.length : Int) [to])) (e := (e : Int)) (f := f_) ‹_› ‹_›
        obtain ⟨hs9, he9⟩ := h7
        have h9 := (hh.next hof hP ‹_› ‹_› hs9 hno).2
        rw [he9] at h9
        have h8 := ((hh.next hof hP ‹_› ‹_› hs9 hno).1).pos.1
        rw [he9] at h8
        omega)
    refine ag rfl (df p19) (aj (ao ?_))
    clear bx58
    refine a8 rfl (lx (aQ (m := (e : Int)) (n := 1) zs73 rfl (by omega)) (mi ((e : Int) + 1) (aa ?_)))
    have C77 := cg [6] (hb44.n.seq (ch46.n.seq ((ch51.l rfl).seq ((ch54.l rfl).seq ((ch57.l rfl).seq (ch59.n.seq hc63.n))))))
    refine back14 (e + 1, g48) _ _ ⟨bH.ca C77, zs3, zs4, zs12, zs14, zs15, zs16, zs72, rfl, Rg.ca C77, Rr.ca C77, bx5.ca C77, o18.ca C77, o30.cn hc63, o_l.ca C77, by omega, ?_⟩ ?_
    · show ∀ j : Nat, j < (e + 1) → ¬ es (bU g r).1 (bT g.2.length (bU g r).1 ((ar g r).1.length : Int) [to]) f_ (j : Int)
      intro j hj
      by_cases e9 : j = e
      · subst e9
        exact vJ ‹_› ‹_›
      · exact hno j (by omega)
    · show Int.toNat (((g.2.length : Int) : Int) - ((e + 1) : Int)) < Int.toNat (((g.2.length : Int) : Int) - (e : Int))
      omega
   refine ag rfl (df p17) (aj (a9 (ck g48 rfl og (by kernel_rfl) ?_)))
   intro w79 ch78
   refine qx (fun w' hw' => bL Try.underlying60 rfl rfl rfl (by decide) (by decide) rfl) ?_
   replace bx52 := bx52.cn ch78
   refine qx (fun w' hw' => af am rfl (bx52.bel hw') rfl) (qz zs16 (qx (fun w' hw' => cR (m := (aB ((bU g r).1) (e : Int)).1) (n := f_) rfl rfl) (qm (Value.bool (decide (((aB ((bU g r).1) (e : Int)).1) = f_))) ?_)))
   by_cases q93 : ((aB ((bU g r).1) (e : Int)).1) = f_
   ·
    refine bE (v := v29) (wy (dt q93)) (fun w' hw' => au zs14) (bE (v := vp b47 1) (wy (dt q93)) (fun w' hw' => bL Try.underlying60 rfl rfl rfl (by decide) (by decide) rfl) (bE (v := vi ((aB ((bU g r).1) (e : Int)).2)) (wy (dt q93)) (fun w' hw' => af am rfl (bx52.bel hw') rfl) ?_))
    have C80 := cg [6] (hb44.n.seq (ch46.n.seq ((ch51.l rfl).seq ch78.n)))
    replace o30 := o30.ca C80
    refine bE (v := Value.pointer (some (ba v29 1 (Int.toNat ((aB ((bU g r).1) (e : Int)).2))))) (wy (dt q93)) (fun w' hw' => ab (α := Int) (xs := bT g.2.length ((bU g r).1) (List.length ((ar g r).1) : Int) ([to])) (v := v29) (i := (aB ((bU g r).1) (e : Int)).2) Try.underlying27 rfl rfl (o30.flat.bel hw') rfl (by omega) (by omega)) (bE (v := vi (gI (bT g.2.length ((bU g r).1) (List.length ((ar g r).1) : Int) ([to])) ((aB ((bU g r).1) (e : Int)).2))) (wy (dt q93)) (fun w' hw' => ay (α := Int) (xs := bT g.2.length ((bU g r).1) (List.length ((ar g r).1) : Int) ([to])) (v := v29) (i := (aB ((bU g r).1) (e : Int)).2) am rfl (o30.flat.bel hw') (by omega) (by omega) (by decide) rfl) ?_)
    refine bE (v := v29) (wy (dt q93)) (fun w' hw' => au zs14) (bE (v := vi f_) (wy (dt q93)) (fun w' hw' => au zs16) (bE (v := Value.pointer (some (ba v29 1 (Int.toNat f_)))) (wy (dt q93)) (fun w' hw' => ab (α := Int) (xs := bT g.2.length ((bU g r).1) (List.length ((ar g r).1) : Int) ([to])) (v := v29) (i := f_) Try.underlying27 rfl rfl (o30.flat.bel hw') rfl (by omega) (by omega)) (bE (v := vi (gI (bT g.2.length ((bU g r).1) (List.length ((ar g r).1) : Int) ([to])) f_)) (wy (dt q93)) (fun w' hw' => ay (α := Int) (xs := bT g.2.length ((bU g r).1) (List.length ((ar g r).1) : Int) ([to])) (v := v29) (i := f_) am rfl (o30.flat.bel hw') (by omega) (by omega) (by decide) rfl) ?_)))
    refine bE (v := vi ((gI (bT g.2.length ((bU g r).1) (List.length ((ar g r).1) : Int) ([to])) f_) - 1)) (wy (dt q93)) (fun w' hw' => eR (m := (gI (bT g.2.length ((bU g r).1) (List.length ((ar g r).1) : Int) ([to])) f_)) (n := 1) rfl rfl (by omega)) (bE (v := Value.bool (decide ((gI (bT g.2.length ((bU g r).1) (List.length ((ar g r).1) : Int) ([to])) ((aB ((bU g r).1) (e : Int)).2)) = ((gI (bT g.2.length ((bU g r).1) (List.length ((ar g r).1) : Int) ([to])) f_) - 1)))) (wy (dt q93)) (fun w' hw' => cR (m := (gI (bT g.2.length ((bU g r).1) (List.length ((ar g r).1) : Int) ([to])) ((aB ((bU g r).1) (e : Int)).2))) (n := (gI (bT g.2.length ((bU g r).1) (List.length ((ar g r).1) : Int) ([to])) f_) - 1) rfl rfl) ?_)
    refine qv (Value.bool (decide ((gI (bT g.2.length ((bU g r).1) (List.length ((ar g r).1) : Int) ([to])) ((aB ((bU g r).1) (e : Int)).2)) = ((gI (bT g.2.length ((bU g r).1) (List.length ((ar g r).1) : Int) ([to])) f_) - 1)))) (fun w' hw' => aY rfl (dt q93) rfl) (cV ?_)
    intro w81 hc82
    replace hc82 := aG hc82 g48
    by_cases p19 : (gI (bT g.2.length ((bU g r).1) (List.length ((ar g r).1) : Int) ([to])) ((aB ((bU g r).1) (e : Int)).2)) = ((gI (bT g.2.length ((bU g r).1) (List.length ((ar g r).1) : Int) ([to])) f_) - 1)
    ·
     refine ae rfl (dt p19) (a9 (a8 rfl (mz zs15 (mi (e : Int) (lo (aA (α := Int) g48 (is 7) (is 7) (7, 0) rfl [(e : Int)] Try.underlying27 am (by decide) (by decide) (vs := [(0, vi (e : Int))]) rfl rfl (.cons rfl .nil) ?_))))))
     intro g83 w84 v85 ch86 o87
     refine lo ?_
     have C88 := cg [6] (hb44.n.seq (ch46.n.seq ((ch51.l rfl).seq (ch78.n.seq (hc82.n.seq ch86.n)))))
     replace o_l := o_l.ca C88
     refine aR (α := Int) (xs := l) (ys := ([(e : Int)])) g83 (J := is 8) (S := is 8) (8, 0) rfl Try.underlying27 am (by decide) rfl rfl rfl o_l o87.flat (by decide) (by (simp; omega)) ?_
     intro g89 w90 v91 ch92 o93
     clear o_l
     refine ma v91 (aa (a9 ?_))
     clear o87
     refine a8 rfl (lx (bL Try.underlying60 rfl rfl rfl (by decide) (by decide) rfl) ?_)
     have C94 := cg [8] (hc82.n.seq (ch86.n.seq (ch92.l rfl)))
     replace bx52 := bx52.ca C94
     refine lx (af am rfl bx52 rfl) (ai ((aB ((bU g r).1) (e : Int)).2) (aa (aI rfl (ao ?_))))
     have C95 := cg [6, 8] (hb44.n.seq (ch46.n.seq ((ch51.l rfl).seq (ch78.n.seq (hc82.n.seq (ch86.n.seq (ch92.l rfl)))))))
     refine back12 (v91, (l ++ [(e : Int)]), (aB ((bU g r).1) (e : Int)).2, g89) _ _ ⟨bH.ca C95, zs3, zs4, zs12, zs14, rfl, rfl, Rg.ca C95, Rr.ca C95, bx5.ca C95, o18.ca C95, o30.ca C94, o93, ?_⟩ ?_
     · show dk (l ++ [(e : Int)]) ((aB ((bU g r).1) (e : Int)).2) g.2.length (bU g r).1 ((ar g r).1.length : Int) (bT g.2.length (bU g r).1 ((ar g r).1.length : Int) [to]) from_ to
       (have h7 := vo (of := (bU g r).1) (far := (bT g.2.length (bU g r).1 ((ar g r).1.length : Int) [to])) (e := (e : Int)) (f := f_) ‹_› ‹_› ‹_›
        obtain ⟨hs9, he9⟩ := h7
        have h9 := (hh.next hof hP ‹_› ‹_› hs9 hno).1
        rw [he9] at h9
        exact h9)
     · show Int.toNat (gI (bT g.2.length (bU g r).1 ((ar g r).1.length : Int) [to]) ((aB ((bU g r).1) (e : Int)).2)) < Int.toNat (gI (bT g.2.length (bU g r).1 ((ar g r).1.length : Int) [to]) f_)
       (have h7 := vo (of := (bU g r).1) (far := (bT g.2.length (bU g r).1 ((ar g r).1.length : Int) [to])) (e := (e : Int)) (f := f_) ‹_› ‹_› ‹_›
        obtain ⟨hs9, he9⟩ := h7
        have h9 := (hh.next hof hP ‹_› ‹_› hs9 hno).2
        rw [he9] at h9
        have h8 := ((hh.next hof hP ‹_› ‹_› hs9 hno).1).pos.1
        rw [he9] at h8
        omega)
    refine ag rfl (df p19) (aj (ao ?_))
    clear bx52
    refine a8 rfl (lx (aQ (m := (e : Int)) (n := 1) zs73 rfl (by omega)) (mi ((e : Int) + 1) (aa ?_)))
    have C96 := cg [6] (hb44.n.seq (ch46.n.seq ((ch51.l rfl).seq (ch78.n.seq hc82.n))))
    refine back14 (e + 1, g48) _ _ ⟨bH.ca C96, zs3, zs4, zs12, zs14, zs15, zs16, zs72, rfl, Rg.ca C96, Rr.ca C96, bx5.ca C96, o18.ca C96, o30.cn hc82, o_l.ca C96, by omega, ?_⟩ ?_
    · show ∀ j : Nat, j < (e + 1) → ¬ es (bU g r).1 (bT g.2.length (bU g r).1 ((ar g r).1.length : Int) [to]) f_ (j : Int)
      intro j hj
      by_cases e9 : j = e
      · subst e9
        exact wO ‹_› ‹_›
      · exact hno j (by omega)
    · show Int.toNat (((g.2.length : Int) : Int) - ((e + 1) : Int)) < Int.toNat (((g.2.length : Int) : Int) - (e : Int))
      omega
   refine bv (wn (df q93)) (bv (wn (df q93)) (bv (wn (df q93)) (bv (wn (df q93)) (bv (wn (df q93)) (bv (wn (df q93)) (bv (wn (df q93)) (bv (wn (df q93)) (bv (wn (df q93)) (bv (wn (df q93)) ?_)))))))))
   refine bv (wn (df q93)) (qv (Value.bool false) (fun w' hw' => b7 rfl (df q93) rfl) (cV ?_))
   intro w97 hc98
   replace hc98 := aG hc98 g48
   refine ag rfl rfl (aj (ao ?_))
   clear bx52
   refine a8 rfl (lx (aQ (m := (e : Int)) (n := 1) zs73 rfl (by omega)) (mi ((e : Int) + 1) (aa ?_)))
   have C99 := cg [6] (hb44.n.seq (ch46.n.seq ((ch51.l rfl).seq (ch78.n.seq hc98.n))))
   refine back14 (e + 1, g48) _ _ ⟨bH.ca C99, zs3, zs4, zs12, zs14, zs15, zs16, zs72, rfl, Rg.ca C99, Rr.ca C99, bx5.ca C99, o18.ca C99, o30.ca C99, o_l.ca C99, by omega, ?_⟩ ?_
   · show ∀ j : Nat, j < (e + 1) → ¬ es (bU g r).1 (bT g.2.length (bU g r).1 ((ar g r).1.length : Int) [to]) f_ (j : Int)
     intro j hj
     by_cases e9 : j = e
     · subst e9
       exact wg ‹_› ‹_›
     · exact hno j (by omega)
   · show Int.toNat (((g.2.length : Int) : Int) - ((e + 1) : Int)) < Int.toNat (((g.2.length : Int) : Int) - (e : Int))
     omega
  refine ag rfl (df p14) (aI rfl (ao ?_))
  refine back12 (l_v, l, f_, g42) _ _ ⟨bH, zs3, zs4, zs12, zs14, zs15, zs16, Rg, Rr, bx5, o18, o30, o_l, ?_⟩ ?_
  · show dk l f_ g.2.length (bU g r).1 ((ar g r).1.length : Int) (bT g.2.length (bU g r).1 ((ar g r).1.length : Int) [to]) from_ to
    exact absurd hst (hno e0 (by omega))
  · show Int.toNat (gI (bT g.2.length (bU g r).1 ((ar g r).1.length : Int) [to]) f_) < Int.toNat (gI (bT g.2.length (bU g r).1 ((ar g r).1.length : Int) [to]) f_)
    exact absurd hst (hno e0 (by omega))
 refine ae rfl (congrArg Bool.not (df p2)) (a9 ?_)
 clear bx5 o10
 refine a8 rfl (mi ((ar g r).2) (ma vn (ai ((ar g r).2) (aa (av (vs := [vn, vi ((ar g r).2)]) Try.func25 (.tmp rfl (.tmp rfl .nil)) ?_)))))
 replace bH := bH.cn ch2
 replace bH := bH.cn ch12
 have e0 : ([] : List Int) = ((bB g r from_ to).1) := by
   rw [mS ‹_›]
 have e1 : ((ar g r).2 : Int) = ((bB g r from_ to).2) := by
   rw [mS ‹_›]
 exact ⟨(fin w0 g11 (fun n => 0), vn), (ci (a := []) (b := (ar g r).2) (fun (z0 : List Int) (z1 : Int) => Ending.returned (vt [vn, vi z1])) e0 e1), bH.fresh _, (e0 ▸ Ow.nil)⟩
end TL
