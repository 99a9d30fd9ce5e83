import Derived.Test.YtbadiajeohbpcaaGTlP2
import Derived.Test.YtbadiajeohbpcaaGTlGmA
import Derived.Test.YtbadiajeohbpcaaGTlGmH
import Derived.Test.YtbadiajeohbpcaaGTlGenA
import Derived.Test.YtbadiajeohbpcaaGTlGenO
import Derived.Test.YtbadiajeohbpcaaGTlGenY
import Derived.Test.YtbadiajeohbpcaaGTlGjA
import Derived.Test.YtbadiajeohbpcaaGTlGjB
import Derived.Test.YtbadiajeohbpcaaProg
set_option linter.all false
set_option maxRecDepth 20000
namespace TL
open Go Go.Proofs
theorem nV : Try.prog.follows .mixedOrders = true := by kernel_rfl
theorem qu : Try.f26.body.isNone = false := rfl
theorem qQ : (Try.f26.name == "runtime.NumGoroutine") = false := by decide +kernel
theorem oU : Try.f27.body.isNone = false := rfl
theorem qH : (Try.f27.name == "runtime.NumGoroutine") = false := by decide +kernel
theorem pn : Try.f28.body.isNone = false := rfl
theorem qg : (Try.f28.name == "runtime.NumGoroutine") = false := by decide +kernel
theorem qo : Try.f29.body.isNone = false := rfl
theorem pE : (Try.f29.name == "runtime.NumGoroutine") = false := by decide +kernel
theorem qw : Try.f30.body.isNone = false := rfl
theorem pu : (Try.f30.name == "runtime.NumGoroutine") = false := by decide +kernel
theorem oO : Try.f31.body.isNone = false := rfl
theorem pC : (Try.f31.name == "runtime.NumGoroutine") = false := by decide +kernel
set_option maxHeartbeats 4000000 in
theorem nf (w0 : World) (g : (Int) × (List ((Int) × (Int)))) (g_v : Value) (hg_v : Ro w0 g_v g.2) (p : (List ((Int) × (Int))) × (List (List ((Int) × (Int))))) (p_v p_v1 : Value) (hp_v : Ro w0 p_v p.1) (hp_v1 : Ro w0 p_v1 p.2) (hfew : ci g → (g.2.length : Int) ≤ 2000) :
    Calls Try.prog 10 #[vg [vi g.1, g_v], vg [p_v, p_v1]] w0 (fun ee w => ∃ xx : aP × Value, ee = .returned ((fun ⟨δ, rv0⟩ => vt [rv0, vi ((turnsR g p).2)]) xx) ∧ (fun (⟨δ, rv0⟩ : aP × Value) (w : World) => fB w0 δ w ∧ dJ δ 1 w rv0 ((turnsR g p).1)) xx w) := by
 refine aC Try.func10 rfl (Nat.le_of_ble_eq_true rfl) ?_
 have bH := bf.start w0
 have Rg := hg_v.sl
 have Rp := hp_v.sl
 have r_p_v1 := hp_v1.sl
 refine a7 (a6 rfl (bY rfl (bA c0 (is 1) (1, 0) rfl rfl ?_)))
 intro g4 w1 b3 ch2 bx5
 replace bx5 : Bx g4 (is 1) w1 b3 [vi g.1, g_v] := bx5
 refine lo (bA g4 (is 2) (2, 0) rfl rfl ?_)
 intro g9 w6 b8 ch7 bx10
 replace bx10 : Bx g9 (is 2) w6 b8 [p_v, p_v1] := bx10
 refine ma vn (ai 0 (aa (a7 (a6 rfl ?_))))
 replace bx5 := bx5.cn ch7
 refine lx (ad (ds := [vi g.1, g_v]) cj rfl bx5 rfl rfl) ?_
 replace Rg := (Rg.cn ch2).cn ch7
 refine lo (cy (aw (vals := [vg [vi g.1, g_v]]) Try.func26 qu qQ rfl) (me w6 g g_v (Rg).ro) ?_)
 rintro ⟨d12, v14⟩ w11 ⟨fr13, o15⟩
 obtain ⟨g16, ch17, G16⟩ := m6 g9 fr13 (fun n => if n = 1 then 3 else 0)
 replace o15 := o15.gl G16 3
 refine mv (vt [v14, vi ((bK g).2)]) (lx (aW rfl rfl) (lx (aW rfl rfl) (ma v14 (ai ((bK g).2) (aa (a7 (av (a7 (a6 rfl (mi ((bK g).2) (lx (dC (m := (bK g).2) (n := 0) rfl rfl) ?_)))))))))))
 refine ma (Value.bool (!(decide (((bK g).2) = 0)))) (aa ?_)
 by_cases p2 : ((bK g).2) = 0
 ·
  have hm : ci g := Classical.byContradiction fun h => by have h2 := p2; unfold bK at h2; rw [if_neg h] at h2; exact absurd h2 (by decide)
  have hmay := hm
  have hm0 := hm
  obtain ⟨hm1, hm2, hm3, hm4⟩ := hm0
  have hfew2 := hfew hm
  have hfr : (bK g).1 = eJ g := by unfold bK; rw [if_pos hm]
  have hfl : List.length (bK g).1 = g.1.toNat := by rw [hfr]; simp [eJ]
  refine aj rfl (congrArg Bool.not (dt p2)) (a7 (a6 rfl ?_))
  replace bx5 := bx5.cn ch17
  refine lx (ad (ds := [vi g.1, g_v]) cj rfl bx5 rfl rfl) ?_
  replace bx10 := bx10.cn ch17
  refine lx (ad (ds := [p_v, p_v1]) co rfl bx10 rfl rfl) ?_
  replace Rg := Rg.cn ch17
  have C18 := cg [] (ch2.n.seq (ch7.n.seq ch17.n))
  replace Rp := Rp.ca C18
  replace r_p_v1 := r_p_v1.ca C18
  refine lo (cy (aw (vals := [vg [vi g.1, g_v], vg [p_v, p_v1]]) Try.func27 oU qH rfl) (ku w11 g g_v (Rg).ro p p_v p_v1 (Rp).ro (r_p_v1).ro ‹_›) ?_)
  rintro ⟨d20, v22⟩ w19 ⟨fr21, o23⟩
  obtain ⟨g24, ch25, G24⟩ := m6 g16 fr21 (fun n => if n = 1 then 4 else 0)
  replace o23 := o23.gl G24 4
  have len26 := (o23.flat).small
  refine lx (bh Try.underlying36 rfl o23.flat) (lx (bQ (m := (List.length (bT g p) : Int)) (n := 0) rfl rfl) (ma (Value.bool (decide (0 < (List.length (bT g p) : Int)))) (aa ?_)))
  by_cases p4 : 0 < (List.length (bT g p) : Int)
  ·
   have hck0 : ¬ bT g p = [] := fun h => by rw [h] at p4; simp at p4
   refine ah rfl (dt p4) (a7 ?_)
   clear bx5 bx10 o15 o23
   refine a6 rfl (ma vn (ai 24 (aa (al (vs := [vn, vi 24]) Try.func10 (.tmp rfl (.tmp rfl .nil)) ?_))))
   have C27 := cg [] (ch2.n.seq (ch7.n.seq (ch17.n.seq ch25.n)))
   replace bH := bH.ca C27
   have e0 : ([] : dQ) = ((turnsR g p).1) := by
     rw [kk hm hck0]
   have e1 : (24 : Int) = ((turnsR g p).2) := by
     rw [kk hm hck0]
   exact ⟨(fin w0 g24 (fun n => 0), vn), (bW (a := []) (b := 24) (fun (z0 : dQ) (z1 : Int) => Ending.returned (vt [vn, vi z1])) e0 e1), bH.fresh _, (e0 ▸ dJ.nil)⟩
  have hck0 : bT g p = [] := List.eq_nil_of_length_eq_zero (by omega)
  have hck := kS.1 hck0
  have hs1 := hck.sh.n
  have hs2 := hck.sh.m
  refine aj rfl (df p4) (am (ao (a7 (a7 ?_))))
  clear o23
  refine a6 rfl (mv v14 ?_)
  replace o15 := o15.cn ch25
  have len28 := (o15.sl).small
  refine lx (bh Try.underlying32 rfl o15.sl) (mi 0 (aa (av ?_)))
  refine ba (σ := Nat × dQ × aP) (fun ⟨v, first, gq⟩ f w => bf w0 gq w ∧ f 2 = vp b3 0 ∧ f 3 = vp b8 0 ∧ f 6 = v14 ∧ f 33 = v14 ∧ f 34 = vi (List.length ((bK g).1) : Int) ∧ f 35 = vi (v : Int) ∧ Sl gq (is 0) w g_v g.2 ∧ Sl gq (is 0) w p_v p.1 ∧ Sl gq (is 0) w p_v1 p.2 ∧ Bx gq (is 1) w b3 [vi g.1, g_v] ∧ Bx gq (is 2) w b8 [p_v, p_v1] ∧ dJ gq 3 w v14 first ∧ (v : Int) ≤ ((List.length ((bK g).1) : Int) : Int) ∧ (fP g p first v)) (fun ⟨v, first, gq⟩ => Int.toNat (((List.length ((bK g).1) : Int) : Int) - (v : Int))) (0, (bK g).1, g24) ?_ ?_
  have C29 := cg [] (ch2.n.seq (ch7.n.seq (ch17.n.seq ch25.n)))
  · exact ⟨bH.ca C29, rfl, rfl, rfl, rfl, rfl, rfl, Rg.cn ch25, Rp.cn ch25, r_p_v1.cn ch25, bx5.cn ch25, bx10.cn ch25, o15, by omega, by exact fP.start' hm hfr⟩
  clear Rg Rp r_p_v1 bx5 bx10 o15 bH
  rintro ⟨v, first, g32⟩ f30 w31 ⟨bH, zs2, zs3, zs6, zs33, zs34, zs35, Rg, Rp, r_p_v1, bx5, bx10, o15, hle_v, hT⟩ back7
  have hTl := hT.len
  refine a7 (a6 rfl (lx (b9 (m := (v : Int)) (n := (List.length ((bK g).1) : Int)) zs35 zs34) (aa (a7 ?_))))
  by_cases p7 : (v : Int) < (List.length ((bK g).1) : Int)
  ·
   refine ah rfl (dt p7) ?_
   have hvn : v < g.1.toNat := by omega
   have hrow := hT.now hvn
   have hrl := lK (g := g) (v := (v : Int))
   rw [← hrow] at hrl
   refine am (a7 (av (a7 (a6 rfl (mz zs35 (lx (ar (v := v14) (i := (v : Int)) Try.underlying32 rfl zs33 o15.sl zs35 (by omega) (by omega)) ?_))))))
   obtain ⟨v33, cel34, r35⟩ := jr (r := (v : Int)) o15 (by omega) (by omega)
   refine lx (cv dS rfl cel34) (ai (v : Int) (ma v33 (aa (a7 (a6 rfl (ma vn (aa (a7 (a7 (a6 rfl (mv v33 ?_)))))))))))
   have len36 := (r35.row_sl).small
   refine lx (bh Try.underlying39 rfl r35.row_sl) (mi 0 (aa (av ?_)))
   refine ba (σ := Value × (List ((Int) × (Int))) × Nat × aP) (fun ⟨to__v, to_, k, gq⟩ f w => bf w0 gq w ∧ f 2 = vp b3 0 ∧ f 3 = vp b8 0 ∧ f 6 = v14 ∧ f 8 = vi (v : Int) ∧ f 9 = v33 ∧ f 10 = to__v ∧ f 33 = v14 ∧ f 34 = vi (List.length ((bK g).1) : Int) ∧ f 35 = vi (v : Int) ∧ f 40 = v33 ∧ f 41 = vi (List.length (gI first (v : Int)) : Int) ∧ f 42 = vi (k : Int) ∧ Sl gq (is 0) w g_v g.2 ∧ Sl gq (is 0) w p_v p.1 ∧ Sl gq (is 0) w p_v1 p.2 ∧ Bx gq (is 1) w b3 [vi g.1, g_v] ∧ Bx gq (is 2) w b8 [p_v, p_v1] ∧ dJ gq 3 w v14 first ∧ Ow gq (row 3 (Int.toNat (v : Int) + 1)) (row 3 (Int.toNat (v : Int) + 1)) w v33 (gI first (v : Int)) ∧ Ow gq (is 6) (is 6) w to__v to_ ∧ (k : Int) ≤ ((List.length (gI first (v : Int)) : Int) : Int) ∧ (to_ = ((gI first (v : Int)).take k).map (ei p))) (fun ⟨to__v, to_, k, gq⟩ => Int.toNat (((List.length (gI first (v : Int)) : Int) : Int) - (k : Int))) (vn, [], 0, g32) ?_ ?_
   · exact ⟨bH, zs2, zs3, zs6, rfl, rfl, rfl, zs33, zs34, zs35, rfl, rfl, rfl, Rg, Rp, r_p_v1, bx5, bx10, o15, r35, Ow.nil, by omega, by simp⟩
   clear Rg Rp r_p_v1 bx5 bx10 o15 cel34 r35 bH
   rintro ⟨to__v, to_, k, g39⟩ f37 w38 ⟨bH, zs2, zs3, zs6, zs8, zs9, zs10, zs33, zs34, zs35, zs40, zs41, zs42, Rg, Rp, r_p_v1, bx5, bx10, o15, r35, o_to_, hle_k, htk⟩ back11
   have htl : to_.length ≤ k := by rw [htk, List.length_map, List.length_take]; omega
   refine a7 (a6 rfl (lx (b9 (m := (k : Int)) (n := (List.length (gI first (v : Int)) : Int)) zs42 zs41) (aa (a7 ?_))))
   by_cases p11 : (k : Int) < (List.length (gI first (v : Int)) : Int)
   ·
    refine ah rfl (dt p11) ?_
    have htw := jm hm hck (v := (v : Int)) (h := gI (gI first (v : Int)) (k : Int)) (by rw [← hrow]; exact bq (by omega) ‹_›)
    refine am (a7 (av (a7 (a6 rfl (lx (ar (v := v33) (i := (k : Int)) Try.underlying39 rfl zs40 r35.row_sl zs42 (by omega) (by omega)) (lx (c5 (v := v33) (i := (k : Int)) aq rfl r35.row_sl (by omega) (by omega) (by decide) rfl) (ai (gI (gI first (v : Int)) (k : Int)) (aa (a6 rfl (mz zs10 (lx (ad (ds := [p_v, p_v1]) co zs3 bx10 rfl rfl) ?_)))))))))))
    refine mi (gI (gI first (v : Int)) (k : Int)) (lo (aF (v := vg [vi ((ei p (gI (gI first (v : Int)) (k : Int))).1), vi ((ei p (gI (gI first (v : Int)) (k : Int))).2)]) (aw (vals := [vg [p_v, p_v1], vi (gI (gI first (v : Int)) (k : Int))]) Try.func28 pn qg rfl) (mJ w38 p p_v p_v1 (Rp).ro (r_p_v1).ro (gI (gI first (v : Int)) (k : Int)) (by omega) (by exact htw.1.1) (by exact htw.1.2)) ?_))
    intro w40 hb41
    replace hb41 := ak hb41 g39
    refine lo (aJ (α := (Int) × (Int)) g39 (is 5) (is 5) (5, 0) rfl [(ei p (gI (gI first (v : Int)) (k : Int)))] Try.underlying25 ab (by decide) (by decide) (vs := [(0, vg [vi ((ei p (gI (gI first (v : Int)) (k : Int))).1), vi ((ei p (gI (gI first (v : Int)) (k : Int))).2)])]) rfl rfl (.cons rfl .nil) ?_)
    intro g42 w43 v44 ch45 o46
    refine lo ?_
    replace o_to_ := (o_to_.cn hb41).cn ch45
    refine bg (α := (Int) × (Int)) (xs := to_) (ys := ([(ei p (gI (gI first (v : Int)) (k : Int)))])) g42 (J := is 6) (S := is 6) (6, 0) rfl Try.underlying25 ab (by decide) rfl rfl rfl o_to_ o46.flat (by decide) (by (simp; omega)) ?_
    intro g47 w48 v49 ch50 o51
    clear o_to_
    refine ma v49 (aa (ao ?_))
    clear o46
    refine a6 rfl (lx (aT (m := (k : Int)) (n := 1) zs42 rfl (by omega)) (mi ((k : Int) + 1) (aa ?_)))
    have C52 := cg [6] (hb41.n.seq (ch45.n.seq (ch50.l rfl)))
    refine back11 (v49, (to_ ++ [(ei p (gI (gI first (v : Int)) (k : Int)))]), k + 1, g47) _ _ ⟨bH.ca C52, zs2, zs3, zs6, zs8, zs9, rfl, zs33, zs34, zs35, zs40, zs41, rfl, Rg.ca C52, Rp.ca C52, r_p_v1.ca C52, bx5.ca C52, bx10.ca C52, o15.ca C52, r35.chg C52 (nD rfl) (nD rfl), o51, by omega, ?_⟩ ?_
    · show (to_ ++ [(ei p (gI (gI first (v : Int)) (k : Int)))]) = ((gI first (v : Int)).take (k + 1)).map (ei p)
      exact qf htk ‹_›
    · show Int.toNat (((List.length (gI first (v : Int)) : Int) : Int) - ((k + 1) : Int)) < Int.toNat (((List.length (gI first (v : Int)) : Int) : Int) - (k : Int))
      omega
   refine aj rfl (df p11) (aU rfl (a7 (a6 rfl (lx (a8 Try.underlying28 rfl rfl zs3 rfl) (lx (af bk rfl bx10 rfl) (mz zs8 (lx (ar (v := p_v) (i := (v : Int)) Try.underlying25 rfl rfl Rp rfl (by omega) (by omega)) (lw (vg [vi ((gI p.1 (v : Int)).1), vi ((gI p.1 (v : Int)).2)]) (aN (v := p_v) (i := (v : Int)) ab rfl Rp (by omega) (by omega) rfl) (mz zs10 (lo ?_))))))))))
   refine cy (aw (vals := [vg [vi ((gI p.1 (v : Int)).1), vi ((gI p.1 (v : Int)).2)], to__v]) Try.func29 qo pE rfl) (mo w38 (gI p.1 (v : Int)) to_ to__v (o_to_.flat).ro) ?_
   rintro ⟨d54, v56⟩ w53 ⟨fr55, o57⟩
   obtain ⟨g58, ch59, G58⟩ := m6 g39 fr55 (fun n => if n = 1 then 7 else 0)
   replace o57 := o57.gl G58 7
   refine mv (vt [v56, vi ((arR (gI p.1 (v : Int)) to_).2)]) (lx (aW rfl rfl) (lx (aW rfl rfl) (ma v56 (ai ((arR (gI p.1 (v : Int)) to_).2) (aa (a7 ?_))))))
   have hto := rX htk ‹_›
   rw [hrow] at hto
   obtain ⟨hok, hnz⟩ := kO hm hck hfew2 (v : Int)
   have har : arR (gI p.1 (v : Int)) to_ = (arL (gI p.1 (v : Int)) (dW p (cU g (v : Int))), 0) := by rw [hto]; exact kL (hck.sh.pt _ (by omega) (by omega)) hok hnz
   have har1 : (arR (gI p.1 (v : Int)) to_).1 = arL (gI p.1 (v : Int)) (dW p (cU g (v : Int))) := congrArg Prod.fst har
   have hal := gL hnz
   have hal2 : to_.length = (gI first (v : Int)).length := by rw [hto, hrow]; simp [dW]
   have hal3 : ((arR (gI p.1 (v : Int)) to_).1).length = to_.length := by rw [har1, hal, hto]
   have hal4 : (dW p (cU g (v : Int))).length = to_.length := by rw [hto]
   refine a6 rfl (ma vn (aa (a7 (a7 (a6 rfl (mv v56 ?_))))))
   have len60 := (o57.flat).small
   refine lx (bh Try.underlying39 rfl o57.flat) (mi 0 (aa (av ?_)))
   refine ba (σ := Value × (List Int) × Nat × aP) (fun ⟨turned_v, turned, i, gq⟩ f w => bf w0 gq w ∧ f 2 = vp b3 0 ∧ f 3 = vp b8 0 ∧ f 6 = v14 ∧ f 8 = vi (v : Int) ∧ f 9 = v33 ∧ f 10 = to__v ∧ f 13 = v56 ∧ f 15 = turned_v ∧ f 33 = v14 ∧ f 34 = vi (List.length ((bK g).1) : Int) ∧ f 35 = vi (v : Int) ∧ f 63 = v56 ∧ f 64 = vi (List.length ((arR (gI p.1 (v : Int)) to_).1) : Int) ∧ f 65 = vi (i : Int) ∧ Sl gq (is 0) w g_v g.2 ∧ Sl gq (is 0) w p_v p.1 ∧ Sl gq (is 0) w p_v1 p.2 ∧ Bx gq (is 1) w b3 [vi g.1, g_v] ∧ Bx gq (is 2) w b8 [p_v, p_v1] ∧ dJ gq 3 w v14 first ∧ Ow gq (row 3 (Int.toNat (v : Int) + 1)) (row 3 (Int.toNat (v : Int) + 1)) w v33 (gI first (v : Int)) ∧ Ow gq (is 6) (is 6) w to__v to_ ∧ Ow gq (is 7) (is 7) w v56 ((arR (gI p.1 (v : Int)) to_).1) ∧ Ow gq (is 9) (is 9) w turned_v turned ∧ (i : Int) ≤ ((List.length ((arR (gI p.1 (v : Int)) to_).1) : Int) : Int) ∧ (kZ p (gI p.1 (v : Int)) (cU g (v : Int)) turned i)) (fun ⟨turned_v, turned, i, gq⟩ => Int.toNat (((List.length ((arR (gI p.1 (v : Int)) to_).1) : Int) : Int) - (i : Int))) (vn, [], 0, g58) ?_ ?_
   · exact ⟨bH.cn ch59, zs2, zs3, zs6, zs8, zs9, zs10, rfl, rfl, zs33, zs34, zs35, rfl, rfl, rfl, Rg.cn ch59, Rp.cn ch59, r_p_v1.cn ch59, bx5.cn ch59, bx10.cn ch59, o15.cn ch59, r35.cn ch59, o_to_.cn ch59, o57, Ow.nil, by omega, by exact kZ.start⟩
   clear Rg Rp r_p_v1 bx5 bx10 o15 r35 o_to_ o57 bH
   rintro ⟨turned_v, turned, i, g63⟩ f61 w62 ⟨bH, zs2, zs3, zs6, zs8, zs9, zs10, zs13, zs15, zs33, zs34, zs35, zs63, zs64, zs65, Rg, Rp, r_p_v1, bx5, bx10, o15, r35, o_to_, o57, o_turned, hle_i, htu⟩ back18
   have htl : turned.length ≤ i := by rw [htu.1, List.length_map, List.length_take]; omega
   have hk0 : ∀ x : Int, 0 ≤ x → x < ((arR (gI p.1 (v : Int)) to_).1).length → 0 ≤ gI (arR (gI p.1 (v : Int)) to_).1 x ∧ gI (arR (gI p.1 (v : Int)) to_).1 x < (to_.length : Int) := fun x h0 h1 => by rw [har1] at h1 ⊢; rw [hto]; exact l4 hnz h0 (by omega)
   have hpo : ∀ x : Int, 0 ≤ x → x < (to_.length : Int) → c4 (gI to_ x) := fun x h0 h1 => by rw [hto] at h1 ⊢; exact hok.2 _ (bq h0 h1)
   refine a7 (a6 rfl (lx (b9 (m := (i : Int)) (n := (List.length ((arR (gI p.1 (v : Int)) to_).1) : Int)) zs65 zs64) (aa (a7 ?_))))
   by_cases p18 : (i : Int) < (List.length ((arR (gI p.1 (v : Int)) to_).1) : Int)
   ·
    refine ah rfl (dt p18) ?_
    obtain ⟨hk3, hk4⟩ := hk0 (i : Int) (by omega) ‹_›
    refine am (a7 (av (a7 (a6 rfl (mz zs65 (lx (ar (v := v56) (i := (i : Int)) Try.underlying39 rfl zs63 o57.flat zs65 (by omega) (by omega)) (lx (c5 (v := v56) (i := (i : Int)) aq rfl o57.flat (by omega) (by omega) (by decide) rfl) (ai (i : Int) (ai (gI ((arR (gI p.1 (v : Int)) to_).1) (i : Int)) (aa (a7 (a7 ?_))))))))))))
    refine cl g63 rfl nV (by kernel_rfl) ?_
    intro w65 ch64
    refine qm (vi (i : Int)) (qx (fun w' hw' => bQ (m := (i : Int)) (n := 0) rfl rfl) (qm (Value.bool (decide (0 < (i : Int)))) ?_))
    by_cases q72 : 0 < (i : Int)
    ·
     obtain ⟨hk1, hk2⟩ := hk0 ((i : Int) - 1) (by omega) (by omega)
     refine b6 (v := vp b8 0) (wy (dt q72)) (fun w' hw' => a8 Try.underlying28 rfl rfl zs3 rfl) ?_
     replace bx10 := bx10.cn ch64
     refine b6 (v := p_v) (wy (dt q72)) (fun w' hw' => af bk rfl (bx10.bel hw') rfl) (b6 (v := vi (v : Int)) (wy (dt q72)) (fun w' hw' => aI zs8) ?_)
     replace Rp := Rp.cn ch64
     refine b6 (v := Value.pointer (some (bF p_v 2 (Int.toNat (v : Int))))) (wy (dt q72)) (fun w' hw' => ar (α := (Int) × (Int)) (xs := p.1) (v := p_v) (i := (v : Int)) Try.underlying25 rfl rfl (Rp.bel hw') rfl (by omega) (by omega)) (b6 (v := vg [vi ((gI p.1 (v : Int)).1), vi ((gI p.1 (v : Int)).2)]) (wy (dt q72)) (fun w' hw' => aN (α := (Int) × (Int)) (xs := p.1) (v := p_v) (i := (v : Int)) ab rfl (Rp.bel hw') (by omega) (by omega) rfl) (b6 (v := to__v) (wy (dt q72)) (fun w' hw' => aI zs10) (b6 (v := v56) (wy (dt q72)) (fun w' hw' => aI zs13) (b6 (v := vi (i : Int)) (wy (dt q72)) (fun w' hw' => aI rfl) ?_))))
     refine b6 (v := vi ((i : Int) - 1)) (wy (dt q72)) (fun w' hw' => cZ (m := (i : Int)) (n := 1) rfl rfl (by omega)) ?_
     replace o57 := o57.cn ch64
     refine b6 (v := Value.pointer (some (bF v56 1 (Int.toNat ((i : Int) - 1))))) (wy (dt q72)) (fun w' hw' => ar (α := Int) (xs := (arR (gI p.1 (v : Int)) to_).1) (v := v56) (i := (i : Int) - 1) Try.underlying39 rfl rfl (o57.flat.bel hw') rfl (by omega) (by omega)) (b6 (v := vi (gI ((arR (gI p.1 (v : Int)) to_).1) ((i : Int) - 1))) (wy (dt q72)) (fun w' hw' => c5 (α := Int) (xs := (arR (gI p.1 (v : Int)) to_).1) (v := v56) (i := (i : Int) - 1) aq rfl (o57.flat.bel hw') (by omega) (by omega) (by decide) rfl) ?_)
     replace o_to_ := o_to_.cn ch64
     refine b6 (v := Value.pointer (some (bF to__v 2 (Int.toNat (gI ((arR (gI p.1 (v : Int)) to_).1) ((i : Int) - 1)))))) (wy (dt q72)) (fun w' hw' => ar (α := (Int) × (Int)) (xs := to_) (v := to__v) (i := (gI ((arR (gI p.1 (v : Int)) to_).1) ((i : Int) - 1))) Try.underlying25 rfl rfl (o_to_.flat.bel hw') rfl (by omega) (by omega)) (b6 (v := vg [vi ((gI to_ (gI ((arR (gI p.1 (v : Int)) to_).1) ((i : Int) - 1))).1), vi ((gI to_ (gI ((arR (gI p.1 (v : Int)) to_).1) ((i : Int) - 1))).2)]) (wy (dt q72)) (fun w' hw' => aN (α := (Int) × (Int)) (xs := to_) (v := to__v) (i := (gI ((arR (gI p.1 (v : Int)) to_).1) ((i : Int) - 1))) ab rfl (o_to_.flat.bel hw') (by omega) (by omega) rfl) ?_)
     refine b6 (v := to__v) (wy (dt q72)) (fun w' hw' => aI zs10) (b6 (v := vi (gI ((arR (gI p.1 (v : Int)) to_).1) (i : Int))) (wy (dt q72)) (fun w' hw' => aI rfl) (b6 (v := Value.pointer (some (bF to__v 2 (Int.toNat (gI ((arR (gI p.1 (v : Int)) to_).1) (i : Int)))))) (wy (dt q72)) (fun w' hw' => ar (α := (Int) × (Int)) (xs := to_) (v := to__v) (i := (gI ((arR (gI p.1 (v : Int)) to_).1) (i : Int))) Try.underlying25 rfl rfl (o_to_.flat.bel hw') rfl (by omega) (by omega)) ?_))
     refine b6 (v := vg [vi ((gI to_ (gI ((arR (gI p.1 (v : Int)) to_).1) (i : Int))).1), vi ((gI to_ (gI ((arR (gI p.1 (v : Int)) to_).1) (i : Int))).2)]) (wy (dt q72)) (fun w' hw' => aN (α := (Int) × (Int)) (xs := to_) (v := to__v) (i := (gI ((arR (gI p.1 (v : Int)) to_).1) (i : Int))) ab rfl (o_to_.flat.bel hw') (by omega) (by omega) rfl) ?_
     refine dD (v := Value.bool (decide (dM (aS (gI to_ (gI ((arR (gI p.1 (v : Int)) to_).1) ((i : Int) - 1))) (gI p.1 (v : Int))) (aS (gI to_ (gI ((arR (gI p.1 (v : Int)) to_).1) (i : Int))) (gI p.1 (v : Int)))))) (wy (dt q72)) (fun w' hw' => aw (vals := [vg [vi ((gI p.1 (v : Int)).1), vi ((gI p.1 (v : Int)).2)], vg [vi ((gI to_ (gI ((arR (gI p.1 (v : Int)) to_).1) ((i : Int) - 1))).1), vi ((gI to_ (gI ((arR (gI p.1 (v : Int)) to_).1) ((i : Int) - 1))).2)], vg [vi ((gI to_ (gI ((arR (gI p.1 (v : Int)) to_).1) (i : Int))).1), vi ((gI to_ (gI ((arR (gI p.1 (v : Int)) to_).1) (i : Int))).2)]]) Try.func30 qw pu rfl) (fun w' hw' => (nY w' (gI p.1 (v : Int)) (gI to_ (gI ((arR (gI p.1 (v : Int)) to_).1) ((i : Int) - 1))) (gI to_ (gI ((arR (gI p.1 (v : Int)) to_).1) (i : Int))) (by exact hck.sh.pt _ (by omega) (by omega)) (by exact hpo _ hk1 hk2) (by exact hpo _ hk3 hk4)).mono fun e w2 h2 => ⟨h2.1, hw'.trans (h2.2.mono hw'.size)⟩) ?_
     refine qv (Value.bool (decide (dM (aS (gI to_ (gI ((arR (gI p.1 (v : Int)) to_).1) ((i : Int) - 1))) (gI p.1 (v : Int))) (aS (gI to_ (gI ((arR (gI p.1 (v : Int)) to_).1) (i : Int))) (gI p.1 (v : Int)))))) (fun w' hw' => au rfl (dt q72) rfl) (dp ?_)
     intro w66 hc67
     replace hc67 := ak hc67 g63
     by_cases p20 : (decide (dM (aS (gI to_ (gI ((arR (gI p.1 (v : Int)) to_).1) ((i : Int) - 1))) (gI p.1 (v : Int))) (aS (gI to_ (gI ((arR (gI p.1 (v : Int)) to_).1) (i : Int))) (gI p.1 (v : Int))))) = true
     ·
      refine ah rfl p20 (a7 ?_)
      clear bx5 bx10 o15 r35 o_to_ o57 o_turned
      refine a6 rfl (ma vn (ai 24 (aa (al (vs := [vn, vi 24]) Try.func10 (.tmp rfl (.tmp rfl .nil)) ?_))))
      replace bH := bH.cn ch64
      replace bH := bH.cn hc67
      have e0 : ([] : dQ) = ((turnsR g p).1) := by
        rw [j4 hm hck0 (kZ.bad hvn hnz (i := i) (by omega) ‹_› (by rw [← har1, ← hto]; assumption))]
      have e1 : (24 : Int) = ((turnsR g p).2) := by
        rw [j4 hm hck0 (kZ.bad hvn hnz (i := i) (by omega) ‹_› (by rw [← har1, ← hto]; assumption))]
      exact ⟨(fin w0 g63 (fun n => 0), vn), (bW (a := []) (b := 24) (fun (z0 : dQ) (z1 : Int) => Ending.returned (vt [vn, vi z1])) e0 e1), bH.fresh _, (e0 ▸ dJ.nil)⟩
     refine aj rfl (Bool.eq_false_iff.2 p20) (am (a6 rfl (mz zs15 (mz zs9 (mi (gI ((arR (gI p.1 (v : Int)) to_).1) (i : Int)) ?_)))))
     replace r35 := (r35.cn ch64).cn hc67
     refine lx (ar (v := v33) (i := (gI ((arR (gI p.1 (v : Int)) to_).1) (i : Int))) Try.underlying39 rfl rfl r35.row_sl rfl (by omega) (by omega)) (lx (c5 (v := v33) (i := (gI ((arR (gI p.1 (v : Int)) to_).1) (i : Int))) aq rfl r35.row_sl (by omega) (by omega) (by decide) rfl) (lo (aJ (α := Int) g63 (is 8) (is 8) (8, 0) rfl [(gI (gI first (v : Int)) (gI ((arR (gI p.1 (v : Int)) to_).1) (i : Int)))] Try.underlying39 aq (by decide) (by decide) (vs := [(0, vi (gI (gI first (v : Int)) (gI ((arR (gI p.1 (v : Int)) to_).1) (i : Int))))]) rfl rfl (.cons rfl .nil) ?_)))
     intro g68 w69 v70 ch71 o72
     refine lo ?_
     have C73 := cg [] (ch64.n.seq (hc67.n.seq ch71.n))
     replace o_turned := o_turned.ca C73
     refine bg (α := Int) (xs := turned) (ys := ([(gI (gI first (v : Int)) (gI ((arR (gI p.1 (v : Int)) to_).1) (i : Int)))])) g68 (J := is 9) (S := is 9) (9, 0) rfl Try.underlying39 aq (by decide) rfl rfl rfl o_turned o72.flat (by decide) (by (simp; omega)) ?_
     intro g74 w75 v76 ch77 o78
     clear o_turned
     refine ma v76 (aa (ao ?_))
     clear o72
     refine a6 rfl (lx (aT (m := (i : Int)) (n := 1) zs65 rfl (by omega)) (mi ((i : Int) + 1) (aa ?_)))
     have C80 := cg [9] (hc67.n.seq (ch71.n.seq (ch77.l rfl)))
     have C79 := ch64.n.seq C80
     refine back18 (v76, (turned ++ [(gI (gI first (v : Int)) (gI ((arR (gI p.1 (v : Int)) to_).1) (i : Int)))]), i + 1, g74) _ _ ⟨bH.ca C79, zs2, zs3, zs6, zs8, zs9, zs10, zs13, rfl, zs33, zs34, zs35, zs63, zs64, rfl, Rg.ca C79, Rp.ca C80, r_p_v1.ca C79, bx5.ca C79, bx10.ca C80, o15.ca C79, (r35.cn ch71).chg ch77 (ir rfl) (ir rfl), o_to_.ca C80, o57.ca C80, o78, by omega, ?_⟩ ?_
     · show kZ p (gI p.1 (v : Int)) (cU g (v : Int)) (turned ++ [(gI (gI first (v : Int)) (gI ((arR (gI p.1 (v : Int)) to_).1) (i : Int)))]) (i + 1)
       (rw [har1, hrow]
        refine htu.next (by omega) ?_
        (refine .inr fun c => ?_
         rw [← har1, ← hto] at c
         exact (by assumption : ¬ decide _ = true) c))
     · show Int.toNat (((List.length ((arR (gI p.1 (v : Int)) to_).1) : Int) : Int) - ((i + 1) : Int)) < Int.toNat (((List.length ((arR (gI p.1 (v : Int)) to_).1) : Int) : Int) - (i : Int))
       omega
    refine aV (wn (df q72)) (aV (wn (df q72)) (aV (wn (df q72)) (aV (wn (df q72)) (aV (wn (df q72)) (aV (wn (df q72)) (aV (wn (df q72)) (aV (wn (df q72)) (aV (wn (df q72)) (aV (wn (df q72)) ?_)))))))))
    refine aV (wn (df q72)) (aV (wn (df q72)) (aV (wn (df q72)) (aV (wn (df q72)) (aV (wn (df q72)) (aV (wn (df q72)) (aV (wn (df q72)) (aV (wn (df q72)) (qv (Value.bool false) (fun w' hw' => aD rfl (df q72) rfl) (dp ?_)))))))))
    intro w81 hc82
    replace hc82 := ak hc82 g63
    refine aj rfl rfl (am (a6 rfl (mz zs15 (mz zs9 (mi (gI ((arR (gI p.1 (v : Int)) to_).1) (i : Int)) ?_)))))
    replace r35 := (r35.cn ch64).cn hc82
    refine lx (ar (v := v33) (i := (gI ((arR (gI p.1 (v : Int)) to_).1) (i : Int))) Try.underlying39 rfl rfl r35.row_sl rfl (by omega) (by omega)) (lx (c5 (v := v33) (i := (gI ((arR (gI p.1 (v : Int)) to_).1) (i : Int))) aq rfl r35.row_sl (by omega) (by omega) (by decide) rfl) (lo (aJ (α := Int) g63 (is 8) (is 8) (8, 0) rfl [(gI (gI first (v : Int)) (gI ((arR (gI p.1 (v : Int)) to_).1) (i : Int)))] Try.underlying39 aq (by decide) (by decide) (vs := [(0, vi (gI (gI first (v : Int)) (gI ((arR (gI p.1 (v : Int)) to_).1) (i : Int))))]) rfl rfl (.cons rfl .nil) ?_)))
    intro g83 w84 v85 ch86 o87
    refine lo ?_
    have C88 := cg [] (ch64.n.seq (hc82.n.seq ch86.n))
    replace o_turned := o_turned.ca C88
    refine bg (α := Int) (xs := turned) (ys := ([(gI (gI first (v : Int)) (gI ((arR (gI p.1 (v : Int)) to_).1) (i : Int)))])) g83 (J := is 9) (S := is 9) (9, 0) rfl Try.underlying39 aq (by decide) rfl rfl rfl o_turned o87.flat (by decide) (by (simp; omega)) ?_
    intro g89 w90 v91 ch92 o93
    clear o_turned
    refine ma v91 (aa (ao ?_))
    clear o87
    refine a6 rfl (lx (aT (m := (i : Int)) (n := 1) zs65 rfl (by omega)) (mi ((i : Int) + 1) (aa ?_)))
    have C94 := cg [9] (ch64.n.seq (hc82.n.seq (ch86.n.seq (ch92.l rfl))))
    refine back18 (v91, (turned ++ [(gI (gI first (v : Int)) (gI ((arR (gI p.1 (v : Int)) to_).1) (i : Int)))]), i + 1, g89) _ _ ⟨bH.ca C94, zs2, zs3, zs6, zs8, zs9, zs10, zs13, rfl, zs33, zs34, zs35, zs63, zs64, rfl, Rg.ca C94, Rp.ca C94, r_p_v1.ca C94, bx5.ca C94, bx10.ca C94, o15.ca C94, (r35.cn ch86).chg ch92 (ir rfl) (ir rfl), o_to_.ca C94, o57.ca C94, o93, by omega, ?_⟩ ?_
    · show kZ p (gI p.1 (v : Int)) (cU g (v : Int)) (turned ++ [(gI (gI first (v : Int)) (gI ((arR (gI p.1 (v : Int)) to_).1) (i : Int)))]) (i + 1)
      (rw [har1, hrow]
       refine htu.next (by omega) ?_
       exact .inl ‹_›)
    · show Int.toNat (((List.length ((arR (gI p.1 (v : Int)) to_).1) : Int) : Int) - ((i + 1) : Int)) < Int.toNat (((List.length ((arR (gI p.1 (v : Int)) to_).1) : Int) : Int) - (i : Int))
      omega
   refine aj rfl (df p18) (aU rfl ?_)
   clear r35 o_to_ o57
   have hfin := kZ.fin hnz htu (by rw [← har1]; assumption)
   refine a6 rfl (mz zs6 (mz zs8 (mz zs15 (lx (ar (v := v14) (i := (v : Int)) Try.underlying32 rfl rfl o15.sl rfl (by omega) (by omega)) (lo (g0 (r := (v : Int)) dS rfl rfl o15 o_turned rfl (by omega) (by omega) ?_))))))
   intro g101 w98 ch99 o100
   clear o15 o_turned
   refine aa (ao (a6 rfl (lx (aT (m := (v : Int)) (n := 1) zs35 rfl (by omega)) (mi ((v : Int) + 1) (aa ?_)))))
   refine back7 (v + 1, (List.set first (Int.toNat (v : Int)) turned), g101) _ _ ⟨bH.chg ch99 (hU rfl rfl), zs2, zs3, zs6, zs33, zs34, rfl, Rg.chg ch99 (hU rfl rfl), Rp.chg ch99 (hU rfl rfl), r_p_v1.chg ch99 (hU rfl rfl), bx5.chg ch99 (hU rfl rfl), bx10.chg ch99 (hU rfl rfl), o100, by omega, ?_⟩ ?_
   · show fP g p (List.set first (Int.toNat (v : Int)) turned) (v + 1)
     exact hT.next hvn (by rw [hfin.1]) hfin.2
   · show Int.toNat (((List.length ((bK g).1) : Int) : Int) - ((v + 1) : Int)) < Int.toNat (((List.length ((bK g).1) : Int) : Int) - (v : Int))
     omega
  refine aj rfl (df p7) (aU rfl (a7 ?_))
  clear bx10
  refine a6 rfl (lx (ad (ds := [vi g.1, g_v]) cj zs2 bx5 rfl rfl) (mz zs6 (lo (cy (aw (vals := [vg [vi g.1, g_v], v14]) Try.func31 oO pC rfl) (mp w31 g g_v (Rg).ro first v14 (o15.sl).ro) ?_))))
  rintro ⟨d103, v105⟩ w102 ⟨fr104, o106⟩
  obtain ⟨g107, ch108, G107⟩ := m6 g32 fr104 (fun n => if n = 1 then 10 else 0)
  replace o106 := o106.gl G107 10
  refine lx (aW rfl rfl) (lx (aW rfl rfl) (ma v105 (ai ((cV g first).2) (aa (al (vs := [v105, vi ((cV g first).2)]) Try.func10 (.tmp rfl (.tmp rfl .nil)) ?_)))))
  replace bH := bH.cn ch108
  have e0 : ((cV g first).1 : dQ) = ((turnsR g p).1) := by
    rw [i6 hm hck0 hfew2 hT (by omega)]
  have e1 : ((cV g first).2 : Int) = ((turnsR g p).2) := by
    rw [i6 hm hck0 hfew2 hT (by omega)]
  exact ⟨(fin w0 g107 (fun n => if n = 10 then 1 else 0), v105), (bW (a := (cV g first).1) (b := (cV g first).2) (fun (z0 : dQ) (z1 : Int) => Ending.returned (vt [v105, vi z1])) e0 e1), bH.fresh _, (e0 ▸ (o106.glue (γ := c0) (ren := (fun n => if n = 10 then 1 else 0)) (k := 1) bH.col rfl rfl))⟩
 have hn : ¬ ci g := fun h => by have h2 := p2; unfold bK at h2; rw [if_pos h] at h2; exact h2 rfl
 refine ah rfl (congrArg Bool.not (df p2)) (a7 ?_)
 clear bx5 bx10 o15
 refine a6 rfl (mi ((bK g).2) (ma vn (ai ((bK g).2) (aa (al (vs := [vn, vi ((bK g).2)]) Try.func10 (.tmp rfl (.tmp rfl .nil)) ?_)))))
 have C109 := cg [] (ch2.n.seq (ch7.n.seq ch17.n))
 replace bH := bH.ca C109
 have e0 : ([] : dQ) = ((turnsR g p).1) := by
   rw [lA hn]
 have e1 : ((bK g).2 : Int) = ((turnsR g p).2) := by
   rw [lA hn]; unfold bK; rw [if_neg hn]
 exact ⟨(fin w0 g16 (fun n => 0), vn), (bW (a := []) (b := (bK g).2) (fun (z0 : dQ) (z1 : Int) => Ending.returned (vt [vn, vi z1])) e0 e1), bH.fresh _, (e0 ▸ dJ.nil)⟩
end TL
