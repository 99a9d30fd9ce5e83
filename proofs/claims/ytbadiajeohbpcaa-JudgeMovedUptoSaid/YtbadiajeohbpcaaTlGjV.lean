import Derived.Test.YtbadiajeohbpcaaTlP2
import Derived.Test.YtbadiajeohbpcaaTlGenA
import Derived.Test.YtbadiajeohbpcaaTlGenE
import Derived.Test.YtbadiajeohbpcaaTlGjA
import Derived.Test.YtbadiajeohbpcaaTlGjB
import Derived.Test.YtbadiajeohbpcaaTlGjC
import Derived.Test.YtbadiajeohbpcaaTlGjE
import Derived.Test.YtbadiajeohbpcaaTlGjT
import Derived.Test.YtbadiajeohbpcaaProg
set_option linter.all false
set_option maxRecDepth 20000
namespace TL
open Go Go.Proofs
theorem lD : Try.prog.follows .mixedOrders = true := by kernel_rfl
theorem sQ : Try.f8.body.isNone = false := rfl
theorem sT : (Try.f8.name == "runtime.NumGoroutine") = false := by decide +kernel
theorem te : Try.f9.body.isNone = false := rfl
theorem tH : (Try.f9.name == "runtime.NumGoroutine") = false := by decide +kernel
theorem s5 : Try.f16.body.isNone = false := rfl
theorem qU : (Try.f16.name == "runtime.NumGoroutine") = false := by decide +kernel
theorem rS : Try.f17.body.isNone = false := rfl
theorem rn : (Try.f17.name == "runtime.NumGoroutine") = false := by decide +kernel
theorem qn (w0 : World) (p : (List ((Int) × (Int))) × (List (List ((Int) × (Int))))) (p_v p_v1 : Value) (hp_v : Ro w0 p_v p.1) (hp_v1 : Ro w0 p_v1 p.2) (hp1 : (p.1.length : Int) ≤ 1024) (hp2 : (p.2.length : Int) ≤ 3072) (hp3 : ∀ e : Int, 0 ≤ e → e < p.2.length → (gI p.2 e).length ≤ 4096) :
    Calls Try.prog 16 #[vg [p_v, p_v1]] w0 (fun ee w => ∃ xx : aM × Value, ee = .returned ((fun ⟨δ, rv0⟩ => rv0) xx) ∧ (fun (⟨δ, rv0⟩ : aM × Value) (w : World) => fx w0 δ w ∧ Ow δ (is 1) (is 1) w rv0 (az p)) xx w) := by
 refine aD Try.func16 rfl (Nat.le_of_ble_eq_true rfl) ?_
 have bH := bc.start w0
 have Rp := hp_v.sl
 have r_p_v1 := hp_v1.sl
 refine a7 (a6 rfl (bL rfl (bw c0 (is 1) (1, 0) rfl rfl ?_)))
 intro g4 w1 b3 ch2 bx5
 replace bx5 : Bx g4 (is 1) w1 b3 [p_v, p_v1] := bx5
 refine ma vn (aa (a7 (a6 rfl (lx (a8 Try.underlying28 rfl rfl rfl rfl) (lx (af bl rfl bx5 rfl) (lo ?_))))))
 replace Rp := Rp.cn ch2
 refine bj (α := (Int) × (Int)) (xs := ([])) (ys := p.1) g4 (J := is 2) (S := is 2) (2, 0) rfl Try.underlying25 ae (by decide) rfl rfl rfl Ow.nil Rp (by decide) (by (simp; omega)) ?_
 intro g6 w7 v8 ch9 o10
 replace o10 : Ow g6 (is 2) (is 2) w7 v8 p.1 := o10
 refine ma v8 (aa (a7 (a7 (a6 rfl (ai 0 (aa (au ?_)))))))
 refine aX (σ := Value × (List ((Int) × (Int))) × Nat × aM) (fun ⟨l_v, l, k, gq⟩ f w => bc w0 gq w ∧ f 1 = vp b3 0 ∧ f 3 = l_v ∧ f 4 = vi (k : Int) ∧ Sl gq (is 0) w p_v p.1 ∧ Sl gq (is 0) w p_v1 p.2 ∧ Bx gq (is 1) w b3 [p_v, p_v1] ∧ Ow gq (is 2) (is 2) w l_v l ∧ (k : Int) ≤ ((p.2.length : Int) : Int) ∧ (l = p.1 ++ (p.2.take k).flatten ∧ (l.length : Int) ≤ 1024 + 4096 * (k : Int))) (fun ⟨l_v, l, k, gq⟩ => Int.toNat (((p.2.length : Int) : Int) - (k : Int))) (v8, p.1, 0, g6) ?_ ?_
 replace bH := bH.cn ch2
 · exact ⟨bH.ce ch9, rfl, rfl, rfl, Rp.ce ch9, (r_p_v1.cn ch2).ce ch9, bx5.ce ch9, o10, by omega, by exact ⟨by simp, by omega⟩⟩
 clear Rp r_p_v1 bx5 o10 bH
 rintro ⟨l_v, l, k, g13⟩ f11 w12 ⟨bH, zs1, zs3, zs4, Rp, r_p_v1, bx5, o_l, hle_k, hinv⟩ back3
 obtain ⟨hi1, hi2⟩ := hinv
 refine a7 (a7 (a6 rfl (mz zs4 (lx (a8 Try.underlying28 rfl rfl zs1 rfl) (lx (af c7 rfl bx5 rfl) ?_)))))
 have len14 := (r_p_v1).small
 refine lx (bb Try.underlying26 rfl r_p_v1) (lx (b6 (m := (k : Int)) (n := (p.2.length : Int)) rfl rfl) (aa ?_))
 by_cases p3 : (k : Int) < (p.2.length : Int)
 ·
  refine ah rfl (dt p3) ?_
  have hll := hp3 (k : Int) (by omega) (by omega)
  refine ao (a7 (au (a6 rfl (mz zs3 (lx (a8 Try.underlying28 rfl rfl zs1 rfl) (lx (af c7 rfl bx5 rfl) (mz zs4 (lx (am (v := p_v1) (i := (k : Int)) Try.underlying26 rfl rfl r_p_v1 rfl (by omega) (by omega)) ?_))))))))
  obtain ⟨v15, cel16, r17⟩ := dy (r := (k : Int)) r_p_v1 (by omega) (by omega)
  refine lx (ck bl rfl cel16) (lo (bj (α := (Int) × (Int)) (xs := l) (ys := (gI p.2 (k : Int))) g13 (J := is 2) (S := is 2) (2, 0) rfl Try.underlying25 ae (by decide) rfl rfl rfl o_l r17 (by decide) (by omega) ?_))
  intro g18 w19 v20 ch21 o22
  clear o_l
  refine ma v20 (aa (aq ?_))
  clear r17
  refine a6 rfl (mz zs4 (lx (aW (m := (k : Int)) (n := 1) rfl rfl (by omega)) (ai ((k : Int) + 1) (aa ?_))))
  refine back3 (v20, (l ++ gI p.2 (k : Int)), k + 1, g18) _ _ ⟨bH.ce ch21, zs1, rfl, rfl, Rp.ce ch21, r_p_v1.ce ch21, bx5.ce ch21, o22, by omega, ?_⟩ ?_
  · show (l ++ gI p.2 (k : Int)) = p.1 ++ (p.2.take (k + 1)).flatten ∧ ((l ++ gI p.2 (k : Int)).length : Int) ≤ 1024 + 4096 * ((k + 1) : Int)
    exact kz ⟨hi1, hi2⟩ ‹_› hll
  · show Int.toNat (((p.2.length : Int) : Int) - ((k + 1) : Int)) < Int.toNat (((p.2.length : Int) : Int) - (k : Int))
    omega
 refine aj rfl (df p3) (aR rfl (a7 ?_))
 clear bx5
 refine a6 rfl (mz zs3 (ma l_v (aa (al (vs := [l_v]) Try.func16 (.tmp rfl .nil) ?_))))
 have e0 : (l : List ((Int) × (Int))) = (az p) := by
   exact n9 hi1 ‹_›
 exact ⟨(fin w0 g13 (fun n => if n = 2 then 1 else 0), l_v), (congrArg (a₁ := l) (fun (z0 : List ((Int) × (Int))) => Ending.returned (l_v)) e0), bH.fresh _, (e0 ▸ (o_l.glue (γ := c0) (ren := (fun n => if n = 2 then 1 else 0)) (k := 1) bH.col rfl rfl))⟩
set_option maxHeartbeats 8000000 in
theorem jt (w0 : World) (g : (Int) × (List ((Int) × (Int)))) (g_v : Value) (hg_v : Ro w0 g_v g.2) (p : (List ((Int) × (Int))) × (List (List ((Int) × (Int))))) (p_v p_v1 : Value) (hp_v : Ro w0 p_v p.1) (hp_v1 : Ro w0 p_v1 p.2) (by_ : (Int) × (Int)) (to_ : List Int) (to__v : Value) (hto__v : Ro w0 to__v to_) (hb : sN p) :
    Calls Try.prog 4 #[vg [vi g.1, g_v], vg [p_v, p_v1], vg [vi by_.1, vi by_.2], to__v] w0 (fun ee w => ee = .returned (Value.bool true) ∧ dE w0.heap.size w0 w) := by
 refine aD Try.func4 rfl (Nat.le_of_ble_eq_true rfl) ?_
 have bH := bc.start w0
 have Rg := hg_v.sl
 have Rp := hp_v.sl
 have r_p_v1 := hp_v1.sl
 have Rto_ := hto__v.sl
 obtain ⟨⟨hb1, hb2, hb3⟩, hb4, hb5⟩ := hb
 refine a7 (a6 rfl (bL rfl (bw c0 (is 1) (1, 0) rfl rfl ?_)))
 intro g4 w1 b3 ch2 bx5
 replace bx5 : Bx g4 (is 1) w1 b3 [vi g.1, g_v] := bx5
 refine lo (bw g4 (is 2) (2, 0) rfl rfl ?_)
 intro g9 w6 b8 ch7 bx10
 replace bx10 : Bx g9 (is 2) w6 b8 [p_v, p_v1] := bx10
 refine lo (bw g9 (is 3) (3, 0) rfl rfl ?_)
 intro g14 w11 b13 ch12 bx15
 replace bx15 : Bx g14 (is 3) w11 b13 [vi by_.1, vi by_.2] := bx15
 refine ma (Value.bool false) (aa (a7 (a7 (a6 rfl (bL rfl (aG (v := Value.bool true) (aB (vals := []) Try.func8 sQ sT rfl) (lR w11 ) ?_))))))
 intro w16 hb17
 replace hb17 := ak hb17 g14
 refine lx (db (b := true) rfl) (aa (aj rfl rfl (ao (a7 (a7 (a6 rfl ?_))))))
 have C18 := cg [] (ch7.n.seq (ch12.n.seq hb17.n))
 replace bx5 := bx5.ca C18
 refine lx (ad (ds := [vi g.1, g_v]) ct rfl bx5 rfl rfl) ?_
 replace bx10 := (bx10.cn ch12).cn hb17
 refine lx (ad (ds := [p_v, p_v1]) ci rfl bx10 rfl rfl) ?_
 have C19 := cg [] (ch2.n.seq (ch7.n.seq (ch12.n.seq hb17.n)))
 replace Rg := Rg.ca C19
 replace Rp := Rp.ca C19
 replace r_p_v1 := r_p_v1.ca C19
 refine lo (aG (v := Value.bool (decide (dG g p))) (aB (vals := [vg [vi g.1, g_v], vg [p_v, p_v1]]) Try.func9 te tH rfl) (lY w16 g g_v (Rg).ro p p_v p_v1 (Rp).ro (r_p_v1).ro ‹_› ‹_› ‹_›) ?_)
 intro w20 hb21
 replace hb21 := ak hb21 g14
 refine lx (db (b := (decide (dG g p))) rfl) (mv (Value.bool (!(decide (dG g p)))) ?_)
 by_cases q36 : (decide (dG g p)) = true
 ·
  obtain ⟨hfew, ⟨hp4, hp5⟩, hp6⟩ := ob (of_decide_eq_true q36)
  replace bx5 := bx5.cn hb21
  refine lv (vg [vi g.1, g_v]) (wy (congrArg Bool.not q36)) (ad (ds := [vi g.1, g_v]) ct rfl bx5 rfl rfl) ?_
  replace Rg := Rg.cn hb21
  refine bL (wy (congrArg Bool.not q36)) (aG (v := Value.bool (cP g)) (aB (vals := [vg [vi g.1, g_v]]) Try.func15 po oy rfl) (mW w20 g g_v (Rg).ro) ?_)
  intro w22 hb23
  replace hb23 := ak hb23 g14
  refine lv (Value.bool (!(cP g))) (wy (congrArg Bool.not q36)) (db (b := (cP g)) rfl) (lw (Value.bool (!(cP g))) (aE rfl (congrArg Bool.not q36) rfl) (mv (Value.bool (!(cP g))) ?_))
  by_cases q41 : (cP g) = true
  ·
   have hm := of_decide_eq_true q41
   have hm0 := hm
   obtain ⟨hm1, hm2, hm3, hm4⟩ := hm0
   refine lv (vp b13 0) (wy (congrArg Bool.not q41)) (a8 Try.underlying45 rfl rfl rfl rfl) ?_
   have C24 := cg [] (hb17.n.seq (hb21.n.seq hb23.n))
   replace bx15 := bx15.ca C24
   refine lv (vi by_.1) (wy (congrArg Bool.not q41)) (af ar rfl bx15 rfl) (lv (Value.bool (decide (by_.1 < (-1000)))) (wy (congrArg Bool.not q41)) (b6 (m := by_.1) (n := -1000) rfl rfl) (lw (Value.bool (decide (by_.1 < (-1000)))) (aE rfl (congrArg Bool.not q41) rfl) (mv (Value.bool (decide (by_.1 < (-1000)))) ?_)))
   by_cases q46 : by_.1 < (-1000)
   ·
    refine ab (wn (dt q46)) (ab (wn (dt q46)) (ab (wn (dt q46)) (lw (Value.bool true) (av rfl (dt q46) rfl) (mv (Value.bool true) (ab (wn rfl) (ab (wn rfl) (ab (wn rfl) (lw (Value.bool true) (av rfl rfl rfl) (mv (Value.bool true) (ab (wn rfl) (ab (wn rfl) (ab (wn rfl) (lw (Value.bool true) (av rfl rfl rfl) ?_)))))))))))))
    refine aa (ah rfl rfl (a7 ?_))
    clear bx5 bx10 bx15
    refine a6 rfl (ma (Value.bool true) (aa (al (vs := [Value.bool true]) Try.func4 (.tmp rfl .nil) ?_)))
    have e0 : (true : Bool) = (true) := by
      rfl
    have C25 := cg [] (ch2.n.seq (ch7.n.seq (ch12.n.seq (hb17.n.seq (hb21.n.seq hb23.n)))))
    replace bH := bH.ca C25
    exact ⟨(congrArg (a₁ := true) (fun (z0 : Bool) => Ending.returned (Value.bool z0)) e0), bH.below⟩
   refine lv (vp b13 0) (wy (df q46)) (a8 Try.underlying45 rfl rfl rfl rfl) (lv (vi by_.1) (wy (df q46)) (af ar rfl bx15 rfl) (lv (Value.bool (decide (1000 < by_.1))) (wy (df q46)) (c8 (m := by_.1) (n := 1000) rfl rfl) (lw (Value.bool (decide (1000 < by_.1))) (aE rfl (df q46) rfl) (mv (Value.bool (decide (1000 < by_.1))) ?_))))
   by_cases q51 : 1000 < by_.1
   ·
    refine ab (wn (dt q51)) (ab (wn (dt q51)) (ab (wn (dt q51)) (lw (Value.bool true) (av rfl (dt q51) rfl) (mv (Value.bool true) (ab (wn rfl) (ab (wn rfl) (ab (wn rfl) (lw (Value.bool true) (av rfl rfl rfl) (aa (ah rfl rfl (a7 ?_)))))))))))
    clear bx5 bx10 bx15
    refine a6 rfl (ma (Value.bool true) (aa (al (vs := [Value.bool true]) Try.func4 (.tmp rfl .nil) ?_)))
    have e0 : (true : Bool) = (true) := by
      rfl
    have C26 := cg [] (ch2.n.seq (ch7.n.seq (ch12.n.seq (hb17.n.seq (hb21.n.seq hb23.n)))))
    replace bH := bH.ca C26
    exact ⟨(congrArg (a₁ := true) (fun (z0 : Bool) => Ending.returned (Value.bool z0)) e0), bH.below⟩
   refine lv (vp b13 1) (wy (df q51)) (a8 Try.underlying45 rfl rfl rfl rfl) (lv (vi by_.2) (wy (df q51)) (af ar rfl bx15 rfl) (lv (Value.bool (decide (by_.2 < (-1000)))) (wy (df q51)) (b6 (m := by_.2) (n := -1000) rfl rfl) (lw (Value.bool (decide (by_.2 < (-1000)))) (aE rfl (df q51) rfl) (mv (Value.bool (decide (by_.2 < (-1000)))) ?_))))
   by_cases q56 : by_.2 < (-1000)
   ·
    refine ab (wn (dt q56)) (ab (wn (dt q56)) (ab (wn (dt q56)) (lw (Value.bool true) (av rfl (dt q56) rfl) (aa (ah rfl rfl (a7 ?_))))))
    clear bx5 bx10 bx15
    refine a6 rfl (ma (Value.bool true) (aa (al (vs := [Value.bool true]) Try.func4 (.tmp rfl .nil) ?_)))
    have e0 : (true : Bool) = (true) := by
      rfl
    have C27 := cg [] (ch2.n.seq (ch7.n.seq (ch12.n.seq (hb17.n.seq (hb21.n.seq hb23.n)))))
    replace bH := bH.ca C27
    exact ⟨(congrArg (a₁ := true) (fun (z0 : Bool) => Ending.returned (Value.bool z0)) e0), bH.below⟩
   refine lv (vp b13 1) (wy (df q56)) (a8 Try.underlying45 rfl rfl rfl rfl) (lv (vi by_.2) (wy (df q56)) (af ar rfl bx15 rfl) (lv (Value.bool (decide (1000 < by_.2))) (wy (df q56)) (c8 (m := by_.2) (n := 1000) rfl rfl) (lw (Value.bool (decide (1000 < by_.2))) (aE rfl (df q56) rfl) (aa ?_))))
   by_cases p3 : 1000 < by_.2
   ·
    refine ah rfl (dt p3) (a7 ?_)
    clear bx5 bx10 bx15
    refine a6 rfl (ma (Value.bool true) (aa (al (vs := [Value.bool true]) Try.func4 (.tmp rfl .nil) ?_)))
    have e0 : (true : Bool) = (true) := by
      rfl
    have C28 := cg [] (ch2.n.seq (ch7.n.seq (ch12.n.seq (hb17.n.seq (hb21.n.seq hb23.n)))))
    replace bH := bH.ca C28
    exact ⟨(congrArg (a₁ := true) (fun (z0 : Bool) => Ending.returned (Value.bool z0)) e0), bH.below⟩
   refine aj rfl (df p3) (ao (a7 (a6 rfl ?_)))
   replace bx10 := (bx10.cn hb21).cn hb23
   refine lx (ad (ds := [p_v, p_v1]) ci rfl bx10 rfl rfl) ?_
   replace Rp := (Rp.cn hb21).cn hb23
   replace r_p_v1 := (r_p_v1.cn hb21).cn hb23
   refine lo (cC (aB (vals := [vg [p_v, p_v1]]) Try.func16 s5 qU rfl) (qn w22 p p_v p_v1 (Rp).ro (r_p_v1).ro (by omega) (by omega) (by exact fun e h0 h1 => by have := hp6 e h0 h1; omega)) ?_)
   rintro ⟨d30, v32⟩ w29 ⟨fr31, o33⟩
   obtain ⟨g34, ch35, G34⟩ := nf g14 fr31 (fun n => if n = 1 then 4 else 0)
   replace o33 := o33.gl G34 4
   refine ma v32 (aa (a7 (a7 (a6 rfl (ai 0 (aa (au ?_)))))))
   refine aX (σ := Nat × aM) (fun ⟨j, gq⟩ f w => bc w0 gq w ∧ f 3 = to__v ∧ f 4 = vp b3 0 ∧ f 5 = vp b8 0 ∧ f 6 = vp b13 0 ∧ f 9 = v32 ∧ f 10 = vi (j : Int) ∧ Sl gq (is 0) w g_v g.2 ∧ Sl gq (is 0) w p_v p.1 ∧ Sl gq (is 0) w p_v1 p.2 ∧ Sl gq (is 0) w to__v to_ ∧ Bx gq (is 1) w b3 [vi g.1, g_v] ∧ Bx gq (is 2) w b8 [p_v, p_v1] ∧ Bx gq (is 3) w b13 [vi by_.1, vi by_.2] ∧ Ow gq (is 4) (is 4) w v32 (az p) ∧ (j : Int) ≤ ((List.length (az p) : Int) : Int) ∧ (∀ i : Nat, i < j → dg (gI (az p) (i : Int)))) (fun ⟨j, gq⟩ => Int.toNat (((List.length (az p) : Int) : Int) - (j : Int))) (0, g34) ?_ ?_
   have C36 := cg [] (ch2.n.seq (ch7.n.seq (ch12.n.seq (hb17.n.seq (hb21.n.seq (hb23.n.seq ch35.n))))))
   · exact ⟨bH.ca C36, rfl, rfl, rfl, rfl, rfl, rfl, (Rg.cn hb23).cn ch35, Rp.cn ch35, r_p_v1.cn ch35, Rto_.ca C36, (bx5.cn hb23).cn ch35, bx10.cn ch35, bx15.cn ch35, o33, by omega, by exact fun i hi => by omega⟩
   clear Rg Rp r_p_v1 Rto_ bx5 bx10 bx15 o33 bH
   rintro ⟨j, g39⟩ f37 w38 ⟨bH, zs3, zs4, zs5, zs6, zs9, zs10, Rg, Rp, r_p_v1, Rto_, bx5, bx10, bx15, o33, hle_j, hsj⟩ back7
   refine a7 (a7 (a6 rfl (mz zs10 (mz zs9 ?_))))
   have len40 := (o33.flat).small
   refine lx (bb Try.underlying25 rfl o33.flat) (lx (b6 (m := (j : Int)) (n := (List.length (az p) : Int)) rfl rfl) (aa ?_))
   by_cases p7 : (j : Int) < (List.length (az p) : Int)
   ·
    refine ah rfl (dt p7) (ao (a7 (au (a7 (a6 rfl (mz zs9 (mz zs10 (lx (am (v := v32) (i := (j : Int)) Try.underlying25 rfl rfl o33.flat rfl (by omega) (by omega)) (lw (Value.pointer (some ⟨(b9 v32 2 (Int.toNat (j : Int))).block, (b9 v32 2 (Int.toNat (j : Int))).off + 0, none⟩)) (c4 Try.underlying45 rfl rfl rfl rfl) (lx (bV (v := v32) (i := (j : Int)) ar rfl o33.flat (by omega) (by omega) (by decide) rfl) ?_))))))))))
    refine lx (b6 (m := (gI (az p) (j : Int)).1) (n := -524288) rfl rfl) (mv (Value.bool (decide (((gI (az p) (j : Int)).1) < (-524288)))) ?_)
    by_cases q75 : ((gI (az p) (j : Int)).1) < (-524288)
    ·
     refine ab (wn (dt q75)) (ab (wn (dt q75)) (ab (wn (dt q75)) (ab (wn (dt q75)) (ab (wn (dt q75)) (ab (wn (dt q75)) (lw (Value.bool true) (av rfl (dt q75) rfl) (mv (Value.bool true) (ab (wn rfl) (ab (wn rfl) (ab (wn rfl) (ab (wn rfl) (ab (wn rfl) (ab (wn rfl) (lw (Value.bool true) (av rfl rfl rfl) ?_))))))))))))))
     refine mv (Value.bool true) (ab (wn rfl) (ab (wn rfl) (ab (wn rfl) (ab (wn rfl) (ab (wn rfl) (ab (wn rfl) (lw (Value.bool true) (av rfl rfl rfl) (aa (ah rfl rfl (a7 ?_))))))))))
     clear bx5 bx10 bx15 o33
     refine a6 rfl (ma (Value.bool true) (aa (al (vs := [Value.bool true]) Try.func4 (.tmp rfl .nil) ?_)))
     have e0 : (true : Bool) = (true) := by
       rfl
     exact ⟨(congrArg (a₁ := true) (fun (z0 : Bool) => Ending.returned (Value.bool z0)) e0), bH.below⟩
    refine lv (v32) (wy (df q75)) (aF zs9) (lv (vi (j : Int)) (wy (df q75)) (aF zs10) (lv (Value.pointer (some (b9 v32 2 (Int.toNat (j : Int))))) (wy (df q75)) (am (α := (Int) × (Int)) (xs := az p) (v := v32) (i := (j : Int)) Try.underlying25 rfl rfl o33.flat rfl (by omega) (by omega)) (lv (Value.pointer (some ⟨(b9 v32 2 (Int.toNat (j : Int))).block, (b9 v32 2 (Int.toNat (j : Int))).off + 0, none⟩)) (wy (df q75)) (c4 Try.underlying45 rfl rfl rfl rfl) (lv (vi ((gI (az p) (j : Int)).1)) (wy (df q75)) (bV (α := (Int) × (Int)) (xs := az p) (v := v32) (i := (j : Int)) ar rfl o33.flat (by omega) (by omega) (by decide) rfl) ?_))))
    refine lv (Value.bool (decide (524288 < ((gI (az p) (j : Int)).1)))) (wy (df q75)) (c8 (m := (gI (az p) (j : Int)).1) (n := 524288) rfl rfl) (lw (Value.bool (decide (524288 < ((gI (az p) (j : Int)).1)))) (aE rfl (df q75) rfl) (mv (Value.bool (decide (524288 < ((gI (az p) (j : Int)).1)))) ?_))
    by_cases q83 : 524288 < ((gI (az p) (j : Int)).1)
    ·
     refine ab (wn (dt q83)) (ab (wn (dt q83)) (ab (wn (dt q83)) (ab (wn (dt q83)) (ab (wn (dt q83)) (ab (wn (dt q83)) (lw (Value.bool true) (av rfl (dt q83) rfl) (mv (Value.bool true) (ab (wn rfl) (ab (wn rfl) (ab (wn rfl) (ab (wn rfl) (ab (wn rfl) (ab (wn rfl) (lw (Value.bool true) (av rfl rfl rfl) ?_))))))))))))))
     refine aa (ah rfl rfl (a7 ?_))
     clear bx5 bx10 bx15 o33
     refine a6 rfl (ma (Value.bool true) (aa (al (vs := [Value.bool true]) Try.func4 (.tmp rfl .nil) ?_)))
     have e0 : (true : Bool) = (true) := by
       rfl
     exact ⟨(congrArg (a₁ := true) (fun (z0 : Bool) => Ending.returned (Value.bool z0)) e0), bH.below⟩
    refine lv (v32) (wy (df q83)) (aF zs9) (lv (vi (j : Int)) (wy (df q83)) (aF zs10) (lv (Value.pointer (some (b9 v32 2 (Int.toNat (j : Int))))) (wy (df q83)) (am (α := (Int) × (Int)) (xs := az p) (v := v32) (i := (j : Int)) Try.underlying25 rfl rfl o33.flat rfl (by omega) (by omega)) (lv (Value.pointer (some ⟨(b9 v32 2 (Int.toNat (j : Int))).block, (b9 v32 2 (Int.toNat (j : Int))).off + 1, none⟩)) (wy (df q83)) (c4 Try.underlying45 rfl rfl rfl rfl) (lv (vi ((gI (az p) (j : Int)).2)) (wy (df q83)) (bV (α := (Int) × (Int)) (xs := az p) (v := v32) (i := (j : Int)) ar rfl o33.flat (by omega) (by omega) (by decide) rfl) ?_))))
    refine lv (Value.bool (decide (((gI (az p) (j : Int)).2) < (-524288)))) (wy (df q83)) (b6 (m := (gI (az p) (j : Int)).2) (n := -524288) rfl rfl) (lw (Value.bool (decide (((gI (az p) (j : Int)).2) < (-524288)))) (aE rfl (df q83) rfl) (mv (Value.bool (decide (((gI (az p) (j : Int)).2) < (-524288)))) ?_))
    by_cases q91 : ((gI (az p) (j : Int)).2) < (-524288)
    ·
     refine ab (wn (dt q91)) (ab (wn (dt q91)) (ab (wn (dt q91)) (ab (wn (dt q91)) (ab (wn (dt q91)) (ab (wn (dt q91)) (lw (Value.bool true) (av rfl (dt q91) rfl) (aa (ah rfl rfl (a7 ?_)))))))))
     clear bx5 bx10 bx15 o33
     refine a6 rfl (ma (Value.bool true) (aa (al (vs := [Value.bool true]) Try.func4 (.tmp rfl .nil) ?_)))
     have e0 : (true : Bool) = (true) := by
       rfl
     exact ⟨(congrArg (a₁ := true) (fun (z0 : Bool) => Ending.returned (Value.bool z0)) e0), bH.below⟩
    refine lv (v32) (wy (df q91)) (aF zs9) (lv (vi (j : Int)) (wy (df q91)) (aF zs10) (lv (Value.pointer (some (b9 v32 2 (Int.toNat (j : Int))))) (wy (df q91)) (am (α := (Int) × (Int)) (xs := az p) (v := v32) (i := (j : Int)) Try.underlying25 rfl rfl o33.flat rfl (by omega) (by omega)) (lv (Value.pointer (some ⟨(b9 v32 2 (Int.toNat (j : Int))).block, (b9 v32 2 (Int.toNat (j : Int))).off + 1, none⟩)) (wy (df q91)) (c4 Try.underlying45 rfl rfl rfl rfl) (lv (vi ((gI (az p) (j : Int)).2)) (wy (df q91)) (bV (α := (Int) × (Int)) (xs := az p) (v := v32) (i := (j : Int)) ar rfl o33.flat (by omega) (by omega) (by decide) rfl) ?_))))
    refine lv (Value.bool (decide (524288 < ((gI (az p) (j : Int)).2)))) (wy (df q91)) (c8 (m := (gI (az p) (j : Int)).2) (n := 524288) rfl rfl) (lw (Value.bool (decide (524288 < ((gI (az p) (j : Int)).2)))) (aE rfl (df q91) rfl) (aa ?_))
    by_cases p9 : 524288 < ((gI (az p) (j : Int)).2)
    ·
     refine ah rfl (dt p9) (a7 ?_)
     clear bx5 bx10 bx15 o33
     refine a6 rfl (ma (Value.bool true) (aa (al (vs := [Value.bool true]) Try.func4 (.tmp rfl .nil) ?_)))
     have e0 : (true : Bool) = (true) := by
       rfl
     exact ⟨(congrArg (a₁ := true) (fun (z0 : Bool) => Ending.returned (Value.bool z0)) e0), bH.below⟩
    refine aj rfl (df p9) (ao (aq (a6 rfl (mz zs10 (lx (aW (m := (j : Int)) (n := 1) rfl rfl (by omega)) (ai ((j : Int) + 1) (aa ?_)))))))
    refine back7 (j + 1, g39) _ _ ⟨bH, zs3, zs4, zs5, zs6, zs9, rfl, Rg, Rp, r_p_v1, Rto_, bx5, bx10, bx15, o33, by omega, ?_⟩ ?_
    · show ∀ i : Nat, i < (j + 1) → dg (gI (az p) (i : Int))
      intro i hi
      by_cases e0 : i = j
      · subst e0; unfold dg; omega
      · exact hsj i (by omega)
    · show Int.toNat (((List.length (az p) : Int) : Int) - ((j + 1) : Int)) < Int.toNat (((List.length (az p) : Int) : Int) - (j : Int))
      omega
   refine aj rfl (df p7) (aR rfl (a7 ?_))
   clear o33
   have hsm := tA hsj ‹_›
   refine a6 rfl (lx (ad (ds := [vi g.1, g_v]) ct zs4 bx5 rfl rfl) (mz zs3 (lo (cC (aB (vals := [vg [vi g.1, g_v], to__v]) Try.func17 rS rn rfl) (o9 w38 g g_v (Rg).ro to_ to__v (Rto_).ro ‹_›) ?_))))
   rintro ⟨d42, v44⟩ w41 ⟨fr43, o45⟩
   obtain ⟨g46, ch47, G46⟩ := nf g39 fr43 (fun n => if n = 1 then 5 else 0)
   replace o45 := o45.gl G46 5
   refine mv (vt [vg [vi (((aA g to_).1).1), v44], vi ((aA g to_).2)]) (lx (aZ rfl rfl) (lx (aZ rfl rfl) (lo (aQ g46 (is 6) (6, 0) rfl ct ?_))))
   intro g51 w48 b50 ch49 bx52
   replace bx52 : Bx g51 (is 6) w48 b50 [vi 0, vn] := bx52
   refine lo ?_
   replace o45 := o45.cn ch49
   refine ag (cs' := [vi (((aA g to_).1).1), v44]) ct rfl rfl bx52 rfl (Nat.le_of_ble_eq_true rfl) (AllOne.all (.cons rfl (.cons (bZ o45.flat) .nil))) rfl ?_
   intro w53 ch54 bx55
   clear bx52
   refine ai ((aA g to_).2) (aa (a7 (a7 (a6 rfl (mi ((aA g to_).2) (lx (dK (m := (aA g to_).2) (n := 0) rfl rfl) (mv (Value.bool (!(decide (((aA g to_).2) = 0)))) ?_)))))))
   by_cases q107 : ((aA g to_).2) = 0
   ·
    obtain ⟨hmi, hml, hmr, hmn⟩ := fT hm q107
    refine lv (vp b8 0) (wy (congrArg Bool.not (dt q107))) (a8 Try.underlying28 rfl rfl zs5 rfl) ?_
    have C56 := cg [6] (ch47.n.seq (ch49.n.seq (ch54.l rfl)))
    replace bx10 := bx10.ca C56
    refine lv (p_v) (wy (congrArg Bool.not (dt q107))) (af bl rfl bx10 rfl) ?_
    replace Rp := Rp.ca C56
    have len57 := (Rp).small
    refine lv (vi (p.1.length : Int)) (wy (congrArg Bool.not (dt q107))) (bb Try.underlying25 rfl Rp) (lv (vp b3 0) (wy (congrArg Bool.not (dt q107))) (a8 Try.underlying24 rfl rfl zs4 rfl) ?_)
    replace bx5 := bx5.ca C56
    refine lv (vi g.1) (wy (congrArg Bool.not (dt q107))) (af ar rfl bx5 rfl) (lv (Value.bool (!(decide ((p.1.length : Int) = g.1)))) (wy (congrArg Bool.not (dt q107))) (dK (m := (p.1.length : Int)) (n := g.1) rfl rfl) (lw (Value.bool (!(decide ((p.1.length : Int) = g.1)))) (aE rfl (congrArg Bool.not (dt q107)) rfl) (aa ?_)))
    by_cases p12 : (p.1.length : Int) = g.1
    ·
     refine aj rfl (congrArg Bool.not (dt p12)) (ao (a7 (a6 rfl (lx (a8 Try.underlying24 rfl rfl zs4 rfl) (lx (af ar rfl bx5 rfl) (lo (kd (α := (Int) × (Int)) (l := g.1) (cp := g.1) g51 (is 7) (is 7) (7, 0) rfl ((0 : Int), (0 : Int)) Try.underlying25 ae rfl rfl rfl (by omega) (by omega) (by omega) (by omega) ?_)))))))
     intro g58 w59 v60 ch61 o62 _
     refine lw (vg [v60, vn]) (bF (vs := [(0, v60)]) rfl (by rw [Sl.form o62.flat]; kernel_rfl)) (lo (aQ g58 (is 8) (8, 0) rfl ci ?_))
     intro g66 w63 b65 ch64 bx67
     replace bx67 : Bx g66 (is 8) w63 b65 [vn, vn] := bx67
     refine lo ?_
     replace o62 := o62.cn ch64
     refine ag (cs' := [v60, vn]) ci rfl rfl bx67 rfl (Nat.le_of_ble_eq_true rfl) (AllOne.all (.cons (bZ o62.flat) (.cons rfl .nil))) rfl ?_
     intro w68 ch69 bx70
     clear bx67
     refine aa (a7 (a7 (a6 rfl (ai 0 (aa (au ?_))))))
     refine aX (σ := Nat × (List ((Int) × (Int))) × aM) (fun ⟨v, qA, gq⟩ f w => bc w0 gq w ∧ f 3 = to__v ∧ f 4 = vp b3 0 ∧ f 5 = vp b8 0 ∧ f 6 = vp b13 0 ∧ f 11 = vp b50 0 ∧ f 13 = vp b65 0 ∧ f 14 = vi (v : Int) ∧ Sl gq (is 0) w g_v g.2 ∧ Sl gq (is 0) w p_v p.1 ∧ Sl gq (is 0) w p_v1 p.2 ∧ Sl gq (is 0) w to__v to_ ∧ Bx gq (is 1) w b3 [vi g.1, g_v] ∧ Bx gq (is 2) w b8 [p_v, p_v1] ∧ Bx gq (is 3) w b13 [vi by_.1, vi by_.2] ∧ Ow gq (is 5) (is 5) w v44 (((aA g to_).1).2) ∧ Bx gq (is 6) w b50 [vi (((aA g to_).1).1), v44] ∧ Ow gq (is 7) (is 7) w v60 qA ∧ Bx gq (is 8) w b65 [v60, vn] ∧ (v : Int) ≤ (g.1 : Int) ∧ (qY g p to_ by_ qA v)) (fun ⟨v, qA, gq⟩ => Int.toNat ((g.1 : Int) - (v : Int))) (0, (List.replicate (Int.toNat g.1) ((0 : Int), (0 : Int))), g66) ?_ ?_
     have C73 := cg [6, 8] ((ch54.l rfl).seq (ch61.n.seq (ch64.n.seq (ch69.l rfl))))
     have C71 := ch47.n.seq (ch49.n.seq C73)
     have C72 := cg [8] (ch61.n.seq (ch64.n.seq (ch69.l rfl)))
     · exact ⟨bH.ca C71, zs3, zs4, zs5, zs6, rfl, rfl, rfl, Rg.ca C71, Rp.ca C72, r_p_v1.ca C71, Rto_.ca C71, bx5.ca C72, bx10.ca C72, bx15.ca C71, o45.ca C73, bx55.ca C72, o62.ce ch69, bx70, by omega, by exact qY.start⟩
     clear Rg Rp r_p_v1 Rto_ bx5 bx10 bx15 o45 bx55 o62 bx70 bH
     rintro ⟨v, qA, g76⟩ f74 w75 ⟨bH, zs3, zs4, zs5, zs6, zs11, zs13, zs14, Rg, Rp, r_p_v1, Rto_, bx5, bx10, bx15, o45, bx55, o62, bx70, hle_v, hqa⟩ back16
     have hal := hqa.1
     refine a7 (a7 (a6 rfl (mz zs14 (lx (a8 Try.underlying24 rfl rfl zs4 rfl) (lx (af ar rfl bx5 rfl) (lx (b6 (m := (v : Int)) (n := g.1) rfl rfl) (aa ?_)))))))
     by_cases p16 : (v : Int) < g.1
     ·
      refine ah rfl (dt p16) ?_
      have htv := hmr _ (aV (xs := to_) (i := (v : Int)) (by omega) (by omega))
      have hsv := td hsm (v := (v : Int)) (by omega) (by omega)
      unfold dg at hsv
      refine ao (a7 (au (dj g76 (bM [7]) lD ?_)))
      intro w78 ch77
      refine ht 0 rfl (aL.refl _ _ _) (fun w' hw' => a8 Try.underlying28 rfl rfl zs13 rfl) ?_
      replace bx70 := bx70.cn ch77
      refine ht 1 rfl (aL.refl _ _ _) (fun w' hw' => af bl rfl (bx70.chg hw' (bg rfl)) rfl) (ht (v := to__v) 2 rfl (aL.refl _ _ _) (fun w' hw' => aF zs3) (ht (v := vi (v : Int)) 3 rfl (aL.refl _ _ _) (fun w' hw' => aF zs14) ?_))
      replace Rto_ := Rto_.cn ch77
      refine ht 4 rfl (aL.refl _ _ _) (fun w' hw' => am (v := to__v) (i := (v : Int)) Try.underlying39 rfl rfl (Rto_.chg hw' (bg rfl)) rfl (by omega) (by omega)) (ht 5 rfl (aL.refl _ _ _) (fun w' hw' => br (v := to__v) (i := (v : Int)) ar rfl (Rto_.chg hw' (bg rfl)) (by omega) (by omega) (by decide) rfl) (ht 6 rfl (aL.refl _ _ _) (fun w' hw' => a8 Try.underlying28 rfl rfl zs5 rfl) ?_))
      replace bx10 := bx10.cn ch77
      refine ht 7 rfl (aL.refl _ _ _) (fun w' hw' => af bl rfl (bx10.chg hw' (bg rfl)) rfl) (ht (v := vi (v : Int)) 8 rfl (aL.refl _ _ _) (fun w' hw' => aF zs14) ?_)
      replace Rp := Rp.cn ch77
      refine ht 9 rfl (aL.refl _ _ _) (fun w' hw' => am (v := p_v) (i := (v : Int)) Try.underlying25 rfl rfl (Rp.chg hw' (bg rfl)) rfl (by omega) (by omega)) (ht (v := Value.pointer (some ⟨(b9 p_v 2 (Int.toNat (v : Int))).block, (b9 p_v 2 (Int.toNat (v : Int))).off + 0, none⟩)) 10 rfl (aL.refl _ _ _) (fun w' hw' => c4 Try.underlying45 rfl rfl rfl rfl) (ht 11 rfl (aL.refl _ _ _) (fun w' hw' => bV (v := p_v) (i := (v : Int)) ar rfl (Rp.chg hw' (bg rfl)) (by omega) (by omega) (by decide) rfl) (ht 12 rfl (aL.refl _ _ _) (fun w' hw' => a8 Try.underlying45 rfl rfl zs6 rfl) ?_)))
      replace bx15 := bx15.cn ch77
      refine ht 13 rfl (aL.refl _ _ _) (fun w' hw' => af ar rfl (bx15.chg hw' (bg rfl)) rfl) (ht 14 rfl (aL.refl _ _ _) (fun w' hw' => aW (m := (gI p.1 (v : Int)).1) (n := by_.1) rfl rfl (by omega)) (ht 15 rfl (aL.refl _ _ _) (fun w' hw' => a8 Try.underlying28 rfl rfl zs5 rfl) (ht 16 rfl (aL.refl _ _ _) (fun w' hw' => af bl rfl (bx10.chg hw' (bg rfl)) rfl) (ht (v := vi (v : Int)) 17 rfl (aL.refl _ _ _) (fun w' hw' => aF zs14) (ht 18 rfl (aL.refl _ _ _) (fun w' hw' => am (v := p_v) (i := (v : Int)) Try.underlying25 rfl rfl (Rp.chg hw' (bg rfl)) rfl (by omega) (by omega)) (ht (v := Value.pointer (some ⟨(b9 p_v 2 (Int.toNat (v : Int))).block, (b9 p_v 2 (Int.toNat (v : Int))).off + 1, none⟩)) 19 rfl (aL.refl _ _ _) (fun w' hw' => c4 Try.underlying45 rfl rfl rfl rfl) ?_))))))
      refine ht 20 rfl (aL.refl _ _ _) (fun w' hw' => bV (v := p_v) (i := (v : Int)) ar rfl (Rp.chg hw' (bg rfl)) (by omega) (by omega) (by decide) rfl) (ht 21 rfl (aL.refl _ _ _) (fun w' hw' => a8 Try.underlying45 rfl rfl zs6 rfl) (ht 22 rfl (aL.refl _ _ _) (fun w' hw' => af ar rfl (bx15.chg hw' (bg rfl)) rfl) (ht 23 rfl (aL.refl _ _ _) (fun w' hw' => aW (m := (gI p.1 (v : Int)).2) (n := by_.2) rfl rfl (by omega)) (aC 24 rfl (by kernel_rfl) rfl (aG (v := vg [vi (((gI p.1 (v : Int)).1) + by_.1), vi (((gI p.1 (v : Int)).2) + by_.2)]) (aB (vals := [vi (((gI p.1 (v : Int)).1) + by_.1), vi (((gI p.1 (v : Int)).2) + by_.2)]) Try.func18 dO dM rfl) (dN w78 (((gI p.1 (v : Int)).1) + by_.1) (((gI p.1 (v : Int)).2) + by_.2)) ?_)))))
      intro w79 hb80
      replace hb80 := ak hb80 g76
      have hs81 : aL (bM [7]) _ _ _ _ := hb80.n
      refine ⟨hs81.same, ?_⟩
      refine aC 25 rfl (by kernel_rfl) rfl ?_
      replace o62 := (o62.cn ch77).cn hb80
      refine aI (v := Value.pointer (some (b9 v60 2 (Int.toNat (gI to_ (v : Int)))))) (am (α := (Int) × (Int)) (xs := qA) (v := v60) (i := (gI to_ (v : Int))) Try.underlying25 rfl rfl o62.flat rfl (by omega) (by omega)) ?_
      refine ⟨hs81.same, ?_⟩
      refine aC 26 rfl (by kernel_rfl) rfl (eh (i := (gI to_ (v : Int))) ((((gI p.1 (v : Int)).1) + by_.1), (((gI p.1 (v : Int)).2) + by_.2)) ae rfl rfl o62 (by omega) (by omega) rfl ?_)
      intro w82 ch83 bx84
      clear o62
      have hs85 := hs81.seq (ch83.l rfl)
      refine ⟨hs85.same, ?_⟩
      refine bm (by kernel_rfl) (aq (a6 rfl (mz zs14 (lx (aW (m := (v : Int)) (n := 1) rfl rfl (by omega)) (ai ((v : Int) + 1) (aa ?_))))))
      have C86 := cg [7] (ch77.n.seq (hb80.n.seq (ch83.l rfl)))
      refine back16 (v + 1, (List.set qA (Int.toNat (gI to_ (v : Int))) ((((gI p.1 (v : Int)).1) + by_.1), (((gI p.1 (v : Int)).2) + by_.2))), g76) _ _ ⟨bH.ca C86, zs3, zs4, zs5, zs6, zs11, zs13, rfl, Rg.ca C86, (Rp.cn hb80).ce ch83, r_p_v1.ca C86, (Rto_.cn hb80).ce ch83, bx5.ca C86, (bx10.cn hb80).ce ch83, (bx15.cn hb80).ce ch83, o45.ca C86, bx55.ca C86, bx84, (bx70.cn hb80).ce ch83, by omega, ?_⟩ ?_
      · show qY g p to_ by_ (List.set qA (Int.toNat (gI to_ (v : Int))) ((((gI p.1 (v : Int)).1) + by_.1), (((gI p.1 (v : Int)).2) + by_.2))) (v + 1)
        exact hqa.next hmn hmr (by omega)
      · show Int.toNat ((g.1 : Int) - ((v + 1) : Int)) < Int.toNat ((g.1 : Int) - (v : Int))
        omega
     refine aj rfl (df p16) (aR rfl (a7 (a7 (a6 rfl (ai 0 (aa (au ?_)))))))
     refine aX (σ := Value × (List (List ((Int) × (Int)))) × Nat × aM) (fun ⟨qL_v, qL, e, gq⟩ f w => bc w0 gq w ∧ f 4 = vp b3 0 ∧ f 5 = vp b8 0 ∧ f 6 = vp b13 0 ∧ f 11 = vp b50 0 ∧ f 13 = vp b65 0 ∧ f 15 = vi (e : Int) ∧ Sl gq (is 0) w g_v g.2 ∧ Sl gq (is 0) w p_v p.1 ∧ Sl gq (is 0) w p_v1 p.2 ∧ Sl gq (is 0) w to__v to_ ∧ Bx gq (is 1) w b3 [vi g.1, g_v] ∧ Bx gq (is 2) w b8 [p_v, p_v1] ∧ Bx gq (is 3) w b13 [vi by_.1, vi by_.2] ∧ Ow gq (is 5) (is 5) w v44 (((aA g to_).1).2) ∧ Bx gq (is 6) w b50 [vi (((aA g to_).1).1), v44] ∧ Ow gq (is 7) (is 7) w v60 qA ∧ Bx gq (is 8) w b65 [v60, qL_v] ∧ dZ gq 12 w qL_v qL ∧ (e : Int) ≤ ((p.2.length : Int) : Int) ∧ (qL = (p.2.take e).map (List.map fun a => cr a by_))) (fun ⟨qL_v, qL, e, gq⟩ => Int.toNat (((p.2.length : Int) : Int) - (e : Int))) (vn, [], 0, g76) ?_ ?_
     · exact ⟨bH, zs4, zs5, zs6, zs11, zs13, rfl, Rg, Rp, r_p_v1, Rto_, bx5, bx10, bx15, o45, bx55, o62, bx70, dZ.nil, by omega, by rfl⟩
     clear Rg Rp r_p_v1 Rto_ bx5 bx10 bx15 o45 bx55 o62 bx70 bH
     rintro ⟨qL_v, qL, e, g89⟩ f87 w88 ⟨bH, zs4, zs5, zs6, zs11, zs13, zs15, Rg, Rp, r_p_v1, Rto_, bx5, bx10, bx15, o45, bx55, o62, bx70, o_qL, hle_e, hql⟩ back20
     have hbl := th hql
     refine a7 (a7 (a6 rfl (mz zs15 (lx (a8 Try.underlying28 rfl rfl zs5 rfl) (lx (af c7 rfl bx10 rfl) ?_)))))
     have len90 := (r_p_v1).small
     refine lx (bb Try.underlying26 rfl r_p_v1) (lx (b6 (m := (e : Int)) (n := (p.2.length : Int)) rfl rfl) (aa ?_))
     by_cases p20 : (e : Int) < (p.2.length : Int)
     ·
      refine ah rfl (dt p20) ?_
      have hle := hp6 (e : Int) (by omega) ‹_›
      refine ao (a7 (au (a7 (a6 rfl (ma vn (aa (a7 (a7 (a6 rfl (ai 0 (aa (au ?_))))))))))))
      refine aX (σ := Value × (List ((Int) × (Int))) × Nat × aM) (fun ⟨l_v, l, k, gq⟩ f w => bc w0 gq w ∧ f 4 = vp b3 0 ∧ f 5 = vp b8 0 ∧ f 6 = vp b13 0 ∧ f 11 = vp b50 0 ∧ f 13 = vp b65 0 ∧ f 15 = vi (e : Int) ∧ f 16 = l_v ∧ f 17 = vi (k : Int) ∧ Sl gq (is 0) w g_v g.2 ∧ Sl gq (is 0) w p_v p.1 ∧ Sl gq (is 0) w p_v1 p.2 ∧ Sl gq (is 0) w to__v to_ ∧ Bx gq (is 1) w b3 [vi g.1, g_v] ∧ Bx gq (is 2) w b8 [p_v, p_v1] ∧ Bx gq (is 3) w b13 [vi by_.1, vi by_.2] ∧ Ow gq (is 5) (is 5) w v44 (((aA g to_).1).2) ∧ Bx gq (is 6) w b50 [vi (((aA g to_).1).1), v44] ∧ Ow gq (is 7) (is 7) w v60 qA ∧ Bx gq (is 8) w b65 [v60, qL_v] ∧ dZ gq 12 w qL_v qL ∧ Ow gq (is 10) (is 10) w l_v l ∧ (k : Int) ≤ ((List.length (gI p.2 (e : Int)) : Int) : Int) ∧ (l = ((gI p.2 (e : Int)).take k).map fun a => cr a by_)) (fun ⟨l_v, l, k, gq⟩ => Int.toNat (((List.length (gI p.2 (e : Int)) : Int) : Int) - (k : Int))) (vn, [], 0, g89) ?_ ?_
      · exact ⟨bH, zs4, zs5, zs6, zs11, zs13, zs15, rfl, rfl, Rg, Rp, r_p_v1, Rto_, bx5, bx10, bx15, o45, bx55, o62, bx70, o_qL, Ow.nil, by omega, by simp⟩
      clear Rg Rp r_p_v1 Rto_ bx5 bx10 bx15 o45 bx55 o62 bx70 o_qL bH
      rintro ⟨l_v, l, k, g93⟩ f91 w92 ⟨bH, zs4, zs5, zs6, zs11, zs13, zs15, zs16, zs17, Rg, Rp, r_p_v1, Rto_, bx5, bx10, bx15, o45, bx55, o62, bx70, o_qL, o_l, hle_k, hqk⟩ back24
      have hcl := tG hqk
      refine a7 (a7 (a6 rfl (mz zs17 (lx (a8 Try.underlying28 rfl rfl zs5 rfl) (lx (af c7 rfl bx10 rfl) (mz zs15 (lx (am (v := p_v1) (i := (e : Int)) Try.underlying26 rfl rfl r_p_v1 rfl (by omega) (by omega)) ?_)))))))
      obtain ⟨v94, cel95, r96⟩ := dy (r := (e : Int)) r_p_v1 (by omega) (by omega)
      refine lx (ck bl rfl cel95) ?_
      have len97 := (r96).small
      refine lx (bb Try.underlying25 rfl r96) (lx (b6 (m := (k : Int)) (n := (List.length (gI p.2 (e : Int)) : Int)) rfl rfl) (aa ?_))
      by_cases p24 : (k : Int) < (List.length (gI p.2 (e : Int)) : Int)
      ·
       refine ah rfl (dt p24) ?_
       have hsv := sW hsm (e := (e : Int)) (k := (k : Int)) (by omega) (by omega) (by omega) ‹_›
       unfold dg at hsv
       refine ao (a7 (au ?_))
       clear r96
       refine fL g93 [0, 1, 2, 3, 4, 5, 6, 7, 8, 9, 10, 11, 12, 13, 14, 15, 16, 17, 18, 19, 20, 21, 22, 23, 24, 28] lD ?_
       intro w99 ch98
       refine xp (v := l_v) 0 rfl (fun w => aF zs16) (xp 1 rfl (fun w => a8 Try.underlying28 rfl rfl zs5 rfl) ?_)
       replace bx10 := bx10.cn ch98
       refine xv 2 [1, 0, 3, 6, 10, 13, 15, 18, 22, 11, 14, 23, 16, 17, 19, 20, 21, 24] rfl (af c7 rfl bx10 rfl) (xp (v := vi (e : Int)) 3 rfl (fun w => aF zs15) ?_)
       replace r_p_v1 := r_p_v1.cn ch98
       refine xv 4 [3, 2, 1, 0, 6, 10, 13, 15, 18, 22, 11, 14, 23, 16, 17, 19, 20, 21, 24] rfl (am (v := p_v1) (i := (e : Int)) Try.underlying26 rfl rfl r_p_v1 rfl (by omega) (by omega)) ?_
       obtain ⟨v100, cel101, r102⟩ := dy (r := (e : Int)) r_p_v1 (by omega) (by omega)
       refine xv 5 [4, 3, 2, 1, 0, 6, 10, 13, 15, 18, 22, 11, 14, 23, 16, 17, 19, 20, 21, 24] rfl (ck bl rfl cel101) (xp (v := vi (k : Int)) 6 rfl (fun w => aF zs17) (xv 7 [6, 5, 4, 3, 2, 1, 0, 10, 13, 15, 18, 22, 11, 14, 23, 16, 17, 19, 20, 21, 24] rfl (am (v := v100) (i := (k : Int)) Try.underlying25 rfl rfl r102 rfl (by omega) (by omega)) (xp (v := Value.pointer (some ⟨(b9 v100 2 (Int.toNat (k : Int))).block, (b9 v100 2 (Int.toNat (k : Int))).off + 0, none⟩)) 8 rfl (fun w => c4 Try.underlying45 rfl rfl rfl rfl) (xv 9 [8, 7, 6, 5, 4, 3, 2, 1, 0, 10, 13, 15, 18, 22, 11, 14, 23, 16, 17, 19, 20, 21, 24] rfl (bV (v := v100) (i := (k : Int)) ar rfl r102 (by omega) (by omega) (by decide) rfl) (xp 10 rfl (fun w => a8 Try.underlying45 rfl rfl zs6 rfl) ?_)))))
       replace bx15 := bx15.cn ch98
       refine xv 11 [10, 9, 8, 7, 6, 5, 4, 3, 2, 1, 0, 13, 15, 18, 22, 14, 23, 16, 17, 19, 20, 21, 24] rfl (af ar rfl bx15 rfl) (xp 12 rfl (fun w => aW (m := (gI (gI p.2 (e : Int)) (k : Int)).1) (n := by_.1) rfl rfl (by omega)) (xp 13 rfl (fun w => a8 Try.underlying28 rfl rfl zs5 rfl) (xv 14 [13, 12, 11, 10, 9, 8, 7, 6, 5, 4, 3, 2, 1, 0, 15, 18, 22, 23] rfl (af c7 rfl bx10 rfl) (xp (v := vi (e : Int)) 15 rfl (fun w => aF zs15) (xv 16 [15, 14, 13, 12, 11, 10, 9, 8, 7, 6, 5, 4, 3, 2, 1, 0, 18, 22, 23] rfl (am (v := p_v1) (i := (e : Int)) Try.underlying26 rfl rfl r_p_v1 rfl (by omega) (by omega)) ?_)))))
       obtain ⟨v103, cel104, r105⟩ := dy (r := (e : Int)) r_p_v1 (by omega) (by omega)
       refine xv 17 [16, 15, 14, 13, 12, 11, 10, 9, 8, 7, 6, 5, 4, 3, 2, 1, 0, 18, 22, 23] rfl (ck bl rfl cel104) (xp (v := vi (k : Int)) 18 rfl (fun w => aF zs17) (xv 19 [18, 17, 16, 15, 14, 13, 12, 11, 10, 9, 8, 7, 6, 5, 4, 3, 2, 1, 0, 22, 23] rfl (am (v := v103) (i := (k : Int)) Try.underlying25 rfl rfl r105 rfl (by omega) (by omega)) (xp (v := Value.pointer (some ⟨(b9 v103 2 (Int.toNat (k : Int))).block, (b9 v103 2 (Int.toNat (k : Int))).off + 1, none⟩)) 20 rfl (fun w => c4 Try.underlying45 rfl rfl rfl rfl) (xv 21 [20, 19, 18, 17, 16, 15, 14, 13, 12, 11, 10, 9, 8, 7, 6, 5, 4, 3, 2, 1, 0, 22, 23] rfl (bV (v := v103) (i := (k : Int)) ar rfl r105 (by omega) (by omega) (by decide) rfl) (xp 22 rfl (fun w => a8 Try.underlying45 rfl rfl zs6 rfl) ?_)))))
       refine xv 23 [22, 21, 20, 19, 18, 17, 16, 15, 14, 13, 12, 11, 10, 9, 8, 7, 6, 5, 4, 3, 2, 1, 0] rfl (af ar rfl bx15 rfl) (xp 24 rfl (fun w => aW (m := (gI (gI p.2 (e : Int)) (k : Int)).2) (n := by_.2) rfl rfl (by omega)) (jp 25 rfl (by kernel_rfl) rfl (aG (v := vg [vi (((gI (gI p.2 (e : Int)) (k : Int)).1) + by_.1), vi (((gI (gI p.2 (e : Int)) (k : Int)).2) + by_.2)]) (aB (vals := [vi (((gI (gI p.2 (e : Int)) (k : Int)).1) + by_.1), vi (((gI (gI p.2 (e : Int)) (k : Int)).2) + by_.2)]) Try.func18 dO dM rfl) (dN w99 (((gI (gI p.2 (e : Int)) (k : Int)).1) + by_.1) (((gI (gI p.2 (e : Int)) (k : Int)).2) + by_.2)) ?_)))
       intro w106 hb107
       replace hb107 := ak hb107 g93
       refine jp 26 rfl (by kernel_rfl) rfl (aN (α := (Int) × (Int)) g93 (is 9) (is 9) (9, 0) rfl ([((((gI (gI p.2 (e : Int)) (k : Int)).1) + by_.1), (((gI (gI p.2 (e : Int)) (k : Int)).2) + by_.2))] : List ((Int) × (Int))) Try.underlying25 ae (by decide) (by decide) (vs := [(0, vg [vi (((gI (gI p.2 (e : Int)) (k : Int)).1) + by_.1), vi (((gI (gI p.2 (e : Int)) (k : Int)).2) + by_.2)])]) rfl rfl (.cons rfl .nil) ?_)
       intro g108 w109 v110 ch111 o112
       refine jp 27 rfl (by kernel_rfl) rfl ?_
       have C113 := cg [] (ch98.n.seq (hb107.n.seq ch111.n))
       replace o_l := o_l.ca C113
       refine bj (α := (Int) × (Int)) (xs := l) (ys := ([((((gI (gI p.2 (e : Int)) (k : Int)).1) + by_.1), (((gI (gI p.2 (e : Int)) (k : Int)).2) + by_.2))] : List ((Int) × (Int)))) g108 (J := is 10) (S := is 10) (10, 0) rfl Try.underlying25 ae (by decide) rfl rfl rfl o_l o112.flat (by decide) (by (simp; omega)) ?_
       intro g114 w115 v116 ch117 o118
       clear o_l
       refine xp (v := v116) 28 rfl (fun w => bf rfl) (oR (by kernel_rfl) (aq ?_))
       clear r102 r105 o112
       refine a6 rfl (mz zs17 (lx (aW (m := (k : Int)) (n := 1) rfl rfl (by omega)) (ai ((k : Int) + 1) (aa ?_))))
       have C120 := cg [10] (hb107.n.seq (ch111.n.seq (ch117.l rfl)))
       have C119 := ch98.n.seq C120
       refine back24 (v116, (l ++ ([((((gI (gI p.2 (e : Int)) (k : Int)).1) + by_.1), (((gI (gI p.2 (e : Int)) (k : Int)).2) + by_.2))] : List ((Int) × (Int)))), k + 1, g114) _ _ ⟨bH.ca C119, zs4, zs5, zs6, zs11, zs13, zs15, rfl, rfl, Rg.ca C119, Rp.ca C119, r_p_v1.ca C120, Rto_.ca C119, bx5.ca C119, bx10.ca C120, bx15.ca C120, o45.ca C119, bx55.ca C119, o62.ca C119, bx70.ca C119, o_qL.ca C119, o118, by omega, ?_⟩ ?_
       · show (l ++ ([((((gI (gI p.2 (e : Int)) (k : Int)).1) + by_.1), (((gI (gI p.2 (e : Int)) (k : Int)).2) + by_.2))] : List ((Int) × (Int)))) = ((gI p.2 (e : Int)).take (k + 1)).map fun a => cr a by_
         exact qy hqk ‹_›
       · show Int.toNat (((List.length (gI p.2 (e : Int)) : Int) : Int) - ((k + 1) : Int)) < Int.toNat (((List.length (gI p.2 (e : Int)) : Int) : Int) - (k : Int))
         omega
      refine aj rfl (df p24) (aR rfl ?_)
      clear r96
      refine a6 rfl (lx (a8 Try.underlying28 rfl rfl zs13 rfl) (lx (af c7 rfl bx70 rfl) (mz zs16 (lo ?_))))
      obtain ⟨c121, hv122⟩ := n4 (u := l_v) (bZ o_l.flat)
      refine aN (α := Vc) g93 (is 11) (is 11) (11, 0) rfl [c121] Try.underlying26 bl (by decide) (by decide) (vs := [(0, l_v)]) rfl rfl (.cons (jV hv122 (bP o_l.flat)) .nil) ?_
      intro g123 w124 v125 ch126 o127
      refine lo ?_
      replace o_qL := o_qL.cn ch126
      replace o_l := o_l.cn ch126
      refine jT hv122 (α := (Int) × (Int)) (xss := qL) (i := 12) (γ := g123) Try.underlying26 bl rfl rfl rfl o_qL (o127.flat) o_l rfl (by decide) (by omega) ?_
      intro g128 w129 v130 ch131 o132 r133
      clear o_qL o_l
      refine lx (a8 Try.underlying28 rfl rfl zs13 rfl) (lo ?_)
      replace bx70 := (bx70.cn ch126).chg ch131 (se rfl rfl)
      refine bO (cs' := [v60, v130]) c7 rfl rfl bx70 (bP o132.sl) (Nat.le_of_ble_eq_true rfl) (bZ o132.sl) rfl ?_
      intro w134 ch135 bx136
      clear bx70
      refine aa (aq ?_)
      clear o127 r133
      refine a6 rfl (mz zs15 (lx (aW (m := (e : Int)) (n := 1) rfl rfl (by omega)) (ai ((e : Int) + 1) (aa ?_))))
      have C137 := cg [8, 10, 12] (ch126.n.seq ((ch131.lx rfl rfl).seq (ch135.l rfl)))
      refine back20 (v130, (qL ++ [l]), e + 1, g128) _ _ ⟨bH.ca C137, zs4, zs5, zs6, zs11, zs13, rfl, Rg.ca C137, Rp.ca C137, r_p_v1.ca C137, Rto_.ca C137, bx5.ca C137, bx10.ca C137, bx15.ca C137, o45.ca C137, bx55.ca C137, o62.ca C137, bx136, o132.ce ch135, by omega, ?_⟩ ?_
      · show (qL ++ [l]) = (p.2.take (e + 1)).map (List.map fun a => cr a by_)
        exact qD hql ‹_› hqk ‹_›
      · show Int.toNat (((p.2.length : Int) : Int) - ((e + 1) : Int)) < Int.toNat (((p.2.length : Int) : Int) - (e : Int))
        omega
     refine aj rfl (df p20) (aR rfl (a7 ?_))
     clear bx15
     have hMV := rL hm q107 (t := by_) (by omega) hsm ‹_› hqa ‹_› hql ‹_›
     refine a6 rfl (lx (ad (ds := [vi g.1, g_v]) ct zs4 bx5 rfl rfl) (lx (ad (ds := [p_v, p_v1]) ci zs5 bx10 rfl rfl) (lo (cC (aB (vals := [vg [vi g.1, g_v], vg [p_v, p_v1]]) Try.func11 iW j0 rfl) (il w88 g g_v (Rg).ro p p_v p_v1 (Rp).ro (r_p_v1).ro) ?_))))
     rintro ⟨d139, v141⟩ w138 ⟨fr140, o142⟩
     obtain ⟨g143, ch144, G143⟩ := nf g89 fr140 (fun n => if n = 1 then 13 else 0)
     replace o142 := o142.gl G143 13
     refine mv (vt [v141, vi ((aJ g p).2)]) (lx (aZ rfl rfl) (lx (aZ rfl rfl) (ma v141 (ai ((aJ g p).2) (aa (a7 (a6 rfl ?_)))))))
     replace bx55 := bx55.cn ch144
     refine lx (ad (ds := [vi (((aA g to_).1).1), v44]) ct zs11 bx55 rfl rfl) ?_
     replace bx70 := bx70.cn ch144
     refine lx (ad (ds := [v60, qL_v]) ci zs13 bx70 rfl rfl) ?_
     replace o45 := o45.cn ch144
     replace o62 := o62.cn ch144
     replace o_qL := o_qL.cn ch144
     refine lo (cC (aB (vals := [vg [vi (((aA g to_).1).1), v44], vg [v60, qL_v]]) Try.func11 iW j0 rfl) (il w138 ((aA g to_).1) v44 (o45.flat).ro (qA, qL) v60 qL_v (o62.flat).ro (o_qL.sl).ro) ?_)
     rintro ⟨d146, v148⟩ w145 ⟨fr147, o149⟩
     obtain ⟨g150, ch151, G150⟩ := nf g143 fr147 (fun n => if n = 1 then 14 else 0)
     replace o149 := o149.gl G150 14
     refine mv (vt [v148, vi ((aJ ((aA g to_).1) (qA, qL)).2)]) (lx (aZ rfl rfl) (lx (aZ rfl rfl) (ma v148 (ai ((aJ ((aA g to_).1) (qA, qL)).2) (aa (a7 (a6 rfl ?_)))))))
     replace bx5 := (bx5.cn ch144).cn ch151
     refine lx (ad (ds := [vi g.1, g_v]) ct zs4 bx5 rfl rfl) ?_
     replace bx10 := (bx10.cn ch144).cn ch151
     refine lx (ad (ds := [p_v, p_v1]) ci zs5 bx10 rfl rfl) ?_
     replace Rg := (Rg.cn ch144).cn ch151
     replace Rp := (Rp.cn ch144).cn ch151
     replace r_p_v1 := (r_p_v1.cn ch144).cn ch151
     refine lo (aG (v := vt [vg [vi (((aw g p).1).1), vi ((((aw g p).1).2).1), vi (((((aw g p).1).2).2).1), Value.bool ((((((aw g p).1).2).2).2).1), Value.bool ((((((aw g p).1).2).2).2).2)], vi ((aw g p).2)]) (aB (vals := [vg [vi g.1, g_v], vg [p_v, p_v1]]) Try.func19 ke k7 rfl) (jc w145 g g_v (Rg).ro p p_v p_v1 (Rp).ro (r_p_v1).ro) ?_)
     intro w152 hb153
     replace hb153 := ak hb153 g150
     refine mv (vt [vg [vi (((aw g p).1).1), vi ((((aw g p).1).2).1), vi (((((aw g p).1).2).2).1), Value.bool ((((((aw g p).1).2).2).2).1), Value.bool ((((((aw g p).1).2).2).2).2)], vi ((aw g p).2)]) (lx (aZ rfl rfl) (lx (aZ rfl rfl) (lo (aQ g150 (is 15) (15, 0) rfl cx ?_))))
     intro g157 w154 b156 ch155 bx158
     replace bx158 : Bx g157 (is 15) w154 b156 [vi 0, vi 0, vi 0, Value.bool false, Value.bool false] := bx158
     refine lo (ag (cs' := [vi (((aw g p).1).1), vi ((((aw g p).1).2).1), vi (((((aw g p).1).2).2).1), Value.bool ((((((aw g p).1).2).2).2).1), Value.bool ((((((aw g p).1).2).2).2).2)]) cx rfl rfl bx158 rfl (Nat.le_of_ble_eq_true rfl) (AllOne.all (.cons rfl (.cons rfl (.cons rfl (.cons rfl (.cons rfl .nil)))))) rfl ?_)
     intro w159 ch160 bx161
     clear bx158
     refine ai ((aw g p).2) (aa (a7 ?_))
     clear bx5 bx10
     refine a6 rfl ?_
     have C162 := cg [15] (ch151.n.seq (hb153.n.seq (ch155.n.seq (ch160.l rfl))))
     replace bx55 := bx55.ca C162
     refine lx (ad (ds := [vi (((aA g to_).1).1), v44]) ct zs11 bx55 rfl rfl) ?_
     replace bx70 := bx70.ca C162
     refine lx (ad (ds := [v60, qL_v]) ci zs13 bx70 rfl rfl) ?_
     replace o45 := o45.ca C162
     replace o62 := o62.ca C162
     replace o_qL := o_qL.ca C162
     refine lo (aG (v := vt [vg [vi (((aw ((aA g to_).1) (qA, qL)).1).1), vi ((((aw ((aA g to_).1) (qA, qL)).1).2).1), vi (((((aw ((aA g to_).1) (qA, qL)).1).2).2).1), Value.bool ((((((aw ((aA g to_).1) (qA, qL)).1).2).2).2).1), Value.bool ((((((aw ((aA g to_).1) (qA, qL)).1).2).2).2).2)], vi ((aw ((aA g to_).1) (qA, qL)).2)]) (aB (vals := [vg [vi (((aA g to_).1).1), v44], vg [v60, qL_v]]) Try.func19 ke k7 rfl) (jc w159 ((aA g to_).1) v44 (o45.flat).ro (qA, qL) v60 qL_v (o62.flat).ro (o_qL.sl).ro) ?_)
     intro w163 hb164
     replace hb164 := ak hb164 g157
     refine mv (vt [vg [vi (((aw ((aA g to_).1) (qA, qL)).1).1), vi ((((aw ((aA g to_).1) (qA, qL)).1).2).1), vi (((((aw ((aA g to_).1) (qA, qL)).1).2).2).1), Value.bool ((((((aw ((aA g to_).1) (qA, qL)).1).2).2).2).1), Value.bool ((((((aw ((aA g to_).1) (qA, qL)).1).2).2).2).2)], vi ((aw ((aA g to_).1) (qA, qL)).2)]) (lx (aZ rfl rfl) (lx (aZ rfl rfl) (lo (aQ g157 (is 16) (16, 0) rfl cx ?_))))
     intro g168 w165 b167 ch166 bx169
     replace bx169 : Bx g168 (is 16) w165 b167 [vi 0, vi 0, vi 0, Value.bool false, Value.bool false] := bx169
     refine lo (ag (cs' := [vi (((aw ((aA g to_).1) (qA, qL)).1).1), vi ((((aw ((aA g to_).1) (qA, qL)).1).2).1), vi (((((aw ((aA g to_).1) (qA, qL)).1).2).2).1), Value.bool ((((((aw ((aA g to_).1) (qA, qL)).1).2).2).2).1), Value.bool ((((((aw ((aA g to_).1) (qA, qL)).1).2).2).2).2)]) cx rfl rfl bx169 rfl (Nat.le_of_ble_eq_true rfl) (AllOne.all (.cons rfl (.cons rfl (.cons rfl (.cons rfl (.cons rfl .nil)))))) rfl ?_)
     intro w170 ch171 bx172
     clear bx169
     refine ai ((aw ((aA g to_).1) (qA, qL)).2) (aa (a7 ?_))
     clear o45 bx55 o62 bx70 o_qL
     refine a6 rfl (bL rfl (kd (α := Int) (l := 10) (cp := 10) g168 (is 17) (is 17) (17, 0) rfl (0 : Int) Try.underlying39 ar rfl rfl rfl (by omega) (by omega) (by omega) (by omega) ?_))
     intro g173 w174 v175 ch176 o177 _
     replace o177 : Ow g173 (is 17) (is 17) w174 v175 ([(0 : Int), (0 : Int), (0 : Int), (0 : Int), (0 : Int), (0 : Int), (0 : Int), (0 : Int), (0 : Int), (0 : Int)] : List Int) := o177
     refine ma v175 (aa (a7 (a7 (a6 rfl (ai 0 (aa (au ?_)))))))
     refine aX (σ := Nat × (List Int) × aM) (fun ⟨u, many, gq⟩ f w => bc w0 gq w ∧ f 18 = v141 ∧ f 20 = v148 ∧ f 22 = vp b156 0 ∧ f 23 = vi ((aw g p).2) ∧ f 24 = vp b167 0 ∧ f 25 = vi ((aw ((aA g to_).1) (qA, qL)).2) ∧ f 26 = v175 ∧ f 27 = vi (u : Int) ∧ Sl gq (is 0) w g_v g.2 ∧ Sl gq (is 0) w p_v p.1 ∧ Sl gq (is 0) w p_v1 p.2 ∧ Sl gq (is 0) w to__v to_ ∧ Ow gq (is 13) (is 13) w v141 ((aJ g p).1) ∧ Ow gq (is 14) (is 14) w v148 ((aJ ((aA g to_).1) (qA, qL)).1) ∧ Bx gq (is 15) w b156 [vi (((aw g p).1).1), vi ((((aw g p).1).2).1), vi (((((aw g p).1).2).2).1), Value.bool ((((((aw g p).1).2).2).2).1), Value.bool ((((((aw g p).1).2).2).2).2)] ∧ Bx gq (is 16) w b167 [vi (((aw ((aA g to_).1) (qA, qL)).1).1), vi ((((aw ((aA g to_).1) (qA, qL)).1).2).1), vi (((((aw ((aA g to_).1) (qA, qL)).1).2).2).1), Value.bool ((((((aw ((aA g to_).1) (qA, qL)).1).2).2).2).1), Value.bool ((((((aw ((aA g to_).1) (qA, qL)).1).2).2).2).2)] ∧ Ow gq (is 17) (is 17) w v175 many ∧ (u : Int) ≤ ((List.length ((aJ g p).1) : Int) : Int) ∧ (gF many (aJ g p).1 (aJ (aA g to_).1 (qA, qL)).1 u 0)) (fun ⟨u, many, gq⟩ => Int.toNat (((List.length ((aJ g p).1) : Int) : Int) - (u : Int))) (0, ([(0 : Int), (0 : Int), (0 : Int), (0 : Int), (0 : Int), (0 : Int), (0 : Int), (0 : Int), (0 : Int), (0 : Int)] : List Int), g173) ?_ ?_
     have C179 := cg [15, 16] (hb153.n.seq (ch155.n.seq ((ch160.l rfl).seq (hb164.n.seq (ch166.n.seq ((ch171.l rfl).seq ch176.n))))))
     have C180 := ch151.n.seq C179
     have C178 := ch144.n.seq C180
     have C181 := cg [16] (hb164.n.seq (ch166.n.seq ((ch171.l rfl).seq ch176.n)))
     · exact ⟨bH.ca C178, rfl, rfl, rfl, rfl, rfl, rfl, rfl, rfl, Rg.ca C179, Rp.ca C179, r_p_v1.ca C179, Rto_.ca C178, o142.ca C180, o149.ca C179, bx161.ca C181, bx172.cn ch176, o177, by omega, by exact gF.start⟩
     clear Rg Rp r_p_v1 Rto_ o142 o149 bx161 bx172 o177 bH
     rintro ⟨u, many, g184⟩ f182 w183 ⟨bH, zs18, zs20, zs22, zs23, zs24, zs25, zs26, zs27, Rg, Rp, r_p_v1, Rto_, o142, o149, bx161, bx172, o177, hle_u, hM⟩ back34
     have hml2 := hM.1
     refine a7 (a7 (a6 rfl (mz zs27 (mz zs18 ?_))))
     have len185 := (o142.flat).small
     refine lx (bb Try.underlying36 rfl o142.flat) (lx (b6 (m := (u : Int)) (n := (List.length ((aJ g p).1) : Int)) rfl rfl) (aa ?_))
     by_cases p34 : (u : Int) < (List.length ((aJ g p).1) : Int)
     ·
      refine ah rfl (dt p34) ?_
      have hco := li (aV (xs := (aJ g p).1) (i := (u : Int)) (by omega) ‹_›)
      have hmv := hM.2 _ hco.1 hco.2
      have hb6 := mc (aJ g p).1 u (gI (aJ g p).1 (u : Int)).1
      have hb7 := jj (aJ (aA g to_).1 (qA, qL)).1 (gI (aJ g p).1 (u : Int)).1
      refine ao (a7 (au (a6 rfl (mz zs26 (mz zs18 (mz zs27 (lx (am (v := v141) (i := (u : Int)) Try.underlying36 rfl rfl o142.flat rfl (by omega) (by omega)) (lw (Value.pointer (some ⟨(b9 v141 3 (Int.toNat (u : Int))).block, (b9 v141 3 (Int.toNat (u : Int))).off + 0, none⟩)) (c4 Try.underlying56 rfl rfl rfl rfl) (lx (bV (v := v141) (i := (u : Int)) ar rfl o142.flat (by omega) (by omega) (by decide) rfl) ?_)))))))))
      refine lx (am (v := v175) (i := (gI ((aJ g p).1) (u : Int)).1) Try.underlying39 rfl rfl o177.flat rfl (by omega) (by omega)) (lx (br (v := v175) (i := (gI ((aJ g p).1) (u : Int)).1) ar rfl o177.flat (by omega) (by omega) (by decide) rfl) (lx (aW (m := (gI many ((gI ((aJ g p).1) (u : Int)).1))) (n := 1) rfl rfl (by omega)) (lx (am (v := v175) (i := (gI ((aJ g p).1) (u : Int)).1) Try.underlying39 rfl rfl o177.flat rfl (by omega) (by omega)) (lo (eh (i := (gI ((aJ g p).1) (u : Int)).1) ((gI many ((gI ((aJ g p).1) (u : Int)).1)) + 1) ar rfl rfl o177 (by omega) (by omega) rfl ?_)))))
      intro w186 ch187 bx188
      clear o177
      refine aa (aq (a6 rfl (mz zs27 (lx (aW (m := (u : Int)) (n := 1) rfl rfl (by omega)) (ai ((u : Int) + 1) (aa ?_))))))
      refine back34 (u + 1, (List.set many (Int.toNat ((gI ((aJ g p).1) (u : Int)).1)) ((gI many ((gI ((aJ g p).1) (u : Int)).1)) + 1)), g184) _ _ ⟨bH.ce ch187, zs18, zs20, zs22, zs23, zs24, zs25, zs26, rfl, Rg.ce ch187, Rp.ce ch187, r_p_v1.ce ch187, Rto_.ce ch187, o142.ce ch187, o149.ce ch187, bx161.ce ch187, bx172.ce ch187, bx188, by omega, ?_⟩ ?_
      · show gF (List.set many (Int.toNat ((gI ((aJ g p).1) (u : Int)).1)) ((gI many ((gI ((aJ g p).1) (u : Int)).1)) + 1)) (aJ g p).1 (aJ (aA g to_).1 (qA, qL)).1 (u + 1) 0
        exact hM.up ‹_› hco
      · show Int.toNat (((List.length ((aJ g p).1) : Int) : Int) - ((u + 1) : Int)) < Int.toNat (((List.length ((aJ g p).1) : Int) : Int) - (u : Int))
        omega
     refine aj rfl (df p34) (aR rfl (a7 (a7 (a6 rfl (ai 0 (aa (au ?_)))))))
     refine aX (σ := Nat × (List Int) × aM) (fun ⟨x, many, gq⟩ f w => bc w0 gq w ∧ f 18 = v141 ∧ f 20 = v148 ∧ f 22 = vp b156 0 ∧ f 23 = vi ((aw g p).2) ∧ f 24 = vp b167 0 ∧ f 25 = vi ((aw ((aA g to_).1) (qA, qL)).2) ∧ f 26 = v175 ∧ f 28 = vi (x : Int) ∧ Sl gq (is 0) w g_v g.2 ∧ Sl gq (is 0) w p_v p.1 ∧ Sl gq (is 0) w p_v1 p.2 ∧ Sl gq (is 0) w to__v to_ ∧ Ow gq (is 13) (is 13) w v141 ((aJ g p).1) ∧ Ow gq (is 14) (is 14) w v148 ((aJ ((aA g to_).1) (qA, qL)).1) ∧ Bx gq (is 15) w b156 [vi (((aw g p).1).1), vi ((((aw g p).1).2).1), vi (((((aw g p).1).2).2).1), Value.bool ((((((aw g p).1).2).2).2).1), Value.bool ((((((aw g p).1).2).2).2).2)] ∧ Bx gq (is 16) w b167 [vi (((aw ((aA g to_).1) (qA, qL)).1).1), vi ((((aw ((aA g to_).1) (qA, qL)).1).2).1), vi (((((aw ((aA g to_).1) (qA, qL)).1).2).2).1), Value.bool ((((((aw ((aA g to_).1) (qA, qL)).1).2).2).2).1), Value.bool ((((((aw ((aA g to_).1) (qA, qL)).1).2).2).2).2)] ∧ Ow gq (is 17) (is 17) w v175 many ∧ (x : Int) ≤ ((List.length ((aJ ((aA g to_).1) (qA, qL)).1) : Int) : Int) ∧ (gF many (aJ g p).1 (aJ (aA g to_).1 (qA, qL)).1 u x)) (fun ⟨x, many, gq⟩ => Int.toNat (((List.length ((aJ ((aA g to_).1) (qA, qL)).1) : Int) : Int) - (x : Int))) (0, many, g184) ?_ ?_
     · exact ⟨bH, zs18, zs20, zs22, zs23, zs24, zs25, zs26, rfl, Rg, Rp, r_p_v1, Rto_, o142, o149, bx161, bx172, o177, by omega, by exact hM⟩
     clear Rg Rp r_p_v1 Rto_ o142 o149 bx161 bx172 o177 bH
     rintro ⟨x, many, g191⟩ f189 w190 ⟨bH, zs18, zs20, zs22, zs23, zs24, zs25, zs26, zs28, Rg, Rp, r_p_v1, Rto_, o142, o149, bx161, bx172, o177, hle_x, hM⟩ back38
     have hml2 := hM.1
     refine a7 (a7 (a6 rfl (mz zs28 (mz zs20 ?_))))
     have len192 := (o149.flat).small
     refine lx (bb Try.underlying36 rfl o149.flat) (lx (b6 (m := (x : Int)) (n := (List.length ((aJ ((aA g to_).1) (qA, qL)).1) : Int)) rfl rfl) (aa ?_))
     by_cases p38 : (x : Int) < (List.length ((aJ ((aA g to_).1) (qA, qL)).1) : Int)
     ·
      refine ah rfl (dt p38) ?_
      have hco := li (aV (xs := (aJ (aA g to_).1 (qA, qL)).1) (i := (x : Int)) (by omega) ‹_›)
      have hmv := hM.2 _ hco.1 hco.2
      have hb6 := mc (aJ g p).1 u (gI (aJ (aA g to_).1 (qA, qL)).1 (x : Int)).1
      have hb7 := mc (aJ (aA g to_).1 (qA, qL)).1 x (gI (aJ (aA g to_).1 (qA, qL)).1 (x : Int)).1
      refine ao (a7 (au (a6 rfl (mz zs26 (mz zs20 (mz zs28 (lx (am (v := v148) (i := (x : Int)) Try.underlying36 rfl rfl o149.flat rfl (by omega) (by omega)) (lw (Value.pointer (some ⟨(b9 v148 3 (Int.toNat (x : Int))).block, (b9 v148 3 (Int.toNat (x : Int))).off + 0, none⟩)) (c4 Try.underlying56 rfl rfl rfl rfl) (lx (bV (v := v148) (i := (x : Int)) ar rfl o149.flat (by omega) (by omega) (by decide) rfl) ?_)))))))))
      refine lx (am (v := v175) (i := (gI ((aJ ((aA g to_).1) (qA, qL)).1) (x : Int)).1) Try.underlying39 rfl rfl o177.flat rfl (by omega) (by omega)) (lx (br (v := v175) (i := (gI ((aJ ((aA g to_).1) (qA, qL)).1) (x : Int)).1) ar rfl o177.flat (by omega) (by omega) (by decide) rfl) (lx (dS (m := (gI many ((gI ((aJ ((aA g to_).1) (qA, qL)).1) (x : Int)).1))) (n := 1) rfl rfl (by omega)) (lx (am (v := v175) (i := (gI ((aJ ((aA g to_).1) (qA, qL)).1) (x : Int)).1) Try.underlying39 rfl rfl o177.flat rfl (by omega) (by omega)) (lo (eh (i := (gI ((aJ ((aA g to_).1) (qA, qL)).1) (x : Int)).1) ((gI many ((gI ((aJ ((aA g to_).1) (qA, qL)).1) (x : Int)).1)) - 1) ar rfl rfl o177 (by omega) (by omega) rfl ?_)))))
      intro w193 ch194 bx195
      clear o177
      refine aa (aq (a6 rfl (mz zs28 (lx (aW (m := (x : Int)) (n := 1) rfl rfl (by omega)) (ai ((x : Int) + 1) (aa ?_))))))
      refine back38 (x + 1, (List.set many (Int.toNat ((gI ((aJ ((aA g to_).1) (qA, qL)).1) (x : Int)).1)) ((gI many ((gI ((aJ ((aA g to_).1) (qA, qL)).1) (x : Int)).1)) - 1)), g191) _ _ ⟨bH.ce ch194, zs18, zs20, zs22, zs23, zs24, zs25, zs26, rfl, Rg.ce ch194, Rp.ce ch194, r_p_v1.ce ch194, Rto_.ce ch194, o142.ce ch194, o149.ce ch194, bx161.ce ch194, bx172.ce ch194, bx195, by omega, ?_⟩ ?_
      · show gF (List.set many (Int.toNat ((gI ((aJ ((aA g to_).1) (qA, qL)).1) (x : Int)).1)) ((gI many ((gI ((aJ ((aA g to_).1) (qA, qL)).1) (x : Int)).1)) - 1)) (aJ g p).1 (aJ (aA g to_).1 (qA, qL)).1 u (x + 1)
        exact hM.dn ‹_› hco
      · show Int.toNat (((List.length ((aJ ((aA g to_).1) (qA, qL)).1) : Int) : Int) - ((x + 1) : Int)) < Int.toNat (((List.length ((aJ ((aA g to_).1) (qA, qL)).1) : Int) : Int) - (x : Int))
        omega
     refine aj rfl (df p38) (aR rfl (a7 (a7 (a6 rfl (ai 0 (aa (au ?_)))))))
     refine aX (σ := Nat × aM) (fun ⟨z, gq⟩ f w => bc w0 gq w ∧ f 18 = v141 ∧ f 20 = v148 ∧ f 22 = vp b156 0 ∧ f 23 = vi ((aw g p).2) ∧ f 24 = vp b167 0 ∧ f 25 = vi ((aw ((aA g to_).1) (qA, qL)).2) ∧ f 26 = v175 ∧ f 29 = vi (z : Int) ∧ Sl gq (is 0) w g_v g.2 ∧ Sl gq (is 0) w p_v p.1 ∧ Sl gq (is 0) w p_v1 p.2 ∧ Sl gq (is 0) w to__v to_ ∧ Ow gq (is 13) (is 13) w v141 ((aJ g p).1) ∧ Ow gq (is 14) (is 14) w v148 ((aJ ((aA g to_).1) (qA, qL)).1) ∧ Bx gq (is 15) w b156 [vi (((aw g p).1).1), vi ((((aw g p).1).2).1), vi (((((aw g p).1).2).2).1), Value.bool ((((((aw g p).1).2).2).2).1), Value.bool ((((((aw g p).1).2).2).2).2)] ∧ Bx gq (is 16) w b167 [vi (((aw ((aA g to_).1) (qA, qL)).1).1), vi ((((aw ((aA g to_).1) (qA, qL)).1).2).1), vi (((((aw ((aA g to_).1) (qA, qL)).1).2).2).1), Value.bool ((((((aw ((aA g to_).1) (qA, qL)).1).2).2).2).1), Value.bool ((((((aw ((aA g to_).1) (qA, qL)).1).2).2).2).2)] ∧ Ow gq (is 17) (is 17) w v175 many ∧ (z : Int) ≤ ((many.length : Int) : Int) ∧ True) (fun ⟨z, gq⟩ => Int.toNat (((many.length : Int) : Int) - (z : Int))) (0, g191) ?_ ?_
     · exact ⟨bH, zs18, zs20, zs22, zs23, zs24, zs25, zs26, rfl, Rg, Rp, r_p_v1, Rto_, o142, o149, bx161, bx172, o177, by omega, trivial⟩
     clear Rg Rp r_p_v1 Rto_ o142 o149 bx161 bx172 o177 bH
     rintro ⟨z, g198⟩ f196 w197 ⟨bH, zs18, zs20, zs22, zs23, zs24, zs25, zs26, zs29, Rg, Rp, r_p_v1, Rto_, o142, o149, bx161, bx172, o177, hle_z, hinv42⟩ back42
     have hml2 := hM.1
     refine a7 (a7 (a6 rfl (mz zs29 (mz zs26 ?_))))
     have len199 := (o177.flat).small
     refine lx (bb Try.underlying39 rfl o177.flat) (lx (b6 (m := (z : Int)) (n := (many.length : Int)) rfl rfl) (aa ?_))
     by_cases p42 : (z : Int) < (many.length : Int)
     ·
      refine ah rfl (dt p42) (ao (a7 (au (a7 (a6 rfl (mz zs26 (mz zs29 (lx (am (v := v175) (i := (z : Int)) Try.underlying39 rfl rfl o177.flat rfl (by omega) (by omega)) (lx (br (v := v175) (i := (z : Int)) ar rfl o177.flat (by omega) (by omega) (by decide) rfl) (lx (dK (m := (gI many (z : Int))) (n := 0) rfl rfl) ?_))))))))))
      refine aa ?_
      have p44 : (gI many (z : Int)) = 0 := by exact hM.fin hMV.codes_eq ‹_› ‹_› (by omega) (by omega)
      refine aj rfl (congrArg Bool.not (dt p44)) (ao (aq (a6 rfl (mz zs29 (lx (aW (m := (z : Int)) (n := 1) rfl rfl (by omega)) (ai ((z : Int) + 1) (aa ?_)))))))
      refine back42 (z + 1, g198) _ _ ⟨bH, zs18, zs20, zs22, zs23, zs24, zs25, zs26, rfl, Rg, Rp, r_p_v1, Rto_, o142, o149, bx161, bx172, o177, by omega, ?_⟩ ?_
      · trivial
      · show Int.toNat (((many.length : Int) : Int) - ((z + 1) : Int)) < Int.toNat (((many.length : Int) : Int) - (z : Int))
        omega
     refine aj rfl (df p42) (aR rfl (a7 ?_))
     clear o177
     refine a6 rfl (mz zs18 (lx (bb Try.underlying36 rfl o142.flat) (mz zs20 (lx (bb Try.underlying36 rfl o149.flat) (lx (bQ (m := (List.length ((aJ g p).1) : Int)) (n := (List.length ((aJ ((aA g to_).1) (qA, qL)).1) : Int)) rfl rfl) (mv (Value.bool (decide ((List.length ((aJ g p).1) : Int) = (List.length ((aJ ((aA g to_).1) (qA, qL)).1) : Int)))) ?_))))))
     have q275 : (List.length ((aJ g p).1) : Int) = (List.length ((aJ ((aA g to_).1) (qA, qL)).1) : Int) := by exact congrArg (fun n : Nat => (n : Int)) (jB hMV.codes_eq).symm
     refine lv (vg [vi (((aw g p).1).1), vi ((((aw g p).1).2).1), vi (((((aw g p).1).2).2).1), Value.bool ((((((aw g p).1).2).2).2).1), Value.bool ((((((aw g p).1).2).2).2).2)]) (wy (dt q275)) (ad (ds := [vi (((aw g p).1).1), vi ((((aw g p).1).2).1), vi (((((aw g p).1).2).2).1), Value.bool ((((((aw g p).1).2).2).2).1), Value.bool ((((((aw g p).1).2).2).2).2)]) cx zs22 bx161 rfl rfl) ?_
     refine lv (vg [vi (((aw ((aA g to_).1) (qA, qL)).1).1), vi ((((aw ((aA g to_).1) (qA, qL)).1).2).1), vi (((((aw ((aA g to_).1) (qA, qL)).1).2).2).1), Value.bool ((((((aw ((aA g to_).1) (qA, qL)).1).2).2).2).1), Value.bool ((((((aw ((aA g to_).1) (qA, qL)).1).2).2).2).2)]) (wy (dt q275)) (ad (ds := [vi (((aw ((aA g to_).1) (qA, qL)).1).1), vi ((((aw ((aA g to_).1) (qA, qL)).1).2).1), vi (((((aw ((aA g to_).1) (qA, qL)).1).2).2).1), Value.bool ((((((aw ((aA g to_).1) (qA, qL)).1).2).2).2).1), Value.bool ((((((aw ((aA g to_).1) (qA, qL)).1).2).2).2).2)]) cx zs24 bx172 rfl rfl) ?_
     refine lv (Value.bool (decide ((((aw g p).1).1, (((aw g p).1).2).1, ((((aw g p).1).2).2).1, ((((((aw g p).1).2).2).2).1), ((((((aw g p).1).2).2).2).2)) = (((aw ((aA g to_).1) (qA, qL)).1).1, (((aw ((aA g to_).1) (qA, qL)).1).2).1, ((((aw ((aA g to_).1) (qA, qL)).1).2).2).1, ((((((aw ((aA g to_).1) (qA, qL)).1).2).2).2).1), ((((((aw ((aA g to_).1) (qA, qL)).1).2).2).2).2))))) (wy (dt q275)) (dU (bs := [decide ((((aw g p).1).1) = (((aw ((aA g to_).1) (qA, qL)).1).1)), decide (((((aw g p).1).2).1) = ((((aw ((aA g to_).1) (qA, qL)).1).2).1)), decide ((((((aw g p).1).2).2).1) = (((((aw ((aA g to_).1) (qA, qL)).1).2).2).1)), decide (((((((aw g p).1).2).2).2).1) = ((((((aw ((aA g to_).1) (qA, qL)).1).2).2).2).1)), decide (((((((aw g p).1).2).2).2).2) = ((((((aw ((aA g to_).1) (qA, qL)).1).2).2).2).2))]) Try.underlying52 (by kernel_rfl) (by kernel_rfl) rfl rfl (.cons (by decide +kernel) ar rfl rfl (.int Try.underlying3) (.cons (by decide +kernel) ar rfl rfl (.int Try.underlying3) (.cons (by decide +kernel) ar rfl rfl (.int Try.underlying3) (.cons (by decide +kernel) gA rfl rfl (.bool Try.underlying4) (.cons (by decide +kernel) gA rfl rfl (.bool Try.underlying4) .nil))))) (by simp [Prod.ext_iff, Bool.decide_and, Bool.and_assoc])) ?_
     refine lw (Value.bool (decide ((((aw g p).1).1, (((aw g p).1).2).1, ((((aw g p).1).2).2).1, ((((((aw g p).1).2).2).2).1), ((((((aw g p).1).2).2).2).2)) = (((aw ((aA g to_).1) (qA, qL)).1).1, (((aw ((aA g to_).1) (qA, qL)).1).2).1, ((((aw ((aA g to_).1) (qA, qL)).1).2).2).1, ((((((aw ((aA g to_).1) (qA, qL)).1).2).2).2).1), ((((((aw ((aA g to_).1) (qA, qL)).1).2).2).2).2))))) (av rfl (dt q275) rfl) ?_
     refine mv (Value.bool (decide ((((aw g p).1).1, (((aw g p).1).2).1, ((((aw g p).1).2).2).1, ((((((aw g p).1).2).2).2).1), ((((((aw g p).1).2).2).2).2)) = (((aw ((aA g to_).1) (qA, qL)).1).1, (((aw ((aA g to_).1) (qA, qL)).1).2).1, ((((aw ((aA g to_).1) (qA, qL)).1).2).2).1, ((((((aw ((aA g to_).1) (qA, qL)).1).2).2).2).1), ((((((aw ((aA g to_).1) (qA, qL)).1).2).2).2).2))))) ?_
     have q280 : (((aw g p).1).1, (((aw g p).1).2).1, ((((aw g p).1).2).2).1, ((((((aw g p).1).2).2).2).1), ((((((aw g p).1).2).2).2).2)) = (((aw ((aA g to_).1) (qA, qL)).1).1, (((aw ((aA g to_).1) (qA, qL)).1).2).1, ((((aw ((aA g to_).1) (qA, qL)).1).2).2).1, ((((((aw ((aA g to_).1) (qA, qL)).1).2).2).2).1), ((((((aw ((aA g to_).1) (qA, qL)).1).2).2).2).2)) := by (rw [hMV.look]; done)
     refine lv (vi ((aw g p).2)) (wy (dt q280)) (aF zs23) (lv (vi ((aw ((aA g to_).1) (qA, qL)).2)) (wy (dt q280)) (aF zs25) (lv (Value.bool (decide (((aw g p).2) = ((aw ((aA g to_).1) (qA, qL)).2)))) (wy (dt q280)) (bQ (m := (aw g p).2) (n := (aw ((aA g to_).1) (qA, qL)).2) rfl rfl) (lw (Value.bool (decide (((aw g p).2) = ((aw ((aA g to_).1) (qA, qL)).2)))) (av rfl (dt q280) rfl) (ma (Value.bool (decide (((aw g p).2) = ((aw ((aA g to_).1) (qA, qL)).2)))) (aa (al (vs := [Value.bool (decide (((aw g p).2) = ((aw ((aA g to_).1) (qA, qL)).2)))]) Try.func4 (.tmp rfl .nil) ?_))))))
     have e0 : (decide (((aw g p).2) = ((aw ((aA g to_).1) (qA, qL)).2)) : Bool) = (true) := by
       (rw [hMV.look]; exact dt rfl)
     exact ⟨(congrArg (a₁ := decide (((aw g p).2) = ((aw ((aA g to_).1) (qA, qL)).2))) (fun (z0 : Bool) => Ending.returned (Value.bool z0)) e0), bH.below⟩
    refine ah rfl (congrArg Bool.not (df p12)) (a7 ?_)
    clear bx5 bx10 bx15 o45 bx55
    refine a6 rfl (ma (Value.bool true) (aa (al (vs := [Value.bool true]) Try.func4 (.tmp rfl .nil) ?_)))
    have e0 : (true : Bool) = (true) := by
      rfl
    replace bH := bH.ca C56
    exact ⟨(congrArg (a₁ := true) (fun (z0 : Bool) => Ending.returned (Value.bool z0)) e0), bH.below⟩
   refine ab (wn (congrArg Bool.not (df q107))) (ab (wn (congrArg Bool.not (df q107))) (ab (wn (congrArg Bool.not (df q107))) (ab (wn (congrArg Bool.not (df q107))) (ab (wn (congrArg Bool.not (df q107))) (ab (wn (congrArg Bool.not (df q107))) (lw (Value.bool true) (av rfl (congrArg Bool.not (df q107)) rfl) (aa (ah rfl rfl (a7 ?_)))))))))
   clear bx5 bx10 bx15 o45 bx55
   refine a6 rfl (ma (Value.bool true) (aa (al (vs := [Value.bool true]) Try.func4 (.tmp rfl .nil) ?_)))
   have e0 : (true : Bool) = (true) := by
     rfl
   have C200 := cg [6] (ch47.n.seq (ch49.n.seq (ch54.l rfl)))
   replace bH := bH.ca C200
   exact ⟨(congrArg (a₁ := true) (fun (z0 : Bool) => Ending.returned (Value.bool z0)) e0), bH.below⟩
  refine ab (wn (congrArg Bool.not (Bool.eq_false_iff.2 q41))) (ab (wn (congrArg Bool.not (Bool.eq_false_iff.2 q41))) (ab (wn (congrArg Bool.not (Bool.eq_false_iff.2 q41))) (lw (Value.bool true) (av rfl (congrArg Bool.not (Bool.eq_false_iff.2 q41)) rfl) (mv (Value.bool true) (ab (wn rfl) (ab (wn rfl) (ab (wn rfl) (lw (Value.bool true) (av rfl rfl rfl) (mv (Value.bool true) (ab (wn rfl) (ab (wn rfl) (ab (wn rfl) (lw (Value.bool true) (av rfl rfl rfl) ?_)))))))))))))
  refine mv (Value.bool true) (ab (wn rfl) (ab (wn rfl) (ab (wn rfl) (lw (Value.bool true) (av rfl rfl rfl) (aa (ah rfl rfl (a7 ?_)))))))
  clear bx5 bx10 bx15
  refine a6 rfl (ma (Value.bool true) (aa (al (vs := [Value.bool true]) Try.func4 (.tmp rfl .nil) ?_)))
  have e0 : (true : Bool) = (true) := by
    rfl
  have C201 := cg [] (ch2.n.seq (ch7.n.seq (ch12.n.seq (hb17.n.seq (hb21.n.seq hb23.n)))))
  replace bH := bH.ca C201
  exact ⟨(congrArg (a₁ := true) (fun (z0 : Bool) => Ending.returned (Value.bool z0)) e0), bH.below⟩
 refine ab (wn (congrArg Bool.not (Bool.eq_false_iff.2 q36))) (ab (wn (congrArg Bool.not (Bool.eq_false_iff.2 q36))) (ab (wn (congrArg Bool.not (Bool.eq_false_iff.2 q36))) (lw (Value.bool true) (av rfl (congrArg Bool.not (Bool.eq_false_iff.2 q36)) rfl) (mv (Value.bool true) (ab (wn rfl) (ab (wn rfl) (ab (wn rfl) (lw (Value.bool true) (av rfl rfl rfl) (mv (Value.bool true) (ab (wn rfl) (ab (wn rfl) (ab (wn rfl) (lw (Value.bool true) (av rfl rfl rfl) ?_)))))))))))))
 refine mv (Value.bool true) (ab (wn rfl) (ab (wn rfl) (ab (wn rfl) (lw (Value.bool true) (av rfl rfl rfl) (mv (Value.bool true) (ab (wn rfl) (ab (wn rfl) (ab (wn rfl) (lw (Value.bool true) (av rfl rfl rfl) (aa (ah rfl rfl (a7 ?_))))))))))))
 clear bx5 bx10 bx15
 refine a6 rfl (ma (Value.bool true) (aa (al (vs := [Value.bool true]) Try.func4 (.tmp rfl .nil) ?_)))
 have e0 : (true : Bool) = (true) := by
   rfl
 have C202 := cg [] (ch2.n.seq (ch7.n.seq (ch12.n.seq (hb17.n.seq hb21.n))))
 replace bH := bH.ca C202
 exact ⟨(congrArg (a₁ := true) (fun (z0 : Bool) => Ending.returned (Value.bool z0)) e0), bH.below⟩
end TL
