import Derived.Test.YtbadiajeohbpcaaTlP2
import Derived.Test.YtbadiajeohbpcaaTlGmA
import Derived.Test.YtbadiajeohbpcaaTlGmN
import Derived.Test.YtbadiajeohbpcaaTlGmD
import Derived.Test.YtbadiajeohbpcaaTlGenA
import Derived.Test.YtbadiajeohbpcaaTlGjA
import Derived.Test.YtbadiajeohbpcaaTlGjB
import Derived.Test.YtbadiajeohbpcaaTlGjC
import Derived.Test.YtbadiajeohbpcaaTlGjE
import Derived.Test.YtbadiajeohbpcaaProg
set_option linter.all false
set_option maxRecDepth 20000
namespace TL
open Go Go.Proofs
theorem eU : Try.prog.follows .mixedOrders = true := by kernel_rfl
theorem sd : Try.f8.body.isNone = false := rfl
theorem sf : (Try.f8.name == "runtime.NumGoroutine") = false := by decide +kernel
theorem ru : Try.f20.body.isNone = false := rfl
theorem rn : (Try.f20.name == "runtime.NumGoroutine") = false := by decide +kernel
theorem r9 : Try.f21.body.isNone = false := rfl
theorem pG : (Try.f21.name == "runtime.NumGoroutine") = false := by decide +kernel
theorem jt : Try.f22.body.isNone = false := rfl
theorem jN : (Try.f22.name == "runtime.NumGoroutine") = false := by decide +kernel
set_option maxHeartbeats 4000000 in
theorem iZ (w0 : World) (g : (Int) × (List ((Int) × (Int)))) (g_v : Value) (hg_v : Ro w0 g_v g.2) (p : (List ((Int) × (Int))) × (List (List ((Int) × (Int))))) (p_v p_v1 : Value) (hp_v : Ro w0 p_v p.1) (hp_v1 : Ro w0 p_v1 p.2) (i : Int) (k : Int) (hm : c7 g) (hs : rZ g p) (hi : 0 ≤ i ∧ i < g.2.length) (hk : 0 ≤ k ∧ k < g.2.length) :
    Calls Try.prog 22 #[vg [vi g.1, g_v], vg [p_v, p_v1], vi i, vi k] w0 (fun ee w => ee = .returned (Value.bool (decide (gg g p i k))) ∧ dh w0.heap.size w0 w) := by
 refine aE Try.func22 rfl (Nat.le_of_ble_eq_true rfl) ?_
 have bH := bh.start w0
 have Rg := hg_v.sl
 have Rp := hp_v.sl
 have r_p_v1 := hp_v1.sl
 obtain ⟨hi0, hi1⟩ := hi
 obtain ⟨hk0, hk1⟩ := hk
 have hs1 := hs.n
 have hs2 := hs.m
 obtain ⟨hli, hlj, hlo⟩ := hs.ln i hi0 (by omega)
 obtain ⟨hlk, hll, hlp⟩ := hs.ln k hk0 (by omega)
 obtain ⟨⟨hc1, hc2⟩, hc3, hc4⟩ := ed hm hk0 hk1
 refine a7 (a6 rfl (bN rfl (bt c0 (is 1) (1, 0) rfl rfl ?_)))
 intro g4 w1 b3 ch2 bx5
 replace bx5 : Bx g4 (is 1) w1 b3 [vi g.1, g_v] := bx5
 refine lo (bt g4 (is 2) (2, 0) rfl rfl ?_)
 intro g9 w6 b8 ch7 bx10
 replace bx10 : Bx g9 (is 2) w6 b8 [p_v, p_v1] := bx10
 refine ma (Value.bool false) (ab (a7 (a7 (a6 rfl (ai 0 (ab (av ?_)))))))
 refine b5 (σ := Nat × aS) (fun ⟨j, gq⟩ f w => bh w0 gq w ∧ f 2 = vi i ∧ f 3 = vi k ∧ f 4 = vp b3 0 ∧ f 5 = vp b8 0 ∧ f 9 = vi (j : Int) ∧ Sl gq (is 0) w g_v g.2 ∧ Sl gq (is 0) w p_v p.1 ∧ Sl gq (is 0) w p_v1 p.2 ∧ Bx gq (is 1) w b3 [vi g.1, g_v] ∧ Bx gq (is 2) w b8 [p_v, p_v1] ∧ (j : Int) ≤ (2 : Int) ∧ (r8 g p i k j)) (fun ⟨j, gq⟩ => 2 - j) (0, g9) ?_ ?_
 replace bH := bH.cn ch2
 · exact ⟨bH.cn ch7, rfl, rfl, rfl, rfl, rfl, (Rg.cn ch2).cn ch7, (Rp.cn ch2).cn ch7, (r_p_v1.cn ch2).cn ch7, bx5.cn ch7, bx10, by omega, by exact fun q hq => by omega⟩
 clear Rg Rp r_p_v1 bx5 bx10 bH
 rintro ⟨j, g13⟩ f11 w12 ⟨bH, zs2, zs3, zs4, zs5, zs9, Rg, Rp, r_p_v1, bx5, bx10, hle_j, hsn⟩ back2
 refine a7 (a7 (a6 rfl (mz zs9 (lx (bb (m := (j : Int)) (n := 2) rfl rfl) (ab ?_)))))
 by_cases p2 : (j : Int) < 2
 ·
  refine ah rfl (dt p2) ?_
  have hpi := tp hm hi0 hi1 (j : Int)
  refine ao (a7 (av (a7 (a6 rfl (lx (a8 Try.underlying24 rfl rfl zs4 rfl) (lx (ag bX rfl bx5 rfl) (mz zs2 (mz zs9 (lx (ak (v := g_v) (i := i) Try.underlying22 rfl rfl Rg rfl (by omega) (by omega)) (lx (aG (i := (j : Int)) Try.underlying59 rfl rfl rfl (by omega) (by omega) (Nat.mul_one _)) ?_))))))))))
  refine lx (aR (v := g_v) (i := i) al rfl Rg (by omega) (by omega) (show Int.toNat (j : Int) < 2 by omega) (gQ _ (by omega) (by omega))) (ai (pI (gI g.2 i) (j : Int)) (ab (a7 (a6 rfl (lx (a8 Try.underlying28 rfl rfl zs5 rfl) (lx (ag bu rfl bx10 rfl) (mi (pI (gI g.2 i) (j : Int)) (lx (ak (v := p_v) (i := pI (gI g.2 i) (j : Int)) Try.underlying25 rfl rfl Rp rfl (by omega) (by omega)) (lw (vg [vi ((gI p.1 (pI (gI g.2 i) (j : Int))).1), vi ((gI p.1 (pI (gI g.2 i) (j : Int))).2)]) (az (v := p_v) (i := pI (gI g.2 i) (j : Int)) aa rfl Rp (by omega) (by omega) rfl) (lo (aM g13 (is 3) (3, 0) rfl aa ?_)))))))))))
  intro g17 w14 b16 ch15 bx18
  replace bx18 : Bx g17 (is 3) w14 b16 [vi 0, vi 0] := bx18
  refine lo (ae (cs' := [vi ((gI p.1 (pI (gI g.2 i) (j : Int))).1), vi ((gI p.1 (pI (gI g.2 i) (j : Int))).2)]) aa rfl rfl bx18 rfl (Nat.le_of_ble_eq_true rfl) (AllOne.all (.cons rfl (.cons rfl .nil))) rfl ?_)
  intro w19 ch20 bx21
  clear bx18
  refine ab (a7 (bS g17 rfl eU (by kernel_rfl) ?_))
  intro w23 ch22
  refine qx (fun w' hw' => a8 Try.underlying24 rfl rfl zs4 rfl) ?_
  have C24 := cg [3] (ch15.n.seq ((ch20.l rfl).seq ch22.n))
  replace bx5 := bx5.ca C24
  refine qx (fun w' hw' => ag bX rfl (bx5.bel hw') rfl) (qz zs3 ?_)
  replace Rg := Rg.ca C24
  refine qx (fun w' hw' => ak (v := g_v) (i := k) Try.underlying22 rfl rfl (Rg.bel hw') rfl (by omega) (by omega)) (qx (fun w' hw' => aG Try.underlying59 rfl rfl rfl (by decide) (by decide) rfl) (qx (fun w' hw' => aR (v := g_v) (i := k) al rfl (Rg.bel hw') (by omega) (by omega) (by decide) rfl) (qm (vi (pI (gI g.2 i) (j : Int))) (qx (fun w' hw' => bx (m := (gI g.2 k).1) (n := pI (gI g.2 i) (j : Int)) rfl rfl) (qm (Value.bool (decide (((gI g.2 k).1) = (pI (gI g.2 i) (j : Int))))) ?_)))))
  by_cases q36 : ((gI g.2 k).1) = (pI (gI g.2 i) (j : Int))
  ·
   refine aB (wn (dt q36)) (aB (wn (dt q36)) (aB (wn (dt q36)) (aB (wn (dt q36)) (aB (wn (dt q36)) (aB (wn (dt q36)) (aB (wn (dt q36)) (aB (wn (dt q36)) (qv (Value.bool true) (fun w' hw' => aw rfl (dt q36) rfl) (qm (Value.bool true) ?_)))))))))
   refine aI (v := vp b8 1) (wy rfl) (fun w' hw' => a8 Try.underlying28 rfl rfl zs5 rfl) ?_
   replace bx10 := bx10.ca C24
   refine aI (v := p_v1) (wy rfl) (fun w' hw' => ag bU rfl (bx10.bel hw') rfl) (aI (v := vi i) (wy rfl) (fun w' hw' => aJ zs2) ?_)
   replace r_p_v1 := r_p_v1.ca C24
   refine aI (v := Value.pointer (some (aN p_v1 1 (Int.toNat i)))) (wy rfl) (fun w' hw' => ak (α := List ((Int) × (Int))) (xs := p.2) (v := p_v1) (i := i) Try.underlying26 rfl rfl (r_p_v1.bel hw') rfl (by omega) (by omega)) ?_
   obtain ⟨v25, cel26, r27⟩ := cT (r := i) r_p_v1 (by omega) (by omega)
   refine aI (v := v25) (wy rfl) (fun w' hw' => bR bu rfl (dz cel26 hw')) (aI (v := Value.pointer (some (aN v25 2 (Int.toNat 0)))) (wy rfl) (fun w' hw' => ak (α := (Int) × (Int)) (xs := gI p.2 i) (v := v25) (i := 0) Try.underlying25 rfl rfl (r27.bel hw') rfl (by omega) (by omega)) (aI (v := vg [vi ((gI (gI p.2 i) 0).1), vi ((gI (gI p.2 i) 0).2)]) (wy rfl) (fun w' hw' => az (α := (Int) × (Int)) (xs := gI p.2 i) (v := v25) (i := 0) aa rfl (r27.bel hw') (by omega) (by omega) rfl) (aI (v := vp b8 1) (wy rfl) (fun w' hw' => a8 Try.underlying28 rfl rfl zs5 rfl) (aI (v := p_v1) (wy rfl) (fun w' hw' => ag bU rfl (bx10.bel hw') rfl) ?_))))
   refine aI (v := vi i) (wy rfl) (fun w' hw' => aJ zs2) (aI (v := Value.pointer (some (aN p_v1 1 (Int.toNat i)))) (wy rfl) (fun w' hw' => ak (α := List ((Int) × (Int))) (xs := p.2) (v := p_v1) (i := i) Try.underlying26 rfl rfl (r_p_v1.bel hw') rfl (by omega) (by omega)) ?_)
   obtain ⟨v28, cel29, r30⟩ := cT (r := i) r_p_v1 (by omega) (by omega)
   refine aI (v := v28) (wy rfl) (fun w' hw' => bR bu rfl (dz cel29 hw')) (aI (v := Value.pointer (some (aN v28 2 (Int.toNat 1)))) (wy rfl) (fun w' hw' => ak (α := (Int) × (Int)) (xs := gI p.2 i) (v := v28) (i := 1) Try.underlying25 rfl rfl (r30.bel hw') rfl (by omega) (by omega)) (aI (v := vg [vi ((gI (gI p.2 i) 1).1), vi ((gI (gI p.2 i) 1).2)]) (wy rfl) (fun w' hw' => az (α := (Int) × (Int)) (xs := gI p.2 i) (v := v28) (i := 1) aa rfl (r30.bel hw') (by omega) (by omega) rfl) ?_))
   replace bx21 := bx21.cn ch22
   refine aI (v := vg [vi ((gI p.1 (pI (gI g.2 i) (j : Int))).1), vi ((gI p.1 (pI (gI g.2 i) (j : Int))).2)]) (wy rfl) (fun w' hw' => ad (ds := [vi ((gI p.1 (pI (gI g.2 i) (j : Int))).1), vi ((gI p.1 (pI (gI g.2 i) (j : Int))).2)]) aa rfl (bx21.bel hw') rfl rfl) ?_
   refine cM (v := Value.bool (decide (bm (gI (gI p.2 i) 0) (gI (gI p.2 i) 1) (gI p.1 (pI (gI g.2 i) (j : Int)))))) (wy rfl) (fun w' hw' => aA (vals := [vg [vi ((gI (gI p.2 i) 0).1), vi ((gI (gI p.2 i) 0).2)], vg [vi ((gI (gI p.2 i) 1).1), vi ((gI (gI p.2 i) 1).2)], vg [vi ((gI p.1 (pI (gI g.2 i) (j : Int))).1), vi ((gI p.1 (pI (gI g.2 i) (j : Int))).2)]]) Try.func44 eJ eI rfl) (fun w' hw' => (eM w' (gI (gI p.2 i) 0) (gI (gI p.2 i) 1) (gI p.1 (pI (gI g.2 i) (j : Int))) (by exact (hlo _ (bg (by omega) (by omega))).bd) (by exact (hlo _ (bg (by omega) (by omega))).bd) (by exact (hs.pt _ (by omega) (by omega)).bd)).mono fun e w2 h2 => ⟨h2.1, hw'.trans (h2.2.mono hw'.size)⟩) ?_
   refine qv (Value.bool (decide (bm (gI (gI p.2 i) 0) (gI (gI p.2 i) 1) (gI p.1 (pI (gI g.2 i) (j : Int)))))) (fun w' hw' => aw rfl rfl rfl) (qm (Value.bool (decide (bm (gI (gI p.2 i) 0) (gI (gI p.2 i) 1) (gI p.1 (pI (gI g.2 i) (j : Int)))))) ?_)
   by_cases q64 : (decide (bm (gI (gI p.2 i) 0) (gI (gI p.2 i) 1) (gI p.1 (pI (gI g.2 i) (j : Int))))) = true
   ·
    refine aI (v := vp b8 1) (wy q64) (fun w' hw' => a8 Try.underlying28 rfl rfl zs5 rfl) (aI (v := p_v1) (wy q64) (fun w' hw' => ag bU rfl (bx10.bel hw') rfl) (aI (v := vi k) (wy q64) (fun w' hw' => aJ zs3) (aI (v := Value.pointer (some (aN p_v1 1 (Int.toNat k)))) (wy q64) (fun w' hw' => ak (α := List ((Int) × (Int))) (xs := p.2) (v := p_v1) (i := k) Try.underlying26 rfl rfl (r_p_v1.bel hw') rfl (by omega) (by omega)) ?_)))
    obtain ⟨v31, cel32, r33⟩ := cT (r := k) r_p_v1 (by omega) (by omega)
    refine aI (v := v31) (wy q64) (fun w' hw' => bR bu rfl (dz cel32 hw')) (aI (v := Value.pointer (some (aN v31 2 (Int.toNat 0)))) (wy q64) (fun w' hw' => ak (α := (Int) × (Int)) (xs := gI p.2 k) (v := v31) (i := 0) Try.underlying25 rfl rfl (r33.bel hw') rfl (by omega) (by omega)) (aI (v := vg [vi ((gI (gI p.2 k) 0).1), vi ((gI (gI p.2 k) 0).2)]) (wy q64) (fun w' hw' => az (α := (Int) × (Int)) (xs := gI p.2 k) (v := v31) (i := 0) aa rfl (r33.bel hw') (by omega) (by omega) rfl) (aI (v := vp b8 1) (wy q64) (fun w' hw' => a8 Try.underlying28 rfl rfl zs5 rfl) (aI (v := p_v1) (wy q64) (fun w' hw' => ag bU rfl (bx10.bel hw') rfl) ?_))))
    refine aI (v := vi k) (wy q64) (fun w' hw' => aJ zs3) (aI (v := Value.pointer (some (aN p_v1 1 (Int.toNat k)))) (wy q64) (fun w' hw' => ak (α := List ((Int) × (Int))) (xs := p.2) (v := p_v1) (i := k) Try.underlying26 rfl rfl (r_p_v1.bel hw') rfl (by omega) (by omega)) ?_)
    obtain ⟨v34, cel35, r36⟩ := cT (r := k) r_p_v1 (by omega) (by omega)
    refine aI (v := v34) (wy q64) (fun w' hw' => bR bu rfl (dz cel35 hw')) (aI (v := Value.pointer (some (aN v34 2 (Int.toNat 1)))) (wy q64) (fun w' hw' => ak (α := (Int) × (Int)) (xs := gI p.2 k) (v := v34) (i := 1) Try.underlying25 rfl rfl (r36.bel hw') rfl (by omega) (by omega)) (aI (v := vg [vi ((gI (gI p.2 k) 1).1), vi ((gI (gI p.2 k) 1).2)]) (wy q64) (fun w' hw' => az (α := (Int) × (Int)) (xs := gI p.2 k) (v := v34) (i := 1) aa rfl (r36.bel hw') (by omega) (by omega) rfl) ?_))
    refine aI (v := vg [vi ((gI p.1 (pI (gI g.2 i) (j : Int))).1), vi ((gI p.1 (pI (gI g.2 i) (j : Int))).2)]) (wy q64) (fun w' hw' => ad (ds := [vi ((gI p.1 (pI (gI g.2 i) (j : Int))).1), vi ((gI p.1 (pI (gI g.2 i) (j : Int))).2)]) aa rfl (bx21.bel hw') rfl rfl) ?_
    refine cM (v := Value.bool (decide (bm (gI (gI p.2 k) 0) (gI (gI p.2 k) 1) (gI p.1 (pI (gI g.2 i) (j : Int)))))) (wy q64) (fun w' hw' => aA (vals := [vg [vi ((gI (gI p.2 k) 0).1), vi ((gI (gI p.2 k) 0).2)], vg [vi ((gI (gI p.2 k) 1).1), vi ((gI (gI p.2 k) 1).2)], vg [vi ((gI p.1 (pI (gI g.2 i) (j : Int))).1), vi ((gI p.1 (pI (gI g.2 i) (j : Int))).2)]]) Try.func44 eJ eI rfl) (fun w' hw' => (eM w' (gI (gI p.2 k) 0) (gI (gI p.2 k) 1) (gI p.1 (pI (gI g.2 i) (j : Int))) (by exact (hlp _ (bg (by omega) (by omega))).bd) (by exact (hlp _ (bg (by omega) (by omega))).bd) (by exact (hs.pt _ (by omega) (by omega)).bd)).mono fun e w2 h2 => ⟨h2.1, hw'.trans (h2.2.mono hw'.size)⟩) ?_
    refine qv (Value.bool (decide (bm (gI (gI p.2 k) 0) (gI (gI p.2 k) 1) (gI p.1 (pI (gI g.2 i) (j : Int)))))) (fun w' hw' => aw rfl q64 rfl) (c8 ?_)
    intro w37 hc38
    replace hc38 := am hc38 g17
    by_cases p6 : (decide (bm (gI (gI p.2 k) 0) (gI (gI p.2 k) 1) (gI p.1 (pI (gI g.2 i) (j : Int))))) = true
    ·
     refine ah rfl p6 (a7 ?_)
     clear bx5 bx10 bx21 r27 r30 r33 r36
     refine a6 rfl (ma (Value.bool true) (ab (ar (vs := [Value.bool true]) Try.func22 (.tmp rfl .nil) ?_)))
     have e0 : (true : Bool) = (decide (gg g p i k)) := by
       exact mn ‹_› (.inl (Eq.symm ‹_›)) ‹_› ‹_›
     have C39 := cg [3] (ch15.n.seq ((ch20.l rfl).seq (ch22.n.seq hc38.n)))
     replace bH := bH.ca C39
     exact ⟨(congrArg (a₁ := true) (fun (z0 : Bool) => Ending.returned (Value.bool z0)) e0), bH.below⟩
    refine aj rfl (Bool.eq_false_iff.2 p6) (ao (aq ?_))
    clear bx21 r27 r30 r33 r36
    refine a6 rfl (mz zs9 (lx (aT (m := (j : Int)) (n := 1) rfl rfl (by omega)) (ai ((j : Int) + 1) (ab ?_))))
    have C40 := cg [3] (ch15.n.seq ((ch20.l rfl).seq (ch22.n.seq hc38.n)))
    refine back2 (j + 1, g17) _ _ ⟨bH.ca C40, zs2, zs3, zs4, zs5, rfl, Rg.cn hc38, Rp.ca C40, r_p_v1.cn hc38, bx5.cn hc38, bx10.cn hc38, by omega, ?_⟩ ?_
    · show r8 g p i k (j + 1)
      exact fA hsn (.inr (.inr ‹_›))
    · show 2 - (j + 1) < 2 - j
      omega
   refine aB (wn (Bool.eq_false_iff.2 q64)) (aB (wn (Bool.eq_false_iff.2 q64)) (aB (wn (Bool.eq_false_iff.2 q64)) (aB (wn (Bool.eq_false_iff.2 q64)) (aB (wn (Bool.eq_false_iff.2 q64)) (aB (wn (Bool.eq_false_iff.2 q64)) (aB (wn (Bool.eq_false_iff.2 q64)) (aB (wn (Bool.eq_false_iff.2 q64)) (aB (wn (Bool.eq_false_iff.2 q64)) (aB (wn (Bool.eq_false_iff.2 q64)) ?_)))))))))
   refine aB (wn (Bool.eq_false_iff.2 q64)) (aB (wn (Bool.eq_false_iff.2 q64)) (aB (wn (Bool.eq_false_iff.2 q64)) (aB (wn (Bool.eq_false_iff.2 q64)) (aB (wn (Bool.eq_false_iff.2 q64)) (aB (wn (Bool.eq_false_iff.2 q64)) (qv (Value.bool false) (fun w' hw' => aC rfl (Bool.eq_false_iff.2 q64) rfl) (c8 ?_)))))))
   intro w41 hc42
   replace hc42 := am hc42 g17
   refine aj rfl rfl (ao (aq ?_))
   clear bx21 r27 r30
   refine a6 rfl (mz zs9 (lx (aT (m := (j : Int)) (n := 1) rfl rfl (by omega)) (ai ((j : Int) + 1) (ab ?_))))
   have C43 := cg [3] (ch15.n.seq ((ch20.l rfl).seq (ch22.n.seq hc42.n)))
   refine back2 (j + 1, g17) _ _ ⟨bH.ca C43, zs2, zs3, zs4, zs5, rfl, Rg.cn hc42, Rp.ca C43, r_p_v1.cn hc42, bx5.cn hc42, bx10.cn hc42, by omega, ?_⟩ ?_
   · show r8 g p i k (j + 1)
     exact fA hsn (.inr (.inl ‹_›))
   · show 2 - (j + 1) < 2 - j
     omega
  refine aI (v := vp b3 1) (wy (df q36)) (fun w' hw' => a8 Try.underlying24 rfl rfl zs4 rfl) (aI (v := g_v) (wy (df q36)) (fun w' hw' => ag bX rfl (bx5.bel hw') rfl) (aI (v := vi k) (wy (df q36)) (fun w' hw' => aJ zs3) (aI (v := Value.pointer (some (aN g_v 2 (Int.toNat k)))) (wy (df q36)) (fun w' hw' => ak (α := (Int) × (Int)) (xs := g.2) (v := g_v) (i := k) Try.underlying22 rfl rfl (Rg.bel hw') rfl (by omega) (by omega)) (aI (v := Value.pointer (some ⟨(aN g_v 2 (Int.toNat k)).block, (aN g_v 2 (Int.toNat k)).off + 1, none⟩)) (wy (df q36)) (fun w' hw' => aG Try.underlying59 rfl rfl rfl (by decide) (by decide) rfl) ?_))))
  refine aI (v := vi ((gI g.2 k).2)) (wy (df q36)) (fun w' hw' => aR (α := (Int) × (Int)) (xs := g.2) (v := g_v) (i := k) al rfl (Rg.bel hw') (by omega) (by omega) (by decide) rfl) (aI (v := vi (pI (gI g.2 i) (j : Int))) (wy (df q36)) (fun w' hw' => aJ rfl) (aI (v := Value.bool (decide (((gI g.2 k).2) = (pI (gI g.2 i) (j : Int))))) (wy (df q36)) (fun w' hw' => bx (m := (gI g.2 k).2) (n := pI (gI g.2 i) (j : Int)) rfl rfl) (qv (Value.bool (decide (((gI g.2 k).2) = (pI (gI g.2 i) (j : Int))))) (fun w' hw' => aC rfl (df q36) rfl) (qm (Value.bool (decide (((gI g.2 k).2) = (pI (gI g.2 i) (j : Int))))) ?_))))
  by_cases q46 : ((gI g.2 k).2) = (pI (gI g.2 i) (j : Int))
  ·
   refine aI (v := vp b8 1) (wy (dt q46)) (fun w' hw' => a8 Try.underlying28 rfl rfl zs5 rfl) ?_
   replace bx10 := bx10.ca C24
   refine aI (v := p_v1) (wy (dt q46)) (fun w' hw' => ag bU rfl (bx10.bel hw') rfl) (aI (v := vi i) (wy (dt q46)) (fun w' hw' => aJ zs2) ?_)
   replace r_p_v1 := r_p_v1.ca C24
   refine aI (v := Value.pointer (some (aN p_v1 1 (Int.toNat i)))) (wy (dt q46)) (fun w' hw' => ak (α := List ((Int) × (Int))) (xs := p.2) (v := p_v1) (i := i) Try.underlying26 rfl rfl (r_p_v1.bel hw') rfl (by omega) (by omega)) ?_
   obtain ⟨v44, cel45, r46⟩ := cT (r := i) r_p_v1 (by omega) (by omega)
   refine aI (v := v44) (wy (dt q46)) (fun w' hw' => bR bu rfl (dz cel45 hw')) (aI (v := Value.pointer (some (aN v44 2 (Int.toNat 0)))) (wy (dt q46)) (fun w' hw' => ak (α := (Int) × (Int)) (xs := gI p.2 i) (v := v44) (i := 0) Try.underlying25 rfl rfl (r46.bel hw') rfl (by omega) (by omega)) (aI (v := vg [vi ((gI (gI p.2 i) 0).1), vi ((gI (gI p.2 i) 0).2)]) (wy (dt q46)) (fun w' hw' => az (α := (Int) × (Int)) (xs := gI p.2 i) (v := v44) (i := 0) aa rfl (r46.bel hw') (by omega) (by omega) rfl) (aI (v := vp b8 1) (wy (dt q46)) (fun w' hw' => a8 Try.underlying28 rfl rfl zs5 rfl) ?_)))
   refine aI (v := p_v1) (wy (dt q46)) (fun w' hw' => ag bU rfl (bx10.bel hw') rfl) (aI (v := vi i) (wy (dt q46)) (fun w' hw' => aJ zs2) (aI (v := Value.pointer (some (aN p_v1 1 (Int.toNat i)))) (wy (dt q46)) (fun w' hw' => ak (α := List ((Int) × (Int))) (xs := p.2) (v := p_v1) (i := i) Try.underlying26 rfl rfl (r_p_v1.bel hw') rfl (by omega) (by omega)) ?_))
   obtain ⟨v47, cel48, r49⟩ := cT (r := i) r_p_v1 (by omega) (by omega)
   refine aI (v := v47) (wy (dt q46)) (fun w' hw' => bR bu rfl (dz cel48 hw')) (aI (v := Value.pointer (some (aN v47 2 (Int.toNat 1)))) (wy (dt q46)) (fun w' hw' => ak (α := (Int) × (Int)) (xs := gI p.2 i) (v := v47) (i := 1) Try.underlying25 rfl rfl (r49.bel hw') rfl (by omega) (by omega)) (aI (v := vg [vi ((gI (gI p.2 i) 1).1), vi ((gI (gI p.2 i) 1).2)]) (wy (dt q46)) (fun w' hw' => az (α := (Int) × (Int)) (xs := gI p.2 i) (v := v47) (i := 1) aa rfl (r49.bel hw') (by omega) (by omega) rfl) ?_))
   replace bx21 := bx21.cn ch22
   refine aI (v := vg [vi ((gI p.1 (pI (gI g.2 i) (j : Int))).1), vi ((gI p.1 (pI (gI g.2 i) (j : Int))).2)]) (wy (dt q46)) (fun w' hw' => ad (ds := [vi ((gI p.1 (pI (gI g.2 i) (j : Int))).1), vi ((gI p.1 (pI (gI g.2 i) (j : Int))).2)]) aa rfl (bx21.bel hw') rfl rfl) ?_
   refine cM (v := Value.bool (decide (bm (gI (gI p.2 i) 0) (gI (gI p.2 i) 1) (gI p.1 (pI (gI g.2 i) (j : Int)))))) (wy (dt q46)) (fun w' hw' => aA (vals := [vg [vi ((gI (gI p.2 i) 0).1), vi ((gI (gI p.2 i) 0).2)], vg [vi ((gI (gI p.2 i) 1).1), vi ((gI (gI p.2 i) 1).2)], vg [vi ((gI p.1 (pI (gI g.2 i) (j : Int))).1), vi ((gI p.1 (pI (gI g.2 i) (j : Int))).2)]]) Try.func44 eJ eI rfl) (fun w' hw' => (eM w' (gI (gI p.2 i) 0) (gI (gI p.2 i) 1) (gI p.1 (pI (gI g.2 i) (j : Int))) (by exact (hlo _ (bg (by omega) (by omega))).bd) (by exact (hlo _ (bg (by omega) (by omega))).bd) (by exact (hs.pt _ (by omega) (by omega)).bd)).mono fun e w2 h2 => ⟨h2.1, hw'.trans (h2.2.mono hw'.size)⟩) ?_
   refine qv (Value.bool (decide (bm (gI (gI p.2 i) 0) (gI (gI p.2 i) 1) (gI p.1 (pI (gI g.2 i) (j : Int)))))) (fun w' hw' => aw rfl (dt q46) rfl) (qm (Value.bool (decide (bm (gI (gI p.2 i) 0) (gI (gI p.2 i) 1) (gI p.1 (pI (gI g.2 i) (j : Int)))))) ?_)
   by_cases q64 : (decide (bm (gI (gI p.2 i) 0) (gI (gI p.2 i) 1) (gI p.1 (pI (gI g.2 i) (j : Int))))) = true
   ·
    refine aI (v := vp b8 1) (wy q64) (fun w' hw' => a8 Try.underlying28 rfl rfl zs5 rfl) (aI (v := p_v1) (wy q64) (fun w' hw' => ag bU rfl (bx10.bel hw') rfl) (aI (v := vi k) (wy q64) (fun w' hw' => aJ zs3) (aI (v := Value.pointer (some (aN p_v1 1 (Int.toNat k)))) (wy q64) (fun w' hw' => ak (α := List ((Int) × (Int))) (xs := p.2) (v := p_v1) (i := k) Try.underlying26 rfl rfl (r_p_v1.bel hw') rfl (by omega) (by omega)) ?_)))
    obtain ⟨v50, cel51, r52⟩ := cT (r := k) r_p_v1 (by omega) (by omega)
    refine aI (v := v50) (wy q64) (fun w' hw' => bR bu rfl (dz cel51 hw')) (aI (v := Value.pointer (some (aN v50 2 (Int.toNat 0)))) (wy q64) (fun w' hw' => ak (α := (Int) × (Int)) (xs := gI p.2 k) (v := v50) (i := 0) Try.underlying25 rfl rfl (r52.bel hw') rfl (by omega) (by omega)) (aI (v := vg [vi ((gI (gI p.2 k) 0).1), vi ((gI (gI p.2 k) 0).2)]) (wy q64) (fun w' hw' => az (α := (Int) × (Int)) (xs := gI p.2 k) (v := v50) (i := 0) aa rfl (r52.bel hw') (by omega) (by omega) rfl) (aI (v := vp b8 1) (wy q64) (fun w' hw' => a8 Try.underlying28 rfl rfl zs5 rfl) (aI (v := p_v1) (wy q64) (fun w' hw' => ag bU rfl (bx10.bel hw') rfl) ?_))))
    refine aI (v := vi k) (wy q64) (fun w' hw' => aJ zs3) (aI (v := Value.pointer (some (aN p_v1 1 (Int.toNat k)))) (wy q64) (fun w' hw' => ak (α := List ((Int) × (Int))) (xs := p.2) (v := p_v1) (i := k) Try.underlying26 rfl rfl (r_p_v1.bel hw') rfl (by omega) (by omega)) ?_)
    obtain ⟨v53, cel54, r55⟩ := cT (r := k) r_p_v1 (by omega) (by omega)
    refine aI (v := v53) (wy q64) (fun w' hw' => bR bu rfl (dz cel54 hw')) (aI (v := Value.pointer (some (aN v53 2 (Int.toNat 1)))) (wy q64) (fun w' hw' => ak (α := (Int) × (Int)) (xs := gI p.2 k) (v := v53) (i := 1) Try.underlying25 rfl rfl (r55.bel hw') rfl (by omega) (by omega)) (aI (v := vg [vi ((gI (gI p.2 k) 1).1), vi ((gI (gI p.2 k) 1).2)]) (wy q64) (fun w' hw' => az (α := (Int) × (Int)) (xs := gI p.2 k) (v := v53) (i := 1) aa rfl (r55.bel hw') (by omega) (by omega) rfl) ?_))
    refine aI (v := vg [vi ((gI p.1 (pI (gI g.2 i) (j : Int))).1), vi ((gI p.1 (pI (gI g.2 i) (j : Int))).2)]) (wy q64) (fun w' hw' => ad (ds := [vi ((gI p.1 (pI (gI g.2 i) (j : Int))).1), vi ((gI p.1 (pI (gI g.2 i) (j : Int))).2)]) aa rfl (bx21.bel hw') rfl rfl) ?_
    refine cM (v := Value.bool (decide (bm (gI (gI p.2 k) 0) (gI (gI p.2 k) 1) (gI p.1 (pI (gI g.2 i) (j : Int)))))) (wy q64) (fun w' hw' => aA (vals := [vg [vi ((gI (gI p.2 k) 0).1), vi ((gI (gI p.2 k) 0).2)], vg [vi ((gI (gI p.2 k) 1).1), vi ((gI (gI p.2 k) 1).2)], vg [vi ((gI p.1 (pI (gI g.2 i) (j : Int))).1), vi ((gI p.1 (pI (gI g.2 i) (j : Int))).2)]]) Try.func44 eJ eI rfl) (fun w' hw' => (eM w' (gI (gI p.2 k) 0) (gI (gI p.2 k) 1) (gI p.1 (pI (gI g.2 i) (j : Int))) (by exact (hlp _ (bg (by omega) (by omega))).bd) (by exact (hlp _ (bg (by omega) (by omega))).bd) (by exact (hs.pt _ (by omega) (by omega)).bd)).mono fun e w2 h2 => ⟨h2.1, hw'.trans (h2.2.mono hw'.size)⟩) ?_
    refine qv (Value.bool (decide (bm (gI (gI p.2 k) 0) (gI (gI p.2 k) 1) (gI p.1 (pI (gI g.2 i) (j : Int)))))) (fun w' hw' => aw rfl q64 rfl) (c8 ?_)
    intro w56 hc57
    replace hc57 := am hc57 g17
    by_cases p6 : (decide (bm (gI (gI p.2 k) 0) (gI (gI p.2 k) 1) (gI p.1 (pI (gI g.2 i) (j : Int))))) = true
    ·
     refine ah rfl p6 (a7 ?_)
     clear bx5 bx10 bx21 r46 r49 r52 r55
     refine a6 rfl (ma (Value.bool true) (ab (ar (vs := [Value.bool true]) Try.func22 (.tmp rfl .nil) ?_)))
     have e0 : (true : Bool) = (decide (gg g p i k)) := by
       exact mn ‹_› (.inr (Eq.symm ‹_›)) ‹_› ‹_›
     have C58 := cg [3] (ch15.n.seq ((ch20.l rfl).seq (ch22.n.seq hc57.n)))
     replace bH := bH.ca C58
     exact ⟨(congrArg (a₁ := true) (fun (z0 : Bool) => Ending.returned (Value.bool z0)) e0), bH.below⟩
    refine aj rfl (Bool.eq_false_iff.2 p6) (ao (aq ?_))
    clear bx21 r46 r49 r52 r55
    refine a6 rfl (mz zs9 (lx (aT (m := (j : Int)) (n := 1) rfl rfl (by omega)) (ai ((j : Int) + 1) (ab ?_))))
    have C59 := cg [3] (ch15.n.seq ((ch20.l rfl).seq (ch22.n.seq hc57.n)))
    refine back2 (j + 1, g17) _ _ ⟨bH.ca C59, zs2, zs3, zs4, zs5, rfl, Rg.cn hc57, Rp.ca C59, r_p_v1.cn hc57, bx5.cn hc57, bx10.cn hc57, by omega, ?_⟩ ?_
    · show r8 g p i k (j + 1)
      exact fA hsn (.inr (.inr ‹_›))
    · show 2 - (j + 1) < 2 - j
      omega
   refine aB (wn (Bool.eq_false_iff.2 q64)) (aB (wn (Bool.eq_false_iff.2 q64)) (aB (wn (Bool.eq_false_iff.2 q64)) (aB (wn (Bool.eq_false_iff.2 q64)) (aB (wn (Bool.eq_false_iff.2 q64)) (aB (wn (Bool.eq_false_iff.2 q64)) (aB (wn (Bool.eq_false_iff.2 q64)) (aB (wn (Bool.eq_false_iff.2 q64)) (aB (wn (Bool.eq_false_iff.2 q64)) (aB (wn (Bool.eq_false_iff.2 q64)) ?_)))))))))
   refine aB (wn (Bool.eq_false_iff.2 q64)) (aB (wn (Bool.eq_false_iff.2 q64)) (aB (wn (Bool.eq_false_iff.2 q64)) (aB (wn (Bool.eq_false_iff.2 q64)) (aB (wn (Bool.eq_false_iff.2 q64)) (aB (wn (Bool.eq_false_iff.2 q64)) (qv (Value.bool false) (fun w' hw' => aC rfl (Bool.eq_false_iff.2 q64) rfl) (c8 ?_)))))))
   intro w60 hc61
   replace hc61 := am hc61 g17
   refine aj rfl rfl (ao (aq ?_))
   clear bx21 r46 r49
   refine a6 rfl (mz zs9 (lx (aT (m := (j : Int)) (n := 1) rfl rfl (by omega)) (ai ((j : Int) + 1) (ab ?_))))
   have C62 := cg [3] (ch15.n.seq ((ch20.l rfl).seq (ch22.n.seq hc61.n)))
   refine back2 (j + 1, g17) _ _ ⟨bH.ca C62, zs2, zs3, zs4, zs5, rfl, Rg.cn hc61, Rp.ca C62, r_p_v1.cn hc61, bx5.cn hc61, bx10.cn hc61, by omega, ?_⟩ ?_
   · show r8 g p i k (j + 1)
     exact fA hsn (.inr (.inl ‹_›))
   · show 2 - (j + 1) < 2 - j
     omega
  refine aB (wn (df q46)) (aB (wn (df q46)) (aB (wn (df q46)) (aB (wn (df q46)) (aB (wn (df q46)) (aB (wn (df q46)) (aB (wn (df q46)) (aB (wn (df q46)) (aB (wn (df q46)) (aB (wn (df q46)) ?_)))))))))
  refine aB (wn (df q46)) (aB (wn (df q46)) (aB (wn (df q46)) (aB (wn (df q46)) (aB (wn (df q46)) (aB (wn (df q46)) (qv (Value.bool false) (fun w' hw' => aC rfl (df q46) rfl) (qm (Value.bool false) (aB (wn rfl) (aB (wn rfl) ?_)))))))))
  refine aB (wn rfl) (aB (wn rfl) (aB (wn rfl) (aB (wn rfl) (aB (wn rfl) (aB (wn rfl) (aB (wn rfl) (aB (wn rfl) (aB (wn rfl) (aB (wn rfl) ?_)))))))))
  refine aB (wn rfl) (aB (wn rfl) (aB (wn rfl) (aB (wn rfl) (qv (Value.bool false) (fun w' hw' => aC rfl rfl rfl) (c8 ?_)))))
  intro w63 hc64
  replace hc64 := am hc64 g17
  refine aj rfl rfl (ao (aq ?_))
  clear bx21
  refine a6 rfl (mz zs9 (lx (aT (m := (j : Int)) (n := 1) rfl rfl (by omega)) (ai ((j : Int) + 1) (ab ?_))))
  have C65 := cg [3] (ch15.n.seq ((ch20.l rfl).seq (ch22.n.seq hc64.n)))
  refine back2 (j + 1, g17) _ _ ⟨bH.ca C65, zs2, zs3, zs4, zs5, rfl, Rg.cn hc64, Rp.ca C65, r_p_v1.ca C65, bx5.cn hc64, bx10.ca C65, by omega, ?_⟩ ?_
  · show r8 g p i k (j + 1)
    exact fA hsn (.inl (pX ‹_› ‹_›))
  · show 2 - (j + 1) < 2 - j
    omega
 refine aj rfl (df p2) (aU rfl (a7 ?_))
 clear bx5 bx10
 refine a6 rfl (ma (Value.bool false) (ab (ar (vs := [Value.bool false]) Try.func22 (.tmp rfl .nil) ?_)))
 have e0 : (false : Bool) = (decide (gg g p i k)) := by
   exact s7 hsn ‹_›
 exact ⟨(congrArg (a₁ := false) (fun (z0 : Bool) => Ending.returned (Value.bool z0)) e0), bH.below⟩
set_option maxHeartbeats 8000000 in
theorem i5 (w0 : World) (g : (Int) × (List ((Int) × (Int)))) (g_v : Value) (hg_v : Ro w0 g_v g.2) (at_ : List ((Int) × (Int))) (at__v : Value) (hat__v : Ro w0 at__v at_) :
    Calls Try.prog 5 #[vg [vi g.1, g_v], at__v] w0 (fun ee w => ee = .returned (Value.bool true) ∧ dh w0.heap.size w0 w) := by
 refine aE Try.func5 rfl (Nat.le_of_ble_eq_true rfl) ?_
 have bH := bh.start w0
 have Rg := hg_v.sl
 have Rat_ := hat__v.sl
 refine a7 (a6 rfl (bN rfl (bt c0 (is 1) (1, 0) rfl rfl ?_)))
 intro g4 w1 b3 ch2 bx5
 replace bx5 : Bx g4 (is 1) w1 b3 [vi g.1, g_v] := bx5
 refine ma (Value.bool false) (ab (a7 (a7 (a6 rfl (bN rfl (aH (v := Value.bool true) (aA (vals := []) Try.func8 sd sf rfl) (ly w1 ) ?_))))))
 intro w6 hb7
 replace hb7 := am hb7 g4
 refine lx (cz (b := true) rfl) (ab (aj rfl rfl (ao (a7 (a7 (a6 rfl ?_))))))
 replace bx5 := bx5.cn hb7
 refine lx (ad (ds := [vi g.1, g_v]) cw rfl bx5 rfl rfl) ?_
 replace Rg := (Rg.cn ch2).cn hb7
 refine lo (aH (v := Value.bool (dg g)) (aA (vals := [vg [vi g.1, g_v]]) Try.func15 sB sr rfl) (qa w6 g g_v (Rg).ro) ?_)
 intro w8 hb9
 replace hb9 := am hb9 g4
 refine lx (cz (b := (dg g)) rfl) (mv (Value.bool (!(dg g))) ?_)
 by_cases q26 : (dg g) = true
 ·
  have hm := of_decide_eq_true q26
  have hm0 := hm
  obtain ⟨hm1, hm2, hm3, hm4⟩ := hm0
  refine lv (vp b3 0) (wy (congrArg Bool.not q26)) (a8 Try.underlying24 rfl rfl rfl rfl) ?_
  replace bx5 := bx5.cn hb9
  refine lv (vi g.1) (wy (congrArg Bool.not q26)) (ag al rfl bx5 rfl) (lv (Value.bool (decide (20 < g.1))) (wy (congrArg Bool.not q26)) (bV (m := g.1) (n := 20) rfl rfl) (lw (Value.bool (decide (20 < g.1))) (aC rfl (congrArg Bool.not q26) rfl) (mv (Value.bool (decide (20 < g.1))) ?_)))
  by_cases q31 : 20 < g.1
  ·
   refine af (wn (dt q31)) (af (wn (dt q31)) (af (wn (dt q31)) (af (wn (dt q31)) (lw (Value.bool true) (aw rfl (dt q31) rfl) (mv (Value.bool true) (af (wn rfl) (af (wn rfl) (af (wn rfl) (af (wn rfl) (af (wn rfl) (lw (Value.bool true) (aw rfl rfl rfl) (mv (Value.bool true) (af (wn rfl) (af (wn rfl) (af (wn rfl) ?_)))))))))))))))
   refine lw (Value.bool true) (aw rfl rfl rfl) (ab (ah rfl rfl (a7 ?_)))
   clear bx5
   refine a6 rfl (ma (Value.bool true) (ab (ar (vs := [Value.bool true]) Try.func5 (.tmp rfl .nil) ?_)))
   have e0 : (true : Bool) = (true) := by
     rfl
   have C10 := cg [] (ch2.n.seq (hb7.n.seq hb9.n))
   replace bH := bH.ca C10
   exact ⟨(congrArg (a₁ := true) (fun (z0 : Bool) => Ending.returned (Value.bool z0)) e0), bH.below⟩
  refine lv (vp b3 1) (wy (df q31)) (a8 Try.underlying24 rfl rfl rfl rfl) (lv (g_v) (wy (df q31)) (ag bX rfl bx5 rfl) ?_)
  replace Rg := Rg.cn hb9
  have len11 := (Rg).small
  refine lv (vi (g.2.length : Int)) (wy (df q31)) (bk Try.underlying22 rfl Rg) (lv (Value.bool (decide (30 < (g.2.length : Int)))) (wy (df q31)) (bV (m := (g.2.length : Int)) (n := 30) rfl rfl) (lw (Value.bool (decide (30 < (g.2.length : Int)))) (aC rfl (df q31) rfl) (mv (Value.bool (decide (30 < (g.2.length : Int)))) ?_)))
  by_cases q37 : 30 < (g.2.length : Int)
  ·
   refine af (wn (dt q37)) (af (wn (dt q37)) (af (wn (dt q37)) (af (wn (dt q37)) (af (wn (dt q37)) (lw (Value.bool true) (aw rfl (dt q37) rfl) (mv (Value.bool true) (af (wn rfl) (af (wn rfl) (af (wn rfl) (lw (Value.bool true) (aw rfl rfl rfl) (ab ?_)))))))))))
   refine ah rfl rfl (a7 ?_)
   clear bx5
   refine a6 rfl (ma (Value.bool true) (ab (ar (vs := [Value.bool true]) Try.func5 (.tmp rfl .nil) ?_)))
   have e0 : (true : Bool) = (true) := by
     rfl
   have C12 := cg [] (ch2.n.seq (hb7.n.seq hb9.n))
   replace bH := bH.ca C12
   exact ⟨(congrArg (a₁ := true) (fun (z0 : Bool) => Ending.returned (Value.bool z0)) e0), bH.below⟩
  refine lv (at__v) (wy (df q37)) (aJ rfl) ?_
  have C13 := cg [] (ch2.n.seq (hb7.n.seq hb9.n))
  replace Rat_ := Rat_.ca C13
  have len14 := (Rat_).small
  refine lv (vi (at_.length : Int)) (wy (df q37)) (bk Try.underlying25 rfl Rat_) (lv (vp b3 0) (wy (df q37)) (a8 Try.underlying24 rfl rfl rfl rfl) (lv (vi g.1) (wy (df q37)) (ag al rfl bx5 rfl) (lv (Value.bool (!(decide ((at_.length : Int) = g.1)))) (wy (df q37)) (dO (m := (at_.length : Int)) (n := g.1) rfl rfl) (lw (Value.bool (!(decide ((at_.length : Int) = g.1)))) (aC rfl (df q37) rfl) (mv (Value.bool (!(decide ((at_.length : Int) = g.1)))) ?_)))))
  by_cases q44 : (at_.length : Int) = g.1
  ·
   refine lv (at__v) (wy (congrArg Bool.not (dt q44))) (aJ rfl) (bN (wy (congrArg Bool.not (dt q44))) (aH (v := Value.bool (decide (cW at_))) (aA (vals := [at__v]) Try.func20 ru rn rfl) (ob w8 at_ at__v (Rat_).ro) ?_))
   intro w15 hb16
   replace hb16 := am hb16 g4
   refine lv (Value.bool (!(decide (cW at_)))) (wy (congrArg Bool.not (dt q44))) (cz (b := (decide (cW at_))) rfl) (lw (Value.bool (!(decide (cW at_)))) (aC rfl (congrArg Bool.not (dt q44)) rfl) (ab ?_))
   by_cases p3 : (decide (cW at_)) = true
   ·
    have hok := of_decide_eq_true p3
    refine aj rfl (congrArg Bool.not p3) (ao (a7 (a6 rfl (mv at__v ?_))))
    replace Rat_ := Rat_.cn hb16
    refine lw (vg [at__v, vn]) (bO (vs := [(0, at__v)]) rfl (by rw [Sl.form Rat_]; kernel_rfl)) (lo (aM g4 (is 2) (2, 0) rfl ct ?_))
    intro g20 w17 b19 ch18 bx21
    replace bx21 : Bx g20 (is 2) w17 b19 [vn, vn] := bx21
    refine lo ?_
    replace Rat_ := Rat_.cn ch18
    refine ae (cs' := [at__v, vn]) ct rfl rfl bx21 rfl (Nat.le_of_ble_eq_true rfl) (AllOne.all (.cons (ch Rat_) (.cons rfl .nil))) rfl ?_
    intro w22 ch23 bx24
    clear bx21
    refine ab (a7 (a7 (a6 rfl (ai 0 (ab (av ?_))))))
    refine b5 (σ := Value × (List (List ((Int) × (Int)))) × Nat × aS) (fun ⟨Ls_v, Ls, e, gq⟩ f w => bh w0 gq w ∧ f 1 = at__v ∧ f 2 = vp b3 0 ∧ f 5 = vp b19 0 ∧ f 6 = vi (e : Int) ∧ Sl gq (is 0) w g_v g.2 ∧ Sl gq (is 0) w at__v at_ ∧ Bx gq (is 1) w b3 [vi g.1, g_v] ∧ Bx gq (is 2) w b19 [at__v, Ls_v] ∧ dD gq 7 w Ls_v Ls ∧ (e : Int) ≤ ((g.2.length : Int) : Int) ∧ (ip g at_ Ls e)) (fun ⟨Ls_v, Ls, e, gq⟩ => Int.toNat (((g.2.length : Int) : Int) - (e : Int))) (vn, [], 0, g20) ?_ ?_
    have C26 := cg [2] (hb16.n.seq (ch18.n.seq (ch23.l rfl)))
    have C25 := ch2.n.seq (hb7.n.seq (hb9.n.seq C26))
    · exact ⟨bH.ca C25, rfl, rfl, rfl, rfl, Rg.ca C26, Rat_.ce ch23, bx5.ca C26, bx24, dD.nil, by omega, by exact ip.start⟩
    clear Rg Rat_ bx5 bx24 bH
    rintro ⟨Ls_v, Ls, e, g29⟩ f27 w28 ⟨bH, zs1, zs2, zs5, zs6, Rg, Rat_, bx5, bx24, o_Ls, hle_e, hLs⟩ back7
    have hll := hLs.len
    refine a7 (a7 (a6 rfl (mz zs6 (lx (a8 Try.underlying24 rfl rfl zs2 rfl) (lx (ag bX rfl bx5 rfl) (lx (bk Try.underlying22 rfl Rg) (lx (bb (m := (e : Int)) (n := (g.2.length : Int)) rfl rfl) (ab ?_))))))))
    by_cases p7 : (e : Int) < (g.2.length : Int)
    ·
     refine ah rfl (dt p7) ?_
     obtain ⟨⟨he1, he2⟩, he3, he4⟩ := ed (e := (e : Int)) hm (by omega) (by omega)
     refine ao (a7 (av (a7 ?_)))
     refine cL (σ := Nat × Nat × aS) (fun ⟨b34, b40, gq⟩ f w => bh w0 gq w ∧ f 1 = at__v ∧ f 2 = vp b3 0 ∧ f 5 = vp b19 0 ∧ f 6 = vi (e : Int) ∧ f 7 = vp b34 0 ∧ f 8 = vp b40 0 ∧ Sl gq (is 0) w g_v g.2 ∧ Sl gq (is 0) w at__v at_ ∧ Bx gq (is 1) w b3 [vi g.1, g_v] ∧ Bx gq (is 2) w b19 [at__v, Ls_v] ∧ dD gq 7 w Ls_v Ls ∧ Bx gq (is 3) w b34 [vi ((gI at_ ((gI g.2 (e : Int)).1)).1), vi ((gI at_ ((gI g.2 (e : Int)).1)).2)] ∧ Bx gq (is 4) w b40 [vi ((gI at_ ((gI g.2 (e : Int)).2)).1), vi ((gI at_ ((gI g.2 (e : Int)).2)).2)]) g29 (bE [3, 4]) eU ?_ ?_
     ·
      intro mid
      intro w31 ch30
      refine ht (v := at__v) 0 rfl (aQ.refl _ _ _) (fun w' hw' => aJ zs1) (ht 1 rfl (aQ.refl _ _ _) (fun w' hw' => a8 Try.underlying24 rfl rfl zs2 rfl) ?_)
      replace bx5 := bx5.cn ch30
      refine ht 2 rfl (aQ.refl _ _ _) (fun w' hw' => ag bX rfl (bx5.chg hw' (aL rfl)) rfl) (ht (v := vi (e : Int)) 3 rfl (aQ.refl _ _ _) (fun w' hw' => aJ zs6) ?_)
      replace Rg := Rg.cn ch30
      refine ht 4 rfl (aQ.refl _ _ _) (fun w' hw' => ak (v := g_v) (i := (e : Int)) Try.underlying22 rfl rfl (Rg.chg hw' (aL rfl)) rfl (by omega) (by omega)) (ht (v := at__v) 9 rfl (aQ.refl _ _ _) (fun w' hw' => aJ zs1) (ht 10 rfl (aQ.refl _ _ _) (fun w' hw' => a8 Try.underlying24 rfl rfl zs2 rfl) (ht 11 rfl (aQ.refl _ _ _) (fun w' hw' => ag bX rfl (bx5.chg hw' (aL rfl)) rfl) (ht (v := vi (e : Int)) 12 rfl (aQ.refl _ _ _) (fun w' hw' => aJ zs6) (ht 13 rfl (aQ.refl _ _ _) (fun w' hw' => ak (v := g_v) (i := (e : Int)) Try.underlying22 rfl rfl (Rg.chg hw' (aL rfl)) rfl (by omega) (by omega)) ?_)))))
      refine bf 5 [14, 18, 19] (by kernel_rfl) ⟨aZ 5 rfl (by kernel_rfl) rfl ?_, aZ 14 rfl (by kernel_rfl) rfl ?_, aZ 18 rfl (by kernel_rfl) rfl ?_, aZ 19 rfl (by kernel_rfl) rfl ?_, trivial⟩
      ·
       refine aD (v := Value.pointer (some ⟨(aN g_v 2 (Int.toNat (e : Int))).block, (aN g_v 2 (Int.toNat (e : Int))).off + 0, none⟩)) (aG Try.underlying59 rfl rfl rfl (by decide) (by decide) rfl) ?_
       refine ⟨(aQ.refl _ _ _), ?_⟩
       refine ht 6 rfl (aQ.refl _ _ _) (fun w' hw' => aR (v := g_v) (i := (e : Int)) al rfl (Rg.chg hw' (aL rfl)) (by omega) (by omega) (by decide) rfl) ?_
       replace Rat_ := Rat_.cn ch30
       refine ht 7 rfl (aQ.refl _ _ _) (fun w' hw' => ak (v := at__v) (i := (gI g.2 (e : Int)).1) Try.underlying25 rfl rfl (Rat_.chg hw' (aL rfl)) rfl (by omega) (by omega)) (ht (v := vg [vi ((gI at_ ((gI g.2 (e : Int)).1)).1), vi ((gI at_ ((gI g.2 (e : Int)).1)).2)]) 8 rfl (aQ.refl _ _ _) (fun w' hw' => az (v := at__v) (i := (gI g.2 (e : Int)).1) aa rfl (Rat_.chg hw' (aL rfl)) (by omega) (by omega) rfl) ?_)
       refine bf 14 [18, 19] (by kernel_rfl) ⟨aZ 14 rfl (by kernel_rfl) rfl ?_, aZ 18 rfl (by kernel_rfl) rfl ?_, aZ 19 rfl (by kernel_rfl) rfl ?_, trivial⟩
       ·
        refine aD (v := Value.pointer (some ⟨(aN g_v 2 (Int.toNat (e : Int))).block, (aN g_v 2 (Int.toNat (e : Int))).off + 1, none⟩)) (aG Try.underlying59 rfl rfl rfl (by decide) (by decide) rfl) ?_
        refine ⟨(aQ.refl _ _ _), ?_⟩
        refine ht 15 rfl (aQ.refl _ _ _) (fun w' hw' => aR (v := g_v) (i := (e : Int)) al rfl (Rg.chg hw' (aL rfl)) (by omega) (by omega) (by decide) rfl) (ht 16 rfl (aQ.refl _ _ _) (fun w' hw' => ak (v := at__v) (i := (gI g.2 (e : Int)).2) Try.underlying25 rfl rfl (Rat_.chg hw' (aL rfl)) rfl (by omega) (by omega)) (ht (v := vg [vi ((gI at_ ((gI g.2 (e : Int)).2)).1), vi ((gI at_ ((gI g.2 (e : Int)).2)).2)]) 17 rfl (aQ.refl _ _ _) (fun w' hw' => az (v := at__v) (i := (gI g.2 (e : Int)).2) aa rfl (Rat_.chg hw' (aL rfl)) (by omega) (by omega) rfl) ?_))
        refine bf 18 [19] (by kernel_rfl) ⟨aZ 18 rfl (by kernel_rfl) rfl ?_, aZ 19 rfl (by kernel_rfl) rfl ?_, trivial⟩
        ·
         refine aM g29 (is 3) (3, 0) rfl aa ?_
         intro g35 w32 b34 ch33 bx36
         replace bx36 : Bx g35 (is 3) w32 b34 [vi 0, vi 0] := bx36
         have hs37 : aQ (bE [3, 4]) _ _ _ _ := ch33.n
         refine ⟨hs37.same, ?_⟩
         refine au 19 rfl (by kernel_rfl) rfl (aM g35 (is 4) (4, 0) rfl aa ?_)
         intro g41 w38 b40 ch39 bx42
         replace bx42 : Bx g41 (is 4) w38 b40 [vi 0, vi 0] := bx42
         have hs43 := hs37.seq (ch39.n)
         refine ⟨hs43.same, ?_⟩
         refine au 20 rfl (by kernel_rfl) rfl ?_
         replace bx36 := bx36.cn ch39
         refine ae (cs' := [vi ((gI at_ ((gI g.2 (e : Int)).1)).1), vi ((gI at_ ((gI g.2 (e : Int)).1)).2)]) aa rfl rfl bx36 rfl (Nat.le_of_ble_eq_true rfl) (AllOne.all (.cons rfl (.cons rfl .nil))) rfl ?_
         intro w44 ch45 bx46
         clear bx36
         have hs47 := hs43.seq (ch45.l rfl)
         refine ⟨hs47.same, ?_⟩
         refine au 21 rfl (by kernel_rfl) rfl ?_
         replace bx42 := bx42.ce ch45
         refine ae (cs' := [vi ((gI at_ ((gI g.2 (e : Int)).2)).1), vi ((gI at_ ((gI g.2 (e : Int)).2)).2)]) aa rfl rfl bx42 rfl (Nat.le_of_ble_eq_true rfl) (AllOne.all (.cons rfl (.cons rfl .nil))) rfl ?_
         intro w48 ch49 bx50
         clear bx42
         have hs51 := hs47.seq (ch49.l rfl)
         refine ⟨hs51.same, ?_⟩
         refine ba (by kernel_rfl) ?_
         have C52 := cg [3, 4] (ch30.n.seq (ch33.n.seq (ch39.n.seq ((ch45.l rfl).seq (ch49.l rfl)))))
         replace bx24 := bx24.cn ch30
         replace o_Ls := o_Ls.cn ch30
         exact mid (b34, b40, g41) _ _ ⟨bH.ca C52, zs1, zs2, zs5, zs6, rfl, rfl, (Rg.ca hs51), (Rat_.ca hs51), (bx5.ca hs51), (bx24.ca hs51), (o_Ls.ca hs51), bx46.ce ch49, bx50⟩
        ·
         refine aM g29 (is 4) (4, 0) rfl aa ?_
         intro g56 w53 b55 ch54 bx57
         replace bx57 : Bx g56 (is 4) w53 b55 [vi 0, vi 0] := bx57
         have hs58 : aQ (bE [3, 4]) _ _ _ _ := ch54.n
         refine ⟨hs58.same, ?_⟩
         refine au 18 rfl (by kernel_rfl) rfl (aM g56 (is 3) (3, 0) rfl aa ?_)
         intro g62 w59 b61 ch60 bx63
         replace bx63 : Bx g62 (is 3) w59 b61 [vi 0, vi 0] := bx63
         have hs64 := hs58.seq (ch60.n)
         refine ⟨hs64.same, ?_⟩
         refine au 20 rfl (by kernel_rfl) rfl (ae (cs' := [vi ((gI at_ ((gI g.2 (e : Int)).1)).1), vi ((gI at_ ((gI g.2 (e : Int)).1)).2)]) aa rfl rfl bx63 rfl (Nat.le_of_ble_eq_true rfl) (AllOne.all (.cons rfl (.cons rfl .nil))) rfl ?_)
         intro w65 ch66 bx67
         clear bx63
         have hs68 := hs64.seq (ch66.l rfl)
         refine ⟨hs68.same, ?_⟩
         refine au 21 rfl (by kernel_rfl) rfl ?_
         replace bx57 := (bx57.cn ch60).ce ch66
         refine ae (cs' := [vi ((gI at_ ((gI g.2 (e : Int)).2)).1), vi ((gI at_ ((gI g.2 (e : Int)).2)).2)]) aa rfl rfl bx57 rfl (Nat.le_of_ble_eq_true rfl) (AllOne.all (.cons rfl (.cons rfl .nil))) rfl ?_
         intro w69 ch70 bx71
         clear bx57
         have hs72 := hs68.seq (ch70.l rfl)
         refine ⟨hs72.same, ?_⟩
         refine ba (by kernel_rfl) ?_
         have C73 := cg [3, 4] (ch30.n.seq (ch54.n.seq (ch60.n.seq ((ch66.l rfl).seq (ch70.l rfl)))))
         replace bx24 := bx24.cn ch30
         replace o_Ls := o_Ls.cn ch30
         exact mid (b61, b55, g62) _ _ ⟨bH.ca C73, zs1, zs2, zs5, zs6, rfl, rfl, (Rg.ca hs72), (Rat_.ca hs72), (bx5.ca hs72), (bx24.ca hs72), (o_Ls.ca hs72), bx67.ce ch70, bx71⟩
       ·
        refine aM g29 (is 3) (3, 0) rfl aa ?_
        intro g77 w74 b76 ch75 bx78
        replace bx78 : Bx g77 (is 3) w74 b76 [vi 0, vi 0] := bx78
        have hs79 : aQ (bE [3, 4]) _ _ _ _ := ch75.n
        refine ⟨hs79.same, ?_⟩
        refine bf 14 [19] (by kernel_rfl) ⟨aZ 14 rfl (by kernel_rfl) rfl ?_, aZ 19 rfl (by kernel_rfl) rfl ?_, trivial⟩
        ·
         refine aD (v := Value.pointer (some ⟨(aN g_v 2 (Int.toNat (e : Int))).block, (aN g_v 2 (Int.toNat (e : Int))).off + 1, none⟩)) (aG Try.underlying59 rfl rfl rfl (by decide) (by decide) rfl) ?_
         refine ⟨hs79.same, ?_⟩
         refine ht 15 rfl hs79.same (fun w' hw' => aR (v := g_v) (i := (e : Int)) al rfl (Rg.chg hw' (aL rfl)) (by omega) (by omega) (by decide) rfl) (ht 16 rfl hs79.same (fun w' hw' => ak (v := at__v) (i := (gI g.2 (e : Int)).2) Try.underlying25 rfl rfl (Rat_.chg hw' (aL rfl)) rfl (by omega) (by omega)) (ht (v := vg [vi ((gI at_ ((gI g.2 (e : Int)).2)).1), vi ((gI at_ ((gI g.2 (e : Int)).2)).2)]) 17 rfl hs79.same (fun w' hw' => az (v := at__v) (i := (gI g.2 (e : Int)).2) aa rfl (Rat_.chg hw' (aL rfl)) (by omega) (by omega) rfl) (au 19 rfl (by kernel_rfl) rfl (aM g77 (is 4) (4, 0) rfl aa ?_))))
         intro g83 w80 b82 ch81 bx84
         replace bx84 : Bx g83 (is 4) w80 b82 [vi 0, vi 0] := bx84
         have hs85 := hs79.seq (ch81.n)
         refine ⟨hs85.same, ?_⟩
         refine au 20 rfl (by kernel_rfl) rfl ?_
         replace bx78 := bx78.cn ch81
         refine ae (cs' := [vi ((gI at_ ((gI g.2 (e : Int)).1)).1), vi ((gI at_ ((gI g.2 (e : Int)).1)).2)]) aa rfl rfl bx78 rfl (Nat.le_of_ble_eq_true rfl) (AllOne.all (.cons rfl (.cons rfl .nil))) rfl ?_
         intro w86 ch87 bx88
         clear bx78
         have hs89 := hs85.seq (ch87.l rfl)
         refine ⟨hs89.same, ?_⟩
         refine au 21 rfl (by kernel_rfl) rfl ?_
         replace bx84 := bx84.ce ch87
         refine ae (cs' := [vi ((gI at_ ((gI g.2 (e : Int)).2)).1), vi ((gI at_ ((gI g.2 (e : Int)).2)).2)]) aa rfl rfl bx84 rfl (Nat.le_of_ble_eq_true rfl) (AllOne.all (.cons rfl (.cons rfl .nil))) rfl ?_
         intro w90 ch91 bx92
         clear bx84
         have hs93 := hs89.seq (ch91.l rfl)
         refine ⟨hs93.same, ?_⟩
         refine ba (by kernel_rfl) ?_
         have C94 := cg [3, 4] (ch30.n.seq (ch75.n.seq (ch81.n.seq ((ch87.l rfl).seq (ch91.l rfl)))))
         replace bx24 := bx24.cn ch30
         replace o_Ls := o_Ls.cn ch30
         exact mid (b76, b82, g83) _ _ ⟨bH.ca C94, zs1, zs2, zs5, zs6, rfl, rfl, (Rg.ca hs93), (Rat_.ca hs93), (bx5.ca hs93), (bx24.ca hs93), (o_Ls.ca hs93), bx88.ce ch91, bx92⟩
        ·
         refine aM g77 (is 4) (4, 0) rfl aa ?_
         intro g98 w95 b97 ch96 bx99
         replace bx99 : Bx g98 (is 4) w95 b97 [vi 0, vi 0] := bx99
         have hs100 := hs79.seq (ch96.n)
         refine ⟨hs100.same, ?_⟩
         refine bf 14 [20] (by kernel_rfl) ⟨aZ 14 rfl (by kernel_rfl) rfl ?_, aZ 20 rfl (by kernel_rfl) rfl ?_, trivial⟩
         ·
          refine aD (v := Value.pointer (some ⟨(aN g_v 2 (Int.toNat (e : Int))).block, (aN g_v 2 (Int.toNat (e : Int))).off + 1, none⟩)) (aG Try.underlying59 rfl rfl rfl (by decide) (by decide) rfl) ?_
          refine ⟨hs100.same, ?_⟩
          refine ht 15 rfl hs100.same (fun w' hw' => aR (v := g_v) (i := (e : Int)) al rfl (Rg.chg hw' (aL rfl)) (by omega) (by omega) (by decide) rfl) (ht 16 rfl hs100.same (fun w' hw' => ak (v := at__v) (i := (gI g.2 (e : Int)).2) Try.underlying25 rfl rfl (Rat_.chg hw' (aL rfl)) rfl (by omega) (by omega)) (ht (v := vg [vi ((gI at_ ((gI g.2 (e : Int)).2)).1), vi ((gI at_ ((gI g.2 (e : Int)).2)).2)]) 17 rfl hs100.same (fun w' hw' => az (v := at__v) (i := (gI g.2 (e : Int)).2) aa rfl (Rat_.chg hw' (aL rfl)) (by omega) (by omega) rfl) (au 20 rfl (by kernel_rfl) rfl ?_)))
          replace bx78 := bx78.cn ch96
          refine ae (cs' := [vi ((gI at_ ((gI g.2 (e : Int)).1)).1), vi ((gI at_ ((gI g.2 (e : Int)).1)).2)]) aa rfl rfl bx78 rfl (Nat.le_of_ble_eq_true rfl) (AllOne.all (.cons rfl (.cons rfl .nil))) rfl ?_
          intro w101 ch102 bx103
          clear bx78
          have hs104 := hs100.seq (ch102.l rfl)
          refine ⟨hs104.same, ?_⟩
          refine au 21 rfl (by kernel_rfl) rfl ?_
          replace bx99 := bx99.ce ch102
          refine ae (cs' := [vi ((gI at_ ((gI g.2 (e : Int)).2)).1), vi ((gI at_ ((gI g.2 (e : Int)).2)).2)]) aa rfl rfl bx99 rfl (Nat.le_of_ble_eq_true rfl) (AllOne.all (.cons rfl (.cons rfl .nil))) rfl ?_
          intro w105 ch106 bx107
          clear bx99
          have hs108 := hs104.seq (ch106.l rfl)
          refine ⟨hs108.same, ?_⟩
          refine ba (by kernel_rfl) ?_
          have C109 := cg [3, 4] (ch30.n.seq (ch75.n.seq (ch96.n.seq ((ch102.l rfl).seq (ch106.l rfl)))))
          replace bx24 := bx24.cn ch30
          replace o_Ls := o_Ls.cn ch30
          exact mid (b76, b97, g98) _ _ ⟨bH.ca C109, zs1, zs2, zs5, zs6, rfl, rfl, (Rg.ca hs108), (Rat_.ca hs108), (bx5.ca hs108), (bx24.ca hs108), (o_Ls.ca hs108), bx103.ce ch106, bx107⟩
         ·
          replace bx78 := bx78.cn ch96
          refine ae (cs' := [vi ((gI at_ ((gI g.2 (e : Int)).1)).1), vi ((gI at_ ((gI g.2 (e : Int)).1)).2)]) aa rfl rfl bx78 rfl (Nat.le_of_ble_eq_true rfl) (AllOne.all (.cons rfl (.cons rfl .nil))) rfl ?_
          intro w110 ch111 bx112
          clear bx78
          have hs113 := hs100.seq (ch111.l rfl)
          refine ⟨hs113.same, ?_⟩
          refine au 14 rfl (by kernel_rfl) rfl (aD (v := Value.pointer (some ⟨(aN g_v 2 (Int.toNat (e : Int))).block, (aN g_v 2 (Int.toNat (e : Int))).off + 1, none⟩)) (aG Try.underlying59 rfl rfl rfl (by decide) (by decide) rfl) ?_)
          refine ⟨hs113.same, ?_⟩
          refine ht 15 rfl hs113.same (fun w' hw' => aR (v := g_v) (i := (e : Int)) al rfl (Rg.chg hw' (aL rfl)) (by omega) (by omega) (by decide) rfl) (ht 16 rfl hs113.same (fun w' hw' => ak (v := at__v) (i := (gI g.2 (e : Int)).2) Try.underlying25 rfl rfl (Rat_.chg hw' (aL rfl)) rfl (by omega) (by omega)) (ht (v := vg [vi ((gI at_ ((gI g.2 (e : Int)).2)).1), vi ((gI at_ ((gI g.2 (e : Int)).2)).2)]) 17 rfl hs113.same (fun w' hw' => az (v := at__v) (i := (gI g.2 (e : Int)).2) aa rfl (Rat_.chg hw' (aL rfl)) (by omega) (by omega) rfl) (au 21 rfl (by kernel_rfl) rfl ?_)))
          replace bx99 := bx99.ce ch111
          refine ae (cs' := [vi ((gI at_ ((gI g.2 (e : Int)).2)).1), vi ((gI at_ ((gI g.2 (e : Int)).2)).2)]) aa rfl rfl bx99 rfl (Nat.le_of_ble_eq_true rfl) (AllOne.all (.cons rfl (.cons rfl .nil))) rfl ?_
          intro w114 ch115 bx116
          clear bx99
          have hs117 := hs113.seq (ch115.l rfl)
          refine ⟨hs117.same, ?_⟩
          refine ba (by kernel_rfl) ?_
          have C118 := cg [3, 4] (ch30.n.seq (ch75.n.seq (ch96.n.seq ((ch111.l rfl).seq (ch115.l rfl)))))
          replace bx24 := bx24.cn ch30
          replace o_Ls := o_Ls.cn ch30
          exact mid (b76, b97, g98) _ _ ⟨bH.ca C118, zs1, zs2, zs5, zs6, rfl, rfl, (Rg.ca hs117), (Rat_.ca hs117), (bx5.ca hs117), (bx24.ca hs117), (o_Ls.ca hs117), bx112.ce ch115, bx116⟩
       ·
        refine aM g29 (is 4) (4, 0) rfl aa ?_
        intro g122 w119 b121 ch120 bx123
        replace bx123 : Bx g122 (is 4) w119 b121 [vi 0, vi 0] := bx123
        have hs124 : aQ (bE [3, 4]) _ _ _ _ := ch120.n
        refine ⟨hs124.same, ?_⟩
        refine bf 14 [18] (by kernel_rfl) ⟨aZ 14 rfl (by kernel_rfl) rfl ?_, aZ 18 rfl (by kernel_rfl) rfl ?_, trivial⟩
        ·
         refine aD (v := Value.pointer (some ⟨(aN g_v 2 (Int.toNat (e : Int))).block, (aN g_v 2 (Int.toNat (e : Int))).off + 1, none⟩)) (aG Try.underlying59 rfl rfl rfl (by decide) (by decide) rfl) ?_
         refine ⟨hs124.same, ?_⟩
         refine ht 15 rfl hs124.same (fun w' hw' => aR (v := g_v) (i := (e : Int)) al rfl (Rg.chg hw' (aL rfl)) (by omega) (by omega) (by decide) rfl) (ht 16 rfl hs124.same (fun w' hw' => ak (v := at__v) (i := (gI g.2 (e : Int)).2) Try.underlying25 rfl rfl (Rat_.chg hw' (aL rfl)) rfl (by omega) (by omega)) (ht (v := vg [vi ((gI at_ ((gI g.2 (e : Int)).2)).1), vi ((gI at_ ((gI g.2 (e : Int)).2)).2)]) 17 rfl hs124.same (fun w' hw' => az (v := at__v) (i := (gI g.2 (e : Int)).2) aa rfl (Rat_.chg hw' (aL rfl)) (by omega) (by omega) rfl) (au 18 rfl (by kernel_rfl) rfl (aM g122 (is 3) (3, 0) rfl aa ?_))))
         intro g128 w125 b127 ch126 bx129
         replace bx129 : Bx g128 (is 3) w125 b127 [vi 0, vi 0] := bx129
         have hs130 := hs124.seq (ch126.n)
         refine ⟨hs130.same, ?_⟩
         refine au 20 rfl (by kernel_rfl) rfl (ae (cs' := [vi ((gI at_ ((gI g.2 (e : Int)).1)).1), vi ((gI at_ ((gI g.2 (e : Int)).1)).2)]) aa rfl rfl bx129 rfl (Nat.le_of_ble_eq_true rfl) (AllOne.all (.cons rfl (.cons rfl .nil))) rfl ?_)
         intro w131 ch132 bx133
         clear bx129
         have hs134 := hs130.seq (ch132.l rfl)
         refine ⟨hs134.same, ?_⟩
         refine au 21 rfl (by kernel_rfl) rfl ?_
         replace bx123 := (bx123.cn ch126).ce ch132
         refine ae (cs' := [vi ((gI at_ ((gI g.2 (e : Int)).2)).1), vi ((gI at_ ((gI g.2 (e : Int)).2)).2)]) aa rfl rfl bx123 rfl (Nat.le_of_ble_eq_true rfl) (AllOne.all (.cons rfl (.cons rfl .nil))) rfl ?_
         intro w135 ch136 bx137
         clear bx123
         have hs138 := hs134.seq (ch136.l rfl)
         refine ⟨hs138.same, ?_⟩
         refine ba (by kernel_rfl) ?_
         have C139 := cg [3, 4] (ch30.n.seq (ch120.n.seq (ch126.n.seq ((ch132.l rfl).seq (ch136.l rfl)))))
         replace bx24 := bx24.cn ch30
         replace o_Ls := o_Ls.cn ch30
         exact mid (b127, b121, g128) _ _ ⟨bH.ca C139, zs1, zs2, zs5, zs6, rfl, rfl, (Rg.ca hs138), (Rat_.ca hs138), (bx5.ca hs138), (bx24.ca hs138), (o_Ls.ca hs138), bx133.ce ch136, bx137⟩
        ·
         refine aM g122 (is 3) (3, 0) rfl aa ?_
         intro g143 w140 b142 ch141 bx144
         replace bx144 : Bx g143 (is 3) w140 b142 [vi 0, vi 0] := bx144
         have hs145 := hs124.seq (ch141.n)
         refine ⟨hs145.same, ?_⟩
         refine bf 14 [20] (by kernel_rfl) ⟨aZ 14 rfl (by kernel_rfl) rfl ?_, aZ 20 rfl (by kernel_rfl) rfl ?_, trivial⟩
         ·
          refine aD (v := Value.pointer (some ⟨(aN g_v 2 (Int.toNat (e : Int))).block, (aN g_v 2 (Int.toNat (e : Int))).off + 1, none⟩)) (aG Try.underlying59 rfl rfl rfl (by decide) (by decide) rfl) ?_
          refine ⟨hs145.same, ?_⟩
          refine ht 15 rfl hs145.same (fun w' hw' => aR (v := g_v) (i := (e : Int)) al rfl (Rg.chg hw' (aL rfl)) (by omega) (by omega) (by decide) rfl) (ht 16 rfl hs145.same (fun w' hw' => ak (v := at__v) (i := (gI g.2 (e : Int)).2) Try.underlying25 rfl rfl (Rat_.chg hw' (aL rfl)) rfl (by omega) (by omega)) (ht (v := vg [vi ((gI at_ ((gI g.2 (e : Int)).2)).1), vi ((gI at_ ((gI g.2 (e : Int)).2)).2)]) 17 rfl hs145.same (fun w' hw' => az (v := at__v) (i := (gI g.2 (e : Int)).2) aa rfl (Rat_.chg hw' (aL rfl)) (by omega) (by omega) rfl) (au 20 rfl (by kernel_rfl) rfl (ae (cs' := [vi ((gI at_ ((gI g.2 (e : Int)).1)).1), vi ((gI at_ ((gI g.2 (e : Int)).1)).2)]) aa rfl rfl bx144 rfl (Nat.le_of_ble_eq_true rfl) (AllOne.all (.cons rfl (.cons rfl .nil))) rfl ?_))))
          intro w146 ch147 bx148
          clear bx144
          have hs149 := hs145.seq (ch147.l rfl)
          refine ⟨hs149.same, ?_⟩
          refine au 21 rfl (by kernel_rfl) rfl ?_
          replace bx123 := (bx123.cn ch141).ce ch147
          refine ae (cs' := [vi ((gI at_ ((gI g.2 (e : Int)).2)).1), vi ((gI at_ ((gI g.2 (e : Int)).2)).2)]) aa rfl rfl bx123 rfl (Nat.le_of_ble_eq_true rfl) (AllOne.all (.cons rfl (.cons rfl .nil))) rfl ?_
          intro w150 ch151 bx152
          clear bx123
          have hs153 := hs149.seq (ch151.l rfl)
          refine ⟨hs153.same, ?_⟩
          refine ba (by kernel_rfl) ?_
          have C154 := cg [3, 4] (ch30.n.seq (ch120.n.seq (ch141.n.seq ((ch147.l rfl).seq (ch151.l rfl)))))
          replace bx24 := bx24.cn ch30
          replace o_Ls := o_Ls.cn ch30
          exact mid (b142, b121, g143) _ _ ⟨bH.ca C154, zs1, zs2, zs5, zs6, rfl, rfl, (Rg.ca hs153), (Rat_.ca hs153), (bx5.ca hs153), (bx24.ca hs153), (o_Ls.ca hs153), bx148.ce ch151, bx152⟩
         ·
          refine ae (cs' := [vi ((gI at_ ((gI g.2 (e : Int)).1)).1), vi ((gI at_ ((gI g.2 (e : Int)).1)).2)]) aa rfl rfl bx144 rfl (Nat.le_of_ble_eq_true rfl) (AllOne.all (.cons rfl (.cons rfl .nil))) rfl ?_
          intro w155 ch156 bx157
          clear bx144
          have hs158 := hs145.seq (ch156.l rfl)
          refine ⟨hs158.same, ?_⟩
          refine au 14 rfl (by kernel_rfl) rfl (aD (v := Value.pointer (some ⟨(aN g_v 2 (Int.toNat (e : Int))).block, (aN g_v 2 (Int.toNat (e : Int))).off + 1, none⟩)) (aG Try.underlying59 rfl rfl rfl (by decide) (by decide) rfl) ?_)
          refine ⟨hs158.same, ?_⟩
          refine ht 15 rfl hs158.same (fun w' hw' => aR (v := g_v) (i := (e : Int)) al rfl (Rg.chg hw' (aL rfl)) (by omega) (by omega) (by decide) rfl) (ht 16 rfl hs158.same (fun w' hw' => ak (v := at__v) (i := (gI g.2 (e : Int)).2) Try.underlying25 rfl rfl (Rat_.chg hw' (aL rfl)) rfl (by omega) (by omega)) (ht (v := vg [vi ((gI at_ ((gI g.2 (e : Int)).2)).1), vi ((gI at_ ((gI g.2 (e : Int)).2)).2)]) 17 rfl hs158.same (fun w' hw' => az (v := at__v) (i := (gI g.2 (e : Int)).2) aa rfl (Rat_.chg hw' (aL rfl)) (by omega) (by omega) rfl) (au 21 rfl (by kernel_rfl) rfl ?_)))
          replace bx123 := (bx123.cn ch141).ce ch156
          refine ae (cs' := [vi ((gI at_ ((gI g.2 (e : Int)).2)).1), vi ((gI at_ ((gI g.2 (e : Int)).2)).2)]) aa rfl rfl bx123 rfl (Nat.le_of_ble_eq_true rfl) (AllOne.all (.cons rfl (.cons rfl .nil))) rfl ?_
          intro w159 ch160 bx161
          clear bx123
          have hs162 := hs158.seq (ch160.l rfl)
          refine ⟨hs162.same, ?_⟩
          refine ba (by kernel_rfl) ?_
          have C163 := cg [3, 4] (ch30.n.seq (ch120.n.seq (ch141.n.seq ((ch156.l rfl).seq (ch160.l rfl)))))
          replace bx24 := bx24.cn ch30
          replace o_Ls := o_Ls.cn ch30
          exact mid (b142, b121, g143) _ _ ⟨bH.ca C163, zs1, zs2, zs5, zs6, rfl, rfl, (Rg.ca hs162), (Rat_.ca hs162), (bx5.ca hs162), (bx24.ca hs162), (o_Ls.ca hs162), bx157.ce ch160, bx161⟩
      ·
       refine aD (v := Value.pointer (some ⟨(aN g_v 2 (Int.toNat (e : Int))).block, (aN g_v 2 (Int.toNat (e : Int))).off + 1, none⟩)) (aG Try.underlying59 rfl rfl rfl (by decide) (by decide) rfl) ?_
       refine ⟨(aQ.refl _ _ _), ?_⟩
       refine ht 15 rfl (aQ.refl _ _ _) (fun w' hw' => aR (v := g_v) (i := (e : Int)) al rfl (Rg.chg hw' (aL rfl)) (by omega) (by omega) (by decide) rfl) ?_
       replace Rat_ := Rat_.cn ch30
       refine ht 16 rfl (aQ.refl _ _ _) (fun w' hw' => ak (v := at__v) (i := (gI g.2 (e : Int)).2) Try.underlying25 rfl rfl (Rat_.chg hw' (aL rfl)) rfl (by omega) (by omega)) (ht (v := vg [vi ((gI at_ ((gI g.2 (e : Int)).2)).1), vi ((gI at_ ((gI g.2 (e : Int)).2)).2)]) 17 rfl (aQ.refl _ _ _) (fun w' hw' => az (v := at__v) (i := (gI g.2 (e : Int)).2) aa rfl (Rat_.chg hw' (aL rfl)) (by omega) (by omega) rfl) ?_)
       refine bf 5 [18, 19] (by kernel_rfl) ⟨aZ 5 rfl (by kernel_rfl) rfl ?_, aZ 18 rfl (by kernel_rfl) rfl ?_, aZ 19 rfl (by kernel_rfl) rfl ?_, trivial⟩
       ·
        refine aD (v := Value.pointer (some ⟨(aN g_v 2 (Int.toNat (e : Int))).block, (aN g_v 2 (Int.toNat (e : Int))).off + 0, none⟩)) (aG Try.underlying59 rfl rfl rfl (by decide) (by decide) rfl) ?_
        refine ⟨(aQ.refl _ _ _), ?_⟩
        refine ht 6 rfl (aQ.refl _ _ _) (fun w' hw' => aR (v := g_v) (i := (e : Int)) al rfl (Rg.chg hw' (aL rfl)) (by omega) (by omega) (by decide) rfl) (ht 7 rfl (aQ.refl _ _ _) (fun w' hw' => ak (v := at__v) (i := (gI g.2 (e : Int)).1) Try.underlying25 rfl rfl (Rat_.chg hw' (aL rfl)) rfl (by omega) (by omega)) (ht (v := vg [vi ((gI at_ ((gI g.2 (e : Int)).1)).1), vi ((gI at_ ((gI g.2 (e : Int)).1)).2)]) 8 rfl (aQ.refl _ _ _) (fun w' hw' => az (v := at__v) (i := (gI g.2 (e : Int)).1) aa rfl (Rat_.chg hw' (aL rfl)) (by omega) (by omega) rfl) ?_))
        refine bf 18 [19] (by kernel_rfl) ⟨aZ 18 rfl (by kernel_rfl) rfl ?_, aZ 19 rfl (by kernel_rfl) rfl ?_, trivial⟩
        ·
         refine aM g29 (is 3) (3, 0) rfl aa ?_
         intro g167 w164 b166 ch165 bx168
         replace bx168 : Bx g167 (is 3) w164 b166 [vi 0, vi 0] := bx168
         have hs169 : aQ (bE [3, 4]) _ _ _ _ := ch165.n
         refine ⟨hs169.same, ?_⟩
         refine au 19 rfl (by kernel_rfl) rfl (aM g167 (is 4) (4, 0) rfl aa ?_)
         intro g173 w170 b172 ch171 bx174
         replace bx174 : Bx g173 (is 4) w170 b172 [vi 0, vi 0] := bx174
         have hs175 := hs169.seq (ch171.n)
         refine ⟨hs175.same, ?_⟩
         refine au 20 rfl (by kernel_rfl) rfl ?_
         replace bx168 := bx168.cn ch171
         refine ae (cs' := [vi ((gI at_ ((gI g.2 (e : Int)).1)).1), vi ((gI at_ ((gI g.2 (e : Int)).1)).2)]) aa rfl rfl bx168 rfl (Nat.le_of_ble_eq_true rfl) (AllOne.all (.cons rfl (.cons rfl .nil))) rfl ?_
         intro w176 ch177 bx178
         clear bx168
         have hs179 := hs175.seq (ch177.l rfl)
         refine ⟨hs179.same, ?_⟩
         refine au 21 rfl (by kernel_rfl) rfl ?_
         replace bx174 := bx174.ce ch177
         refine ae (cs' := [vi ((gI at_ ((gI g.2 (e : Int)).2)).1), vi ((gI at_ ((gI g.2 (e : Int)).2)).2)]) aa rfl rfl bx174 rfl (Nat.le_of_ble_eq_true rfl) (AllOne.all (.cons rfl (.cons rfl .nil))) rfl ?_
         intro w180 ch181 bx182
         clear bx174
         have hs183 := hs179.seq (ch181.l rfl)
         refine ⟨hs183.same, ?_⟩
         refine ba (by kernel_rfl) ?_
         have C184 := cg [3, 4] (ch30.n.seq (ch165.n.seq (ch171.n.seq ((ch177.l rfl).seq (ch181.l rfl)))))
         replace bx24 := bx24.cn ch30
         replace o_Ls := o_Ls.cn ch30
         exact mid (b166, b172, g173) _ _ ⟨bH.ca C184, zs1, zs2, zs5, zs6, rfl, rfl, (Rg.ca hs183), (Rat_.ca hs183), (bx5.ca hs183), (bx24.ca hs183), (o_Ls.ca hs183), bx178.ce ch181, bx182⟩
        ·
         refine aM g29 (is 4) (4, 0) rfl aa ?_
         intro g188 w185 b187 ch186 bx189
         replace bx189 : Bx g188 (is 4) w185 b187 [vi 0, vi 0] := bx189
         have hs190 : aQ (bE [3, 4]) _ _ _ _ := ch186.n
         refine ⟨hs190.same, ?_⟩
         refine au 18 rfl (by kernel_rfl) rfl (aM g188 (is 3) (3, 0) rfl aa ?_)
         intro g194 w191 b193 ch192 bx195
         replace bx195 : Bx g194 (is 3) w191 b193 [vi 0, vi 0] := bx195
         have hs196 := hs190.seq (ch192.n)
         refine ⟨hs196.same, ?_⟩
         refine au 20 rfl (by kernel_rfl) rfl (ae (cs' := [vi ((gI at_ ((gI g.2 (e : Int)).1)).1), vi ((gI at_ ((gI g.2 (e : Int)).1)).2)]) aa rfl rfl bx195 rfl (Nat.le_of_ble_eq_true rfl) (AllOne.all (.cons rfl (.cons rfl .nil))) rfl ?_)
         intro w197 ch198 bx199
         clear bx195
         have hs200 := hs196.seq (ch198.l rfl)
         refine ⟨hs200.same, ?_⟩
         refine au 21 rfl (by kernel_rfl) rfl ?_
         replace bx189 := (bx189.cn ch192).ce ch198
         refine ae (cs' := [vi ((gI at_ ((gI g.2 (e : Int)).2)).1), vi ((gI at_ ((gI g.2 (e : Int)).2)).2)]) aa rfl rfl bx189 rfl (Nat.le_of_ble_eq_true rfl) (AllOne.all (.cons rfl (.cons rfl .nil))) rfl ?_
         intro w201 ch202 bx203
         clear bx189
         have hs204 := hs200.seq (ch202.l rfl)
         refine ⟨hs204.same, ?_⟩
         refine ba (by kernel_rfl) ?_
         have C205 := cg [3, 4] (ch30.n.seq (ch186.n.seq (ch192.n.seq ((ch198.l rfl).seq (ch202.l rfl)))))
         replace bx24 := bx24.cn ch30
         replace o_Ls := o_Ls.cn ch30
         exact mid (b193, b187, g194) _ _ ⟨bH.ca C205, zs1, zs2, zs5, zs6, rfl, rfl, (Rg.ca hs204), (Rat_.ca hs204), (bx5.ca hs204), (bx24.ca hs204), (o_Ls.ca hs204), bx199.ce ch202, bx203⟩
       ·
        refine aM g29 (is 3) (3, 0) rfl aa ?_
        intro g209 w206 b208 ch207 bx210
        replace bx210 : Bx g209 (is 3) w206 b208 [vi 0, vi 0] := bx210
        have hs211 : aQ (bE [3, 4]) _ _ _ _ := ch207.n
        refine ⟨hs211.same, ?_⟩
        refine bf 5 [19] (by kernel_rfl) ⟨aZ 5 rfl (by kernel_rfl) rfl ?_, aZ 19 rfl (by kernel_rfl) rfl ?_, trivial⟩
        ·
         refine aD (v := Value.pointer (some ⟨(aN g_v 2 (Int.toNat (e : Int))).block, (aN g_v 2 (Int.toNat (e : Int))).off + 0, none⟩)) (aG Try.underlying59 rfl rfl rfl (by decide) (by decide) rfl) ?_
         refine ⟨hs211.same, ?_⟩
         refine ht 6 rfl hs211.same (fun w' hw' => aR (v := g_v) (i := (e : Int)) al rfl (Rg.chg hw' (aL rfl)) (by omega) (by omega) (by decide) rfl) (ht 7 rfl hs211.same (fun w' hw' => ak (v := at__v) (i := (gI g.2 (e : Int)).1) Try.underlying25 rfl rfl (Rat_.chg hw' (aL rfl)) rfl (by omega) (by omega)) (ht (v := vg [vi ((gI at_ ((gI g.2 (e : Int)).1)).1), vi ((gI at_ ((gI g.2 (e : Int)).1)).2)]) 8 rfl hs211.same (fun w' hw' => az (v := at__v) (i := (gI g.2 (e : Int)).1) aa rfl (Rat_.chg hw' (aL rfl)) (by omega) (by omega) rfl) (au 19 rfl (by kernel_rfl) rfl (aM g209 (is 4) (4, 0) rfl aa ?_))))
         intro g215 w212 b214 ch213 bx216
         replace bx216 : Bx g215 (is 4) w212 b214 [vi 0, vi 0] := bx216
         have hs217 := hs211.seq (ch213.n)
         refine ⟨hs217.same, ?_⟩
         refine au 20 rfl (by kernel_rfl) rfl ?_
         replace bx210 := bx210.cn ch213
         refine ae (cs' := [vi ((gI at_ ((gI g.2 (e : Int)).1)).1), vi ((gI at_ ((gI g.2 (e : Int)).1)).2)]) aa rfl rfl bx210 rfl (Nat.le_of_ble_eq_true rfl) (AllOne.all (.cons rfl (.cons rfl .nil))) rfl ?_
         intro w218 ch219 bx220
         clear bx210
         have hs221 := hs217.seq (ch219.l rfl)
         refine ⟨hs221.same, ?_⟩
         refine au 21 rfl (by kernel_rfl) rfl ?_
         replace bx216 := bx216.ce ch219
         refine ae (cs' := [vi ((gI at_ ((gI g.2 (e : Int)).2)).1), vi ((gI at_ ((gI g.2 (e : Int)).2)).2)]) aa rfl rfl bx216 rfl (Nat.le_of_ble_eq_true rfl) (AllOne.all (.cons rfl (.cons rfl .nil))) rfl ?_
         intro w222 ch223 bx224
         clear bx216
         have hs225 := hs221.seq (ch223.l rfl)
         refine ⟨hs225.same, ?_⟩
         refine ba (by kernel_rfl) ?_
         have C226 := cg [3, 4] (ch30.n.seq (ch207.n.seq (ch213.n.seq ((ch219.l rfl).seq (ch223.l rfl)))))
         replace bx24 := bx24.cn ch30
         replace o_Ls := o_Ls.cn ch30
         exact mid (b208, b214, g215) _ _ ⟨bH.ca C226, zs1, zs2, zs5, zs6, rfl, rfl, (Rg.ca hs225), (Rat_.ca hs225), (bx5.ca hs225), (bx24.ca hs225), (o_Ls.ca hs225), bx220.ce ch223, bx224⟩
        ·
         refine aM g209 (is 4) (4, 0) rfl aa ?_
         intro g230 w227 b229 ch228 bx231
         replace bx231 : Bx g230 (is 4) w227 b229 [vi 0, vi 0] := bx231
         have hs232 := hs211.seq (ch228.n)
         refine ⟨hs232.same, ?_⟩
         refine au 5 rfl (by kernel_rfl) rfl (aD (v := Value.pointer (some ⟨(aN g_v 2 (Int.toNat (e : Int))).block, (aN g_v 2 (Int.toNat (e : Int))).off + 0, none⟩)) (aG Try.underlying59 rfl rfl rfl (by decide) (by decide) rfl) ?_)
         refine ⟨hs232.same, ?_⟩
         refine ht 6 rfl hs232.same (fun w' hw' => aR (v := g_v) (i := (e : Int)) al rfl (Rg.chg hw' (aL rfl)) (by omega) (by omega) (by decide) rfl) (ht 7 rfl hs232.same (fun w' hw' => ak (v := at__v) (i := (gI g.2 (e : Int)).1) Try.underlying25 rfl rfl (Rat_.chg hw' (aL rfl)) rfl (by omega) (by omega)) (ht (v := vg [vi ((gI at_ ((gI g.2 (e : Int)).1)).1), vi ((gI at_ ((gI g.2 (e : Int)).1)).2)]) 8 rfl hs232.same (fun w' hw' => az (v := at__v) (i := (gI g.2 (e : Int)).1) aa rfl (Rat_.chg hw' (aL rfl)) (by omega) (by omega) rfl) (au 20 rfl (by kernel_rfl) rfl ?_)))
         replace bx210 := bx210.cn ch228
         refine ae (cs' := [vi ((gI at_ ((gI g.2 (e : Int)).1)).1), vi ((gI at_ ((gI g.2 (e : Int)).1)).2)]) aa rfl rfl bx210 rfl (Nat.le_of_ble_eq_true rfl) (AllOne.all (.cons rfl (.cons rfl .nil))) rfl ?_
         intro w233 ch234 bx235
         clear bx210
         have hs236 := hs232.seq (ch234.l rfl)
         refine ⟨hs236.same, ?_⟩
         refine au 21 rfl (by kernel_rfl) rfl ?_
         replace bx231 := bx231.ce ch234
         refine ae (cs' := [vi ((gI at_ ((gI g.2 (e : Int)).2)).1), vi ((gI at_ ((gI g.2 (e : Int)).2)).2)]) aa rfl rfl bx231 rfl (Nat.le_of_ble_eq_true rfl) (AllOne.all (.cons rfl (.cons rfl .nil))) rfl ?_
         intro w237 ch238 bx239
         clear bx231
         have hs240 := hs236.seq (ch238.l rfl)
         refine ⟨hs240.same, ?_⟩
         refine ba (by kernel_rfl) ?_
         have C241 := cg [3, 4] (ch30.n.seq (ch207.n.seq (ch228.n.seq ((ch234.l rfl).seq (ch238.l rfl)))))
         replace bx24 := bx24.cn ch30
         replace o_Ls := o_Ls.cn ch30
         exact mid (b208, b229, g230) _ _ ⟨bH.ca C241, zs1, zs2, zs5, zs6, rfl, rfl, (Rg.ca hs240), (Rat_.ca hs240), (bx5.ca hs240), (bx24.ca hs240), (o_Ls.ca hs240), bx235.ce ch238, bx239⟩
       ·
        refine aM g29 (is 4) (4, 0) rfl aa ?_
        intro g245 w242 b244 ch243 bx246
        replace bx246 : Bx g245 (is 4) w242 b244 [vi 0, vi 0] := bx246
        have hs247 : aQ (bE [3, 4]) _ _ _ _ := ch243.n
        refine ⟨hs247.same, ?_⟩
        refine bf 5 [18] (by kernel_rfl) ⟨aZ 5 rfl (by kernel_rfl) rfl ?_, aZ 18 rfl (by kernel_rfl) rfl ?_, trivial⟩
        ·
         refine aD (v := Value.pointer (some ⟨(aN g_v 2 (Int.toNat (e : Int))).block, (aN g_v 2 (Int.toNat (e : Int))).off + 0, none⟩)) (aG Try.underlying59 rfl rfl rfl (by decide) (by decide) rfl) ?_
         refine ⟨hs247.same, ?_⟩
         refine ht 6 rfl hs247.same (fun w' hw' => aR (v := g_v) (i := (e : Int)) al rfl (Rg.chg hw' (aL rfl)) (by omega) (by omega) (by decide) rfl) (ht 7 rfl hs247.same (fun w' hw' => ak (v := at__v) (i := (gI g.2 (e : Int)).1) Try.underlying25 rfl rfl (Rat_.chg hw' (aL rfl)) rfl (by omega) (by omega)) (ht (v := vg [vi ((gI at_ ((gI g.2 (e : Int)).1)).1), vi ((gI at_ ((gI g.2 (e : Int)).1)).2)]) 8 rfl hs247.same (fun w' hw' => az (v := at__v) (i := (gI g.2 (e : Int)).1) aa rfl (Rat_.chg hw' (aL rfl)) (by omega) (by omega) rfl) (au 18 rfl (by kernel_rfl) rfl (aM g245 (is 3) (3, 0) rfl aa ?_))))
         intro g251 w248 b250 ch249 bx252
         replace bx252 : Bx g251 (is 3) w248 b250 [vi 0, vi 0] := bx252
         have hs253 := hs247.seq (ch249.n)
         refine ⟨hs253.same, ?_⟩
         refine au 20 rfl (by kernel_rfl) rfl (ae (cs' := [vi ((gI at_ ((gI g.2 (e : Int)).1)).1), vi ((gI at_ ((gI g.2 (e : Int)).1)).2)]) aa rfl rfl bx252 rfl (Nat.le_of_ble_eq_true rfl) (AllOne.all (.cons rfl (.cons rfl .nil))) rfl ?_)
         intro w254 ch255 bx256
         clear bx252
         have hs257 := hs253.seq (ch255.l rfl)
         refine ⟨hs257.same, ?_⟩
         refine au 21 rfl (by kernel_rfl) rfl ?_
         replace bx246 := (bx246.cn ch249).ce ch255
         refine ae (cs' := [vi ((gI at_ ((gI g.2 (e : Int)).2)).1), vi ((gI at_ ((gI g.2 (e : Int)).2)).2)]) aa rfl rfl bx246 rfl (Nat.le_of_ble_eq_true rfl) (AllOne.all (.cons rfl (.cons rfl .nil))) rfl ?_
         intro w258 ch259 bx260
         clear bx246
         have hs261 := hs257.seq (ch259.l rfl)
         refine ⟨hs261.same, ?_⟩
         refine ba (by kernel_rfl) ?_
         have C262 := cg [3, 4] (ch30.n.seq (ch243.n.seq (ch249.n.seq ((ch255.l rfl).seq (ch259.l rfl)))))
         replace bx24 := bx24.cn ch30
         replace o_Ls := o_Ls.cn ch30
         exact mid (b250, b244, g251) _ _ ⟨bH.ca C262, zs1, zs2, zs5, zs6, rfl, rfl, (Rg.ca hs261), (Rat_.ca hs261), (bx5.ca hs261), (bx24.ca hs261), (o_Ls.ca hs261), bx256.ce ch259, bx260⟩
        ·
         refine aM g245 (is 3) (3, 0) rfl aa ?_
         intro g266 w263 b265 ch264 bx267
         replace bx267 : Bx g266 (is 3) w263 b265 [vi 0, vi 0] := bx267
         have hs268 := hs247.seq (ch264.n)
         refine ⟨hs268.same, ?_⟩
         refine au 5 rfl (by kernel_rfl) rfl (aD (v := Value.pointer (some ⟨(aN g_v 2 (Int.toNat (e : Int))).block, (aN g_v 2 (Int.toNat (e : Int))).off + 0, none⟩)) (aG Try.underlying59 rfl rfl rfl (by decide) (by decide) rfl) ?_)
         refine ⟨hs268.same, ?_⟩
         refine ht 6 rfl hs268.same (fun w' hw' => aR (v := g_v) (i := (e : Int)) al rfl (Rg.chg hw' (aL rfl)) (by omega) (by omega) (by decide) rfl) (ht 7 rfl hs268.same (fun w' hw' => ak (v := at__v) (i := (gI g.2 (e : Int)).1) Try.underlying25 rfl rfl (Rat_.chg hw' (aL rfl)) rfl (by omega) (by omega)) (ht (v := vg [vi ((gI at_ ((gI g.2 (e : Int)).1)).1), vi ((gI at_ ((gI g.2 (e : Int)).1)).2)]) 8 rfl hs268.same (fun w' hw' => az (v := at__v) (i := (gI g.2 (e : Int)).1) aa rfl (Rat_.chg hw' (aL rfl)) (by omega) (by omega) rfl) (au 20 rfl (by kernel_rfl) rfl (ae (cs' := [vi ((gI at_ ((gI g.2 (e : Int)).1)).1), vi ((gI at_ ((gI g.2 (e : Int)).1)).2)]) aa rfl rfl bx267 rfl (Nat.le_of_ble_eq_true rfl) (AllOne.all (.cons rfl (.cons rfl .nil))) rfl ?_))))
         intro w269 ch270 bx271
         clear bx267
         have hs272 := hs268.seq (ch270.l rfl)
         refine ⟨hs272.same, ?_⟩
         refine au 21 rfl (by kernel_rfl) rfl ?_
         replace bx246 := (bx246.cn ch264).ce ch270
         refine ae (cs' := [vi ((gI at_ ((gI g.2 (e : Int)).2)).1), vi ((gI at_ ((gI g.2 (e : Int)).2)).2)]) aa rfl rfl bx246 rfl (Nat.le_of_ble_eq_true rfl) (AllOne.all (.cons rfl (.cons rfl .nil))) rfl ?_
         intro w273 ch274 bx275
         clear bx246
         have hs276 := hs272.seq (ch274.l rfl)
         refine ⟨hs276.same, ?_⟩
         refine ba (by kernel_rfl) ?_
         have C277 := cg [3, 4] (ch30.n.seq (ch243.n.seq (ch264.n.seq ((ch270.l rfl).seq (ch274.l rfl)))))
         replace bx24 := bx24.cn ch30
         replace o_Ls := o_Ls.cn ch30
         exact mid (b265, b244, g266) _ _ ⟨bH.ca C277, zs1, zs2, zs5, zs6, rfl, rfl, (Rg.ca hs276), (Rat_.ca hs276), (bx5.ca hs276), (bx24.ca hs276), (o_Ls.ca hs276), bx271.ce ch274, bx275⟩
      ·
       refine aM g29 (is 3) (3, 0) rfl aa ?_
       intro g281 w278 b280 ch279 bx282
       replace bx282 : Bx g281 (is 3) w278 b280 [vi 0, vi 0] := bx282
       have hs283 : aQ (bE [3, 4]) _ _ _ _ := ch279.n
       refine ⟨hs283.same, ?_⟩
       refine bf 5 [14, 19] (by kernel_rfl) ⟨aZ 5 rfl (by kernel_rfl) rfl ?_, aZ 14 rfl (by kernel_rfl) rfl ?_, aZ 19 rfl (by kernel_rfl) rfl ?_, trivial⟩
       ·
        refine aD (v := Value.pointer (some ⟨(aN g_v 2 (Int.toNat (e : Int))).block, (aN g_v 2 (Int.toNat (e : Int))).off + 0, none⟩)) (aG Try.underlying59 rfl rfl rfl (by decide) (by decide) rfl) ?_
        refine ⟨hs283.same, ?_⟩
        refine ht 6 rfl hs283.same (fun w' hw' => aR (v := g_v) (i := (e : Int)) al rfl (Rg.chg hw' (aL rfl)) (by omega) (by omega) (by decide) rfl) ?_
        replace Rat_ := Rat_.cn ch30
        refine ht 7 rfl hs283.same (fun w' hw' => ak (v := at__v) (i := (gI g.2 (e : Int)).1) Try.underlying25 rfl rfl (Rat_.chg hw' (aL rfl)) rfl (by omega) (by omega)) (ht (v := vg [vi ((gI at_ ((gI g.2 (e : Int)).1)).1), vi ((gI at_ ((gI g.2 (e : Int)).1)).2)]) 8 rfl hs283.same (fun w' hw' => az (v := at__v) (i := (gI g.2 (e : Int)).1) aa rfl (Rat_.chg hw' (aL rfl)) (by omega) (by omega) rfl) ?_)
        refine bf 14 [19] (by kernel_rfl) ⟨aZ 14 rfl (by kernel_rfl) rfl ?_, aZ 19 rfl (by kernel_rfl) rfl ?_, trivial⟩
        ·
         refine aD (v := Value.pointer (some ⟨(aN g_v 2 (Int.toNat (e : Int))).block, (aN g_v 2 (Int.toNat (e : Int))).off + 1, none⟩)) (aG Try.underlying59 rfl rfl rfl (by decide) (by decide) rfl) ?_
         refine ⟨hs283.same, ?_⟩
         refine ht 15 rfl hs283.same (fun w' hw' => aR (v := g_v) (i := (e : Int)) al rfl (Rg.chg hw' (aL rfl)) (by omega) (by omega) (by decide) rfl) (ht 16 rfl hs283.same (fun w' hw' => ak (v := at__v) (i := (gI g.2 (e : Int)).2) Try.underlying25 rfl rfl (Rat_.chg hw' (aL rfl)) rfl (by omega) (by omega)) (ht (v := vg [vi ((gI at_ ((gI g.2 (e : Int)).2)).1), vi ((gI at_ ((gI g.2 (e : Int)).2)).2)]) 17 rfl hs283.same (fun w' hw' => az (v := at__v) (i := (gI g.2 (e : Int)).2) aa rfl (Rat_.chg hw' (aL rfl)) (by omega) (by omega) rfl) (au 19 rfl (by kernel_rfl) rfl (aM g281 (is 4) (4, 0) rfl aa ?_))))
         intro g287 w284 b286 ch285 bx288
         replace bx288 : Bx g287 (is 4) w284 b286 [vi 0, vi 0] := bx288
         have hs289 := hs283.seq (ch285.n)
         refine ⟨hs289.same, ?_⟩
         refine au 20 rfl (by kernel_rfl) rfl ?_
         replace bx282 := bx282.cn ch285
         refine ae (cs' := [vi ((gI at_ ((gI g.2 (e : Int)).1)).1), vi ((gI at_ ((gI g.2 (e : Int)).1)).2)]) aa rfl rfl bx282 rfl (Nat.le_of_ble_eq_true rfl) (AllOne.all (.cons rfl (.cons rfl .nil))) rfl ?_
         intro w290 ch291 bx292
         clear bx282
         have hs293 := hs289.seq (ch291.l rfl)
         refine ⟨hs293.same, ?_⟩
         refine au 21 rfl (by kernel_rfl) rfl ?_
         replace bx288 := bx288.ce ch291
         refine ae (cs' := [vi ((gI at_ ((gI g.2 (e : Int)).2)).1), vi ((gI at_ ((gI g.2 (e : Int)).2)).2)]) aa rfl rfl bx288 rfl (Nat.le_of_ble_eq_true rfl) (AllOne.all (.cons rfl (.cons rfl .nil))) rfl ?_
         intro w294 ch295 bx296
         clear bx288
         have hs297 := hs293.seq (ch295.l rfl)
         refine ⟨hs297.same, ?_⟩
         refine ba (by kernel_rfl) ?_
         have C298 := cg [3, 4] (ch30.n.seq (ch279.n.seq (ch285.n.seq ((ch291.l rfl).seq (ch295.l rfl)))))
         replace bx24 := bx24.cn ch30
         replace o_Ls := o_Ls.cn ch30
         exact mid (b280, b286, g287) _ _ ⟨bH.ca C298, zs1, zs2, zs5, zs6, rfl, rfl, (Rg.ca hs297), (Rat_.ca hs297), (bx5.ca hs297), (bx24.ca hs297), (o_Ls.ca hs297), bx292.ce ch295, bx296⟩
        ·
         refine aM g281 (is 4) (4, 0) rfl aa ?_
         intro g302 w299 b301 ch300 bx303
         replace bx303 : Bx g302 (is 4) w299 b301 [vi 0, vi 0] := bx303
         have hs304 := hs283.seq (ch300.n)
         refine ⟨hs304.same, ?_⟩
         refine bf 14 [20] (by kernel_rfl) ⟨aZ 14 rfl (by kernel_rfl) rfl ?_, aZ 20 rfl (by kernel_rfl) rfl ?_, trivial⟩
         ·
          refine aD (v := Value.pointer (some ⟨(aN g_v 2 (Int.toNat (e : Int))).block, (aN g_v 2 (Int.toNat (e : Int))).off + 1, none⟩)) (aG Try.underlying59 rfl rfl rfl (by decide) (by decide) rfl) ?_
          refine ⟨hs304.same, ?_⟩
          refine ht 15 rfl hs304.same (fun w' hw' => aR (v := g_v) (i := (e : Int)) al rfl (Rg.chg hw' (aL rfl)) (by omega) (by omega) (by decide) rfl) (ht 16 rfl hs304.same (fun w' hw' => ak (v := at__v) (i := (gI g.2 (e : Int)).2) Try.underlying25 rfl rfl (Rat_.chg hw' (aL rfl)) rfl (by omega) (by omega)) (ht (v := vg [vi ((gI at_ ((gI g.2 (e : Int)).2)).1), vi ((gI at_ ((gI g.2 (e : Int)).2)).2)]) 17 rfl hs304.same (fun w' hw' => az (v := at__v) (i := (gI g.2 (e : Int)).2) aa rfl (Rat_.chg hw' (aL rfl)) (by omega) (by omega) rfl) (au 20 rfl (by kernel_rfl) rfl ?_)))
          replace bx282 := bx282.cn ch300
          refine ae (cs' := [vi ((gI at_ ((gI g.2 (e : Int)).1)).1), vi ((gI at_ ((gI g.2 (e : Int)).1)).2)]) aa rfl rfl bx282 rfl (Nat.le_of_ble_eq_true rfl) (AllOne.all (.cons rfl (.cons rfl .nil))) rfl ?_
          intro w305 ch306 bx307
          clear bx282
          have hs308 := hs304.seq (ch306.l rfl)
          refine ⟨hs308.same, ?_⟩
          refine au 21 rfl (by kernel_rfl) rfl ?_
          replace bx303 := bx303.ce ch306
          refine ae (cs' := [vi ((gI at_ ((gI g.2 (e : Int)).2)).1), vi ((gI at_ ((gI g.2 (e : Int)).2)).2)]) aa rfl rfl bx303 rfl (Nat.le_of_ble_eq_true rfl) (AllOne.all (.cons rfl (.cons rfl .nil))) rfl ?_
          intro w309 ch310 bx311
          clear bx303
          have hs312 := hs308.seq (ch310.l rfl)
          refine ⟨hs312.same, ?_⟩
          refine ba (by kernel_rfl) ?_
          have C313 := cg [3, 4] (ch30.n.seq (ch279.n.seq (ch300.n.seq ((ch306.l rfl).seq (ch310.l rfl)))))
          replace bx24 := bx24.cn ch30
          replace o_Ls := o_Ls.cn ch30
          exact mid (b280, b301, g302) _ _ ⟨bH.ca C313, zs1, zs2, zs5, zs6, rfl, rfl, (Rg.ca hs312), (Rat_.ca hs312), (bx5.ca hs312), (bx24.ca hs312), (o_Ls.ca hs312), bx307.ce ch310, bx311⟩
         ·
          replace bx282 := bx282.cn ch300
          refine ae (cs' := [vi ((gI at_ ((gI g.2 (e : Int)).1)).1), vi ((gI at_ ((gI g.2 (e : Int)).1)).2)]) aa rfl rfl bx282 rfl (Nat.le_of_ble_eq_true rfl) (AllOne.all (.cons rfl (.cons rfl .nil))) rfl ?_
          intro w314 ch315 bx316
          clear bx282
          have hs317 := hs304.seq (ch315.l rfl)
          refine ⟨hs317.same, ?_⟩
          refine au 14 rfl (by kernel_rfl) rfl (aD (v := Value.pointer (some ⟨(aN g_v 2 (Int.toNat (e : Int))).block, (aN g_v 2 (Int.toNat (e : Int))).off + 1, none⟩)) (aG Try.underlying59 rfl rfl rfl (by decide) (by decide) rfl) ?_)
          refine ⟨hs317.same, ?_⟩
          refine ht 15 rfl hs317.same (fun w' hw' => aR (v := g_v) (i := (e : Int)) al rfl (Rg.chg hw' (aL rfl)) (by omega) (by omega) (by decide) rfl) (ht 16 rfl hs317.same (fun w' hw' => ak (v := at__v) (i := (gI g.2 (e : Int)).2) Try.underlying25 rfl rfl (Rat_.chg hw' (aL rfl)) rfl (by omega) (by omega)) (ht (v := vg [vi ((gI at_ ((gI g.2 (e : Int)).2)).1), vi ((gI at_ ((gI g.2 (e : Int)).2)).2)]) 17 rfl hs317.same (fun w' hw' => az (v := at__v) (i := (gI g.2 (e : Int)).2) aa rfl (Rat_.chg hw' (aL rfl)) (by omega) (by omega) rfl) (au 21 rfl (by kernel_rfl) rfl ?_)))
          replace bx303 := bx303.ce ch315
          refine ae (cs' := [vi ((gI at_ ((gI g.2 (e : Int)).2)).1), vi ((gI at_ ((gI g.2 (e : Int)).2)).2)]) aa rfl rfl bx303 rfl (Nat.le_of_ble_eq_true rfl) (AllOne.all (.cons rfl (.cons rfl .nil))) rfl ?_
          intro w318 ch319 bx320
          clear bx303
          have hs321 := hs317.seq (ch319.l rfl)
          refine ⟨hs321.same, ?_⟩
          refine ba (by kernel_rfl) ?_
          have C322 := cg [3, 4] (ch30.n.seq (ch279.n.seq (ch300.n.seq ((ch315.l rfl).seq (ch319.l rfl)))))
          replace bx24 := bx24.cn ch30
          replace o_Ls := o_Ls.cn ch30
          exact mid (b280, b301, g302) _ _ ⟨bH.ca C322, zs1, zs2, zs5, zs6, rfl, rfl, (Rg.ca hs321), (Rat_.ca hs321), (bx5.ca hs321), (bx24.ca hs321), (o_Ls.ca hs321), bx316.ce ch319, bx320⟩
       ·
        refine aD (v := Value.pointer (some ⟨(aN g_v 2 (Int.toNat (e : Int))).block, (aN g_v 2 (Int.toNat (e : Int))).off + 1, none⟩)) (aG Try.underlying59 rfl rfl rfl (by decide) (by decide) rfl) ?_
        refine ⟨hs283.same, ?_⟩
        refine ht 15 rfl hs283.same (fun w' hw' => aR (v := g_v) (i := (e : Int)) al rfl (Rg.chg hw' (aL rfl)) (by omega) (by omega) (by decide) rfl) ?_
        replace Rat_ := Rat_.cn ch30
        refine ht 16 rfl hs283.same (fun w' hw' => ak (v := at__v) (i := (gI g.2 (e : Int)).2) Try.underlying25 rfl rfl (Rat_.chg hw' (aL rfl)) rfl (by omega) (by omega)) (ht (v := vg [vi ((gI at_ ((gI g.2 (e : Int)).2)).1), vi ((gI at_ ((gI g.2 (e : Int)).2)).2)]) 17 rfl hs283.same (fun w' hw' => az (v := at__v) (i := (gI g.2 (e : Int)).2) aa rfl (Rat_.chg hw' (aL rfl)) (by omega) (by omega) rfl) ?_)
        refine bf 5 [19] (by kernel_rfl) ⟨aZ 5 rfl (by kernel_rfl) rfl ?_, aZ 19 rfl (by kernel_rfl) rfl ?_, trivial⟩
        ·
         refine aD (v := Value.pointer (some ⟨(aN g_v 2 (Int.toNat (e : Int))).block, (aN g_v 2 (Int.toNat (e : Int))).off + 0, none⟩)) (aG Try.underlying59 rfl rfl rfl (by decide) (by decide) rfl) ?_
         refine ⟨hs283.same, ?_⟩
         refine ht 6 rfl hs283.same (fun w' hw' => aR (v := g_v) (i := (e : Int)) al rfl (Rg.chg hw' (aL rfl)) (by omega) (by omega) (by decide) rfl) (ht 7 rfl hs283.same (fun w' hw' => ak (v := at__v) (i := (gI g.2 (e : Int)).1) Try.underlying25 rfl rfl (Rat_.chg hw' (aL rfl)) rfl (by omega) (by omega)) (ht (v := vg [vi ((gI at_ ((gI g.2 (e : Int)).1)).1), vi ((gI at_ ((gI g.2 (e : Int)).1)).2)]) 8 rfl hs283.same (fun w' hw' => az (v := at__v) (i := (gI g.2 (e : Int)).1) aa rfl (Rat_.chg hw' (aL rfl)) (by omega) (by omega) rfl) (au 19 rfl (by kernel_rfl) rfl (aM g281 (is 4) (4, 0) rfl aa ?_))))
         intro g326 w323 b325 ch324 bx327
         replace bx327 : Bx g326 (is 4) w323 b325 [vi 0, vi 0] := bx327
         have hs328 := hs283.seq (ch324.n)
         refine ⟨hs328.same, ?_⟩
         refine au 20 rfl (by kernel_rfl) rfl ?_
         replace bx282 := bx282.cn ch324
         refine ae (cs' := [vi ((gI at_ ((gI g.2 (e : Int)).1)).1), vi ((gI at_ ((gI g.2 (e : Int)).1)).2)]) aa rfl rfl bx282 rfl (Nat.le_of_ble_eq_true rfl) (AllOne.all (.cons rfl (.cons rfl .nil))) rfl ?_
         intro w329 ch330 bx331
         clear bx282
         have hs332 := hs328.seq (ch330.l rfl)
         refine ⟨hs332.same, ?_⟩
         refine au 21 rfl (by kernel_rfl) rfl ?_
         replace bx327 := bx327.ce ch330
         refine ae (cs' := [vi ((gI at_ ((gI g.2 (e : Int)).2)).1), vi ((gI at_ ((gI g.2 (e : Int)).2)).2)]) aa rfl rfl bx327 rfl (Nat.le_of_ble_eq_true rfl) (AllOne.all (.cons rfl (.cons rfl .nil))) rfl ?_
         intro w333 ch334 bx335
         clear bx327
         have hs336 := hs332.seq (ch334.l rfl)
         refine ⟨hs336.same, ?_⟩
         refine ba (by kernel_rfl) ?_
         have C337 := cg [3, 4] (ch30.n.seq (ch279.n.seq (ch324.n.seq ((ch330.l rfl).seq (ch334.l rfl)))))
         replace bx24 := bx24.cn ch30
         replace o_Ls := o_Ls.cn ch30
         exact mid (b280, b325, g326) _ _ ⟨bH.ca C337, zs1, zs2, zs5, zs6, rfl, rfl, (Rg.ca hs336), (Rat_.ca hs336), (bx5.ca hs336), (bx24.ca hs336), (o_Ls.ca hs336), bx331.ce ch334, bx335⟩
        ·
         refine aM g281 (is 4) (4, 0) rfl aa ?_
         intro g341 w338 b340 ch339 bx342
         replace bx342 : Bx g341 (is 4) w338 b340 [vi 0, vi 0] := bx342
         have hs343 := hs283.seq (ch339.n)
         refine ⟨hs343.same, ?_⟩
         refine au 5 rfl (by kernel_rfl) rfl (aD (v := Value.pointer (some ⟨(aN g_v 2 (Int.toNat (e : Int))).block, (aN g_v 2 (Int.toNat (e : Int))).off + 0, none⟩)) (aG Try.underlying59 rfl rfl rfl (by decide) (by decide) rfl) ?_)
         refine ⟨hs343.same, ?_⟩
         refine ht 6 rfl hs343.same (fun w' hw' => aR (v := g_v) (i := (e : Int)) al rfl (Rg.chg hw' (aL rfl)) (by omega) (by omega) (by decide) rfl) (ht 7 rfl hs343.same (fun w' hw' => ak (v := at__v) (i := (gI g.2 (e : Int)).1) Try.underlying25 rfl rfl (Rat_.chg hw' (aL rfl)) rfl (by omega) (by omega)) (ht (v := vg [vi ((gI at_ ((gI g.2 (e : Int)).1)).1), vi ((gI at_ ((gI g.2 (e : Int)).1)).2)]) 8 rfl hs343.same (fun w' hw' => az (v := at__v) (i := (gI g.2 (e : Int)).1) aa rfl (Rat_.chg hw' (aL rfl)) (by omega) (by omega) rfl) (au 20 rfl (by kernel_rfl) rfl ?_)))
         replace bx282 := bx282.cn ch339
         refine ae (cs' := [vi ((gI at_ ((gI g.2 (e : Int)).1)).1), vi ((gI at_ ((gI g.2 (e : Int)).1)).2)]) aa rfl rfl bx282 rfl (Nat.le_of_ble_eq_true rfl) (AllOne.all (.cons rfl (.cons rfl .nil))) rfl ?_
         intro w344 ch345 bx346
         clear bx282
         have hs347 := hs343.seq (ch345.l rfl)
         refine ⟨hs347.same, ?_⟩
         refine au 21 rfl (by kernel_rfl) rfl ?_
         replace bx342 := bx342.ce ch345
         refine ae (cs' := [vi ((gI at_ ((gI g.2 (e : Int)).2)).1), vi ((gI at_ ((gI g.2 (e : Int)).2)).2)]) aa rfl rfl bx342 rfl (Nat.le_of_ble_eq_true rfl) (AllOne.all (.cons rfl (.cons rfl .nil))) rfl ?_
         intro w348 ch349 bx350
         clear bx342
         have hs351 := hs347.seq (ch349.l rfl)
         refine ⟨hs351.same, ?_⟩
         refine ba (by kernel_rfl) ?_
         have C352 := cg [3, 4] (ch30.n.seq (ch279.n.seq (ch339.n.seq ((ch345.l rfl).seq (ch349.l rfl)))))
         replace bx24 := bx24.cn ch30
         replace o_Ls := o_Ls.cn ch30
         exact mid (b280, b340, g341) _ _ ⟨bH.ca C352, zs1, zs2, zs5, zs6, rfl, rfl, (Rg.ca hs351), (Rat_.ca hs351), (bx5.ca hs351), (bx24.ca hs351), (o_Ls.ca hs351), bx346.ce ch349, bx350⟩
       ·
        refine aM g281 (is 4) (4, 0) rfl aa ?_
        intro g356 w353 b355 ch354 bx357
        replace bx357 : Bx g356 (is 4) w353 b355 [vi 0, vi 0] := bx357
        have hs358 := hs283.seq (ch354.n)
        refine ⟨hs358.same, ?_⟩
        refine bf 5 [14] (by kernel_rfl) ⟨aZ 5 rfl (by kernel_rfl) rfl ?_, aZ 14 rfl (by kernel_rfl) rfl ?_, trivial⟩
        ·
         refine aD (v := Value.pointer (some ⟨(aN g_v 2 (Int.toNat (e : Int))).block, (aN g_v 2 (Int.toNat (e : Int))).off + 0, none⟩)) (aG Try.underlying59 rfl rfl rfl (by decide) (by decide) rfl) ?_
         refine ⟨hs358.same, ?_⟩
         refine ht 6 rfl hs358.same (fun w' hw' => aR (v := g_v) (i := (e : Int)) al rfl (Rg.chg hw' (aL rfl)) (by omega) (by omega) (by decide) rfl) ?_
         replace Rat_ := Rat_.cn ch30
         refine ht 7 rfl hs358.same (fun w' hw' => ak (v := at__v) (i := (gI g.2 (e : Int)).1) Try.underlying25 rfl rfl (Rat_.chg hw' (aL rfl)) rfl (by omega) (by omega)) (ht (v := vg [vi ((gI at_ ((gI g.2 (e : Int)).1)).1), vi ((gI at_ ((gI g.2 (e : Int)).1)).2)]) 8 rfl hs358.same (fun w' hw' => az (v := at__v) (i := (gI g.2 (e : Int)).1) aa rfl (Rat_.chg hw' (aL rfl)) (by omega) (by omega) rfl) ?_)
         refine bf 14 [20] (by kernel_rfl) ⟨aZ 14 rfl (by kernel_rfl) rfl ?_, aZ 20 rfl (by kernel_rfl) rfl ?_, trivial⟩
         ·
          refine aD (v := Value.pointer (some ⟨(aN g_v 2 (Int.toNat (e : Int))).block, (aN g_v 2 (Int.toNat (e : Int))).off + 1, none⟩)) (aG Try.underlying59 rfl rfl rfl (by decide) (by decide) rfl) ?_
          refine ⟨hs358.same, ?_⟩
          refine ht 15 rfl hs358.same (fun w' hw' => aR (v := g_v) (i := (e : Int)) al rfl (Rg.chg hw' (aL rfl)) (by omega) (by omega) (by decide) rfl) (ht 16 rfl hs358.same (fun w' hw' => ak (v := at__v) (i := (gI g.2 (e : Int)).2) Try.underlying25 rfl rfl (Rat_.chg hw' (aL rfl)) rfl (by omega) (by omega)) (ht (v := vg [vi ((gI at_ ((gI g.2 (e : Int)).2)).1), vi ((gI at_ ((gI g.2 (e : Int)).2)).2)]) 17 rfl hs358.same (fun w' hw' => az (v := at__v) (i := (gI g.2 (e : Int)).2) aa rfl (Rat_.chg hw' (aL rfl)) (by omega) (by omega) rfl) (au 20 rfl (by kernel_rfl) rfl ?_)))
          replace bx282 := bx282.cn ch354
          refine ae (cs' := [vi ((gI at_ ((gI g.2 (e : Int)).1)).1), vi ((gI at_ ((gI g.2 (e : Int)).1)).2)]) aa rfl rfl bx282 rfl (Nat.le_of_ble_eq_true rfl) (AllOne.all (.cons rfl (.cons rfl .nil))) rfl ?_
          intro w359 ch360 bx361
          clear bx282
          have hs362 := hs358.seq (ch360.l rfl)
          refine ⟨hs362.same, ?_⟩
          refine au 21 rfl (by kernel_rfl) rfl ?_
          replace bx357 := bx357.ce ch360
          refine ae (cs' := [vi ((gI at_ ((gI g.2 (e : Int)).2)).1), vi ((gI at_ ((gI g.2 (e : Int)).2)).2)]) aa rfl rfl bx357 rfl (Nat.le_of_ble_eq_true rfl) (AllOne.all (.cons rfl (.cons rfl .nil))) rfl ?_
          intro w363 ch364 bx365
          clear bx357
          have hs366 := hs362.seq (ch364.l rfl)
          refine ⟨hs366.same, ?_⟩
          refine ba (by kernel_rfl) ?_
          have C367 := cg [3, 4] (ch30.n.seq (ch279.n.seq (ch354.n.seq ((ch360.l rfl).seq (ch364.l rfl)))))
          replace bx24 := bx24.cn ch30
          replace o_Ls := o_Ls.cn ch30
          exact mid (b280, b355, g356) _ _ ⟨bH.ca C367, zs1, zs2, zs5, zs6, rfl, rfl, (Rg.ca hs366), (Rat_.ca hs366), (bx5.ca hs366), (bx24.ca hs366), (o_Ls.ca hs366), bx361.ce ch364, bx365⟩
         ·
          replace bx282 := bx282.cn ch354
          refine ae (cs' := [vi ((gI at_ ((gI g.2 (e : Int)).1)).1), vi ((gI at_ ((gI g.2 (e : Int)).1)).2)]) aa rfl rfl bx282 rfl (Nat.le_of_ble_eq_true rfl) (AllOne.all (.cons rfl (.cons rfl .nil))) rfl ?_
          intro w368 ch369 bx370
          clear bx282
          have hs371 := hs358.seq (ch369.l rfl)
          refine ⟨hs371.same, ?_⟩
          refine au 14 rfl (by kernel_rfl) rfl (aD (v := Value.pointer (some ⟨(aN g_v 2 (Int.toNat (e : Int))).block, (aN g_v 2 (Int.toNat (e : Int))).off + 1, none⟩)) (aG Try.underlying59 rfl rfl rfl (by decide) (by decide) rfl) ?_)
          refine ⟨hs371.same, ?_⟩
          refine ht 15 rfl hs371.same (fun w' hw' => aR (v := g_v) (i := (e : Int)) al rfl (Rg.chg hw' (aL rfl)) (by omega) (by omega) (by decide) rfl) (ht 16 rfl hs371.same (fun w' hw' => ak (v := at__v) (i := (gI g.2 (e : Int)).2) Try.underlying25 rfl rfl (Rat_.chg hw' (aL rfl)) rfl (by omega) (by omega)) (ht (v := vg [vi ((gI at_ ((gI g.2 (e : Int)).2)).1), vi ((gI at_ ((gI g.2 (e : Int)).2)).2)]) 17 rfl hs371.same (fun w' hw' => az (v := at__v) (i := (gI g.2 (e : Int)).2) aa rfl (Rat_.chg hw' (aL rfl)) (by omega) (by omega) rfl) (au 21 rfl (by kernel_rfl) rfl ?_)))
          replace bx357 := bx357.ce ch369
          refine ae (cs' := [vi ((gI at_ ((gI g.2 (e : Int)).2)).1), vi ((gI at_ ((gI g.2 (e : Int)).2)).2)]) aa rfl rfl bx357 rfl (Nat.le_of_ble_eq_true rfl) (AllOne.all (.cons rfl (.cons rfl .nil))) rfl ?_
          intro w372 ch373 bx374
          clear bx357
          have hs375 := hs371.seq (ch373.l rfl)
          refine ⟨hs375.same, ?_⟩
          refine ba (by kernel_rfl) ?_
          have C376 := cg [3, 4] (ch30.n.seq (ch279.n.seq (ch354.n.seq ((ch369.l rfl).seq (ch373.l rfl)))))
          replace bx24 := bx24.cn ch30
          replace o_Ls := o_Ls.cn ch30
          exact mid (b280, b355, g356) _ _ ⟨bH.ca C376, zs1, zs2, zs5, zs6, rfl, rfl, (Rg.ca hs375), (Rat_.ca hs375), (bx5.ca hs375), (bx24.ca hs375), (o_Ls.ca hs375), bx370.ce ch373, bx374⟩
        ·
         refine aD (v := Value.pointer (some ⟨(aN g_v 2 (Int.toNat (e : Int))).block, (aN g_v 2 (Int.toNat (e : Int))).off + 1, none⟩)) (aG Try.underlying59 rfl rfl rfl (by decide) (by decide) rfl) ?_
         refine ⟨hs358.same, ?_⟩
         refine ht 15 rfl hs358.same (fun w' hw' => aR (v := g_v) (i := (e : Int)) al rfl (Rg.chg hw' (aL rfl)) (by omega) (by omega) (by decide) rfl) ?_
         replace Rat_ := Rat_.cn ch30
         refine ht 16 rfl hs358.same (fun w' hw' => ak (v := at__v) (i := (gI g.2 (e : Int)).2) Try.underlying25 rfl rfl (Rat_.chg hw' (aL rfl)) rfl (by omega) (by omega)) (ht (v := vg [vi ((gI at_ ((gI g.2 (e : Int)).2)).1), vi ((gI at_ ((gI g.2 (e : Int)).2)).2)]) 17 rfl hs358.same (fun w' hw' => az (v := at__v) (i := (gI g.2 (e : Int)).2) aa rfl (Rat_.chg hw' (aL rfl)) (by omega) (by omega) rfl) (au 5 rfl (by kernel_rfl) rfl (aD (v := Value.pointer (some ⟨(aN g_v 2 (Int.toNat (e : Int))).block, (aN g_v 2 (Int.toNat (e : Int))).off + 0, none⟩)) (aG Try.underlying59 rfl rfl rfl (by decide) (by decide) rfl) ?_)))
         refine ⟨hs358.same, ?_⟩
         refine ht 6 rfl hs358.same (fun w' hw' => aR (v := g_v) (i := (e : Int)) al rfl (Rg.chg hw' (aL rfl)) (by omega) (by omega) (by decide) rfl) (ht 7 rfl hs358.same (fun w' hw' => ak (v := at__v) (i := (gI g.2 (e : Int)).1) Try.underlying25 rfl rfl (Rat_.chg hw' (aL rfl)) rfl (by omega) (by omega)) (ht (v := vg [vi ((gI at_ ((gI g.2 (e : Int)).1)).1), vi ((gI at_ ((gI g.2 (e : Int)).1)).2)]) 8 rfl hs358.same (fun w' hw' => az (v := at__v) (i := (gI g.2 (e : Int)).1) aa rfl (Rat_.chg hw' (aL rfl)) (by omega) (by omega) rfl) (au 20 rfl (by kernel_rfl) rfl ?_)))
         replace bx282 := bx282.cn ch354
         refine ae (cs' := [vi ((gI at_ ((gI g.2 (e : Int)).1)).1), vi ((gI at_ ((gI g.2 (e : Int)).1)).2)]) aa rfl rfl bx282 rfl (Nat.le_of_ble_eq_true rfl) (AllOne.all (.cons rfl (.cons rfl .nil))) rfl ?_
         intro w377 ch378 bx379
         clear bx282
         have hs380 := hs358.seq (ch378.l rfl)
         refine ⟨hs380.same, ?_⟩
         refine au 21 rfl (by kernel_rfl) rfl ?_
         replace bx357 := bx357.ce ch378
         refine ae (cs' := [vi ((gI at_ ((gI g.2 (e : Int)).2)).1), vi ((gI at_ ((gI g.2 (e : Int)).2)).2)]) aa rfl rfl bx357 rfl (Nat.le_of_ble_eq_true rfl) (AllOne.all (.cons rfl (.cons rfl .nil))) rfl ?_
         intro w381 ch382 bx383
         clear bx357
         have hs384 := hs380.seq (ch382.l rfl)
         refine ⟨hs384.same, ?_⟩
         refine ba (by kernel_rfl) ?_
         have C385 := cg [3, 4] (ch30.n.seq (ch279.n.seq (ch354.n.seq ((ch378.l rfl).seq (ch382.l rfl)))))
         replace bx24 := bx24.cn ch30
         replace o_Ls := o_Ls.cn ch30
         exact mid (b280, b355, g356) _ _ ⟨bH.ca C385, zs1, zs2, zs5, zs6, rfl, rfl, (Rg.ca hs384), (Rat_.ca hs384), (bx5.ca hs384), (bx24.ca hs384), (o_Ls.ca hs384), bx379.ce ch382, bx383⟩
      ·
       refine aM g29 (is 4) (4, 0) rfl aa ?_
       intro g389 w386 b388 ch387 bx390
       replace bx390 : Bx g389 (is 4) w386 b388 [vi 0, vi 0] := bx390
       have hs391 : aQ (bE [3, 4]) _ _ _ _ := ch387.n
       refine ⟨hs391.same, ?_⟩
       refine bf 5 [14, 18] (by kernel_rfl) ⟨aZ 5 rfl (by kernel_rfl) rfl ?_, aZ 14 rfl (by kernel_rfl) rfl ?_, aZ 18 rfl (by kernel_rfl) rfl ?_, trivial⟩
       ·
        refine aD (v := Value.pointer (some ⟨(aN g_v 2 (Int.toNat (e : Int))).block, (aN g_v 2 (Int.toNat (e : Int))).off + 0, none⟩)) (aG Try.underlying59 rfl rfl rfl (by decide) (by decide) rfl) ?_
        refine ⟨hs391.same, ?_⟩
        refine ht 6 rfl hs391.same (fun w' hw' => aR (v := g_v) (i := (e : Int)) al rfl (Rg.chg hw' (aL rfl)) (by omega) (by omega) (by decide) rfl) ?_
        replace Rat_ := Rat_.cn ch30
        refine ht 7 rfl hs391.same (fun w' hw' => ak (v := at__v) (i := (gI g.2 (e : Int)).1) Try.underlying25 rfl rfl (Rat_.chg hw' (aL rfl)) rfl (by omega) (by omega)) (ht (v := vg [vi ((gI at_ ((gI g.2 (e : Int)).1)).1), vi ((gI at_ ((gI g.2 (e : Int)).1)).2)]) 8 rfl hs391.same (fun w' hw' => az (v := at__v) (i := (gI g.2 (e : Int)).1) aa rfl (Rat_.chg hw' (aL rfl)) (by omega) (by omega) rfl) ?_)
        refine bf 14 [18] (by kernel_rfl) ⟨aZ 14 rfl (by kernel_rfl) rfl ?_, aZ 18 rfl (by kernel_rfl) rfl ?_, trivial⟩
        ·
         refine aD (v := Value.pointer (some ⟨(aN g_v 2 (Int.toNat (e : Int))).block, (aN g_v 2 (Int.toNat (e : Int))).off + 1, none⟩)) (aG Try.underlying59 rfl rfl rfl (by decide) (by decide) rfl) ?_
         refine ⟨hs391.same, ?_⟩
         refine ht 15 rfl hs391.same (fun w' hw' => aR (v := g_v) (i := (e : Int)) al rfl (Rg.chg hw' (aL rfl)) (by omega) (by omega) (by decide) rfl) (ht 16 rfl hs391.same (fun w' hw' => ak (v := at__v) (i := (gI g.2 (e : Int)).2) Try.underlying25 rfl rfl (Rat_.chg hw' (aL rfl)) rfl (by omega) (by omega)) (ht (v := vg [vi ((gI at_ ((gI g.2 (e : Int)).2)).1), vi ((gI at_ ((gI g.2 (e : Int)).2)).2)]) 17 rfl hs391.same (fun w' hw' => az (v := at__v) (i := (gI g.2 (e : Int)).2) aa rfl (Rat_.chg hw' (aL rfl)) (by omega) (by omega) rfl) (au 18 rfl (by kernel_rfl) rfl (aM g389 (is 3) (3, 0) rfl aa ?_))))
         intro g395 w392 b394 ch393 bx396
         replace bx396 : Bx g395 (is 3) w392 b394 [vi 0, vi 0] := bx396
         have hs397 := hs391.seq (ch393.n)
         refine ⟨hs397.same, ?_⟩
         refine au 20 rfl (by kernel_rfl) rfl (ae (cs' := [vi ((gI at_ ((gI g.2 (e : Int)).1)).1), vi ((gI at_ ((gI g.2 (e : Int)).1)).2)]) aa rfl rfl bx396 rfl (Nat.le_of_ble_eq_true rfl) (AllOne.all (.cons rfl (.cons rfl .nil))) rfl ?_)
         intro w398 ch399 bx400
         clear bx396
         have hs401 := hs397.seq (ch399.l rfl)
         refine ⟨hs401.same, ?_⟩
         refine au 21 rfl (by kernel_rfl) rfl ?_
         replace bx390 := (bx390.cn ch393).ce ch399
         refine ae (cs' := [vi ((gI at_ ((gI g.2 (e : Int)).2)).1), vi ((gI at_ ((gI g.2 (e : Int)).2)).2)]) aa rfl rfl bx390 rfl (Nat.le_of_ble_eq_true rfl) (AllOne.all (.cons rfl (.cons rfl .nil))) rfl ?_
         intro w402 ch403 bx404
         clear bx390
         have hs405 := hs401.seq (ch403.l rfl)
         refine ⟨hs405.same, ?_⟩
         refine ba (by kernel_rfl) ?_
         have C406 := cg [3, 4] (ch30.n.seq (ch387.n.seq (ch393.n.seq ((ch399.l rfl).seq (ch403.l rfl)))))
         replace bx24 := bx24.cn ch30
         replace o_Ls := o_Ls.cn ch30
         exact mid (b394, b388, g395) _ _ ⟨bH.ca C406, zs1, zs2, zs5, zs6, rfl, rfl, (Rg.ca hs405), (Rat_.ca hs405), (bx5.ca hs405), (bx24.ca hs405), (o_Ls.ca hs405), bx400.ce ch403, bx404⟩
        ·
         refine aM g389 (is 3) (3, 0) rfl aa ?_
         intro g410 w407 b409 ch408 bx411
         replace bx411 : Bx g410 (is 3) w407 b409 [vi 0, vi 0] := bx411
         have hs412 := hs391.seq (ch408.n)
         refine ⟨hs412.same, ?_⟩
         refine bf 14 [20] (by kernel_rfl) ⟨aZ 14 rfl (by kernel_rfl) rfl ?_, aZ 20 rfl (by kernel_rfl) rfl ?_, trivial⟩
         ·
          refine aD (v := Value.pointer (some ⟨(aN g_v 2 (Int.toNat (e : Int))).block, (aN g_v 2 (Int.toNat (e : Int))).off + 1, none⟩)) (aG Try.underlying59 rfl rfl rfl (by decide) (by decide) rfl) ?_
          refine ⟨hs412.same, ?_⟩
          refine ht 15 rfl hs412.same (fun w' hw' => aR (v := g_v) (i := (e : Int)) al rfl (Rg.chg hw' (aL rfl)) (by omega) (by omega) (by decide) rfl) (ht 16 rfl hs412.same (fun w' hw' => ak (v := at__v) (i := (gI g.2 (e : Int)).2) Try.underlying25 rfl rfl (Rat_.chg hw' (aL rfl)) rfl (by omega) (by omega)) (ht (v := vg [vi ((gI at_ ((gI g.2 (e : Int)).2)).1), vi ((gI at_ ((gI g.2 (e : Int)).2)).2)]) 17 rfl hs412.same (fun w' hw' => az (v := at__v) (i := (gI g.2 (e : Int)).2) aa rfl (Rat_.chg hw' (aL rfl)) (by omega) (by omega) rfl) (au 20 rfl (by kernel_rfl) rfl (ae (cs' := [vi ((gI at_ ((gI g.2 (e : Int)).1)).1), vi ((gI at_ ((gI g.2 (e : Int)).1)).2)]) aa rfl rfl bx411 rfl (Nat.le_of_ble_eq_true rfl) (AllOne.all (.cons rfl (.cons rfl .nil))) rfl ?_))))
          intro w413 ch414 bx415
          clear bx411
          have hs416 := hs412.seq (ch414.l rfl)
          refine ⟨hs416.same, ?_⟩
          refine au 21 rfl (by kernel_rfl) rfl ?_
          replace bx390 := (bx390.cn ch408).ce ch414
          refine ae (cs' := [vi ((gI at_ ((gI g.2 (e : Int)).2)).1), vi ((gI at_ ((gI g.2 (e : Int)).2)).2)]) aa rfl rfl bx390 rfl (Nat.le_of_ble_eq_true rfl) (AllOne.all (.cons rfl (.cons rfl .nil))) rfl ?_
          intro w417 ch418 bx419
          clear bx390
          have hs420 := hs416.seq (ch418.l rfl)
          refine ⟨hs420.same, ?_⟩
          refine ba (by kernel_rfl) ?_
          have C421 := cg [3, 4] (ch30.n.seq (ch387.n.seq (ch408.n.seq ((ch414.l rfl).seq (ch418.l rfl)))))
          replace bx24 := bx24.cn ch30
          replace o_Ls := o_Ls.cn ch30
          exact mid (b409, b388, g410) _ _ ⟨bH.ca C421, zs1, zs2, zs5, zs6, rfl, rfl, (Rg.ca hs420), (Rat_.ca hs420), (bx5.ca hs420), (bx24.ca hs420), (o_Ls.ca hs420), bx415.ce ch418, bx419⟩
         ·
          refine ae (cs' := [vi ((gI at_ ((gI g.2 (e : Int)).1)).1), vi ((gI at_ ((gI g.2 (e : Int)).1)).2)]) aa rfl rfl bx411 rfl (Nat.le_of_ble_eq_true rfl) (AllOne.all (.cons rfl (.cons rfl .nil))) rfl ?_
          intro w422 ch423 bx424
          clear bx411
          have hs425 := hs412.seq (ch423.l rfl)
          refine ⟨hs425.same, ?_⟩
          refine au 14 rfl (by kernel_rfl) rfl (aD (v := Value.pointer (some ⟨(aN g_v 2 (Int.toNat (e : Int))).block, (aN g_v 2 (Int.toNat (e : Int))).off + 1, none⟩)) (aG Try.underlying59 rfl rfl rfl (by decide) (by decide) rfl) ?_)
          refine ⟨hs425.same, ?_⟩
          refine ht 15 rfl hs425.same (fun w' hw' => aR (v := g_v) (i := (e : Int)) al rfl (Rg.chg hw' (aL rfl)) (by omega) (by omega) (by decide) rfl) (ht 16 rfl hs425.same (fun w' hw' => ak (v := at__v) (i := (gI g.2 (e : Int)).2) Try.underlying25 rfl rfl (Rat_.chg hw' (aL rfl)) rfl (by omega) (by omega)) (ht (v := vg [vi ((gI at_ ((gI g.2 (e : Int)).2)).1), vi ((gI at_ ((gI g.2 (e : Int)).2)).2)]) 17 rfl hs425.same (fun w' hw' => az (v := at__v) (i := (gI g.2 (e : Int)).2) aa rfl (Rat_.chg hw' (aL rfl)) (by omega) (by omega) rfl) (au 21 rfl (by kernel_rfl) rfl ?_)))
          replace bx390 := (bx390.cn ch408).ce ch423
          refine ae (cs' := [vi ((gI at_ ((gI g.2 (e : Int)).2)).1), vi ((gI at_ ((gI g.2 (e : Int)).2)).2)]) aa rfl rfl bx390 rfl (Nat.le_of_ble_eq_true rfl) (AllOne.all (.cons rfl (.cons rfl .nil))) rfl ?_
          intro w426 ch427 bx428
          clear bx390
          have hs429 := hs425.seq (ch427.l rfl)
          refine ⟨hs429.same, ?_⟩
          refine ba (by kernel_rfl) ?_
          have C430 := cg [3, 4] (ch30.n.seq (ch387.n.seq (ch408.n.seq ((ch423.l rfl).seq (ch427.l rfl)))))
          replace bx24 := bx24.cn ch30
          replace o_Ls := o_Ls.cn ch30
          exact mid (b409, b388, g410) _ _ ⟨bH.ca C430, zs1, zs2, zs5, zs6, rfl, rfl, (Rg.ca hs429), (Rat_.ca hs429), (bx5.ca hs429), (bx24.ca hs429), (o_Ls.ca hs429), bx424.ce ch427, bx428⟩
       ·
        refine aD (v := Value.pointer (some ⟨(aN g_v 2 (Int.toNat (e : Int))).block, (aN g_v 2 (Int.toNat (e : Int))).off + 1, none⟩)) (aG Try.underlying59 rfl rfl rfl (by decide) (by decide) rfl) ?_
        refine ⟨hs391.same, ?_⟩
        refine ht 15 rfl hs391.same (fun w' hw' => aR (v := g_v) (i := (e : Int)) al rfl (Rg.chg hw' (aL rfl)) (by omega) (by omega) (by decide) rfl) ?_
        replace Rat_ := Rat_.cn ch30
        refine ht 16 rfl hs391.same (fun w' hw' => ak (v := at__v) (i := (gI g.2 (e : Int)).2) Try.underlying25 rfl rfl (Rat_.chg hw' (aL rfl)) rfl (by omega) (by omega)) (ht (v := vg [vi ((gI at_ ((gI g.2 (e : Int)).2)).1), vi ((gI at_ ((gI g.2 (e : Int)).2)).2)]) 17 rfl hs391.same (fun w' hw' => az (v := at__v) (i := (gI g.2 (e : Int)).2) aa rfl (Rat_.chg hw' (aL rfl)) (by omega) (by omega) rfl) ?_)
        refine bf 5 [18] (by kernel_rfl) ⟨aZ 5 rfl (by kernel_rfl) rfl ?_, aZ 18 rfl (by kernel_rfl) rfl ?_, trivial⟩
        ·
         refine aD (v := Value.pointer (some ⟨(aN g_v 2 (Int.toNat (e : Int))).block, (aN g_v 2 (Int.toNat (e : Int))).off + 0, none⟩)) (aG Try.underlying59 rfl rfl rfl (by decide) (by decide) rfl) ?_
         refine ⟨hs391.same, ?_⟩
         refine ht 6 rfl hs391.same (fun w' hw' => aR (v := g_v) (i := (e : Int)) al rfl (Rg.chg hw' (aL rfl)) (by omega) (by omega) (by decide) rfl) (ht 7 rfl hs391.same (fun w' hw' => ak (v := at__v) (i := (gI g.2 (e : Int)).1) Try.underlying25 rfl rfl (Rat_.chg hw' (aL rfl)) rfl (by omega) (by omega)) (ht (v := vg [vi ((gI at_ ((gI g.2 (e : Int)).1)).1), vi ((gI at_ ((gI g.2 (e : Int)).1)).2)]) 8 rfl hs391.same (fun w' hw' => az (v := at__v) (i := (gI g.2 (e : Int)).1) aa rfl (Rat_.chg hw' (aL rfl)) (by omega) (by omega) rfl) (au 18 rfl (by kernel_rfl) rfl (aM g389 (is 3) (3, 0) rfl aa ?_))))
         intro g434 w431 b433 ch432 bx435
         replace bx435 : Bx g434 (is 3) w431 b433 [vi 0, vi 0] := bx435
         have hs436 := hs391.seq (ch432.n)
         refine ⟨hs436.same, ?_⟩
         refine au 20 rfl (by kernel_rfl) rfl (ae (cs' := [vi ((gI at_ ((gI g.2 (e : Int)).1)).1), vi ((gI at_ ((gI g.2 (e : Int)).1)).2)]) aa rfl rfl bx435 rfl (Nat.le_of_ble_eq_true rfl) (AllOne.all (.cons rfl (.cons rfl .nil))) rfl ?_)
         intro w437 ch438 bx439
         clear bx435
         have hs440 := hs436.seq (ch438.l rfl)
         refine ⟨hs440.same, ?_⟩
         refine au 21 rfl (by kernel_rfl) rfl ?_
         replace bx390 := (bx390.cn ch432).ce ch438
         refine ae (cs' := [vi ((gI at_ ((gI g.2 (e : Int)).2)).1), vi ((gI at_ ((gI g.2 (e : Int)).2)).2)]) aa rfl rfl bx390 rfl (Nat.le_of_ble_eq_true rfl) (AllOne.all (.cons rfl (.cons rfl .nil))) rfl ?_
         intro w441 ch442 bx443
         clear bx390
         have hs444 := hs440.seq (ch442.l rfl)
         refine ⟨hs444.same, ?_⟩
         refine ba (by kernel_rfl) ?_
         have C445 := cg [3, 4] (ch30.n.seq (ch387.n.seq (ch432.n.seq ((ch438.l rfl).seq (ch442.l rfl)))))
         replace bx24 := bx24.cn ch30
         replace o_Ls := o_Ls.cn ch30
         exact mid (b433, b388, g434) _ _ ⟨bH.ca C445, zs1, zs2, zs5, zs6, rfl, rfl, (Rg.ca hs444), (Rat_.ca hs444), (bx5.ca hs444), (bx24.ca hs444), (o_Ls.ca hs444), bx439.ce ch442, bx443⟩
        ·
         refine aM g389 (is 3) (3, 0) rfl aa ?_
         intro g449 w446 b448 ch447 bx450
         replace bx450 : Bx g449 (is 3) w446 b448 [vi 0, vi 0] := bx450
         have hs451 := hs391.seq (ch447.n)
         refine ⟨hs451.same, ?_⟩
         refine au 5 rfl (by kernel_rfl) rfl (aD (v := Value.pointer (some ⟨(aN g_v 2 (Int.toNat (e : Int))).block, (aN g_v 2 (Int.toNat (e : Int))).off + 0, none⟩)) (aG Try.underlying59 rfl rfl rfl (by decide) (by decide) rfl) ?_)
         refine ⟨hs451.same, ?_⟩
         refine ht 6 rfl hs451.same (fun w' hw' => aR (v := g_v) (i := (e : Int)) al rfl (Rg.chg hw' (aL rfl)) (by omega) (by omega) (by decide) rfl) (ht 7 rfl hs451.same (fun w' hw' => ak (v := at__v) (i := (gI g.2 (e : Int)).1) Try.underlying25 rfl rfl (Rat_.chg hw' (aL rfl)) rfl (by omega) (by omega)) (ht (v := vg [vi ((gI at_ ((gI g.2 (e : Int)).1)).1), vi ((gI at_ ((gI g.2 (e : Int)).1)).2)]) 8 rfl hs451.same (fun w' hw' => az (v := at__v) (i := (gI g.2 (e : Int)).1) aa rfl (Rat_.chg hw' (aL rfl)) (by omega) (by omega) rfl) (au 20 rfl (by kernel_rfl) rfl (ae (cs' := [vi ((gI at_ ((gI g.2 (e : Int)).1)).1), vi ((gI at_ ((gI g.2 (e : Int)).1)).2)]) aa rfl rfl bx450 rfl (Nat.le_of_ble_eq_true rfl) (AllOne.all (.cons rfl (.cons rfl .nil))) rfl ?_))))
         intro w452 ch453 bx454
         clear bx450
         have hs455 := hs451.seq (ch453.l rfl)
         refine ⟨hs455.same, ?_⟩
         refine au 21 rfl (by kernel_rfl) rfl ?_
         replace bx390 := (bx390.cn ch447).ce ch453
         refine ae (cs' := [vi ((gI at_ ((gI g.2 (e : Int)).2)).1), vi ((gI at_ ((gI g.2 (e : Int)).2)).2)]) aa rfl rfl bx390 rfl (Nat.le_of_ble_eq_true rfl) (AllOne.all (.cons rfl (.cons rfl .nil))) rfl ?_
         intro w456 ch457 bx458
         clear bx390
         have hs459 := hs455.seq (ch457.l rfl)
         refine ⟨hs459.same, ?_⟩
         refine ba (by kernel_rfl) ?_
         have C460 := cg [3, 4] (ch30.n.seq (ch387.n.seq (ch447.n.seq ((ch453.l rfl).seq (ch457.l rfl)))))
         replace bx24 := bx24.cn ch30
         replace o_Ls := o_Ls.cn ch30
         exact mid (b448, b388, g449) _ _ ⟨bH.ca C460, zs1, zs2, zs5, zs6, rfl, rfl, (Rg.ca hs459), (Rat_.ca hs459), (bx5.ca hs459), (bx24.ca hs459), (o_Ls.ca hs459), bx454.ce ch457, bx458⟩
       ·
        refine aM g389 (is 3) (3, 0) rfl aa ?_
        intro g464 w461 b463 ch462 bx465
        replace bx465 : Bx g464 (is 3) w461 b463 [vi 0, vi 0] := bx465
        have hs466 := hs391.seq (ch462.n)
        refine ⟨hs466.same, ?_⟩
        refine bf 5 [14] (by kernel_rfl) ⟨aZ 5 rfl (by kernel_rfl) rfl ?_, aZ 14 rfl (by kernel_rfl) rfl ?_, trivial⟩
        ·
         refine aD (v := Value.pointer (some ⟨(aN g_v 2 (Int.toNat (e : Int))).block, (aN g_v 2 (Int.toNat (e : Int))).off + 0, none⟩)) (aG Try.underlying59 rfl rfl rfl (by decide) (by decide) rfl) ?_
         refine ⟨hs466.same, ?_⟩
         refine ht 6 rfl hs466.same (fun w' hw' => aR (v := g_v) (i := (e : Int)) al rfl (Rg.chg hw' (aL rfl)) (by omega) (by omega) (by decide) rfl) ?_
         replace Rat_ := Rat_.cn ch30
         refine ht 7 rfl hs466.same (fun w' hw' => ak (v := at__v) (i := (gI g.2 (e : Int)).1) Try.underlying25 rfl rfl (Rat_.chg hw' (aL rfl)) rfl (by omega) (by omega)) (ht (v := vg [vi ((gI at_ ((gI g.2 (e : Int)).1)).1), vi ((gI at_ ((gI g.2 (e : Int)).1)).2)]) 8 rfl hs466.same (fun w' hw' => az (v := at__v) (i := (gI g.2 (e : Int)).1) aa rfl (Rat_.chg hw' (aL rfl)) (by omega) (by omega) rfl) ?_)
         refine bf 14 [20] (by kernel_rfl) ⟨aZ 14 rfl (by kernel_rfl) rfl ?_, aZ 20 rfl (by kernel_rfl) rfl ?_, trivial⟩
         ·
          refine aD (v := Value.pointer (some ⟨(aN g_v 2 (Int.toNat (e : Int))).block, (aN g_v 2 (Int.toNat (e : Int))).off + 1, none⟩)) (aG Try.underlying59 rfl rfl rfl (by decide) (by decide) rfl) ?_
          refine ⟨hs466.same, ?_⟩
          refine ht 15 rfl hs466.same (fun w' hw' => aR (v := g_v) (i := (e : Int)) al rfl (Rg.chg hw' (aL rfl)) (by omega) (by omega) (by decide) rfl) (ht 16 rfl hs466.same (fun w' hw' => ak (v := at__v) (i := (gI g.2 (e : Int)).2) Try.underlying25 rfl rfl (Rat_.chg hw' (aL rfl)) rfl (by omega) (by omega)) (ht (v := vg [vi ((gI at_ ((gI g.2 (e : Int)).2)).1), vi ((gI at_ ((gI g.2 (e : Int)).2)).2)]) 17 rfl hs466.same (fun w' hw' => az (v := at__v) (i := (gI g.2 (e : Int)).2) aa rfl (Rat_.chg hw' (aL rfl)) (by omega) (by omega) rfl) (au 20 rfl (by kernel_rfl) rfl (ae (cs' := [vi ((gI at_ ((gI g.2 (e : Int)).1)).1), vi ((gI at_ ((gI g.2 (e : Int)).1)).2)]) aa rfl rfl bx465 rfl (Nat.le_of_ble_eq_true rfl) (AllOne.all (.cons rfl (.cons rfl .nil))) rfl ?_))))
          intro w467 ch468 bx469
          clear bx465
          have hs470 := hs466.seq (ch468.l rfl)
          refine ⟨hs470.same, ?_⟩
          refine au 21 rfl (by kernel_rfl) rfl ?_
          replace bx390 := (bx390.cn ch462).ce ch468
          refine ae (cs' := [vi ((gI at_ ((gI g.2 (e : Int)).2)).1), vi ((gI at_ ((gI g.2 (e : Int)).2)).2)]) aa rfl rfl bx390 rfl (Nat.le_of_ble_eq_true rfl) (AllOne.all (.cons rfl (.cons rfl .nil))) rfl ?_
          intro w471 ch472 bx473
          clear bx390
          have hs474 := hs470.seq (ch472.l rfl)
          refine ⟨hs474.same, ?_⟩
          refine ba (by kernel_rfl) ?_
          have C475 := cg [3, 4] (ch30.n.seq (ch387.n.seq (ch462.n.seq ((ch468.l rfl).seq (ch472.l rfl)))))
          replace bx24 := bx24.cn ch30
          replace o_Ls := o_Ls.cn ch30
          exact mid (b463, b388, g464) _ _ ⟨bH.ca C475, zs1, zs2, zs5, zs6, rfl, rfl, (Rg.ca hs474), (Rat_.ca hs474), (bx5.ca hs474), (bx24.ca hs474), (o_Ls.ca hs474), bx469.ce ch472, bx473⟩
         ·
          refine ae (cs' := [vi ((gI at_ ((gI g.2 (e : Int)).1)).1), vi ((gI at_ ((gI g.2 (e : Int)).1)).2)]) aa rfl rfl bx465 rfl (Nat.le_of_ble_eq_true rfl) (AllOne.all (.cons rfl (.cons rfl .nil))) rfl ?_
          intro w476 ch477 bx478
          clear bx465
          have hs479 := hs466.seq (ch477.l rfl)
          refine ⟨hs479.same, ?_⟩
          refine au 14 rfl (by kernel_rfl) rfl (aD (v := Value.pointer (some ⟨(aN g_v 2 (Int.toNat (e : Int))).block, (aN g_v 2 (Int.toNat (e : Int))).off + 1, none⟩)) (aG Try.underlying59 rfl rfl rfl (by decide) (by decide) rfl) ?_)
          refine ⟨hs479.same, ?_⟩
          refine ht 15 rfl hs479.same (fun w' hw' => aR (v := g_v) (i := (e : Int)) al rfl (Rg.chg hw' (aL rfl)) (by omega) (by omega) (by decide) rfl) (ht 16 rfl hs479.same (fun w' hw' => ak (v := at__v) (i := (gI g.2 (e : Int)).2) Try.underlying25 rfl rfl (Rat_.chg hw' (aL rfl)) rfl (by omega) (by omega)) (ht (v := vg [vi ((gI at_ ((gI g.2 (e : Int)).2)).1), vi ((gI at_ ((gI g.2 (e : Int)).2)).2)]) 17 rfl hs479.same (fun w' hw' => az (v := at__v) (i := (gI g.2 (e : Int)).2) aa rfl (Rat_.chg hw' (aL rfl)) (by omega) (by omega) rfl) (au 21 rfl (by kernel_rfl) rfl ?_)))
          replace bx390 := (bx390.cn ch462).ce ch477
          refine ae (cs' := [vi ((gI at_ ((gI g.2 (e : Int)).2)).1), vi ((gI at_ ((gI g.2 (e : Int)).2)).2)]) aa rfl rfl bx390 rfl (Nat.le_of_ble_eq_true rfl) (AllOne.all (.cons rfl (.cons rfl .nil))) rfl ?_
          intro w480 ch481 bx482
          clear bx390
          have hs483 := hs479.seq (ch481.l rfl)
          refine ⟨hs483.same, ?_⟩
          refine ba (by kernel_rfl) ?_
          have C484 := cg [3, 4] (ch30.n.seq (ch387.n.seq (ch462.n.seq ((ch477.l rfl).seq (ch481.l rfl)))))
          replace bx24 := bx24.cn ch30
          replace o_Ls := o_Ls.cn ch30
          exact mid (b463, b388, g464) _ _ ⟨bH.ca C484, zs1, zs2, zs5, zs6, rfl, rfl, (Rg.ca hs483), (Rat_.ca hs483), (bx5.ca hs483), (bx24.ca hs483), (o_Ls.ca hs483), bx478.ce ch481, bx482⟩
        ·
         refine aD (v := Value.pointer (some ⟨(aN g_v 2 (Int.toNat (e : Int))).block, (aN g_v 2 (Int.toNat (e : Int))).off + 1, none⟩)) (aG Try.underlying59 rfl rfl rfl (by decide) (by decide) rfl) ?_
         refine ⟨hs466.same, ?_⟩
         refine ht 15 rfl hs466.same (fun w' hw' => aR (v := g_v) (i := (e : Int)) al rfl (Rg.chg hw' (aL rfl)) (by omega) (by omega) (by decide) rfl) ?_
         replace Rat_ := Rat_.cn ch30
         refine ht 16 rfl hs466.same (fun w' hw' => ak (v := at__v) (i := (gI g.2 (e : Int)).2) Try.underlying25 rfl rfl (Rat_.chg hw' (aL rfl)) rfl (by omega) (by omega)) (ht (v := vg [vi ((gI at_ ((gI g.2 (e : Int)).2)).1), vi ((gI at_ ((gI g.2 (e : Int)).2)).2)]) 17 rfl hs466.same (fun w' hw' => az (v := at__v) (i := (gI g.2 (e : Int)).2) aa rfl (Rat_.chg hw' (aL rfl)) (by omega) (by omega) rfl) (au 5 rfl (by kernel_rfl) rfl (aD (v := Value.pointer (some ⟨(aN g_v 2 (Int.toNat (e : Int))).block, (aN g_v 2 (Int.toNat (e : Int))).off + 0, none⟩)) (aG Try.underlying59 rfl rfl rfl (by decide) (by decide) rfl) ?_)))
         refine ⟨hs466.same, ?_⟩
         refine ht 6 rfl hs466.same (fun w' hw' => aR (v := g_v) (i := (e : Int)) al rfl (Rg.chg hw' (aL rfl)) (by omega) (by omega) (by decide) rfl) (ht 7 rfl hs466.same (fun w' hw' => ak (v := at__v) (i := (gI g.2 (e : Int)).1) Try.underlying25 rfl rfl (Rat_.chg hw' (aL rfl)) rfl (by omega) (by omega)) (ht (v := vg [vi ((gI at_ ((gI g.2 (e : Int)).1)).1), vi ((gI at_ ((gI g.2 (e : Int)).1)).2)]) 8 rfl hs466.same (fun w' hw' => az (v := at__v) (i := (gI g.2 (e : Int)).1) aa rfl (Rat_.chg hw' (aL rfl)) (by omega) (by omega) rfl) (au 20 rfl (by kernel_rfl) rfl (ae (cs' := [vi ((gI at_ ((gI g.2 (e : Int)).1)).1), vi ((gI at_ ((gI g.2 (e : Int)).1)).2)]) aa rfl rfl bx465 rfl (Nat.le_of_ble_eq_true rfl) (AllOne.all (.cons rfl (.cons rfl .nil))) rfl ?_))))
         intro w485 ch486 bx487
         clear bx465
         have hs488 := hs466.seq (ch486.l rfl)
         refine ⟨hs488.same, ?_⟩
         refine au 21 rfl (by kernel_rfl) rfl ?_
         replace bx390 := (bx390.cn ch462).ce ch486
         refine ae (cs' := [vi ((gI at_ ((gI g.2 (e : Int)).2)).1), vi ((gI at_ ((gI g.2 (e : Int)).2)).2)]) aa rfl rfl bx390 rfl (Nat.le_of_ble_eq_true rfl) (AllOne.all (.cons rfl (.cons rfl .nil))) rfl ?_
         intro w489 ch490 bx491
         clear bx390
         have hs492 := hs488.seq (ch490.l rfl)
         refine ⟨hs492.same, ?_⟩
         refine ba (by kernel_rfl) ?_
         have C493 := cg [3, 4] (ch30.n.seq (ch387.n.seq (ch462.n.seq ((ch486.l rfl).seq (ch490.l rfl)))))
         replace bx24 := bx24.cn ch30
         replace o_Ls := o_Ls.cn ch30
         exact mid (b463, b388, g464) _ _ ⟨bH.ca C493, zs1, zs2, zs5, zs6, rfl, rfl, (Rg.ca hs492), (Rat_.ca hs492), (bx5.ca hs492), (bx24.ca hs492), (o_Ls.ca hs492), bx487.ce ch490, bx491⟩
     clear Rg Rat_ bx5 bx24 o_Ls bH
     rintro ⟨b34, b40, g496⟩ f494 w495 ⟨bH, zs1, zs2, zs5, zs6, zs7, zs8, Rg, Rat_, bx5, bx24, o_Ls, bx46, bx50⟩
     refine a7 (a7 (a6 rfl (lx (ad (ds := [vi ((gI at_ ((gI g.2 (e : Int)).1)).1), vi ((gI at_ ((gI g.2 (e : Int)).1)).2)]) aa zs7 bx46 rfl rfl) (lx (ad (ds := [vi ((gI at_ ((gI g.2 (e : Int)).2)).1), vi ((gI at_ ((gI g.2 (e : Int)).2)).2)]) aa zs8 bx50 rfl rfl) ?_))))
     refine lw (Value.bool (decide ((gI at_ ((gI g.2 (e : Int)).1)) = (gI at_ ((gI g.2 (e : Int)).2))))) (dH (bs := [decide (((gI at_ ((gI g.2 (e : Int)).1)).1) = ((gI at_ ((gI g.2 (e : Int)).2)).1)), decide (((gI at_ ((gI g.2 (e : Int)).1)).2) = ((gI at_ ((gI g.2 (e : Int)).2)).2))]) Try.underlying45 (by kernel_rfl) (by kernel_rfl) rfl rfl (.cons (by decide +kernel) al rfl rfl (.int Try.underlying3) (.cons (by decide +kernel) al rfl rfl (.int Try.underlying3) .nil)) (by simp [Prod.ext_iff, Bool.decide_and, Bool.and_assoc])) (ab ?_)
     by_cases p10 : (gI at_ ((gI g.2 (e : Int)).1)) = (gI at_ ((gI g.2 (e : Int)).2))
     ·
      refine ah rfl (dt p10) (a7 ?_)
      clear bx5 bx24 o_Ls bx46 bx50
      refine a6 rfl (ma (Value.bool true) (ab (ar (vs := [Value.bool true]) Try.func5 (.tmp rfl .nil) ?_)))
      have e0 : (true : Bool) = (true) := by
        rfl
      exact ⟨(congrArg (a₁ := true) (fun (z0 : Bool) => Ending.returned (Value.bool z0)) e0), bH.below⟩
     refine aj rfl (df p10) (ao (a6 rfl (lx (a8 Try.underlying28 rfl rfl zs5 rfl) (lx (ag bU rfl bx24 rfl) (lx (ad (ds := [vi ((gI at_ ((gI g.2 (e : Int)).1)).1), vi ((gI at_ ((gI g.2 (e : Int)).1)).2)]) aa zs7 bx46 rfl rfl) (lx (ad (ds := [vi ((gI at_ ((gI g.2 (e : Int)).2)).1), vi ((gI at_ ((gI g.2 (e : Int)).2)).2)]) aa zs8 bx50 rfl rfl) (lo ?_)))))))
     refine aP (α := (Int) × (Int)) g496 (is 5) (is 5) (5, 0) rfl ([(gI at_ ((gI g.2 (e : Int)).1)), (gI at_ ((gI g.2 (e : Int)).2))] : List ((Int) × (Int))) Try.underlying25 aa (by decide) (by decide) (vs := [(0, vg [vi ((gI at_ ((gI g.2 (e : Int)).1)).1), vi ((gI at_ ((gI g.2 (e : Int)).1)).2)]), (1, vg [vi ((gI at_ ((gI g.2 (e : Int)).2)).1), vi ((gI at_ ((gI g.2 (e : Int)).2)).2)])]) rfl rfl (.cons rfl (.cons rfl .nil)) ?_
     intro g497 w498 v499 ch500 o501
     refine lo ?_
     obtain ⟨c502, hv503⟩ := mC (u := v499) (ch o501.flat)
     refine aP (α := Vc) g497 (is 6) (is 6) (6, 0) rfl [c502] Try.underlying26 bu (by decide) (by decide) (vs := [(0, v499)]) rfl rfl (.cons (jH hv503 (bL o501.flat)) .nil) ?_
     intro g504 w505 v506 ch507 o508
     refine lo ?_
     replace o_Ls := (o_Ls.cn ch500).cn ch507
     replace o501 := o501.cn ch507
     refine jB hv503 (α := (Int) × (Int)) (xss := Ls) (i := 7) (γ := g504) Try.underlying26 bu rfl rfl rfl o_Ls (o508.flat) o501 rfl (by decide) (by omega) ?_
     intro g509 w510 v511 ch512 o513 r514
     clear o_Ls o501
     refine lx (a8 Try.underlying28 rfl rfl zs5 rfl) (lo ?_)
     have C518 := cg [5, 7] (ch500.n.seq (ch507.n.seq (ch512.lx rfl rfl)))
     replace bx24 := bx24.ca C518
     refine bK (cs' := [at__v, v511]) bU rfl rfl bx24 (bL o513.sl) (Nat.le_of_ble_eq_true rfl) (ch o513.sl) rfl ?_
     intro w515 ch516 bx517
     clear bx24
     refine ab (aq ?_)
     clear bx46 bx50 o508 r514
     refine a6 rfl (mz zs6 (lx (aT (m := (e : Int)) (n := 1) rfl rfl (by omega)) (ai ((e : Int) + 1) (ab ?_))))
     have C519 := cg [2, 5, 7] (ch500.n.seq (ch507.n.seq ((ch512.lx rfl rfl).seq (ch516.l rfl))))
     refine back7 (v511, (Ls ++ [([(gI at_ ((gI g.2 (e : Int)).1)), (gI at_ ((gI g.2 (e : Int)).2))] : List ((Int) × (Int)))]), e + 1, g509) _ _ ⟨bH.ca C519, zs1, zs2, zs5, rfl, Rg.ca C519, Rat_.ca C519, bx5.ca C519, bx517, o513.ce ch516, by omega, ?_⟩ ?_
     · show ip g at_ (Ls ++ [([(gI at_ ((gI g.2 (e : Int)).1)), (gI at_ ((gI g.2 (e : Int)).2))] : List ((Int) × (Int)))]) (e + 1)
       exact hLs.next ‹_› ‹_›
     · show Int.toNat (((g.2.length : Int) : Int) - ((e + 1) : Int)) < Int.toNat (((g.2.length : Int) : Int) - (e : Int))
       omega
    refine aj rfl (df p7) (aU rfl (a7 ?_))
    have hSP := hLs.fin (by omega) (by omega) hok
    have hsh := hSP.shp hm
    have hsm := hSP.m
    refine a6 rfl (lx (ad (ds := [vi g.1, g_v]) cw zs2 bx5 rfl rfl) (lx (ad (ds := [at__v, Ls_v]) ct zs5 bx24 rfl rfl) (lo (cQ (aA (vals := [vg [vi g.1, g_v], vg [at__v, Ls_v]]) Try.func11 jA jD rfl) (iU w28 g g_v (Rg).ro (at_, Ls) at__v Ls_v (Rat_).ro (o_Ls.sl).ro) ?_))))
    rintro ⟨d521, v523⟩ w520 ⟨fr522, o524⟩
    obtain ⟨g525, ch526, G525⟩ := nF g29 fr522 (fun n => if n = 1 then 8 else 0)
    replace o524 := o524.gl G525 8
    refine mv (vt [v523, vi ((aW g (at_, Ls)).2)]) (lx (bj rfl rfl) (lx (bj rfl rfl) (ma v523 (ai ((aW g (at_, Ls)).2) (ab (a7 (a7 (a6 rfl (mi ((aW g (at_, Ls)).2) (lx (dO (m := (aW g (at_, Ls)).2) (n := 0) rfl rfl) (ab ?_)))))))))))
    have p14 : ((aW g (at_, Ls)).2) = 0 := by (simp only [aW, if_pos hm]; done)
    refine aj rfl (congrArg Bool.not (dt p14)) (ao (a7 ?_))
    have hce : (aW g (at_, Ls)).1 = bY g (at_, Ls) := by unfold aW; rw [if_pos hm]
    refine a6 rfl (bN rfl (ld (α := Bool) (l := 900) (cp := 900) g525 (is 9) (is 9) (9, 0) rfl false Try.underlying60 dF rfl rfl rfl (by omega) (by omega) (by omega) (by omega) ?_))
    intro g527 w528 v529 ch530 o531 _
    refine ma v529 (ab (a7 (a7 (a6 rfl (ai 0 (ab (av ?_)))))))
    refine b5 (σ := Nat × (List Bool) × aS) (fun ⟨u, told, gq⟩ f w => bh w0 gq w ∧ f 2 = vp b3 0 ∧ f 5 = vp b19 0 ∧ f 9 = v523 ∧ f 11 = v529 ∧ f 12 = vi (u : Int) ∧ Sl gq (is 0) w g_v g.2 ∧ Sl gq (is 0) w at__v at_ ∧ Bx gq (is 1) w b3 [vi g.1, g_v] ∧ Bx gq (is 2) w b19 [at__v, Ls_v] ∧ dD gq 7 w Ls_v Ls ∧ Ow gq (is 8) (is 8) w v523 ((aW g (at_, Ls)).1) ∧ Ow gq (is 9) (is 9) w v529 told ∧ (u : Int) ≤ ((List.length ((aW g (at_, Ls)).1) : Int) : Int) ∧ (nb told (aW g (at_, Ls)).1 u)) (fun ⟨u, told, gq⟩ => Int.toNat (((List.length ((aW g (at_, Ls)).1) : Int) : Int) - (u : Int))) (0, (List.replicate (Int.toNat 900) false), g527) ?_ ?_
    replace bH := bH.cn ch526
    · exact ⟨bH.cn ch530, zs2, zs5, rfl, rfl, rfl, (Rg.cn ch526).cn ch530, (Rat_.cn ch526).cn ch530, (bx5.cn ch526).cn ch530, (bx24.cn ch526).cn ch530, (o_Ls.cn ch526).cn ch530, o524.cn ch530, o531, by omega, by exact nb.start⟩
    clear Rg Rat_ bx5 bx24 o_Ls o524 o531 bH
    rintro ⟨u, told, g534⟩ f532 w533 ⟨bH, zs2, zs5, zs9, zs11, zs12, Rg, Rat_, bx5, bx24, o_Ls, o524, o531, hle_u, hT⟩ back18
    have htn := hT.1
    refine a7 (a7 (a6 rfl (mz zs12 (mz zs9 ?_))))
    have len535 := (o524.flat).small
    refine lx (bk Try.underlying36 rfl o524.flat) (lx (bb (m := (u : Int)) (n := (List.length ((aW g (at_, Ls)).1) : Int)) rfl rfl) (ab ?_))
    by_cases p18 : (u : Int) < (List.length ((aW g (at_, Ls)).1) : Int)
    ·
     refine ah rfl (dt p18) (ao (a7 (av (a7 (a6 rfl (mz zs9 (mz zs12 (lx (ak (v := v523) (i := (u : Int)) Try.underlying36 rfl rfl o524.flat rfl (by omega) (by omega)) (lw (Value.pointer (some ⟨(aN v523 3 (Int.toNat (u : Int))).block, (aN v523 3 (Int.toNat (u : Int))).off + 0, none⟩)) (eC Try.underlying56 rfl rfl rfl rfl) (lx (aR (v := v523) (i := (u : Int)) al rfl o524.flat (by omega) (by omega) (by decide) rfl) ?_))))))))))
     refine lx (bx (m := (gI ((aW g (at_, Ls)).1) (u : Int)).1) (n := 8) rfl rfl) (ab ?_)
     by_cases p20 : ((gI ((aW g (at_, Ls)).1) (u : Int)).1) = 8
     ·
      have h8b := hSP.bd hm hce (j := u) ‹_› p20
      obtain ⟨⟨h8a, h8c, h8d⟩, _⟩ := h8b
      refine ah rfl (dt p20) (gN g534 [0, 1, 2, 3, 4, 5, 6, 7, 8, 9, 10, 11, 12, 13] eU ?_)
      intro w537 ch536
      refine xp (v := v529) 0 rfl (fun w => aJ zs11) (xp (v := v523) 1 rfl (fun w => aJ zs9) (xp (v := vi (u : Int)) 2 rfl (fun w => aJ zs12) ?_))
      replace o524 := o524.cn ch536
      refine xv 3 [2, 1, 0, 7, 8, 9, 10, 11] rfl (ak (v := v523) (i := (u : Int)) Try.underlying36 rfl rfl o524.flat rfl (by omega) (by omega)) (xp (v := Value.pointer (some ⟨(aN v523 3 (Int.toNat (u : Int))).block, (aN v523 3 (Int.toNat (u : Int))).off + 1, none⟩)) 4 rfl (fun w => eC Try.underlying56 rfl rfl rfl rfl) (xv 5 [4, 3, 2, 1, 0, 7, 8, 9, 10, 11] rfl (aR (v := v523) (i := (u : Int)) al rfl o524.flat (by omega) (by omega) (by decide) rfl) (xp 6 rfl (fun w => cv (m := ((gI ((aW g (at_, Ls)).1) (u : Int)).2).1) (n := 30) rfl rfl (by omega)) (xp (v := v523) 7 rfl (fun w => aJ zs9) (xp (v := vi (u : Int)) 8 rfl (fun w => aJ zs12) (xv 9 [8, 7, 6, 5, 4, 3, 2, 1, 0] rfl (ak (v := v523) (i := (u : Int)) Try.underlying36 rfl rfl o524.flat rfl (by omega) (by omega)) ?_))))))
      refine xp (v := Value.pointer (some ⟨(aN v523 3 (Int.toNat (u : Int))).block, (aN v523 3 (Int.toNat (u : Int))).off + 2, none⟩)) 10 rfl (fun w => eC Try.underlying56 rfl rfl rfl rfl) (xv 11 [10, 9, 8, 7, 6, 5, 4, 3, 2, 1, 0] rfl (aR (v := v523) (i := (u : Int)) al rfl o524.flat (by omega) (by omega) (by decide) rfl) (xp 12 rfl (fun w => aT (m := (((gI ((aW g (at_, Ls)).1) (u : Int)).2).1) * 30) (n := ((gI ((aW g (at_, Ls)).1) (u : Int)).2).2) rfl rfl (by omega)) ?_))
      replace o531 := o531.cn ch536
      refine xv 13 [12, 11, 10, 9, 8, 7, 6, 5, 4, 3, 2, 1, 0] rfl (ak (v := v529) (i := ((((gI ((aW g (at_, Ls)).1) (u : Int)).2).1) * 30) + (((gI ((aW g (at_, Ls)).1) (u : Int)).2).2)) Try.underlying60 rfl rfl o531.flat rfl (by omega) (by omega)) (lX 14 rfl (by kernel_rfl) rfl (gn (i := ((((gI ((aW g (at_, Ls)).1) (u : Int)).2).1) * 30) + (((gI ((aW g (at_, Ls)).1) (u : Int)).2).2)) true dF rfl rfl o531 (by omega) (by omega) rfl ?_))
      intro w538 ch539 bx540
      clear o531
      refine rv (by kernel_rfl) (aq (a6 rfl (mz zs12 (lx (aT (m := (u : Int)) (n := 1) rfl rfl (by omega)) (ai ((u : Int) + 1) (ab ?_))))))
      replace bH := bH.cn ch536
      refine back18 (u + 1, (List.set told (Int.toNat (((((gI ((aW g (at_, Ls)).1) (u : Int)).2).1) * 30) + (((gI ((aW g (at_, Ls)).1) (u : Int)).2).2))) true), g534) _ _ ⟨bH.ce ch539, zs2, zs5, zs9, zs11, rfl, (Rg.cn ch536).ce ch539, (Rat_.cn ch536).ce ch539, (bx5.cn ch536).ce ch539, (bx24.cn ch536).ce ch539, (o_Ls.cn ch536).ce ch539, o524.ce ch539, bx540, by omega, ?_⟩ ?_
      · show nb (List.set told (Int.toNat (((((gI ((aW g (at_, Ls)).1) (u : Int)).2).1) * 30) + (((gI ((aW g (at_, Ls)).1) (u : Int)).2).2))) true) (aW g (at_, Ls)).1 (u + 1)
        exact hT.yes ‹_› (by omega) (by omega)
      · show Int.toNat (((List.length ((aW g (at_, Ls)).1) : Int) : Int) - ((u + 1) : Int)) < Int.toNat (((List.length ((aW g (at_, Ls)).1) : Int) : Int) - (u : Int))
        omega
     refine aj rfl (df p20) (ao (aq (a6 rfl (mz zs12 (lx (aT (m := (u : Int)) (n := 1) rfl rfl (by omega)) (ai ((u : Int) + 1) (ab ?_)))))))
     refine back18 (u + 1, told, g534) _ _ ⟨bH, zs2, zs5, zs9, zs11, rfl, Rg, Rat_, bx5, bx24, o_Ls, o524, o531, by omega, ?_⟩ ?_
     · show nb told (aW g (at_, Ls)).1 (u + 1)
       exact hT.no ‹_›
     · show Int.toNat (((List.length ((aW g (at_, Ls)).1) : Int) : Int) - ((u + 1) : Int)) < Int.toNat (((List.length ((aW g (at_, Ls)).1) : Int) : Int) - (u : Int))
       omega
    refine aj rfl (df p18) (aU rfl (a7 (a7 ?_)))
    clear o524
    refine a6 rfl (ai 0 (ab (av ?_)))
    refine b5 (σ := Nat × aS) (fun ⟨i, gq⟩ f w => bh w0 gq w ∧ f 2 = vp b3 0 ∧ f 5 = vp b19 0 ∧ f 11 = v529 ∧ f 13 = vi (i : Int) ∧ Sl gq (is 0) w g_v g.2 ∧ Sl gq (is 0) w at__v at_ ∧ Bx gq (is 1) w b3 [vi g.1, g_v] ∧ Bx gq (is 2) w b19 [at__v, Ls_v] ∧ dD gq 7 w Ls_v Ls ∧ Ow gq (is 9) (is 9) w v529 told ∧ (i : Int) ≤ ((g.2.length : Int) : Int) ∧ (True)) (fun ⟨i, gq⟩ => Int.toNat (((g.2.length : Int) : Int) - (i : Int))) (0, g534) ?_ ?_
    · exact ⟨bH, zs2, zs5, zs11, rfl, Rg, Rat_, bx5, bx24, o_Ls, o531, by omega, by trivial⟩
    clear Rg Rat_ bx5 bx24 o_Ls o531 bH
    rintro ⟨i, g543⟩ f541 w542 ⟨bH, zs2, zs5, zs11, zs13, Rg, Rat_, bx5, bx24, o_Ls, o531, hle_i, hinv23⟩ back23
    refine a7 (a7 (a6 rfl (mz zs13 (lx (a8 Try.underlying24 rfl rfl zs2 rfl) (lx (ag bX rfl bx5 rfl) (lx (bk Try.underlying22 rfl Rg) (lx (bb (m := (i : Int)) (n := (g.2.length : Int)) rfl rfl) (ab ?_))))))))
    by_cases p23 : (i : Int) < (g.2.length : Int)
    ·
     refine ah rfl (dt p23) (ao (a7 (av (a7 (a6 rfl (mz zs13 (lx (aT (m := (i : Int)) (n := 1) rfl rfl (by omega)) (ai ((i : Int) + 1) (ab (av ?_))))))))))
     refine b5 (σ := Nat × aS) (fun ⟨k, gq⟩ f w => bh w0 gq w ∧ f 2 = vp b3 0 ∧ f 5 = vp b19 0 ∧ f 11 = v529 ∧ f 13 = vi (i : Int) ∧ f 14 = vi (k : Int) ∧ Sl gq (is 0) w g_v g.2 ∧ Sl gq (is 0) w at__v at_ ∧ Bx gq (is 1) w b3 [vi g.1, g_v] ∧ Bx gq (is 2) w b19 [at__v, Ls_v] ∧ dD gq 7 w Ls_v Ls ∧ Ow gq (is 9) (is 9) w v529 told ∧ (k : Int) ≤ ((g.2.length : Int) : Int) ∧ (i < k)) (fun ⟨k, gq⟩ => Int.toNat (((g.2.length : Int) : Int) - (k : Int))) (i + 1, g543) ?_ ?_
     · exact ⟨bH, zs2, zs5, zs11, zs13, rfl, Rg, Rat_, bx5, bx24, o_Ls, o531, by omega, by omega⟩
     clear Rg Rat_ bx5 bx24 o_Ls o531 bH
     rintro ⟨k, g546⟩ f544 w545 ⟨bH, zs2, zs5, zs11, zs13, zs14, Rg, Rat_, bx5, bx24, o_Ls, o531, hle_k, hik⟩ back26
     refine a7 (a7 (a6 rfl (mz zs14 (lx (a8 Try.underlying24 rfl rfl zs2 rfl) (lx (ag bX rfl bx5 rfl) (lx (bk Try.underlying22 rfl Rg) (lx (bb (m := (k : Int)) (n := (g.2.length : Int)) rfl rfl) (ab ?_))))))))
     by_cases p26 : (k : Int) < (g.2.length : Int)
     ·
      refine ah rfl (dt p26) ?_
      obtain ⟨hx1, hx2, hx3⟩ := hSP.at0 (i := (i : Int)) (by omega) (by omega)
      obtain ⟨hy1, hy2, hy3⟩ := hSP.at0 (i := (k : Int)) (by omega) (by omega)
      obtain ⟨hi1, hi2, hi3⟩ := hsh.ln (i : Int) (by omega) (by show (i : Int) < (Ls.length : Int); omega)
      obtain ⟨hk1, hk2, hk3⟩ := hsh.ln (k : Int) (by omega) (by show (k : Int) < (Ls.length : Int); omega)
      refine ao (a7 (av (a7 (bS g546 rfl eU (by kernel_rfl) ?_))))
      intro w548 ch547
      refine qx (fun w' hw' => a8 Try.underlying28 rfl rfl zs5 rfl) ?_
      replace bx24 := bx24.cn ch547
      refine qx (fun w' hw' => ag bU rfl (bx24.bel hw') rfl) (qz zs13 ?_)
      replace o_Ls := o_Ls.cn ch547
      refine qx (fun w' hw' => ak (v := Ls_v) (i := (i : Int)) Try.underlying26 rfl rfl (o_Ls.sl.bel hw') rfl (by omega) (by omega)) ?_
      obtain ⟨v549, cel550, r551⟩ := gw (r := (i : Int)) o_Ls (by omega) (by omega)
      refine qx (fun w' hw' => bR bu rfl (dz cel550 hw')) (qx (fun w' hw' => a8 Try.underlying28 rfl rfl zs5 rfl) (qx (fun w' hw' => ag bU rfl (bx24.bel hw') rfl) (qz zs14 (qx (fun w' hw' => ak (v := Ls_v) (i := (k : Int)) Try.underlying26 rfl rfl (o_Ls.sl.bel hw') rfl (by omega) (by omega)) ?_))))
      obtain ⟨v552, cel553, r554⟩ := gw (r := (k : Int)) o_Ls (by omega) (by omega)
      refine qx (fun w' hw' => bR bu rfl (dz cel553 hw')) (qv (v549) (fun w' hw' => bJ rfl) (qv (v552) (fun w' hw' => bJ rfl) (c8 ?_)))
      intro w555 hc556
      replace hc556 := am hc556 g546
      refine a7 (bS g546 rfl eU (by kernel_rfl) ?_)
      intro w558 ch557
      refine qm v549 ?_
      replace r551 := (r551.cn hc556).cn ch557
      refine qx (fun w' hw' => ak (v := v549) (i := 0) Try.underlying25 rfl rfl (r551.row_sl.bel hw') rfl (by omega) (by omega)) (qv (vg [vi ((gI (gI Ls (i : Int)) 0).1), vi ((gI (gI Ls (i : Int)) 0).2)]) (fun w' hw' => az (v := v549) (i := 0) aa rfl (r551.row_sl.bel hw') (by omega) (by omega) rfl) (qm v549 (qx (fun w' hw' => ak (v := v549) (i := 1) Try.underlying25 rfl rfl (r551.row_sl.bel hw') rfl (by omega) (by omega)) (qv (vg [vi ((gI (gI Ls (i : Int)) 1).1), vi ((gI (gI Ls (i : Int)) 1).2)]) (fun w' hw' => az (v := v549) (i := 1) aa rfl (r551.row_sl.bel hw') (by omega) (by omega) rfl) (qm v552 ?_)))))
      replace r554 := (r554.cn hc556).cn ch557
      refine qx (fun w' hw' => ak (v := v552) (i := 0) Try.underlying25 rfl rfl (r554.row_sl.bel hw') rfl (by omega) (by omega)) (qv (vg [vi ((gI (gI Ls (k : Int)) 0).1), vi ((gI (gI Ls (k : Int)) 0).2)]) (fun w' hw' => az (v := v552) (i := 0) aa rfl (r554.row_sl.bel hw') (by omega) (by omega) rfl) (qm v552 (qx (fun w' hw' => ak (v := v552) (i := 1) Try.underlying25 rfl rfl (r554.row_sl.bel hw') rfl (by omega) (by omega)) (qv (vg [vi ((gI (gI Ls (k : Int)) 1).1), vi ((gI (gI Ls (k : Int)) 1).2)]) (fun w' hw' => az (v := v552) (i := 1) aa rfl (r554.row_sl.bel hw') (by omega) (by omega) rfl) ?_))))
      refine cM (v := vi (cJ (gI (gI Ls (i : Int)) 0) (gI (gI Ls (i : Int)) 1) (gI (gI Ls (k : Int)) 0) (gI (gI Ls (k : Int)) 1))) rfl (fun w' hw' => aA (vals := [vg [vi ((gI (gI Ls (i : Int)) 0).1), vi ((gI (gI Ls (i : Int)) 0).2)], vg [vi ((gI (gI Ls (i : Int)) 1).1), vi ((gI (gI Ls (i : Int)) 1).2)], vg [vi ((gI (gI Ls (k : Int)) 0).1), vi ((gI (gI Ls (k : Int)) 0).2)], vg [vi ((gI (gI Ls (k : Int)) 1).1), vi ((gI (gI Ls (k : Int)) 1).2)]]) Try.func21 r9 pG rfl) (fun w' hw' => (mQ w' (gI (gI Ls (i : Int)) 0) (gI (gI Ls (i : Int)) 1) (gI (gI Ls (k : Int)) 0) (gI (gI Ls (k : Int)) 1) (by exact (hi3 _ (bg (by omega) (by omega))).bd) (by exact (hi3 _ (bg (by omega) (by omega))).bd) (by exact (hk3 _ (bg (by omega) (by omega))).bd) (by exact (hk3 _ (bg (by omega) (by omega))).bd)).mono fun e w2 h2 => ⟨h2.1, hw'.trans (h2.2.mono hw'.size)⟩) ?_
      refine qv (vi (cJ (gI (gI Ls (i : Int)) 0) (gI (gI Ls (i : Int)) 1) (gI (gI Ls (k : Int)) 0) (gI (gI Ls (k : Int)) 1))) (fun w' hw' => bJ rfl) (c8 ?_)
      intro w559 hc560
      replace hc560 := am hc560 g546
      refine a7 ?_
      clear cel550 r551 cel553 r554
      obtain ⟨h1a, h1b, h1c⟩ := hSP.at0 (i := (i : Int)) (by omega) (by omega)
      refine a6 rfl (ai 0 (ab (a7 (a7 (a6 rfl (ai 0 (ab (av ?_))))))))
      refine b5 (σ := Nat × Nat × aS) (fun ⟨c, j, gq⟩ f w => bh w0 gq w ∧ f 2 = vp b3 0 ∧ f 5 = vp b19 0 ∧ f 11 = v529 ∧ f 13 = vi (i : Int) ∧ f 14 = vi (k : Int) ∧ f 17 = vi (cJ (gI (gI Ls (i : Int)) 0) (gI (gI Ls (i : Int)) 1) (gI (gI Ls (k : Int)) 0) (gI (gI Ls (k : Int)) 1)) ∧ f 18 = vi (c : Int) ∧ f 19 = vi (j : Int) ∧ Sl gq (is 0) w g_v g.2 ∧ Sl gq (is 0) w at__v at_ ∧ Bx gq (is 1) w b3 [vi g.1, g_v] ∧ Bx gq (is 2) w b19 [at__v, Ls_v] ∧ dD gq 7 w Ls_v Ls ∧ Ow gq (is 9) (is 9) w v529 told ∧ (j : Int) ≤ (2 : Int) ∧ (c = eF g (i : Int) (k : Int) j)) (fun ⟨c, j, gq⟩ => 2 - j) (0, 0, g546) ?_ ?_
      have C562 := cg [] (hc556.n.seq (ch557.n.seq hc560.n))
      have C561 := ch547.n.seq C562
      · exact ⟨bH.ca C561, zs2, zs5, zs11, zs13, zs14, rfl, rfl, rfl, Rg.ca C561, Rat_.ca C561, bx5.ca C561, bx24.ca C562, o_Ls.ca C562, o531.ca C561, by omega, by rfl⟩
      clear Rg Rat_ bx5 bx24 o_Ls o531 bH
      rintro ⟨c, j, g565⟩ f563 w564 ⟨bH, zs2, zs5, zs11, zs13, zs14, zs17, zs18, zs19, Rg, Rat_, bx5, bx24, o_Ls, o531, hle_j, hcm⟩ back32
      have hcb0 := gx g (i : Int) (k : Int) j
      refine a7 (a7 (a6 rfl (mz zs19 (lx (bb (m := (j : Int)) (n := 2) rfl rfl) (ab ?_)))))
      by_cases p32 : (j : Int) < 2
      ·
       refine ah rfl (dt p32) (ao (a7 (av (a7 (bS g565 rfl eU (by kernel_rfl) ?_)))))
       intro w567 ch566
       refine qx (fun w' hw' => a8 Try.underlying24 rfl rfl zs2 rfl) ?_
       replace bx5 := bx5.cn ch566
       refine qx (fun w' hw' => ag bX rfl (bx5.bel hw') rfl) (qz zs13 (qz zs19 ?_))
       replace Rg := Rg.cn ch566
       refine qx (fun w' hw' => ak (v := g_v) (i := (i : Int)) Try.underlying22 rfl rfl (Rg.bel hw') rfl (by omega) (by omega)) (qx (fun w' hw' => aG (i := (j : Int)) Try.underlying59 rfl rfl rfl (by omega) (by omega) (Nat.mul_one _)) (qx (fun w' hw' => aR (v := g_v) (i := (i : Int)) al rfl (Rg.bel hw') (by omega) (by omega) (show Int.toNat (j : Int) < 2 by omega) (gQ _ (by omega) (by omega))) (qx (fun w' hw' => a8 Try.underlying24 rfl rfl zs2 rfl) (qx (fun w' hw' => ag bX rfl (bx5.bel hw') rfl) (qz zs14 (qx (fun w' hw' => ak (v := g_v) (i := (k : Int)) Try.underlying22 rfl rfl (Rg.bel hw') rfl (by omega) (by omega)) (qx (fun w' hw' => aG Try.underlying59 rfl rfl rfl (by decide) (by decide) rfl) ?_)))))))
       refine qx (fun w' hw' => aR (v := g_v) (i := (k : Int)) al rfl (Rg.bel hw') (by omega) (by omega) (by decide) rfl) (qx (fun w' hw' => bx (m := pI (gI g.2 (i : Int)) (j : Int)) (n := (gI g.2 (k : Int)).1) rfl rfl) (qm (Value.bool (decide ((pI (gI g.2 (i : Int)) (j : Int)) = ((gI g.2 (k : Int)).1)))) ?_))
       by_cases q179 : (pI (gI g.2 (i : Int)) (j : Int)) = ((gI g.2 (k : Int)).1)
       ·
        refine aB (wn (dt q179)) (aB (wn (dt q179)) (aB (wn (dt q179)) (aB (wn (dt q179)) (aB (wn (dt q179)) (aB (wn (dt q179)) (aB (wn (dt q179)) (aB (wn (dt q179)) (aB (wn (dt q179)) (aB (wn (dt q179)) ?_)))))))))
        refine aB (wn (dt q179)) (aB (wn (dt q179)) (aB (wn (dt q179)) (aB (wn (dt q179)) (qv (Value.bool true) (fun w' hw' => aw rfl (dt q179) rfl) (c8 ?_)))))
        intro w568 hc569
        replace hc569 := am hc569 g565
        refine ah rfl rfl (a6 rfl (mz zs18 (lx (aT (m := (c : Int)) (n := 1) rfl rfl (by omega)) (ai ((c : Int) + 1) (ab (aq (a6 rfl (mz zs19 (lx (aT (m := (j : Int)) (n := 1) rfl rfl (by omega)) ?_)))))))))
        refine ai ((j : Int) + 1) (ab ?_)
        replace bH := bH.cn ch566
        refine back32 (c + 1, j + 1, g565) _ _ ⟨bH.cn hc569, zs2, zs5, zs11, zs13, zs14, zs17, rfl, rfl, Rg.cn hc569, (Rat_.cn ch566).cn hc569, bx5.cn hc569, (bx24.cn ch566).cn hc569, (o_Ls.cn ch566).cn hc569, (o531.cn ch566).cn hc569, by omega, ?_⟩ ?_
        · show (c + 1) = eF g (i : Int) (k : Int) (j + 1)
          exact ms hcm (.inl ‹_›)
        · show 2 - (j + 1) < 2 - j
          omega
       refine aI (v := vp b3 1) (wy (df q179)) (fun w' hw' => a8 Try.underlying24 rfl rfl zs2 rfl) (aI (v := g_v) (wy (df q179)) (fun w' hw' => ag bX rfl (bx5.bel hw') rfl) (aI (v := vi (i : Int)) (wy (df q179)) (fun w' hw' => aJ zs13) (aI (v := vi (j : Int)) (wy (df q179)) (fun w' hw' => aJ zs19) (aI (v := Value.pointer (some (aN g_v 2 (Int.toNat (i : Int))))) (wy (df q179)) (fun w' hw' => ak (α := (Int) × (Int)) (xs := g.2) (v := g_v) (i := (i : Int)) Try.underlying22 rfl rfl (Rg.bel hw') rfl (by omega) (by omega)) ?_))))
       refine aI (v := Value.pointer (some ⟨(aN g_v 2 (Int.toNat (i : Int))).block, (aN g_v 2 (Int.toNat (i : Int))).off + (Int.toNat (j : Int)), none⟩)) (wy (df q179)) (fun w' hw' => aG (i := (j : Int)) Try.underlying59 rfl rfl rfl (by omega) (by omega) (Nat.mul_one _)) (aI (v := vi (pI (gI g.2 (i : Int)) (j : Int))) (wy (df q179)) (fun w' hw' => aR (α := (Int) × (Int)) (xs := g.2) (v := g_v) (i := (i : Int)) al rfl (Rg.bel hw') (by omega) (by omega) (show Int.toNat (j : Int) < 2 by omega) (gQ _ (by omega) (by omega))) (aI (v := vp b3 1) (wy (df q179)) (fun w' hw' => a8 Try.underlying24 rfl rfl zs2 rfl) ?_))
       refine aI (v := g_v) (wy (df q179)) (fun w' hw' => ag bX rfl (bx5.bel hw') rfl) (aI (v := vi (k : Int)) (wy (df q179)) (fun w' hw' => aJ zs14) (aI (v := Value.pointer (some (aN g_v 2 (Int.toNat (k : Int))))) (wy (df q179)) (fun w' hw' => ak (α := (Int) × (Int)) (xs := g.2) (v := g_v) (i := (k : Int)) Try.underlying22 rfl rfl (Rg.bel hw') rfl (by omega) (by omega)) (aI (v := Value.pointer (some ⟨(aN g_v 2 (Int.toNat (k : Int))).block, (aN g_v 2 (Int.toNat (k : Int))).off + 1, none⟩)) (wy (df q179)) (fun w' hw' => aG Try.underlying59 rfl rfl rfl (by decide) (by decide) rfl) ?_)))
       refine aI (v := vi ((gI g.2 (k : Int)).2)) (wy (df q179)) (fun w' hw' => aR (α := (Int) × (Int)) (xs := g.2) (v := g_v) (i := (k : Int)) al rfl (Rg.bel hw') (by omega) (by omega) (by decide) rfl) (aI (v := Value.bool (decide ((pI (gI g.2 (i : Int)) (j : Int)) = ((gI g.2 (k : Int)).2)))) (wy (df q179)) (fun w' hw' => bx (m := pI (gI g.2 (i : Int)) (j : Int)) (n := (gI g.2 (k : Int)).2) rfl rfl) (qv (Value.bool (decide ((pI (gI g.2 (i : Int)) (j : Int)) = ((gI g.2 (k : Int)).2)))) (fun w' hw' => aC rfl (df q179) rfl) (c8 ?_)))
       intro w570 hc571
       replace hc571 := am hc571 g565
       by_cases p34 : (pI (gI g.2 (i : Int)) (j : Int)) = ((gI g.2 (k : Int)).2)
       ·
        refine ah rfl (dt p34) (a6 rfl (mz zs18 (lx (aT (m := (c : Int)) (n := 1) rfl rfl (by omega)) (ai ((c : Int) + 1) (ab (aq (a6 rfl (mz zs19 (lx (aT (m := (j : Int)) (n := 1) rfl rfl (by omega)) ?_)))))))))
        refine ai ((j : Int) + 1) (ab ?_)
        replace bH := bH.cn ch566
        refine back32 (c + 1, j + 1, g565) _ _ ⟨bH.cn hc571, zs2, zs5, zs11, zs13, zs14, zs17, rfl, rfl, Rg.cn hc571, (Rat_.cn ch566).cn hc571, bx5.cn hc571, (bx24.cn ch566).cn hc571, (o_Ls.cn ch566).cn hc571, (o531.cn ch566).cn hc571, by omega, ?_⟩ ?_
        · show (c + 1) = eF g (i : Int) (k : Int) (j + 1)
          exact ms hcm (.inr ‹_›)
        · show 2 - (j + 1) < 2 - j
          omega
       refine aj rfl (df p34) (ao (aq (a6 rfl (mz zs19 (lx (aT (m := (j : Int)) (n := 1) rfl rfl (by omega)) (ai ((j : Int) + 1) (ab ?_)))))))
       replace bH := bH.cn ch566
       refine back32 (c, j + 1, g565) _ _ ⟨bH.cn hc571, zs2, zs5, zs11, zs13, zs14, zs17, zs18, rfl, Rg.cn hc571, (Rat_.cn ch566).cn hc571, bx5.cn hc571, (bx24.cn ch566).cn hc571, (o_Ls.cn ch566).cn hc571, (o531.cn ch566).cn hc571, by omega, ?_⟩ ?_
       · show c = eF g (i : Int) (k : Int) (j + 1)
         exact rT hcm (fun h => h.elim ‹_› ‹_›)
       · show 2 - (j + 1) < 2 - j
         omega
      refine aj rfl (df p32) (aU rfl (a7 ?_))
      have hj2 : j = 2 := by omega
      have hcz := hcm
      rw [hj2] at hcz
      have hcb := gx g (i : Int) (k : Int) 2
      have hwn := hSP.want hm (i := (i : Int)) (k := (k : Int)) (by omega) (by omega) (by omega) rfl
      have htl := hSP.told hm (by omega) hce hT ‹_› (by omega) (i := (i : Int)) (k := (k : Int)) (by omega) (by omega) (by omega)
      refine a6 rfl (mz zs17 (lx (bx (m := cJ (gI (gI Ls (i : Int)) 0) (gI (gI Ls (i : Int)) 1) (gI (gI Ls (k : Int)) 0) (gI (gI Ls (k : Int)) 1)) (n := 1) rfl rfl) (mv (Value.bool (decide ((cJ (gI (gI Ls (i : Int)) 0) (gI (gI Ls (i : Int)) 1) (gI (gI Ls (k : Int)) 0) (gI (gI Ls (k : Int)) 1)) = 1))) ?_)))
      by_cases q199 : (cJ (gI (gI Ls (i : Int)) 0) (gI (gI Ls (i : Int)) 1) (gI (gI Ls (k : Int)) 0) (gI (gI Ls (k : Int)) 1)) = 1
      ·
       refine af (wn (dt q199)) (af (wn (dt q199)) (lw (Value.bool true) (aw rfl (dt q199) rfl) (mv (Value.bool true) (af (wn rfl) (af (wn rfl) (af (wn rfl) (af (cO rfl rfl rfl) (af (cO rfl rfl rfl) (af (wn rfl) (lw (Value.bool true) (aw rfl rfl rfl) (ma (Value.bool true) ?_)))))))))))
       refine ab (a7 (a7 (a6 rfl (mz zs17 (lx (bx (m := cJ (gI (gI Ls (i : Int)) 0) (gI (gI Ls (i : Int)) 1) (gI (gI Ls (k : Int)) 0) (gI (gI Ls (k : Int)) 1)) (n := 2) rfl rfl) (mv (Value.bool (decide ((cJ (gI (gI Ls (i : Int)) 0) (gI (gI Ls (i : Int)) 1) (gI (gI Ls (k : Int)) 0) (gI (gI Ls (k : Int)) 1)) = 2))) ?_))))))
       by_cases q213 : (cJ (gI (gI Ls (i : Int)) 0) (gI (gI Ls (i : Int)) 1) (gI (gI Ls (k : Int)) 0) (gI (gI Ls (k : Int)) 1)) = 2
       ·
        refine lv (vi (c : Int)) (wy (dt q213)) (aJ zs18) (lv (Value.bool (decide (0 < (c : Int)))) (wy (dt q213)) (bV (m := (c : Int)) (n := 0) rfl rfl) (lw (Value.bool (decide (0 < (c : Int)))) (aw rfl (dt q213) rfl) (ab ?_)))
        by_cases p37 : 0 < (c : Int)
        ·
         refine ah rfl (dt p37) (a6 rfl (lx (ad (ds := [vi g.1, g_v]) cw zs2 bx5 rfl rfl) (lx (ad (ds := [at__v, Ls_v]) ct zs5 bx24 rfl rfl) (mz zs13 (mz zs14 (lo (aH (v := Value.bool (decide (gg g (at_, Ls) (i : Int) (k : Int)))) (aA (vals := [vg [vi g.1, g_v], vg [at__v, Ls_v], vi (i : Int), vi (k : Int)]) Try.func22 jt jN rfl) (iZ w564 g g_v (Rg).ro (at_, Ls) at__v Ls_v (Rat_).ro (o_Ls.sl).ro (i : Int) (k : Int) ‹_› ‹_› (by omega) (by omega)) ?_)))))))
         intro w572 hb573
         replace hb573 := am hb573 g565
         refine lx (cz (b := (decide (gg g (at_, Ls) (i : Int) (k : Int)))) rfl) (ma (Value.bool (!(decide (gg g (at_, Ls) (i : Int) (k : Int))))) (ab (a7 (a6 rfl (mz zs11 (mz zs13 (lx (cv (m := (i : Int)) (n := 30) rfl rfl (by omega)) (mz zs14 (lx (aT (m := (i : Int) * 30) (n := (k : Int)) rfl rfl (by omega)) ?_)))))))))
         replace o531 := o531.cn hb573
         refine lx (ak (v := v529) (i := ((i : Int) * 30) + (k : Int)) Try.underlying60 rfl rfl o531.flat rfl (by omega) (by omega)) (lx (bD (v := v529) (i := ((i : Int) * 30) + (k : Int)) dF rfl o531.flat (by omega) (by omega) (by decide) rfl) (mv (Value.bool (!(decide (gg g (at_, Ls) (i : Int) (k : Int))))) (lw (Value.bool (!(decide ((gI told (((i : Int) * 30) + (k : Int))) = (!(decide (gg g (at_, Ls) (i : Int) (k : Int)))))))) (d4 Try.underlying4 rfl rfl) (ab ?_))))
         have p39 : (gI told (((i : Int) * 30) + (k : Int))) = (!(decide (gg g (at_, Ls) (i : Int) (k : Int)))) := by (exfalso; omega)
         refine aj rfl (congrArg Bool.not (dt p39)) (ao (aq (a6 rfl (mz zs14 (lx (aT (m := (k : Int)) (n := 1) rfl rfl (by omega)) (ai ((k : Int) + 1) (ab ?_)))))))
         refine back26 (k + 1, g565) _ _ ⟨bH.cn hb573, zs2, zs5, zs11, zs13, rfl, Rg.cn hb573, Rat_.cn hb573, bx5.cn hb573, bx24.cn hb573, o_Ls.cn hb573, o531, by omega, ?_⟩ ?_
         · show i < (k + 1)
           omega
         · show Int.toNat (((g.2.length : Int) : Int) - ((k + 1) : Int)) < Int.toNat (((g.2.length : Int) : Int) - (k : Int))
           omega
        refine aj rfl (df p37) (ao (a7 (a6 rfl (mz zs11 (mz zs13 (lx (cv (m := (i : Int)) (n := 30) rfl rfl (by omega)) (mz zs14 (lx (aT (m := (i : Int) * 30) (n := (k : Int)) rfl rfl (by omega)) (lx (ak (v := v529) (i := ((i : Int) * 30) + (k : Int)) Try.underlying60 rfl rfl o531.flat rfl (by omega) (by omega)) (lx (bD (v := v529) (i := ((i : Int) * 30) + (k : Int)) dF rfl o531.flat (by omega) (by omega) (by decide) rfl) ?_))))))))))
        refine mv (Value.bool true) (lw (Value.bool (!(decide ((gI told (((i : Int) * 30) + (k : Int))) = true)))) (d4 Try.underlying4 rfl rfl) (ab ?_))
        have p39_574 : (gI told (((i : Int) * 30) + (k : Int))) = true := by exact jR htl hwn.2 (by exact .inl ‹_›)
        refine aj rfl (congrArg Bool.not (dt p39_574)) (ao (aq (a6 rfl (mz zs14 (lx (aT (m := (k : Int)) (n := 1) rfl rfl (by omega)) (ai ((k : Int) + 1) (ab ?_)))))))
        refine back26 (k + 1, g565) _ _ ⟨bH, zs2, zs5, zs11, zs13, rfl, Rg, Rat_, bx5, bx24, o_Ls, o531, by omega, ?_⟩ ?_
        · show i < (k + 1)
          omega
        · show Int.toNat (((g.2.length : Int) : Int) - ((k + 1) : Int)) < Int.toNat (((g.2.length : Int) : Int) - (k : Int))
          omega
       refine af (wn (df q213)) (af (wn (df q213)) (lw (Value.bool false) (aC rfl (df q213) rfl) (ab (aj rfl rfl (ao (a7 (a6 rfl (mz zs11 (mz zs13 (lx (cv (m := (i : Int)) (n := 30) rfl rfl (by omega)) ?_))))))))))
       refine mz zs14 (lx (aT (m := (i : Int) * 30) (n := (k : Int)) rfl rfl (by omega)) (lx (ak (v := v529) (i := ((i : Int) * 30) + (k : Int)) Try.underlying60 rfl rfl o531.flat rfl (by omega) (by omega)) (lx (bD (v := v529) (i := ((i : Int) * 30) + (k : Int)) dF rfl o531.flat (by omega) (by omega) (by decide) rfl) (mv (Value.bool true) (lw (Value.bool (!(decide ((gI told (((i : Int) * 30) + (k : Int))) = true)))) (d4 Try.underlying4 rfl rfl) (ab ?_))))))
       have p39_575 : (gI told (((i : Int) * 30) + (k : Int))) = true := by exact jR htl hwn.2 (by exact .inl ‹_›)
       refine aj rfl (congrArg Bool.not (dt p39_575)) (ao (aq (a6 rfl (mz zs14 (lx (aT (m := (k : Int)) (n := 1) rfl rfl (by omega)) (ai ((k : Int) + 1) (ab ?_)))))))
       refine back26 (k + 1, g565) _ _ ⟨bH, zs2, zs5, zs11, zs13, rfl, Rg, Rat_, bx5, bx24, o_Ls, o531, by omega, ?_⟩ ?_
       · show i < (k + 1)
         omega
       · show Int.toNat (((g.2.length : Int) : Int) - ((k + 1) : Int)) < Int.toNat (((g.2.length : Int) : Int) - (k : Int))
         omega
      refine lv (vi (cJ (gI (gI Ls (i : Int)) 0) (gI (gI Ls (i : Int)) 1) (gI (gI Ls (k : Int)) 0) (gI (gI Ls (k : Int)) 1))) (wy (df q199)) (aJ zs17) (lv (Value.bool (decide ((cJ (gI (gI Ls (i : Int)) 0) (gI (gI Ls (i : Int)) 1) (gI (gI Ls (k : Int)) 0) (gI (gI Ls (k : Int)) 1)) = 3))) (wy (df q199)) (bx (m := cJ (gI (gI Ls (i : Int)) 0) (gI (gI Ls (i : Int)) 1) (gI (gI Ls (k : Int)) 0) (gI (gI Ls (k : Int)) 1)) (n := 3) rfl rfl) (lw (Value.bool (decide ((cJ (gI (gI Ls (i : Int)) 0) (gI (gI Ls (i : Int)) 1) (gI (gI Ls (k : Int)) 0) (gI (gI Ls (k : Int)) 1)) = 3))) (aC rfl (df q199) rfl) (mv (Value.bool (decide ((cJ (gI (gI Ls (i : Int)) 0) (gI (gI Ls (i : Int)) 1) (gI (gI Ls (k : Int)) 0) (gI (gI Ls (k : Int)) 1)) = 3))) ?_)))
      by_cases q203 : (cJ (gI (gI Ls (i : Int)) 0) (gI (gI Ls (i : Int)) 1) (gI (gI Ls (k : Int)) 0) (gI (gI Ls (k : Int)) 1)) = 3
      ·
       refine af (wn (dt q203)) (af (wn (dt q203)) (af (wn (dt q203)) (af (cO rfl rfl rfl) (af (cO rfl rfl rfl) (af (wn (dt q203)) (lw (Value.bool true) (aw rfl (dt q203) rfl) (ma (Value.bool true) (ab (a7 (a7 (a6 rfl (mz zs17 ?_))))))))))))
       refine lx (bx (m := cJ (gI (gI Ls (i : Int)) 0) (gI (gI Ls (i : Int)) 1) (gI (gI Ls (k : Int)) 0) (gI (gI Ls (k : Int)) 1)) (n := 2) rfl rfl) (mv (Value.bool (decide ((cJ (gI (gI Ls (i : Int)) 0) (gI (gI Ls (i : Int)) 1) (gI (gI Ls (k : Int)) 0) (gI (gI Ls (k : Int)) 1)) = 2))) ?_)
       by_cases q213 : (cJ (gI (gI Ls (i : Int)) 0) (gI (gI Ls (i : Int)) 1) (gI (gI Ls (k : Int)) 0) (gI (gI Ls (k : Int)) 1)) = 2
       ·
        refine lv (vi (c : Int)) (wy (dt q213)) (aJ zs18) (lv (Value.bool (decide (0 < (c : Int)))) (wy (dt q213)) (bV (m := (c : Int)) (n := 0) rfl rfl) (lw (Value.bool (decide (0 < (c : Int)))) (aw rfl (dt q213) rfl) (ab ?_)))
        by_cases p37 : 0 < (c : Int)
        ·
         refine ah rfl (dt p37) (a6 rfl (lx (ad (ds := [vi g.1, g_v]) cw zs2 bx5 rfl rfl) (lx (ad (ds := [at__v, Ls_v]) ct zs5 bx24 rfl rfl) (mz zs13 (mz zs14 (lo (aH (v := Value.bool (decide (gg g (at_, Ls) (i : Int) (k : Int)))) (aA (vals := [vg [vi g.1, g_v], vg [at__v, Ls_v], vi (i : Int), vi (k : Int)]) Try.func22 jt jN rfl) (iZ w564 g g_v (Rg).ro (at_, Ls) at__v Ls_v (Rat_).ro (o_Ls.sl).ro (i : Int) (k : Int) ‹_› ‹_› (by omega) (by omega)) ?_)))))))
         intro w576 hb577
         replace hb577 := am hb577 g565
         refine lx (cz (b := (decide (gg g (at_, Ls) (i : Int) (k : Int)))) rfl) (ma (Value.bool (!(decide (gg g (at_, Ls) (i : Int) (k : Int))))) (ab (a7 (a6 rfl (mz zs11 (mz zs13 (lx (cv (m := (i : Int)) (n := 30) rfl rfl (by omega)) (mz zs14 (lx (aT (m := (i : Int) * 30) (n := (k : Int)) rfl rfl (by omega)) ?_)))))))))
         replace o531 := o531.cn hb577
         refine lx (ak (v := v529) (i := ((i : Int) * 30) + (k : Int)) Try.underlying60 rfl rfl o531.flat rfl (by omega) (by omega)) (lx (bD (v := v529) (i := ((i : Int) * 30) + (k : Int)) dF rfl o531.flat (by omega) (by omega) (by decide) rfl) (mv (Value.bool (!(decide (gg g (at_, Ls) (i : Int) (k : Int))))) (lw (Value.bool (!(decide ((gI told (((i : Int) * 30) + (k : Int))) = (!(decide (gg g (at_, Ls) (i : Int) (k : Int)))))))) (d4 Try.underlying4 rfl rfl) (ab ?_))))
         have p39_578 : (gI told (((i : Int) * 30) + (k : Int))) = (!(decide (gg g (at_, Ls) (i : Int) (k : Int)))) := by (exfalso; omega)
         refine aj rfl (congrArg Bool.not (dt p39_578)) (ao (aq (a6 rfl (mz zs14 (lx (aT (m := (k : Int)) (n := 1) rfl rfl (by omega)) (ai ((k : Int) + 1) (ab ?_)))))))
         refine back26 (k + 1, g565) _ _ ⟨bH.cn hb577, zs2, zs5, zs11, zs13, rfl, Rg.cn hb577, Rat_.cn hb577, bx5.cn hb577, bx24.cn hb577, o_Ls.cn hb577, o531, by omega, ?_⟩ ?_
         · show i < (k + 1)
           omega
         · show Int.toNat (((g.2.length : Int) : Int) - ((k + 1) : Int)) < Int.toNat (((g.2.length : Int) : Int) - (k : Int))
           omega
        refine aj rfl (df p37) (ao (a7 (a6 rfl (mz zs11 (mz zs13 (lx (cv (m := (i : Int)) (n := 30) rfl rfl (by omega)) (mz zs14 (lx (aT (m := (i : Int) * 30) (n := (k : Int)) rfl rfl (by omega)) (lx (ak (v := v529) (i := ((i : Int) * 30) + (k : Int)) Try.underlying60 rfl rfl o531.flat rfl (by omega) (by omega)) (lx (bD (v := v529) (i := ((i : Int) * 30) + (k : Int)) dF rfl o531.flat (by omega) (by omega) (by decide) rfl) ?_))))))))))
        refine mv (Value.bool true) (lw (Value.bool (!(decide ((gI told (((i : Int) * 30) + (k : Int))) = true)))) (d4 Try.underlying4 rfl rfl) (ab ?_))
        have p39_579 : (gI told (((i : Int) * 30) + (k : Int))) = true := by exact jR htl hwn.2 (by exact .inr ‹_›)
        refine aj rfl (congrArg Bool.not (dt p39_579)) (ao (aq (a6 rfl (mz zs14 (lx (aT (m := (k : Int)) (n := 1) rfl rfl (by omega)) (ai ((k : Int) + 1) (ab ?_)))))))
        refine back26 (k + 1, g565) _ _ ⟨bH, zs2, zs5, zs11, zs13, rfl, Rg, Rat_, bx5, bx24, o_Ls, o531, by omega, ?_⟩ ?_
        · show i < (k + 1)
          omega
        · show Int.toNat (((g.2.length : Int) : Int) - ((k + 1) : Int)) < Int.toNat (((g.2.length : Int) : Int) - (k : Int))
          omega
       refine af (wn (df q213)) (af (wn (df q213)) (lw (Value.bool false) (aC rfl (df q213) rfl) (ab (aj rfl rfl (ao (a7 (a6 rfl (mz zs11 (mz zs13 (lx (cv (m := (i : Int)) (n := 30) rfl rfl (by omega)) ?_))))))))))
       refine mz zs14 (lx (aT (m := (i : Int) * 30) (n := (k : Int)) rfl rfl (by omega)) (lx (ak (v := v529) (i := ((i : Int) * 30) + (k : Int)) Try.underlying60 rfl rfl o531.flat rfl (by omega) (by omega)) (lx (bD (v := v529) (i := ((i : Int) * 30) + (k : Int)) dF rfl o531.flat (by omega) (by omega) (by decide) rfl) (mv (Value.bool true) (lw (Value.bool (!(decide ((gI told (((i : Int) * 30) + (k : Int))) = true)))) (d4 Try.underlying4 rfl rfl) (ab ?_))))))
       have p39_580 : (gI told (((i : Int) * 30) + (k : Int))) = true := by exact jR htl hwn.2 (by exact .inr ‹_›)
       refine aj rfl (congrArg Bool.not (dt p39_580)) (ao (aq (a6 rfl (mz zs14 (lx (aT (m := (k : Int)) (n := 1) rfl rfl (by omega)) (ai ((k : Int) + 1) (ab ?_)))))))
       refine back26 (k + 1, g565) _ _ ⟨bH, zs2, zs5, zs11, zs13, rfl, Rg, Rat_, bx5, bx24, o_Ls, o531, by omega, ?_⟩ ?_
       · show i < (k + 1)
         omega
       · show Int.toNat (((g.2.length : Int) : Int) - ((k + 1) : Int)) < Int.toNat (((g.2.length : Int) : Int) - (k : Int))
         omega
      refine lv (vi (cJ (gI (gI Ls (i : Int)) 0) (gI (gI Ls (i : Int)) 1) (gI (gI Ls (k : Int)) 0) (gI (gI Ls (k : Int)) 1))) (wy (df q203)) (aJ zs17) (lv (Value.bool (decide ((cJ (gI (gI Ls (i : Int)) 0) (gI (gI Ls (i : Int)) 1) (gI (gI Ls (k : Int)) 0) (gI (gI Ls (k : Int)) 1)) = 2))) (wy (df q203)) (bx (m := cJ (gI (gI Ls (i : Int)) 0) (gI (gI Ls (i : Int)) 1) (gI (gI Ls (k : Int)) 0) (gI (gI Ls (k : Int)) 1)) (n := 2) rfl rfl) (lv (Value.bool (decide ((cJ (gI (gI Ls (i : Int)) 0) (gI (gI Ls (i : Int)) 1) (gI (gI Ls (k : Int)) 0) (gI (gI Ls (k : Int)) 1)) = 2))) (wy (df q203)) (aJ rfl) ?_))
      by_cases q206 : (cJ (gI (gI Ls (i : Int)) 0) (gI (gI Ls (i : Int)) 1) (gI (gI Ls (k : Int)) 0) (gI (gI Ls (k : Int)) 1)) = 2
      ·
       refine lv (vi (c : Int)) (wy (dt q206)) (aJ zs18) (lv (Value.bool (decide ((c : Int) = 0))) (wy (dt q206)) (bx (m := (c : Int)) (n := 0) rfl rfl) (lv (Value.bool (decide ((c : Int) = 0))) (wy (df q203)) (aw rfl (dt q206) rfl) (lw (Value.bool (decide ((c : Int) = 0))) (aC rfl (df q203) rfl) (ma (Value.bool (decide ((c : Int) = 0))) (ab (a7 (a7 (a6 rfl (mz zs17 (lx (bx (m := cJ (gI (gI Ls (i : Int)) 0) (gI (gI Ls (i : Int)) 1) (gI (gI Ls (k : Int)) 0) (gI (gI Ls (k : Int)) 1)) (n := 2) rfl rfl) (mv (Value.bool (decide ((cJ (gI (gI Ls (i : Int)) 0) (gI (gI Ls (i : Int)) 1) (gI (gI Ls (k : Int)) 0) (gI (gI Ls (k : Int)) 1)) = 2))) ?_)))))))))))
       refine lv (vi (c : Int)) (wy (dt q206)) (aJ zs18) (lv (Value.bool (decide (0 < (c : Int)))) (wy (dt q206)) (bV (m := (c : Int)) (n := 0) rfl rfl) (lw (Value.bool (decide (0 < (c : Int)))) (aw rfl (dt q206) rfl) (ab ?_)))
       by_cases p37 : 0 < (c : Int)
       ·
        refine ah rfl (dt p37) (a6 rfl (lx (ad (ds := [vi g.1, g_v]) cw zs2 bx5 rfl rfl) (lx (ad (ds := [at__v, Ls_v]) ct zs5 bx24 rfl rfl) (mz zs13 (mz zs14 (lo (aH (v := Value.bool (decide (gg g (at_, Ls) (i : Int) (k : Int)))) (aA (vals := [vg [vi g.1, g_v], vg [at__v, Ls_v], vi (i : Int), vi (k : Int)]) Try.func22 jt jN rfl) (iZ w564 g g_v (Rg).ro (at_, Ls) at__v Ls_v (Rat_).ro (o_Ls.sl).ro (i : Int) (k : Int) ‹_› ‹_› (by omega) (by omega)) ?_)))))))
        intro w581 hb582
        replace hb582 := am hb582 g565
        refine lx (cz (b := (decide (gg g (at_, Ls) (i : Int) (k : Int)))) rfl) (ma (Value.bool (!(decide (gg g (at_, Ls) (i : Int) (k : Int))))) (ab (a7 (a6 rfl (mz zs11 (mz zs13 (lx (cv (m := (i : Int)) (n := 30) rfl rfl (by omega)) (mz zs14 (lx (aT (m := (i : Int) * 30) (n := (k : Int)) rfl rfl (by omega)) ?_)))))))))
        replace o531 := o531.cn hb582
        refine lx (ak (v := v529) (i := ((i : Int) * 30) + (k : Int)) Try.underlying60 rfl rfl o531.flat rfl (by omega) (by omega)) (lx (bD (v := v529) (i := ((i : Int) * 30) + (k : Int)) dF rfl o531.flat (by omega) (by omega) (by decide) rfl) (mv (Value.bool (!(decide (gg g (at_, Ls) (i : Int) (k : Int))))) (lw (Value.bool (!(decide ((gI told (((i : Int) * 30) + (k : Int))) = (!(decide (gg g (at_, Ls) (i : Int) (k : Int)))))))) (d4 Try.underlying4 rfl rfl) (ab ?_))))
        have p39_583 : (gI told (((i : Int) * 30) + (k : Int))) = (!(decide (gg g (at_, Ls) (i : Int) (k : Int)))) := by exact sj htl hwn.2 ‹_›
        refine aj rfl (congrArg Bool.not (dt p39_583)) (ao (aq (a6 rfl (mz zs14 (lx (aT (m := (k : Int)) (n := 1) rfl rfl (by omega)) (ai ((k : Int) + 1) (ab ?_)))))))
        refine back26 (k + 1, g565) _ _ ⟨bH.cn hb582, zs2, zs5, zs11, zs13, rfl, Rg.cn hb582, Rat_.cn hb582, bx5.cn hb582, bx24.cn hb582, o_Ls.cn hb582, o531, by omega, ?_⟩ ?_
        · show i < (k + 1)
          omega
        · show Int.toNat (((g.2.length : Int) : Int) - ((k + 1) : Int)) < Int.toNat (((g.2.length : Int) : Int) - (k : Int))
          omega
       refine aj rfl (df p37) (ao (a7 (a6 rfl (mz zs11 (mz zs13 (lx (cv (m := (i : Int)) (n := 30) rfl rfl (by omega)) (mz zs14 (lx (aT (m := (i : Int) * 30) (n := (k : Int)) rfl rfl (by omega)) (lx (ak (v := v529) (i := ((i : Int) * 30) + (k : Int)) Try.underlying60 rfl rfl o531.flat rfl (by omega) (by omega)) (lx (bD (v := v529) (i := ((i : Int) * 30) + (k : Int)) dF rfl o531.flat (by omega) (by omega) (by decide) rfl) ?_))))))))))
       refine mv (Value.bool (decide ((c : Int) = 0))) (lw (Value.bool (!(decide ((gI told (((i : Int) * 30) + (k : Int))) = (decide ((c : Int) = 0)))))) (d4 Try.underlying4 rfl rfl) (ab ?_))
       have p39_584 : (gI told (((i : Int) * 30) + (k : Int))) = (decide ((c : Int) = 0)) := by exact rY htl hwn.2 ‹_› (by omega) (fun h => oQ (by rw [← h]; exact hcz.symm))
       refine aj rfl (congrArg Bool.not (dt p39_584)) (ao (aq (a6 rfl (mz zs14 (lx (aT (m := (k : Int)) (n := 1) rfl rfl (by omega)) (ai ((k : Int) + 1) (ab ?_)))))))
       refine back26 (k + 1, g565) _ _ ⟨bH, zs2, zs5, zs11, zs13, rfl, Rg, Rat_, bx5, bx24, o_Ls, o531, by omega, ?_⟩ ?_
       · show i < (k + 1)
         omega
       · show Int.toNat (((g.2.length : Int) : Int) - ((k + 1) : Int)) < Int.toNat (((g.2.length : Int) : Int) - (k : Int))
         omega
      refine af (wn (df q206)) (af (wn (df q206)) (lv (Value.bool false) (wy (df q203)) (aC rfl (df q206) rfl) (lw (Value.bool false) (aC rfl (df q203) rfl) (ma (Value.bool false) (ab (a7 (a7 (a6 rfl (mz zs17 (lx (bx (m := cJ (gI (gI Ls (i : Int)) 0) (gI (gI Ls (i : Int)) 1) (gI (gI Ls (k : Int)) 0) (gI (gI Ls (k : Int)) 1)) (n := 2) rfl rfl) (mv (Value.bool (decide ((cJ (gI (gI Ls (i : Int)) 0) (gI (gI Ls (i : Int)) 1) (gI (gI Ls (k : Int)) 0) (gI (gI Ls (k : Int)) 1)) = 2))) (af (wn (df q206)) ?_))))))))))))
      refine af (wn (df q206)) (lw (Value.bool false) (aC rfl (df q206) rfl) (ab (aj rfl rfl (ao (a7 (a6 rfl (mz zs11 (mz zs13 (lx (cv (m := (i : Int)) (n := 30) rfl rfl (by omega)) (mz zs14 ?_))))))))))
      refine lx (aT (m := (i : Int) * 30) (n := (k : Int)) rfl rfl (by omega)) (lx (ak (v := v529) (i := ((i : Int) * 30) + (k : Int)) Try.underlying60 rfl rfl o531.flat rfl (by omega) (by omega)) (lx (bD (v := v529) (i := ((i : Int) * 30) + (k : Int)) dF rfl o531.flat (by omega) (by omega) (by decide) rfl) (mv (Value.bool false) (lw (Value.bool (!(decide ((gI told (((i : Int) * 30) + (k : Int))) = false)))) (d4 Try.underlying4 rfl rfl) (ab ?_)))))
      have p39_585 : (gI told (((i : Int) * 30) + (k : Int))) = false := by exact sa htl hwn.2 hwn.1 ‹_› ‹_› ‹_›
      refine aj rfl (congrArg Bool.not (dt p39_585)) (ao (aq (a6 rfl (mz zs14 (lx (aT (m := (k : Int)) (n := 1) rfl rfl (by omega)) (ai ((k : Int) + 1) (ab ?_)))))))
      refine back26 (k + 1, g565) _ _ ⟨bH, zs2, zs5, zs11, zs13, rfl, Rg, Rat_, bx5, bx24, o_Ls, o531, by omega, ?_⟩ ?_
      · show i < (k + 1)
        omega
      · show Int.toNat (((g.2.length : Int) : Int) - ((k + 1) : Int)) < Int.toNat (((g.2.length : Int) : Int) - (k : Int))
        omega
     refine aj rfl (df p26) (aU rfl (aq (a6 rfl (mz zs13 (lx (aT (m := (i : Int)) (n := 1) rfl rfl (by omega)) (ai ((i : Int) + 1) (ab ?_)))))))
     refine back23 (i + 1, g546) _ _ ⟨bH, zs2, zs5, zs11, rfl, Rg, Rat_, bx5, bx24, o_Ls, o531, by omega, ?_⟩ ?_
     · show True
       trivial
     · show Int.toNat (((g.2.length : Int) : Int) - ((i + 1) : Int)) < Int.toNat (((g.2.length : Int) : Int) - (i : Int))
       omega
    refine aj rfl (df p23) (aU rfl (a7 ?_))
    clear bx5 bx24 o_Ls o531
    refine a6 rfl (ma (Value.bool true) (ab (ar (vs := [Value.bool true]) Try.func5 (.tmp rfl .nil) ?_)))
    have e0 : (true : Bool) = (true) := by
      rfl
    exact ⟨(congrArg (a₁ := true) (fun (z0 : Bool) => Ending.returned (Value.bool z0)) e0), bH.below⟩
   refine ah rfl (congrArg Bool.not (Bool.eq_false_iff.2 p3)) (a7 ?_)
   clear bx5
   refine a6 rfl (ma (Value.bool true) (ab (ar (vs := [Value.bool true]) Try.func5 (.tmp rfl .nil) ?_)))
   have e0 : (true : Bool) = (true) := by
     rfl
   have C586 := cg [] (ch2.n.seq (hb7.n.seq (hb9.n.seq hb16.n)))
   replace bH := bH.ca C586
   exact ⟨(congrArg (a₁ := true) (fun (z0 : Bool) => Ending.returned (Value.bool z0)) e0), bH.below⟩
  refine af (wn (congrArg Bool.not (df q44))) (af (wn (congrArg Bool.not (df q44))) (af (wn (congrArg Bool.not (df q44))) (lw (Value.bool true) (aw rfl (congrArg Bool.not (df q44)) rfl) (ab (ah rfl rfl (a7 ?_))))))
  clear bx5
  refine a6 rfl (ma (Value.bool true) (ab (ar (vs := [Value.bool true]) Try.func5 (.tmp rfl .nil) ?_)))
  have e0 : (true : Bool) = (true) := by
    rfl
  replace bH := bH.ca C13
  exact ⟨(congrArg (a₁ := true) (fun (z0 : Bool) => Ending.returned (Value.bool z0)) e0), bH.below⟩
 refine af (wn (congrArg Bool.not (Bool.eq_false_iff.2 q26))) (af (wn (congrArg Bool.not (Bool.eq_false_iff.2 q26))) (af (wn (congrArg Bool.not (Bool.eq_false_iff.2 q26))) (lw (Value.bool true) (aw rfl (congrArg Bool.not (Bool.eq_false_iff.2 q26)) rfl) (mv (Value.bool true) (af (wn rfl) (af (wn rfl) (af (wn rfl) (af (wn rfl) (lw (Value.bool true) (aw rfl rfl rfl) (mv (Value.bool true) (af (wn rfl) (af (wn rfl) (af (wn rfl) (af (wn rfl) (af (wn rfl) (lw (Value.bool true) (aw rfl rfl rfl) ?_))))))))))))))))
 refine mv (Value.bool true) (af (wn rfl) (af (wn rfl) (af (wn rfl) (lw (Value.bool true) (aw rfl rfl rfl) (ab (ah rfl rfl (a7 ?_)))))))
 clear bx5
 refine a6 rfl (ma (Value.bool true) (ab (ar (vs := [Value.bool true]) Try.func5 (.tmp rfl .nil) ?_)))
 have e0 : (true : Bool) = (true) := by
   rfl
 have C587 := cg [] (ch2.n.seq (hb7.n.seq hb9.n))
 replace bH := bH.ca C587
 exact ⟨(congrArg (a₁ := true) (fun (z0 : Bool) => Ending.returned (Value.bool z0)) e0), bH.below⟩
end TL
