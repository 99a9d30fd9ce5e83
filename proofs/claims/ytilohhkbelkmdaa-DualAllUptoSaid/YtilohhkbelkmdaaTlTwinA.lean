/-
  TlTwinA: a rotation's bK, with a mark behind each list and behind the whole, and whether the marks stand.
  By an AI agent.
-/
import Derived.Test.YtilohhkbelkmdaaTlP3
import Derived.Test.YtilohhkbelkmdaaProg
import Derived.Test.YtilohhkbelkmdaaTlGenX
set_option linter.all false
set_option maxRecDepth 20000
namespace TL
open Go Go.Proofs
theorem nR : Try.prog.follows .mixedOrders = true := by kernel_rfl
theorem gR : Tp Try.prog 3 false 1 8 (.int .i64 0) := Tp.of (by kernel_rfl)
theorem st : Try.f57.body.isNone = false := rfl
theorem s9 : (Try.f57.name == "runtime.NumGoroutine") = false := by decide +kernel
theorem fq : Tp Try.prog 27 false 1 24 (.slice none 0 0) := Tp.of (by kernel_rfl)
/-- the row's part: a mark behind it -/
theorem nX {γ : aE} {J S : cv → Prop} {w : World} {v : Value} {l : List Int} {m : Int} (h : Ow γ J S w v (l ++ [m])) : Ow γ J S w (ft (db v 1 (Int.toNat 0) (Int.toNat (l.length : Int)))) (l ++ [m]) := mW h (by simp)
theorem ls {w0 w : World} {γ : aE} {k : Nat} {c : cv} (h : b9 w0 γ w) (hk : Nat.beq k 0 = false) : b9 w0 (recol γ k c) w := ⟨h.os, h.tape, h.output, h.size, fun b hb => by
  have h0 := h.col b hb
  unfold recol
  rw [if_neg (by rw [h0]; intro e; subst e; simp at hk)]
  exact h0, h.keep, h.drawn⟩
theorem iB {γ : aE} {w : World} (k : Nat) (c : cv) : bq (is k) γ w (recol γ k c) w := (k6 (J := no) (bq.refl _ _ _)).mono fun _ h => h.elim (fun h => h.elim) id
set_option maxHeartbeats 1000000 in
theorem rM (w0 : World) (r : bj) (r_v : Value) (hr_v : Ro w0 r_v r) (hb : r.length ≤ 1000000 ∧ ∀ l_ ∈ r, l_.length ≤ 1000000) :
    Calls Try.prog 14 #[r_v] w0 (fun ee w => ∃ xx : aE × Value, ee = .returned ((fun ⟨δ, rv0⟩ => rv0) xx) ∧ (fun (⟨δ, rv0⟩ : aE × Value) (w : World) => cC w0 δ w ∧ Ow δ (is 1) (is 1) w (ft rv0) (kK r)) xx w) := by
 obtain ⟨hb1, hb2⟩ := hb
 refine az Try.func14 rfl (Nat.le_of_ble_eq_true rfl) ?_
 have bH := b9.start w0
 have Rr := hr_v.sl
 refine a9 (a8 rfl (ma vn (aa (a9 (a8 rfl (ma vn (aa (a9 (a9 (a8 rfl (ai 0 (aa (ah (aN (σ := Nat × Value × List Vc × aE) (fun ⟨v, o_v, us, gq⟩ f w => b9 w0 gq w ∧ f 0 = r_v ∧ f 3 = o_v ∧ f 4 = vi (v : Int) ∧ v ≤ r.length ∧ Sl gq (is 0) w r_v r ∧ Ow gq (is 1) (is 1) w o_v us ∧ jC gq (is 2) w us ((r.take v).map fun l => Rw.mk l (-77))) (fun ⟨v, _⟩ => r.length - v) (0, vn, [], c0) ⟨bH, rfl, rfl, rfl, Nat.zero_le _, Rr, Ow.nil, jC.nil⟩ ?_))))))))))))))
 clear bH Rr
 rintro ⟨v, o_v, us, g1⟩ f1 w1 ⟨bH, z0, z3, z4, hvl, Rr, ow, hrw⟩ back
 have hul : us.length = v := by have := hrw.1; rw [List.length_map, List.length_take] at this; omega
 refine a9 (a9 (a8 rfl (lw (vi (v : Int)) (au z4) (lw (r_v) (au z0) (lx (aO Try.underlying26 rfl Rr) (lx (bc (m := (v : Int)) (n := (r.length : Int)) rfl rfl) (aa ?_)))))))
 by_cases hc : (v : Int) < (r.length : Int)
 ·
  have hvr : v < r.length := by omega
  have hbl := hb2 _ (bu (xs := r) (i := (v : Int)) (by omega) hc)
  have htk : (r.take (v + 1)).map (fun l => Rw.mk l (-77)) = (r.take v).map (fun l => Rw.mk l (-77)) ++ [Rw.mk (gI r (v : Int)) (-77)] := by rw [bh hc, List.map_append]; rfl
  refine ae rfl (dt hc) (aj (a9 (ah ?_)))
  refine dS (σ := Value × List Vc × aE) (fun ⟨o_v, us, gq⟩ f w => b9 w0 gq w ∧ f 0 = r_v ∧ f 3 = o_v ∧ f 4 = vi (v : Int) ∧ Sl gq (is 0) w r_v r ∧ Ow gq (is 1) (is 1) w o_v us ∧ jC gq (is 2) w us ((r.take (v + 1)).map fun l => Rw.mk l (-77))) g1 (bW [1, 3]) nR ?_ ?_
  ·
   intro mid
   intro w2 ch2
   replace bH := bH.cn ch2
   replace Rr := Rr.cn ch2
   replace ow := ow.cn ch2
   replace hrw := hrw.cn ch2
   obtain ⟨u, hcell, hrow⟩ := nM (r := (v : Int)) Rr (by omega) hc
   have hlen := hrow.small
   refine ht (v := o_v) 0 rfl (bq.refl _ _ _) (fun w' hw' => au z3) (ht (v := r_v) 1 rfl (bq.refl _ _ _) (fun w' hw' => au z0) (ht (v := vi (v : Int)) 2 rfl (bq.refl _ _ _) (fun w' hw' => au z4) (ht 3 rfl (bq.refl _ _ _) (fun w' hw' => ab (v := r_v) (i := (v : Int)) Try.underlying26 rfl rfl (Rr.chg hw' (bQ rfl)) rfl (by omega) hc) (ht 4 rfl (bq.refl _ _ _) (fun w' hw' => aS fq rfl (hcell hw' (bQ rfl))) (ht (v := r_v) 8 rfl (bq.refl _ _ _) (fun w' hw' => au z0) (ht (v := vi (v : Int)) 9 rfl (bq.refl _ _ _) (fun w' hw' => au z4) (ht 10 rfl (bq.refl _ _ _) (fun w' hw' => ab (v := r_v) (i := (v : Int)) Try.underlying26 rfl rfl (Rr.chg hw' (bQ rfl)) rfl (by omega) hc) (ht 11 rfl (bq.refl _ _ _) (fun w' hw' => aS fq rfl (hcell hw' (bQ rfl))) ?_))))))))
   refine ht 12 rfl (bq.refl _ _ _) (fun w' hw' => aO Try.underlying27 rfl (hrow.chg hw' (bQ rfl))) ?_
   refine d8 5 [6] (by kernel_rfl) ⟨da 5 rfl (by kernel_rfl) rfl ?_, da 6 rfl (by kernel_rfl) rfl ?_, trivial⟩
   ·
    refine aR (α := Int) (xs := ([])) (ys := gI r (v : Int)) g1 (J := is 3) (S := is 3) (3, 0) rfl Try.underlying27 gR (by decide) rfl rfl rfl Ow.nil hrow (by decide) (by simp; omega) ?_
    intro ga wa va ch_1 oa
    replace oa : Ow ga (is 3) (is 3) wa va (gI r (v : Int)) := oa
    have hs1 : bq (bW [1, 3]) _ _ _ _ := ch_1.l rfl
    refine ⟨hs1.same, ?_⟩
    refine aW 6 rfl (by kernel_rfl) rfl (aA (α := Int) ga (is 4) (is 4) (4, 0) rfl [(-77)] Try.underlying27 gR (by decide) (by decide) (vs := [(0, vi (-77))]) rfl rfl (.cons rfl .nil) ?_)
    intro gb wb vb ch_2 ob
    have hs2 := hs1.seq (ch_2.n)
    refine ⟨hs2.same, ?_⟩
    refine aW 7 rfl (by kernel_rfl) rfl (aR (α := Int) (xs := gI r (v : Int)) (ys := [(-77)]) gb (J := is 3) (S := is 3) (3, 0) rfl Try.underlying27 gR (by decide) rfl rfl rfl (oa.cn ch_2) ob.flat (by decide) (by simp; omega) ?_)
    intro gc wc vc chc oc
    have hs3 := hs2.seq (chc.l rfl)
    refine ⟨hs3.same, ?_⟩
    have C3 := hs3
    refine ht (v := db vc 1 (Int.toNat 0) (Int.toNat (List.length (gI r (v : Int)) : Int))) 13 rfl hs3.same (fun w' hw' => eI (v := vc) (l := 0) (h := (List.length (gI r (v : Int)) : Int)) Try.underlying27 rfl rfl oc.flat (.inr ⟨rfl, rfl⟩) (.inl (congrArg some rfl)) (by omega) (by omega) (by simp; omega)) ?_
    have rsub := gJ oc.flat (show Int.toNat 0 ≤ Int.toNat (List.length (gI r (v : Int)) : Int) by omega) (show Int.toNat (List.length (gI r (v : Int)) : Int) ≤ List.length _ by simp)
    obtain ⟨c, hcv⟩ := gx (u := db vc 1 (Int.toNat 0) (Int.toNat (List.length (gI r (v : Int)) : Int))) (bm rsub)
    refine aW 14 rfl (by kernel_rfl) rfl (aA (α := Vc) gc (is 4) (is 4) (4, 0) rfl [c] Try.underlying26 fq (by decide) (by decide) (vs := [(0, db vc 1 (Int.toNat 0) (Int.toNat (List.length (gI r (v : Int)) : Int)))]) rfl rfl (.cons (em hcv (c6 rsub)) .nil) ?_)
    intro gd wd vd chd od
    have hs4 := hs3.seq (chd.n)
    refine ⟨hs4.same, ?_⟩
    refine aW 15 rfl (by kernel_rfl) rfl ?_
    have ow4 := ((ow.ce ch_1).cn ch_2).ce chc
    refine aR (α := Vc) (xs := us) (ys := [c]) gd (J := is 1) (S := is 1) (1, 0) rfl Try.underlying26 fq (by decide) rfl rfl rfl (ow4.cn chd) od.flat (by decide) (by simp; omega) ?_
    intro ge we ve che oe
    have hs5 := hs4.seq (che.l rfl)
    refine ⟨hs5.same, ?_⟩
    refine ht (v := ve) 16 rfl hs5.same (fun w' hw' => bz rfl) (cA (by kernel_rfl) ?_)
    have oc5 := ((oc.cn chd).ce che)
    have hrw5 := hrw.ca hs5
    refine mid (ve, us ++ [c], recol ge 3 (2, 0)) _ _ ⟨ls (bH.ca hs5) rfl, z0, rfl, z4, (Rr.ca hs5).chg (iB 3 (2, 0)) (cY rfl), oe.chg (iB 3 (2, 0)) (cY rfl) (cY rfl), ?_⟩
    rw [htk]
    refine jC.snoc (hrw5.chg (iB 3 (2, 0)) (cY rfl)) ?_
    rw [hcv]
    exact (nX oc5).flat.tr (fun b _ h => ⟨rfl, by have h' : (ge b).1 = 3 := h; unfold recol is; rw [if_pos h']⟩) (Nat.le_refl _)
   ·
    refine aA (α := Int) g1 (is 4) (is 4) (4, 0) rfl [(-77)] Try.underlying27 gR (by decide) (by decide) (vs := [(0, vi (-77))]) rfl rfl (.cons rfl .nil) ?_
    intro gb wb vb ch_1 ob
    have hs1 : bq (bW [1, 3]) _ _ _ _ := ch_1.n
    refine ⟨hs1.same, ?_⟩
    refine aW 5 rfl (by kernel_rfl) rfl (aR (α := Int) (xs := ([])) (ys := gI r (v : Int)) gb (J := is 3) (S := is 3) (3, 0) rfl Try.underlying27 gR (by decide) rfl rfl rfl Ow.nil (hrow.ca hs1) (by decide) (by simp; omega) ?_)
    intro ga wa va ch_2 oa
    replace oa : Ow ga (is 3) (is 3) wa va (gI r (v : Int)) := oa
    have hs2 := hs1.seq (ch_2.l rfl)
    refine ⟨hs2.same, ?_⟩
    refine aW 7 rfl (by kernel_rfl) rfl (aR (α := Int) (xs := gI r (v : Int)) (ys := [(-77)]) ga (J := is 3) (S := is 3) (3, 0) rfl Try.underlying27 gR (by decide) rfl rfl rfl oa (ob.ce ch_2).flat (by decide) (by simp; omega) ?_)
    intro gc wc vc chc oc
    have hs3 := hs2.seq (chc.l rfl)
    refine ⟨hs3.same, ?_⟩
    have C3 := hs3
    refine ht (v := db vc 1 (Int.toNat 0) (Int.toNat (List.length (gI r (v : Int)) : Int))) 13 rfl hs3.same (fun w' hw' => eI (v := vc) (l := 0) (h := (List.length (gI r (v : Int)) : Int)) Try.underlying27 rfl rfl oc.flat (.inr ⟨rfl, rfl⟩) (.inl (congrArg some rfl)) (by omega) (by omega) (by simp; omega)) ?_
    have rsub := gJ oc.flat (show Int.toNat 0 ≤ Int.toNat (List.length (gI r (v : Int)) : Int) by omega) (show Int.toNat (List.length (gI r (v : Int)) : Int) ≤ List.length _ by simp)
    obtain ⟨c, hcv⟩ := gx (u := db vc 1 (Int.toNat 0) (Int.toNat (List.length (gI r (v : Int)) : Int))) (bm rsub)
    refine aW 14 rfl (by kernel_rfl) rfl (aA (α := Vc) gc (is 4) (is 4) (4, 0) rfl [c] Try.underlying26 fq (by decide) (by decide) (vs := [(0, db vc 1 (Int.toNat 0) (Int.toNat (List.length (gI r (v : Int)) : Int)))]) rfl rfl (.cons (em hcv (c6 rsub)) .nil) ?_)
    intro gd wd vd chd od
    have hs4 := hs3.seq (chd.n)
    refine ⟨hs4.same, ?_⟩
    refine aW 15 rfl (by kernel_rfl) rfl ?_
    have ow4 := ((ow.cn ch_1).ce ch_2).ce chc
    refine aR (α := Vc) (xs := us) (ys := [c]) gd (J := is 1) (S := is 1) (1, 0) rfl Try.underlying26 fq (by decide) rfl rfl rfl (ow4.cn chd) od.flat (by decide) (by simp; omega) ?_
    intro ge we ve che oe
    have hs5 := hs4.seq (che.l rfl)
    refine ⟨hs5.same, ?_⟩
    refine ht (v := ve) 16 rfl hs5.same (fun w' hw' => bz rfl) (cA (by kernel_rfl) ?_)
    have oc5 := ((oc.cn chd).ce che)
    have hrw5 := hrw.ca hs5
    refine mid (ve, us ++ [c], recol ge 3 (2, 0)) _ _ ⟨ls (bH.ca hs5) rfl, z0, rfl, z4, (Rr.ca hs5).chg (iB 3 (2, 0)) (cY rfl), oe.chg (iB 3 (2, 0)) (cY rfl) (cY rfl), ?_⟩
    rw [htk]
    refine jC.snoc (hrw5.chg (iB 3 (2, 0)) (cY rfl)) ?_
    rw [hcv]
    exact (nX oc5).flat.tr (fun b _ h => ⟨rfl, by have h' : (ge b).1 = 3 := h; unfold recol is; rw [if_pos h']⟩) (Nat.le_refl _)
  clear bH Rr ow hrw
  rintro ⟨o_v', us', g9⟩ f9 w9 ⟨bH, y0, y3, y4, Rr, ow, hrw⟩
  refine ao (a8 rfl (lw (vi (v : Int)) (au y4) (lx (aQ (m := (v : Int)) (n := 1) rfl rfl (by omega)) (ai ((v : Int) + 1) (aa (back (v + 1, o_v', us', g9) _ _ ⟨bH, y0, y3, rfl, by omega, Rr, ow, hrw⟩ ?_))))))
  show r.length - (v + 1) < r.length - v
  omega
 refine ag rfl (df hc) (aI rfl ?_)
 have hvr : v = r.length := by omega
 rw [hvr, List.take_length] at hrw
 refine a9 (a8 rfl (lw (o_v) (au z3) (lo (aA (α := Int) g1 (is 3) (is 3) (3, 0) rfl [(-78)] Try.underlying27 gR (by decide) (by decide) (vs := [(0, vi (-78))]) rfl rfl (.cons rfl .nil) ?_))))
 intro g2 w2 v2 ch2 o2
 refine lo ?_
 obtain ⟨c, hcv⟩ := gx (u := v2) (bm o2.flat)
 refine aA (α := Vc) g2 (is 4) (is 4) (4, 0) rfl [c] Try.underlying26 fq (by decide) (by decide) (vs := [(0, v2)]) rfl rfl (.cons (em hcv (c6 o2.flat)) .nil) ?_
 intro g3 w3 v3 ch3 o3
 refine lo (aR (α := Vc) (xs := us) (ys := [c]) g3 (J := is 1) (S := is 1) (1, 0) rfl Try.underlying26 fq (by decide) rfl rfl rfl ((ow.cn ch2).cn ch3) o3.flat (by decide) (by simp; omega) ?_)
 intro g4 w4 v4 ch4 o4
 refine lw (r_v) (au z0) (lx (aO Try.underlying26 rfl (((Rr.cn ch2).cn ch3).ce ch4)) (lw (db v4 1 (Int.toNat 0) (Int.toNat (r.length : Int))) (eI (v := v4) (l := 0) (h := (r.length : Int)) Try.underlying26 rfl rfl o4.flat (.inr ⟨rfl, rfl⟩) (.inl (congrArg some rfl)) (by omega) (by omega) (by simp; omega)) (ma (db v4 1 (Int.toNat 0) (Int.toNat (r.length : Int))) (aa (av (vs := [db v4 1 (Int.toNat 0) (Int.toNat (r.length : Int))]) Try.func14 (.tmp rfl .nil) ?_)))))
 have hb4 := ((bH.cn ch2).cn ch3).ce ch4
 have o5 := mW (sz := 1) (n := Int.toNat (r.length : Int)) o4 (by simp; omega)
 have hrw4 : jC g4 (wT 2 3) w4 (us ++ [c]) (kK r) := by
  unfold kK
  refine jC.snoc ((((hrw.cn ch2).cn ch3).ce ch4).recol fun b h => .inl h) ?_
  rw [hcv]
  exact ((o2.flat.cn ch3).ce ch4).mono fun c h => .inr h
 refine ⟨(fin w0 g4 (fun n => if n = 1 ∨ n = 2 ∨ n = 3 then 1 else 0), _), rfl, hb4.fresh _, ?_⟩
 have hg : ∀ k, k = 1 ∨ k = 2 ∨ k = 3 → ∀ b, is k (g4 b) → is 1 (fin w0 g4 (fun n => if n = 1 ∨ n = 2 ∨ n = 3 then 1 else 0) b) := fun k hk b h => kG (γ := c0) (ren := fun n => if n = 1 ∨ n = 2 ∨ n = 3 then 1 else 0) (i := k) (k := 1) hb4.col (by rcases hk with rfl | rfl | rfl <;> rfl) (if_pos hk) b h
 refine wR (us := us ++ [c]) (S0 := is 1) (o5.glue (γ := c0) (ren := (fun n => if n = 1 ∨ n = 2 ∨ n = 3 then 1 else 0)) (k := 1) hb4.col rfl rfl) ?_
 exact hrw4.recol fun b h => h.elim (fun h => hg 2 (by omega) b h) (fun h => hg 3 (by omega) b h)
theorem uX (l : List Int) (m : Int) : gI (l ++ [m]) (l.length : Int) = m := by simp [gI]
set_option maxHeartbeats 1000000 in
theorem rT (w0 : World) (t : bj) (t_v : Value) (ht_v : Ro w0 t_v t) (r : bj) (r_v : Value) (hr_v : Ro w0 r_v r) (hmark : Ro w0 (ft t_v) (kK t)) :
    Calls Try.prog 19 #[t_v, r_v] w0 (fun ee w => ee = .returned (Value.bool (decide (t = r))) ∧ dH w0.heap.size w0 w) := by
 refine az Try.func19 rfl (Nat.le_of_ble_eq_true rfl) ?_
 have bH := b9.start w0
 have Rt := ht_v.sl
 have Rr := hr_v.sl
 have r_up := hmark.sl
 refine a9 (a8 rfl (ma (Value.bool false) (aa (a9 (a9 (a8 rfl (mv t_v (mv r_v ?_))))))))
 by_cases h : t = r
 ·
  subst h
  rw [dt (rfl : t = t)]
  refine rV (v := Value.bool true) (S := fun w => dH w0.heap.size w0 w) rfl (aD (vals := [t_v, r_v]) Try.func57 st s9 rfl) ((kZ w0 t t_v ht_v t r_v hr_v).mono fun e w2 h2 => ⟨h2.1.trans (by rw [dt (rfl : t = t)]), h2.2⟩) ?_
  intro w1 hb1
  replace hb1 := aG hb1 c0
  replace bH := bH.cn hb1
  replace Rt := Rt.cn hb1
  replace Rr := Rr.cn hb1
  replace r_up := r_up.cn hb1
  have len1 := Rr.small
  refine lx (dr (b := true) rfl) (mv (Value.bool false) (lv (t_v) (wy rfl) (au rfl) (lv (r_v) (wy rfl) (au rfl) (lv (vi (t.length : Int)) (wy rfl) (aO Try.underlying26 rfl Rr) (lv (vi ((t.length : Int) + 1)) (wy rfl) (aQ (m := (t.length : Int)) (n := 1) rfl rfl (by omega)) (lv (ft t_v) (wy rfl) (iW (α := Rw) (xs := t.map fun l => Rw.mk l (-77)) (m := Rw.pl [-78]) (h := (t.length : Int) + 1) Try.underlying26 rfl rfl r_up rfl (by simp)) (lv (r_v) (wy rfl) (au rfl) (lv (vi (t.length : Int)) (wy rfl) (aO Try.underlying26 rfl Rr) ?_))))))))
  refine lv (Value.pointer (some (ba (ft t_v) 1 (Int.toNat (t.length : Int))))) (wy rfl) (ab (α := Rw) (xs := kK t) (v := ft t_v) (i := (t.length : Int)) Try.underlying26 rfl rfl r_up rfl (by omega) (by simp [kK]; omega)) ?_
  obtain ⟨z, hz, hzr⟩ := rz (k := t.length) (x := Rw.pl [-78]) r_up (by simp [kK])
  have hzs : Sl c0 (is 0) w1 z [-78] := hzr
  refine lv (z) (wy rfl) (aS fq rfl (by rw [nC]; exact hz)) (lv (Value.pointer (some (ba z 1 (Int.toNat 0)))) (wy rfl) (ab (α := Int) (xs := [-78]) (v := z) (i := 0) Try.underlying27 rfl rfl hzs rfl (by omega) (by simp)) (lv (vi (-78)) (wy rfl) (ay (α := Int) (xs := [-78]) (v := z) (i := 0) gR rfl hzs (by omega) (by simp) (by decide) rfl) (lv (Value.bool (!decide ((-78 : Int) = -78))) (wy rfl) (cl (m := -78) (n := -78) rfl rfl) (lw (Value.bool (!decide ((-78 : Int) = -78))) (b7 rfl rfl rfl) (aa (ag rfl (by decide) (aj (a9 (a9 (a8 rfl (ai 0 ?_)))))))))))
  refine aa (ah (aN (σ := Nat) (fun v f w => b9 w0 c0 w ∧ f 0 = t_v ∧ f 1 = r_v ∧ f 5 = vi (v : Int) ∧ v ≤ t.length ∧ Sl c0 (is 0) w t_v t ∧ Sl c0 (is 0) w r_v t ∧ Sl c0 (is 0) w (ft t_v) (kK t)) (fun v => t.length - v) 0 ⟨bH, rfl, rfl, rfl, Nat.zero_le _, Rt, Rr, r_up⟩ ?_))
  clear bH Rt Rr r_up hzs hzr hz len1
  rintro v f1 w2 ⟨bH, z0, z1, z5, hvl, Rt, Rr, r_up⟩ back
  have len1 := Rr.small
  refine a9 (a9 (a8 rfl (lw (vi (v : Int)) (au z5) (lw (r_v) (au z1) (lx (aO Try.underlying26 rfl Rr) (lx (bc (m := (v : Int)) (n := (t.length : Int)) rfl rfl) (aa ?_)))))))
  by_cases hc : (v : Int) < (t.length : Int)
  ·
   refine ae rfl (dt hc) (aj (a9 (ah (a9 (ck c0 rfl nR (by kernel_rfl) ?_)))))
   intro w3 ch3
   replace bH := bH.cn ch3
   replace Rt := Rt.cn ch3
   replace Rr := Rr.cn ch3
   replace r_up := r_up.cn ch3
   have hvt : v < t.length := by omega
   have hget : (kK t)[v]? = some (Rw.mk (gI t (v : Int)) (-77)) := by
    unfold kK
    have e9 := gC (xs := t) (i := (v : Int)) (by omega) hc
    rw [Int.toNat_natCast] at e9
    rw [List.getElem?_append_left (by simpa using hvt), List.getElem?_map, e9]; rfl
   obtain ⟨u, hu, hur⟩ := rz (k := v) r_up hget
   have hus : Sl c0 (is 0) w3 (ft u) (gI t (v : Int) ++ [-77]) := hur
   obtain ⟨u2, hu2, hr2⟩ := co (r := (v : Int)) Rr (by omega) hc
   have len2 := hr2.small
   refine qv (t_v) (fun w' hw' => au z0) (qv (vi (v : Int)) (fun w' hw' => au z5) (qx (fun w' hw' => ab (v := t_v) (i := (v : Int)) Try.underlying26 rfl rfl (Rt.bel hw') rfl (by omega) hc) (qx (fun w' hw' => aS fq rfl (cX hu hw')) (qv (r_v) (fun w' hw' => au z1) (qv (vi (v : Int)) (fun w' hw' => au z5) (qx (fun w' hw' => ab (v := r_v) (i := (v : Int)) Try.underlying26 rfl rfl (Rr.bel hw') rfl (by omega) hc) (qx (fun w' hw' => aS fq rfl (cX hu2 hw')) (qx (fun w' hw' => aO Try.underlying27 rfl (hr2.bel hw')) (qx (fun w' hw' => aQ (m := (List.length (gI t (v : Int)) : Int)) (n := 1) rfl rfl (by omega)) ?_)))))))))
   refine qv (ft u) (fun w' hw' => iW (m := -77) (h := (List.length (gI t (v : Int)) : Int) + 1) Try.underlying27 rfl rfl (hus.bel hw') rfl rfl) (qv (r_v) (fun w' hw' => au z1) (qv (vi (v : Int)) (fun w' hw' => au z5) (qx (fun w' hw' => ab (v := r_v) (i := (v : Int)) Try.underlying26 rfl rfl (Rr.bel hw') rfl (by omega) hc) (qx (fun w' hw' => aS fq rfl (cX hu2 hw')) (qx (fun w' hw' => aO Try.underlying27 rfl (hr2.bel hw')) (qx (fun w' hw' => ab (v := ft u) (i := (List.length (gI t (v : Int)) : Int)) Try.underlying27 rfl rfl (hus.bel hw') rfl (by omega) (by simp; omega)) (qx (fun w' hw' => ay (v := ft u) (i := (List.length (gI t (v : Int)) : Int)) gR rfl (hus.bel hw') (by omega) (by simp; omega) (by decide) rfl) ?_)))))))
   refine qx (fun w' hw' => cl (m := gI (gI t (v : Int) ++ [-77]) (List.length (gI t (v : Int)) : Int)) (n := -77) rfl rfl) (cV ?_)
   intro w4 hb4
   replace hb4 := aG hb4 c0
   refine ag rfl (by rw [uX]; rfl) (aj (ao (a8 rfl (lw (vi (v : Int)) (au z5) (lx (aQ (m := (v : Int)) (n := 1) rfl rfl (by omega)) (ai ((v : Int) + 1) (aa (back (v + 1) _ _ ⟨bH.cn hb4, z0, z1, rfl, by omega, Rt.cn hb4, Rr.cn hb4, r_up.cn hb4⟩ ?_))))))))
   show t.length - (v + 1) < t.length - v
   omega
  refine ag rfl (df hc) (aI rfl (a9 (a8 rfl (ma (Value.bool true) (aa (av (vs := [Value.bool true]) Try.func19 (.tmp rfl .nil) ?_))))))
  exact ⟨rfl, bH.below⟩
 refine rV (v := Value.bool false) (S := fun w => dH w0.heap.size w0 w) rfl (aD (vals := [t_v, r_v]) Try.func57 st s9 rfl) ((kZ w0 t t_v ht_v r r_v hr_v).mono fun e w2 h2 => ⟨h2.1.trans (by rw [df h]), h2.2⟩) ?_
 intro w1 hb1
 replace hb1 := aG hb1 c0
 replace bH := bH.cn hb1
 refine lx (dr (b := false) rfl) (mv (Value.bool true) (al (wn rfl) (al (wn rfl) (al (wn rfl) (al (wn rfl) (al (wn rfl) (al (wn rfl) (al (wn rfl) (al (wn rfl) ?_)))))))))
 refine al (wn rfl) (al (wn rfl) (al (wn rfl) (al (wn rfl) (lw (Value.bool true) (aY rfl rfl rfl) (aa (ae rfl rfl (a9 (a8 rfl (ma (Value.bool false) (aa ?_))))))))))
 refine av (vs := [Value.bool false]) Try.func19 (.tmp rfl .nil) ?_
 exact ⟨by rw [df h]; rfl, bH.below⟩
end TL
