import Derived.Test.YtbadiajeohbpcaaTlGenA
import Derived.Test.YtbadiajeohbpcaaTlP2
import Derived.Test.YtbadiajeohbpcaaProg
set_option linter.all false
set_option maxRecDepth 20000
namespace TL
open Go Go.Proofs
theorem mQ : Try.prog.follows .mixedOrders = true := by kernel_rfl
theorem ct : Tp Try.prog 24 true 2 32 (.agg #[.int .i64 0, .slice none 0 0]) := Tp.of (by kernel_rfl)
theorem pi (w0 : World) (g : (Int) × (List ((Int) × (Int)))) (g_v : Value) (hg_v : Ro w0 g_v g.2) (hlen : g.2.length ≤ 1000000) :
    Calls Try.prog 39 #[Value.agg (List.toArray [Value.int .i64 g.1, g_v])] w0 (fun ee w => ∃ xx : aM × Value, ee = .returned ((fun ⟨δ, rv0⟩ => Value.agg (List.toArray [Value.int .i64 g.1, rv0])) xx) ∧ (fun (⟨δ, rv0⟩ : aM × Value) (w : World) => fx w0 δ w ∧ Ow δ (is 1) (is 1) w rv0 g.2) xx w) := by
 refine aD Try.func39 rfl (Nat.le_of_ble_eq_true rfl) ?_
 have hbase := bc.start w0
 have r_g_v := hg_v.sl
 refine a7 (a6 rfl (bL rfl ?_))
 refine bw c0 (is 1) (1, 0) rfl rfl ?_
 intro g4 w1 b3 ch2 bx5
 replace bx5 : Bx g4 (is 1) w1 b3 [Value.int .i64 g.1, g_v] := bx5
 refine bL rfl ?_
 refine aQ g4 (is 2) (2, 0) rfl ct ?_
 intro g9 w6 b8 ch7 bx10
 replace bx10 : Bx g9 (is 2) w6 b8 [Value.int .i64 0, Value.slice none 0 0] := bx10
 refine aa (a7 ?_)
 refine dj g9 (bM [2, 3]) mQ ?_
 intro w12 ch11
 refine iv (v := Value.pointer (some ⟨b3, 0, none⟩)) 0 rfl (by kernel_rfl) (by kernel_rfl) rfl (aL.refl _ _ _) (fun w' hw' => a8 Try.underlying24 rfl rfl rfl rfl) ?_
 replace bx5 := (bx5.chg ch7 (bk _)).chg ch11 (bk _)
 refine iv (v := Value.int .i64 g.1) 1 rfl (by kernel_rfl) (by kernel_rfl) rfl (aL.refl _ _ _) (fun w' hw' => af ar rfl (bx5.chg hw' (bg rfl)) rfl) ?_
 refine iv (v := Value.pointer (some ⟨b3, 1, none⟩)) 2 rfl (by kernel_rfl) (by kernel_rfl) rfl (aL.refl _ _ _) (fun w' hw' => a8 Try.underlying24 rfl rfl rfl rfl) ?_
 refine iv (v := g_v) 3 rfl (by kernel_rfl) (by kernel_rfl) rfl (aL.refl _ _ _) (fun w' hw' => af cD rfl (bx5.chg hw' (bg rfl)) rfl) ?_
 refine aC 4 rfl (by kernel_rfl) rfl ?_
 have C13 : aL (bM []) _ _ _ _ := (ch2.n).seq ((ch7.n).seq (ch11.n))
 replace r_g_v := r_g_v.chg C13 (bg rfl)
 refine bj (α := (Int) × (Int)) (xs := ([])) (ys := g.2) g9 (J := is 3) (S := is 3) (3, 0) rfl Try.underlying22 dw (by decide) rfl rfl rfl Ow.nil r_g_v (by decide) (by first | omega | (simp; done) | (simp; omega)) ?_
 intro g14 w15 v16 ch17 o18
 replace o18 : Ow g14 (is 3) (is 3) w15 v16 g.2 := o18
 have hs19 : aL (bM [2, 3]) _ _ _ _ := ch17.l rfl
 refine ⟨hs19.same, ?_⟩
 refine iv (v := Value.agg (List.toArray [Value.int .i64 g.1, v16])) 5 rfl (by kernel_rfl) (by kernel_rfl) rfl hs19.same (fun w' hw' => bF (vs := [(0, Value.int .i64 g.1), (1, v16)]) rfl (by rw [Sl.form o18.flat]; kernel_rfl)) ?_
 refine aC 6 rfl (by kernel_rfl) rfl ?_
 replace bx10 := (bx10.chg ch11 (bk _)).chg ch17 (cJ rfl)
 refine ag (cs' := [Value.int .i64 g.1, v16]) ct rfl rfl bx10 rfl (Nat.le_of_ble_eq_true rfl) (AllOne.all (.cons rfl (.cons (bZ o18.flat) .nil))) rfl ?_
 intro w20 ch21 bx22
 clear bx10
 have hs23 := hs19.seq (ch21.l rfl)
 refine ⟨hs23.same, ?_⟩
 refine bm (by kernel_rfl) ?_
 refine al (vs := [Value.agg (List.toArray [Value.int .i64 g.1, v16])]) Try.func39 (.cell rfl (cF (ds := [Value.int .i64 g.1, v16]) ct bx22 rfl rfl) .nil) ?_
 have C24 : aL (bM [2, 3]) _ _ _ _ := (ch2.n).seq ((ch7.n).seq ((ch11.n).seq ((ch17.l rfl).seq (ch21.l rfl))))
 replace hbase := hbase.chg C24 (bg rfl)
 replace o18 := o18.chg ch21 (cJ rfl) (cJ rfl)
 have e0 : (g : (Int) × (List ((Int) × (Int)))) = (g) := by
   rfl
 exact ⟨(fin w0 g14 (fun n => if n = 3 then 1 else 0), v16), (congrArg (a₁ := g) (fun (z0 : (Int) × (List ((Int) × (Int)))) => Ending.returned (Value.agg (List.toArray [Value.int .i64 z0.1, v16]))) e0), hbase.fresh _, ((congrArg (fun (z : (Int) × (List ((Int) × (Int)))) => z.2) e0) ▸ (o18.glue (γ := c0) (ren := (fun n => if n = 3 then 1 else 0)) (k := 1) hbase.col rfl rfl))⟩
theorem mn (w0 : World) (l : List Int) (l_v : Value) (hl_v : Ro w0 l_v l) (n : Int) :
    Calls Try.prog 38 #[l_v, Value.int .i64 n] w0 (fun ee w => ee = .returned (Value.int .i64 (c6 l n)) ∧ dE w0.heap.size w0 w) := by
 refine aD Try.func38 rfl (Nat.le_of_ble_eq_true rfl) ?_
 have hbase := bc.start w0
 have r_l_v := hl_v.sl
 refine a7 (a6 rfl ?_)
 refine lv (Value.int .i64 0) rfl (bf rfl) ?_
 refine aa (a7 (a7 (a6 rfl ?_)))
 refine lv (Value.int .i64 0) rfl (bf rfl) ?_
 refine aa ?_
 refine au ?_
 refine aX (σ := Nat × aM) (fun ⟨i, gq⟩ f w => bc w0 gq w ∧ f 0 = l_v ∧ f 1 = Value.int .i64 n ∧ f 5 = Value.int .i64 (i : Int) ∧ Sl gq (is 0) w l_v l ∧ (i : Int) ≤ ((List.length l : Int) : Int) ∧ (dY l n i)) (fun ⟨i, gq⟩ => Int.toNat (((List.length l : Int) : Int) - (i : Int))) (0, c0) ?_ ?_
 · exact ⟨hbase, rfl, rfl, rfl, r_l_v, by omega, by exact dY.start l n⟩
 clear r_l_v hbase
 rintro ⟨i, g3⟩ f1 w2 ⟨hbase, zs0, zs1, zs5, r_l_v, hle_i, hinv⟩ back2
 refine a7 (a7 (a6 rfl ?_))
 refine lv (Value.int .i64 (i : Int)) rfl (aF (by exact zs5)) ?_
 refine lv (l_v) rfl (aF (by exact zs0)) ?_
 have len4 := (r_l_v).small
 refine lv (Value.int .i64 (List.length l : Int)) rfl (bb Try.underlying39 rfl r_l_v) ?_
 refine lv (Value.bool (decide ((i : Int) < (List.length l : Int)))) rfl (b6 (m := (i : Int)) (n := (List.length l : Int)) rfl rfl) ?_
 refine aa ?_
 by_cases p2 : (i : Int) < (List.length l : Int)
 ·
  refine ah rfl (decide_eq_true p2) ?_
  refine ao ?_
  refine a7 ?_
  refine au ?_
  refine a7 (a7 (a6 rfl ?_))
  refine lv (l_v) rfl (aF (by exact zs0)) ?_
  refine lv (Value.int .i64 (i : Int)) rfl (aF (by exact zs5)) ?_
  refine lv (Value.pointer (some (b9 l_v 1 (Int.toNat (i : Int))))) rfl (am (α := Int) (xs := l) (v := l_v) (i := (i : Int)) Try.underlying39 rfl rfl r_l_v rfl (by omega) (by omega)) ?_
  refine lv (Value.int .i64 (gI l (i : Int))) rfl (br (α := Int) (xs := l) (v := l_v) (i := (i : Int)) ar rfl r_l_v (by omega) (by omega) (by decide) rfl) ?_
  refine lv (Value.bool (decide ((gI l (i : Int)) < 0))) rfl (b6 (m := (gI l (i : Int))) (n := 0) rfl rfl) ?_
  refine lv (Value.bool (decide ((gI l (i : Int)) < 0))) rfl (aF rfl) ?_
  by_cases q18 : (gI l (i : Int)) < 0
  ·
   refine ab (dV rfl rfl rfl (decide_eq_true q18)) ?_
   refine ab (dV rfl rfl rfl (decide_eq_true q18)) ?_
   refine ab (dV rfl rfl rfl (decide_eq_true q18)) ?_
   refine ab (dV rfl rfl rfl (decide_eq_true q18)) ?_
   refine ab (dV rfl rfl rfl (decide_eq_true q18)) ?_
   refine ab (dV rfl rfl rfl (decide_eq_true q18)) ?_
   refine lv (Value.bool true) rfl (av rfl (decide_eq_true q18) rfl) ?_
   refine aa ?_
   refine ah rfl rfl ?_
   refine a7 (a6 rfl ?_)
   refine lv (Value.int .i64 2) rfl (bf rfl) ?_
   refine aa ?_
   refine al (vs := [Value.int .i64 2]) Try.func38 (.tmp rfl .nil) ?_
   have e0 : (2 : Int) = (c6 l n) := by
     first
       | exact hinv.bad (by assumption) (by omega)
       | exact hinv.twice (by assumption) (by omega) (by omega) (by rw [← p9]; exact fj (by omega) (by omega))
       | exact hinv.done (by assumption)
   exact ⟨(congrArg (a₁ := 2) (fun (z0 : Int) => Ending.returned (Value.int .i64 z0)) e0), hbase.below⟩
  refine lv (l_v) (dT rfl rfl rfl (decide_eq_false q18)) (aF (by exact zs0)) ?_
  refine lv (Value.int .i64 (i : Int)) (dT rfl rfl rfl (decide_eq_false q18)) (aF (by exact zs5)) ?_
  refine lv (Value.pointer (some (b9 l_v 1 (Int.toNat (i : Int))))) (dT rfl rfl rfl (decide_eq_false q18)) (am (α := Int) (xs := l) (v := l_v) (i := (i : Int)) Try.underlying39 rfl rfl r_l_v rfl (by omega) (by omega)) ?_
  refine lv (Value.int .i64 (gI l (i : Int))) (dT rfl rfl rfl (decide_eq_false q18)) (br (α := Int) (xs := l) (v := l_v) (i := (i : Int)) ar rfl r_l_v (by omega) (by omega) (by decide) rfl) ?_
  refine lv (Value.int .i64 n) (dT rfl rfl rfl (decide_eq_false q18)) (aF (by exact zs1)) ?_
  refine lv (Value.bool (decide (n ≤ (gI l (i : Int))))) (dT rfl rfl rfl (decide_eq_false q18)) (fy (m := (gI l (i : Int))) (n := n) rfl rfl) ?_
  refine lv (Value.bool (decide (n ≤ (gI l (i : Int))))) rfl (aE rfl (decide_eq_false q18) rfl) ?_
  refine aa ?_
  by_cases p4 : n ≤ (gI l (i : Int))
  ·
   refine ah rfl (decide_eq_true p4) ?_
   refine a7 (a6 rfl ?_)
   refine lv (Value.int .i64 2) rfl (bf rfl) ?_
   refine aa ?_
   refine al (vs := [Value.int .i64 2]) Try.func38 (.tmp rfl .nil) ?_
   have e0 : (2 : Int) = (c6 l n) := by
     first
       | exact hinv.bad (by assumption) (by omega)
       | exact hinv.twice (by assumption) (by omega) (by omega) (by rw [← p9]; exact fj (by omega) (by omega))
       | exact hinv.done (by assumption)
   exact ⟨(congrArg (a₁ := 2) (fun (z0 : Int) => Ending.returned (Value.int .i64 z0)) e0), hbase.below⟩
  refine aj rfl (decide_eq_false p4) ?_
  refine ao ?_
  refine a7 (a6 rfl ?_)
  refine lv (Value.int .i64 0) rfl (bf rfl) ?_
  refine aa ?_
  refine au ?_
  refine aX (σ := Nat × aM) (fun ⟨k, gq⟩ f w => bc w0 gq w ∧ f 0 = l_v ∧ f 1 = Value.int .i64 n ∧ f 5 = Value.int .i64 (i : Int) ∧ f 6 = Value.int .i64 (k : Int) ∧ Sl gq (is 0) w l_v l ∧ (k : Int) ≤ ((i : Int) : Int) ∧ (∀ q : Nat, q < k → ¬ gI l (q : Int) = gI l (i : Int))) (fun ⟨k, gq⟩ => Int.toNat (((i : Int) : Int) - (k : Int))) (0, g3) ?_ ?_
  · exact ⟨hbase, (by exact zs0), (by exact zs1), (by exact zs5), rfl, r_l_v, by omega, by intro q hq; omega⟩
  clear r_l_v hbase
  rintro ⟨k, g7⟩ f5 w6 ⟨hbase, zs0, zs1, zs5, zs6, r_l_v, hle_k, hin⟩ back7
  refine a7 (a7 (a6 rfl ?_))
  refine lv (Value.int .i64 (k : Int)) rfl (aF (by exact zs6)) ?_
  refine lv (Value.int .i64 (i : Int)) rfl (aF (by exact zs5)) ?_
  refine lv (Value.bool (decide ((k : Int) < (i : Int)))) rfl (b6 (m := (k : Int)) (n := (i : Int)) rfl rfl) ?_
  refine aa ?_
  by_cases p7 : (k : Int) < (i : Int)
  ·
   refine ah rfl (decide_eq_true p7) ?_
   refine ao ?_
   refine a7 ?_
   refine au ?_
   refine a7 ?_
   refine cm g7 rfl mQ (by kernel_rfl) ?_
   intro w9 ch8
   refine aS (v := l_v) rfl (fun w' hw' => aF (by exact zs0)) ?_
   refine aS (v := Value.int .i64 (k : Int)) rfl (fun w' hw' => aF (by exact zs6)) ?_
   replace r_l_v := r_l_v.chg ch8 (bk _)
   refine aS (v := Value.pointer (some (b9 l_v 1 (Int.toNat (k : Int))))) rfl (fun w' hw' => am (α := Int) (xs := l) (v := l_v) (i := (k : Int)) Try.underlying39 rfl rfl (r_l_v.bel hw') rfl (by omega) (by omega)) ?_
   refine aS (v := Value.int .i64 (gI l (k : Int))) rfl (fun w' hw' => br (α := Int) (xs := l) (v := l_v) (i := (k : Int)) ar rfl (r_l_v.bel hw') (by omega) (by omega) (by decide) rfl) ?_
   refine aS (v := l_v) rfl (fun w' hw' => aF (by exact zs0)) ?_
   refine aS (v := Value.int .i64 (i : Int)) rfl (fun w' hw' => aF (by exact zs5)) ?_
   refine aS (v := Value.pointer (some (b9 l_v 1 (Int.toNat (i : Int))))) rfl (fun w' hw' => am (α := Int) (xs := l) (v := l_v) (i := (i : Int)) Try.underlying39 rfl rfl (r_l_v.bel hw') rfl (by omega) (by omega)) ?_
   refine aS (v := Value.int .i64 (gI l (i : Int))) rfl (fun w' hw' => br (α := Int) (xs := l) (v := l_v) (i := (i : Int)) ar rfl (r_l_v.bel hw') (by omega) (by omega) (by decide) rfl) ?_
   refine aS (v := Value.bool (decide ((gI l (k : Int)) = (gI l (i : Int))))) rfl (fun w' hw' => bQ (m := (gI l (k : Int))) (n := (gI l (i : Int))) rfl rfl) ?_
   refine de ?_
   intro w10 hc11
   replace hc11 := ak hc11 g7
   by_cases p9 : (gI l (k : Int)) = (gI l (i : Int))
   ·
    refine ah rfl (decide_eq_true p9) ?_
    refine a7 (a6 rfl ?_)
    refine lv (Value.int .i64 18) rfl (bf rfl) ?_
    refine aa ?_
    refine al (vs := [Value.int .i64 18]) Try.func38 (.tmp rfl .nil) ?_
    have e0 : (18 : Int) = (c6 l n) := by
      first
        | exact hinv.bad (by assumption) (by omega)
        | exact hinv.twice (by assumption) (by omega) (by omega) (by rw [← p9]; exact fj (by omega) (by omega))
        | exact hinv.done (by assumption)
    replace hbase := hbase.chg ch8 (bk _)
    replace hbase := hbase.chg hc11 (bk _)
    exact ⟨(congrArg (a₁ := 18) (fun (z0 : Int) => Ending.returned (Value.int .i64 z0)) e0), hbase.below⟩
   refine aj rfl (decide_eq_false p9) ?_
   refine ao ?_
   refine aq ?_
   refine a6 rfl ?_
   refine lv (Value.int .i64 (k : Int)) rfl (aF (by exact zs6)) ?_
   refine lv (Value.int .i64 ((k : Int) + 1)) rfl (aW (m := (k : Int)) (n := 1) rfl rfl (by omega)) ?_
   refine lv (Value.int .i64 ((k : Int) + 1)) rfl (bf rfl) ?_
   refine aa ?_
   replace hbase := hbase.chg ch8 (bk _)
   replace hbase := hbase.chg hc11 (bk _)
   replace r_l_v := r_l_v.chg hc11 (bk _)
   refine back7 (k + 1, g7) _ _ ⟨hbase, (by exact zs0), (by exact zs1), (by exact zs5), rfl, r_l_v, by omega, ?_⟩ ?_
   · show ∀ q : Nat, q < (k + 1) → ¬ gI l (q : Int) = gI l (i : Int)
     intro q hq
     by_cases e : q = k
     · subst e; assumption
     · exact hin q (by omega)
   · show Int.toNat (((i : Int) : Int) - ((k + 1) : Int)) < Int.toNat (((i : Int) : Int) - (k : Int))
     omega
  refine aj rfl (decide_eq_false p7) ?_
  refine aR rfl ?_
  refine aq ?_
  refine a6 rfl ?_
  refine lv (Value.int .i64 (i : Int)) rfl (aF (by exact zs5)) ?_
  refine lv (Value.int .i64 ((i : Int) + 1)) rfl (aW (m := (i : Int)) (n := 1) rfl rfl (by omega)) ?_
  refine lv (Value.int .i64 ((i : Int) + 1)) rfl (bf rfl) ?_
  refine aa ?_
  refine back2 (i + 1, g7) _ _ ⟨hbase, (by exact zs0), (by exact zs1), rfl, r_l_v, by omega, ?_⟩ ?_
  · show dY l n (i + 1)
    exact hinv.next (by assumption) (by omega) (by omega) (fun hm => by
      obtain ⟨q, hq, e⟩ := List.mem_take_iff_getElem.1 hm
      have := hin q (by omega)
      apply this
      rw [← e]
      simp [gI, show q < l.length by omega])
  · show Int.toNat (((List.length l : Int) : Int) - ((i + 1) : Int)) < Int.toNat (((List.length l : Int) : Int) - (i : Int))
    omega
 refine aj rfl (decide_eq_false p2) ?_
 refine aR rfl ?_
 refine a7 (a6 rfl ?_)
 refine lv (Value.int .i64 0) rfl (bf rfl) ?_
 refine aa ?_
 refine al (vs := [Value.int .i64 0]) Try.func38 (.tmp rfl .nil) ?_
 have e0 : (0 : Int) = (c6 l n) := by
   first
     | exact hinv.bad (by assumption) (by omega)
     | exact hinv.twice (by assumption) (by omega) (by omega) (by rw [← p9]; exact fj (by omega) (by omega))
     | exact hinv.done (by assumption)
 exact ⟨(congrArg (a₁ := 0) (fun (z0 : Int) => Ending.returned (Value.int .i64 z0)) e0), hbase.below⟩
end TL
