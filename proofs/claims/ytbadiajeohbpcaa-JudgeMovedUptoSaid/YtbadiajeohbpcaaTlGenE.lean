import Derived.Test.YtbadiajeohbpcaaTlGenA
import Derived.Test.YtbadiajeohbpcaaTlGenC
import Derived.Test.YtbadiajeohbpcaaTlGenR
import Derived.Test.YtbadiajeohbpcaaProg
import Derived.Test.YtbadiajeohbpcaaTlP2
set_option linter.all false
set_option maxRecDepth 20000
namespace TL
open Go Go.Proofs
theorem mA : Try.prog.follows .mixedOrders = true := by kernel_rfl
theorem tu : Try.f38.body.isNone = false := rfl
theorem tM : (Try.f38.name == "runtime.NumGoroutine") = false := by decide +kernel
theorem tw : Try.f39.body.isNone = false := rfl
theorem tO : (Try.f39.name == "runtime.NumGoroutine") = false := by decide +kernel
theorem o9 (w0 : World) (g : (Int) × (List ((Int) × (Int)))) (g_v : Value) (hg_v : Ro w0 g_v g.2) (to : List Int) (to_v : Value) (hto_v : Ro w0 to_v to) (hmay : c9 g) :
    Calls Try.prog 17 #[Value.agg (List.toArray [Value.int .i64 g.1, g_v]), to_v] w0 (fun ee w => ∃ xx : aM × Value, ee = .returned ((fun ⟨δ, rv0⟩ => Value.tuple (List.toArray [Value.agg (List.toArray [Value.int .i64 (((aA g to).1).1), rv0]), Value.int .i64 ((aA g to).2)])) xx) ∧ (fun (⟨δ, rv0⟩ : aM × Value) (w : World) => fx w0 δ w ∧ Ow δ (is 1) (is 1) w rv0 (((aA g to).1).2)) xx w) := by
 refine aD Try.func17 rfl (Nat.le_of_ble_eq_true rfl) ?_
 have hbase := bc.start w0
 have r_g_v := hg_v.sl
 have r_to_v := hto_v.sl
 have hmay0 := hmay
 obtain ⟨hm1, hm2, hm3, hm4⟩ := hmay0
 refine a7 (a6 rfl (bL rfl ?_))
 refine bw c0 (is 1) (1, 0) rfl rfl ?_
 intro g4 w1 b3 ch2 bx5
 replace bx5 : Bx g4 (is 1) w1 b3 [Value.int .i64 g.1, g_v] := bx5
 refine bL rfl ?_
 refine aQ g4 (is 2) (2, 0) rfl ct ?_
 intro g9 w6 b8 ch7 bx10
 replace bx10 : Bx g9 (is 2) w6 b8 [Value.int .i64 0, Value.slice none 0 0] := bx10
 refine lv (Value.int .i64 0) rfl (bf rfl) ?_
 refine aa (a7 (a7 (a6 rfl ?_)))
 refine lv (to_v) rfl (aF rfl) ?_
 replace r_to_v := (r_to_v.chg ch2 (bk _)).chg ch7 (bk _)
 have len11 := (r_to_v).small
 refine lv (Value.int .i64 (List.length to : Int)) rfl (bb Try.underlying39 rfl r_to_v) ?_
 refine lv (Value.pointer (some ⟨b3, 0, none⟩)) rfl (a8 Try.underlying24 rfl rfl rfl rfl) ?_
 replace bx5 := bx5.chg ch7 (bk _)
 refine lv (Value.int .i64 g.1) rfl (af ar rfl bx5 rfl) ?_
 refine lv (Value.bool (!(decide ((List.length to : Int) = g.1)))) rfl (dK (m := (List.length to : Int)) (n := g.1) rfl rfl) ?_
 refine aa ?_
 by_cases p1 : (List.length to : Int) = g.1
 ·
  refine aj rfl (congrArg Bool.not (decide_eq_true p1)) ?_
  refine ao ?_
  refine a7 (a7 (a6 rfl ?_))
  refine lv (Value.int .i64 0) rfl (bf rfl) ?_
  refine aa ?_
  refine au ?_
  refine aX (σ := Nat × aM) (fun ⟨k, gq⟩ f w => bc w0 gq w ∧ f 1 = to_v ∧ f 2 = Value.pointer (some ⟨b3, 0, none⟩) ∧ f 4 = Value.pointer (some ⟨b8, 0, none⟩) ∧ f 6 = Value.int .i64 (k : Int) ∧ Sl gq (is 0) w g_v g.2 ∧ Sl gq (is 0) w to_v to ∧ Bx gq (is 1) w b3 [Value.int .i64 g.1, g_v] ∧ Bx gq (is 2) w b8 [Value.int .i64 0, Value.slice none 0 0] ∧ (k : Int) ≤ ((List.length to : Int) : Int) ∧ (∀ v ∈ List.take k to, 0 ≤ v ∧ v < g.1)) (fun ⟨k, gq⟩ => Int.toNat (((List.length to : Int) : Int) - (k : Int))) (0, g9) ?_ ?_
  replace hbase := hbase.chg ch2 (bk _)
  replace hbase := hbase.chg ch7 (bk _)
  replace r_g_v := (r_g_v.chg ch2 (bk _)).chg ch7 (bk _)
  · exact ⟨hbase, rfl, rfl, rfl, rfl, r_g_v, r_to_v, bx5, bx10, by omega, by simp⟩
  clear r_g_v r_to_v bx5 bx10 hbase
  rintro ⟨k, g14⟩ f12 w13 ⟨hbase, zs1, zs2, zs4, zs6, r_g_v, r_to_v, bx5, bx10, hle_k, hinv⟩ back4
  refine a7 (a7 (a6 rfl ?_))
  refine lv (Value.int .i64 (k : Int)) rfl (aF (by exact zs6)) ?_
  refine lv (to_v) rfl (aF (by exact zs1)) ?_
  refine lv (Value.int .i64 (List.length to : Int)) rfl (bb Try.underlying39 rfl r_to_v) ?_
  refine lv (Value.bool (decide ((k : Int) < (List.length to : Int)))) rfl (b6 (m := (k : Int)) (n := (List.length to : Int)) rfl rfl) ?_
  refine aa ?_
  by_cases p4 : (k : Int) < (List.length to : Int)
  ·
   refine ah rfl (decide_eq_true p4) ?_
   refine ao ?_
   refine a7 ?_
   refine au ?_
   refine a7 ?_
   refine cm g14 rfl mA (by kernel_rfl) ?_
   intro w16 ch15
   refine aS (v := to_v) rfl (fun w' hw' => aF (by exact zs1)) ?_
   refine aS (v := Value.int .i64 (k : Int)) rfl (fun w' hw' => aF (by exact zs6)) ?_
   replace r_to_v := r_to_v.chg ch15 (bk _)
   refine aS (v := Value.pointer (some (b9 to_v 1 (Int.toNat (k : Int))))) rfl (fun w' hw' => am (α := Int) (xs := to) (v := to_v) (i := (k : Int)) Try.underlying39 rfl rfl (r_to_v.bel hw') rfl (by omega) (by omega)) ?_
   refine aS (v := Value.int .i64 (gI to (k : Int))) rfl (fun w' hw' => br (α := Int) (xs := to) (v := to_v) (i := (k : Int)) ar rfl (r_to_v.bel hw') (by omega) (by omega) (by decide) rfl) ?_
   refine aS (v := Value.bool (decide ((gI to (k : Int)) < 0))) rfl (fun w' hw' => b6 (m := (gI to (k : Int))) (n := 0) rfl rfl) ?_
   refine aS (v := Value.bool (decide ((gI to (k : Int)) < 0))) rfl (fun w' hw' => aF rfl) ?_
   by_cases q27 : (gI to (k : Int)) < 0
   ·
    refine aP (dV rfl rfl rfl (decide_eq_true q27)) ?_
    refine aP (dV rfl rfl rfl (decide_eq_true q27)) ?_
    refine aP (dV rfl rfl rfl (decide_eq_true q27)) ?_
    refine aP (dV rfl rfl rfl (decide_eq_true q27)) ?_
    refine aP (dV rfl rfl rfl (decide_eq_true q27)) ?_
    refine aP (dV rfl rfl rfl (decide_eq_true q27)) ?_
    refine aP (dV rfl rfl rfl (decide_eq_true q27)) ?_
    refine aS (v := Value.bool true) rfl (fun w' hw' => av rfl (decide_eq_true q27) rfl) ?_
    refine de ?_
    intro w17 hc18
    replace hc18 := ak hc18 g14
    refine ah rfl rfl ?_
    refine a7 ?_
    clear bx5
    refine a6 rfl ?_
    refine lv (Value.agg (List.toArray [Value.int .i64 0, Value.slice none 0 0])) rfl (bF (vs := []) rfl (by kernel_rfl)) ?_
    refine bL rfl ?_
    replace bx10 := (bx10.chg ch15 (bk _)).chg hc18 (bk _)
    refine ag (cs' := [Value.int .i64 0, Value.slice none 0 0]) ct (by exact zs4) rfl bx10 rfl (Nat.le_of_ble_eq_true rfl) (AllOne.all (.cons rfl (.cons rfl .nil))) rfl ?_
    intro w19 ch20 bx21
    clear bx10
    refine lv (Value.int .i64 2) rfl (bf rfl) ?_
    refine aa ?_
    refine al (vs := [Value.agg (List.toArray [Value.int .i64 0, Value.slice none 0 0]), Value.int .i64 2]) Try.func17 (.cell (by exact zs4) (cF (ds := [Value.int .i64 0, Value.slice none 0 0]) ct bx21 rfl rfl) (.tmp rfl .nil)) ?_
    have C22 : aL (bM [2]) _ _ _ _ := (ch15.n).seq ((hc18.n).seq (ch20.l rfl))
    replace hbase := hbase.chg C22 (bg rfl)
    have e0 : ((0, []) : (Int) × (List ((Int) × (Int)))) = ((aA g to).1) := by
      first
        | (have ha : ∀ v ∈ to, 0 ≤ v ∧ v < g.1 := by rw [List.take_of_length_le (by omega)] at hinv; exact hinv
           simp only [aA, if_pos hmay]; rw [if_pos (by omega), if_pos ha, if_pos (by assumption)]
           simp only [ek]; rw [hi1, List.take_of_length_le (by omega), List.drop_eq_nil_of_le (by omega), List.append_nil]; done)
        | (have ha : ∀ v ∈ to, 0 ≤ v ∧ v < g.1 := by rw [List.take_of_length_le (by omega)] at hinv; exact hinv
           simp only [aA, if_pos hmay]; rw [if_pos (by omega), if_pos ha, if_pos (by assumption)]; done)
        | (have ha : ∀ v ∈ to, 0 ≤ v ∧ v < g.1 := by rw [List.take_of_length_le (by omega)] at hinv; exact hinv
           simp only [aA, if_pos hmay]; rw [if_pos (by omega), if_pos ha, if_neg (by assumption)]; done)
        | (have ha : ¬ ∀ v ∈ to, 0 ≤ v ∧ v < g.1 := fun h => by have := h _ (aV (xs := to) (i := (k : Int)) (by omega) (by assumption)); omega
           simp only [aA, if_pos hmay]; rw [if_pos (by omega), if_neg ha]; done)
        | (simp only [aA, if_pos hmay]; rw [if_neg (by omega)]; done)
    have e1 : (2 : Int) = ((aA g to).2) := by
      first
        | (have ha : ∀ v ∈ to, 0 ≤ v ∧ v < g.1 := by rw [List.take_of_length_le (by omega)] at hinv; exact hinv
           simp only [aA, if_pos hmay]; rw [if_pos (by omega), if_pos ha, if_pos (by assumption)]
           simp only [ek]; rw [hi1, List.take_of_length_le (by omega), List.drop_eq_nil_of_le (by omega), List.append_nil]; done)
        | (have ha : ∀ v ∈ to, 0 ≤ v ∧ v < g.1 := by rw [List.take_of_length_le (by omega)] at hinv; exact hinv
           simp only [aA, if_pos hmay]; rw [if_pos (by omega), if_pos ha, if_pos (by assumption)]; done)
        | (have ha : ∀ v ∈ to, 0 ≤ v ∧ v < g.1 := by rw [List.take_of_length_le (by omega)] at hinv; exact hinv
           simp only [aA, if_pos hmay]; rw [if_pos (by omega), if_pos ha, if_neg (by assumption)]; done)
        | (have ha : ¬ ∀ v ∈ to, 0 ≤ v ∧ v < g.1 := fun h => by have := h _ (aV (xs := to) (i := (k : Int)) (by omega) (by assumption)); omega
           simp only [aA, if_pos hmay]; rw [if_pos (by omega), if_neg ha]; done)
        | (simp only [aA, if_pos hmay]; rw [if_neg (by omega)]; done)
    exact ⟨(fin w0 g14 (fun n => 0), (Value.slice none 0 0)), (bS (a := (0, [])) (b := 2) (fun (z0 : (Int) × (List ((Int) × (Int)))) (z1 : Int) => Ending.returned (Value.tuple (List.toArray [Value.agg (List.toArray [Value.int .i64 z0.1, Value.slice none 0 0]), Value.int .i64 z1]))) e0 e1), hbase.fresh _, ((congrArg (fun (z : (Int) × (List ((Int) × (Int)))) => z.2) e0) ▸ Ow.nil)⟩
   refine aS (v := to_v) (dT rfl rfl rfl (decide_eq_false q27)) (fun w' hw' => aF (by exact zs1)) ?_
   refine aS (v := Value.int .i64 (k : Int)) (dT rfl rfl rfl (decide_eq_false q27)) (fun w' hw' => aF (by exact zs6)) ?_
   refine aS (v := Value.pointer (some (b9 to_v 1 (Int.toNat (k : Int))))) (dT rfl rfl rfl (decide_eq_false q27)) (fun w' hw' => am (α := Int) (xs := to) (v := to_v) (i := (k : Int)) Try.underlying39 rfl rfl (r_to_v.bel hw') rfl (by omega) (by omega)) ?_
   refine aS (v := Value.int .i64 (gI to (k : Int))) (dT rfl rfl rfl (decide_eq_false q27)) (fun w' hw' => br (α := Int) (xs := to) (v := to_v) (i := (k : Int)) ar rfl (r_to_v.bel hw') (by omega) (by omega) (by decide) rfl) ?_
   refine aS (v := Value.pointer (some ⟨b3, 0, none⟩)) (dT rfl rfl rfl (decide_eq_false q27)) (fun w' hw' => a8 Try.underlying24 rfl rfl (by exact zs2) rfl) ?_
   replace bx5 := bx5.chg ch15 (bk _)
   refine aS (v := Value.int .i64 g.1) (dT rfl rfl rfl (decide_eq_false q27)) (fun w' hw' => af ar rfl (bx5.bel hw') rfl) ?_
   refine aS (v := Value.bool (decide (g.1 ≤ (gI to (k : Int))))) (dT rfl rfl rfl (decide_eq_false q27)) (fun w' hw' => fy (m := (gI to (k : Int))) (n := g.1) rfl rfl) ?_
   refine aS (v := Value.bool (decide (g.1 ≤ (gI to (k : Int))))) rfl (fun w' hw' => aE rfl (decide_eq_false q27) rfl) ?_
   refine de ?_
   intro w23 hc24
   replace hc24 := ak hc24 g14
   by_cases p6 : g.1 ≤ (gI to (k : Int))
   ·
    refine ah rfl (decide_eq_true p6) ?_
    refine a7 ?_
    clear bx5
    refine a6 rfl ?_
    refine lv (Value.agg (List.toArray [Value.int .i64 0, Value.slice none 0 0])) rfl (bF (vs := []) rfl (by kernel_rfl)) ?_
    refine bL rfl ?_
    replace bx10 := (bx10.chg ch15 (bk _)).chg hc24 (bk _)
    refine ag (cs' := [Value.int .i64 0, Value.slice none 0 0]) ct (by exact zs4) rfl bx10 rfl (Nat.le_of_ble_eq_true rfl) (AllOne.all (.cons rfl (.cons rfl .nil))) rfl ?_
    intro w25 ch26 bx27
    clear bx10
    refine lv (Value.int .i64 2) rfl (bf rfl) ?_
    refine aa ?_
    refine al (vs := [Value.agg (List.toArray [Value.int .i64 0, Value.slice none 0 0]), Value.int .i64 2]) Try.func17 (.cell (by exact zs4) (cF (ds := [Value.int .i64 0, Value.slice none 0 0]) ct bx27 rfl rfl) (.tmp rfl .nil)) ?_
    have C28 : aL (bM [2]) _ _ _ _ := (ch15.n).seq ((hc24.n).seq (ch26.l rfl))
    replace hbase := hbase.chg C28 (bg rfl)
    have e0 : ((0, []) : (Int) × (List ((Int) × (Int)))) = ((aA g to).1) := by
      first
        | (have ha : ∀ v ∈ to, 0 ≤ v ∧ v < g.1 := by rw [List.take_of_length_le (by omega)] at hinv; exact hinv
           simp only [aA, if_pos hmay]; rw [if_pos (by omega), if_pos ha, if_pos (by assumption)]
           simp only [ek]; rw [hi1, List.take_of_length_le (by omega), List.drop_eq_nil_of_le (by omega), List.append_nil]; done)
        | (have ha : ∀ v ∈ to, 0 ≤ v ∧ v < g.1 := by rw [List.take_of_length_le (by omega)] at hinv; exact hinv
           simp only [aA, if_pos hmay]; rw [if_pos (by omega), if_pos ha, if_pos (by assumption)]; done)
        | (have ha : ∀ v ∈ to, 0 ≤ v ∧ v < g.1 := by rw [List.take_of_length_le (by omega)] at hinv; exact hinv
           simp only [aA, if_pos hmay]; rw [if_pos (by omega), if_pos ha, if_neg (by assumption)]; done)
        | (have ha : ¬ ∀ v ∈ to, 0 ≤ v ∧ v < g.1 := fun h => by have := h _ (aV (xs := to) (i := (k : Int)) (by omega) (by assumption)); omega
           simp only [aA, if_pos hmay]; rw [if_pos (by omega), if_neg ha]; done)
        | (simp only [aA, if_pos hmay]; rw [if_neg (by omega)]; done)
    have e1 : (2 : Int) = ((aA g to).2) := by
      first
        | (have ha : ∀ v ∈ to, 0 ≤ v ∧ v < g.1 := by rw [List.take_of_length_le (by omega)] at hinv; exact hinv
           simp only [aA, if_pos hmay]; rw [if_pos (by omega), if_pos ha, if_pos (by assumption)]
           simp only [ek]; rw [hi1, List.take_of_length_le (by omega), List.drop_eq_nil_of_le (by omega), List.append_nil]; done)
        | (have ha : ∀ v ∈ to, 0 ≤ v ∧ v < g.1 := by rw [List.take_of_length_le (by omega)] at hinv; exact hinv
           simp only [aA, if_pos hmay]; rw [if_pos (by omega), if_pos ha, if_pos (by assumption)]; done)
        | (have ha : ∀ v ∈ to, 0 ≤ v ∧ v < g.1 := by rw [List.take_of_length_le (by omega)] at hinv; exact hinv
           simp only [aA, if_pos hmay]; rw [if_pos (by omega), if_pos ha, if_neg (by assumption)]; done)
        | (have ha : ¬ ∀ v ∈ to, 0 ≤ v ∧ v < g.1 := fun h => by have := h _ (aV (xs := to) (i := (k : Int)) (by omega) (by assumption)); omega
           simp only [aA, if_pos hmay]; rw [if_pos (by omega), if_neg ha]; done)
        | (simp only [aA, if_pos hmay]; rw [if_neg (by omega)]; done)
    exact ⟨(fin w0 g14 (fun n => 0), (Value.slice none 0 0)), (bS (a := (0, [])) (b := 2) (fun (z0 : (Int) × (List ((Int) × (Int)))) (z1 : Int) => Ending.returned (Value.tuple (List.toArray [Value.agg (List.toArray [Value.int .i64 z0.1, Value.slice none 0 0]), Value.int .i64 z1]))) e0 e1), hbase.fresh _, ((congrArg (fun (z : (Int) × (List ((Int) × (Int)))) => z.2) e0) ▸ Ow.nil)⟩
   refine aj rfl (decide_eq_false p6) ?_
   refine ao ?_
   refine aq ?_
   refine a6 rfl ?_
   refine lv (Value.int .i64 (k : Int)) rfl (aF (by exact zs6)) ?_
   refine lv (Value.int .i64 ((k : Int) + 1)) rfl (aW (m := (k : Int)) (n := 1) rfl rfl (by omega)) ?_
   refine lv (Value.int .i64 ((k : Int) + 1)) rfl (bf rfl) ?_
   refine aa ?_
   replace hbase := hbase.chg ch15 (bk _)
   replace hbase := hbase.chg hc24 (bk _)
   replace r_g_v := (r_g_v.chg ch15 (bk _)).chg hc24 (bk _)
   replace r_to_v := r_to_v.chg hc24 (bk _)
   replace bx5 := bx5.chg hc24 (bk _)
   replace bx10 := (bx10.chg ch15 (bk _)).chg hc24 (bk _)
   refine back4 (k + 1, g14) _ _ ⟨hbase, (by exact zs1), (by exact zs2), (by exact zs4), rfl, r_g_v, r_to_v, bx5, bx10, by omega, ?_⟩ ?_
   · show ∀ v ∈ List.take (k + 1) to, 0 ≤ v ∧ v < g.1
     rw [bD (by assumption)]
     intro v hv
     rcases List.mem_append.1 hv with h | h
     · exact hinv v h
     · obtain rfl := List.mem_singleton.1 h
       omega
   · show Int.toNat (((List.length to : Int) : Int) - ((k + 1) : Int)) < Int.toNat (((List.length to : Int) : Int) - (k : Int))
     omega
  refine aj rfl (decide_eq_false p4) ?_
  refine aR rfl ?_
  refine a7 (a6 rfl ?_)
  refine lv (to_v) rfl (aF (by exact zs1)) ?_
  refine lv (Value.pointer (some ⟨b3, 0, none⟩)) rfl (a8 Try.underlying24 rfl rfl (by exact zs2) rfl) ?_
  refine lv (Value.int .i64 g.1) rfl (af ar rfl bx5 rfl) ?_
  refine bL rfl ?_
  refine aG (v := Value.int .i64 (c6 to g.1)) (aB (vals := [to_v, Value.int .i64 g.1]) Try.func38 tu tM rfl) (mn w13 to to_v (r_to_v).ro g.1) ?_
  intro w29 hb30
  replace hb30 := ak hb30 g14
  refine lv (Value.int .i64 (c6 to g.1)) rfl (bf rfl) ?_
  refine aa (a7 (a7 (a6 rfl ?_)))
  refine lv (Value.int .i64 (c6 to g.1)) rfl (aF rfl) ?_
  refine lv (Value.bool (!(decide ((c6 to g.1) = 0)))) rfl (dK (m := c6 to g.1) (n := 0) rfl rfl) ?_
  refine aa ?_
  by_cases p9 : (c6 to g.1) = 0
  ·
   refine aj rfl (congrArg Bool.not (decide_eq_true p9)) ?_
   refine ao ?_
   refine a7 (a6 rfl ?_)
   replace bx5 := bx5.chg hb30 (bk _)
   refine lv (Value.agg (List.toArray [Value.int .i64 g.1, g_v])) rfl (ad (ds := [Value.int .i64 g.1, g_v]) ct (by exact zs2) bx5 rfl rfl) ?_
   replace r_g_v := r_g_v.chg hb30 (bk _)
   refine bL rfl ?_
   refine cC (aB (vals := [Value.agg (List.toArray [Value.int .i64 g.1, g_v])]) Try.func39 tw tO rfl) (pi w29 g g_v (r_g_v).ro (by first | assumption | omega)) ?_
   rintro ⟨d32, v34⟩ w31 ⟨fr33, o35⟩
   obtain ⟨g36, hg36⟩ : ∃ q, q = glue w29.heap.size g14 d32 (fun n => if n = 1 then 3 else 0) := ⟨_, rfl⟩
   have ch37 := kC fr33.below g14 d32 (fun n => if n = 1 then 3 else 0)
   rw [← hg36] at ch37
   replace o35 := o35.glue (γ := g14) (ren := (fun n => if n = 1 then 3 else 0)) (k := 3) fr33.col rfl rfl
   rw [← hg36] at o35
   clear hg36
   refine bL rfl ?_
   refine aQ g36 (is 4) (4, 0) rfl ct ?_
   intro g41 w38 b40 ch39 bx42
   replace bx42 : Bx g41 (is 4) w38 b40 [Value.int .i64 0, Value.slice none 0 0] := bx42
   refine bL rfl ?_
   replace o35 := o35.chg ch39 (bk _) (bk _)
   refine ag (cs' := [Value.int .i64 g.1, v34]) ct rfl rfl bx42 rfl (Nat.le_of_ble_eq_true rfl) (AllOne.all (.cons rfl (.cons (bZ o35.flat) .nil))) rfl ?_
   intro w43 ch44 bx45
   clear bx42
   refine aa (a7 (a7 (a6 rfl ?_)))
   refine lv (Value.int .i64 0) rfl (bf rfl) ?_
   refine aa ?_
   refine au ?_
   refine aX (σ := Nat × (List ((Int) × (Int))) × aM) (fun ⟨i, es_, gq⟩ f w => bc w0 gq w ∧ f 1 = to_v ∧ f 2 = Value.pointer (some ⟨b3, 0, none⟩) ∧ f 4 = Value.pointer (some ⟨b8, 0, none⟩) ∧ f 8 = Value.pointer (some ⟨b40, 0, none⟩) ∧ f 9 = Value.int .i64 (i : Int) ∧ Sl gq (is 0) w g_v g.2 ∧ Sl gq (is 0) w to_v to ∧ Bx gq (is 1) w b3 [Value.int .i64 g.1, g_v] ∧ Bx gq (is 2) w b8 [Value.int .i64 0, Value.slice none 0 0] ∧ Ow gq (is 3) (is 3) w v34 es_ ∧ Bx gq (is 4) w b40 [Value.int .i64 g.1, v34] ∧ (es_ = (List.take i g.2).map (jY to) ++ List.drop i g.2 ∧ i ≤ g.2.length)) (fun ⟨i, es_, gq⟩ => g.2.length - i) (0, g.2, g41) ?_ ?_
   have C46 : aL (bM [4]) _ _ _ _ := (hb30.n).seq ((ch37.n).seq ((ch39.n).seq (ch44.l rfl)))
   replace hbase := hbase.chg C46 (bg rfl)
   have C47 : aL (bM [4]) _ _ _ _ := (ch37.n).seq ((ch39.n).seq (ch44.l rfl))
   replace r_g_v := r_g_v.chg C47 (bg rfl)
   replace r_to_v := r_to_v.chg C46 (bg rfl)
   replace bx5 := bx5.chg C47 (bg rfl)
   replace bx10 := bx10.chg C46 (bg rfl)
   replace o35 := o35.chg ch44 (cJ rfl) (cJ rfl)
   · exact ⟨hbase, (by exact zs1), (by exact zs2), (by exact zs4), rfl, rfl, r_g_v, r_to_v, bx5, bx10, o35, bx45, by simp⟩
   clear r_g_v r_to_v bx5 bx10 o35 bx45 hbase
   rintro ⟨i, es_, g50⟩ f48 w49 ⟨hbase, zs1, zs2, zs4, zs8, zs9, r_g_v, r_to_v, bx5, bx10, o35, bx45, hinv1⟩ back13
   have hi1 := hinv1.1
   have hi2 := hinv1.2
   have hlen : es_.length = g.2.length := by rw [hi1]; exact rr (by omega)
   refine a7 (a7 (a6 rfl ?_))
   refine lv (Value.int .i64 (i : Int)) rfl (aF (by exact zs9)) ?_
   refine lv (Value.pointer (some ⟨b40, 1, none⟩)) rfl (a8 Try.underlying24 rfl rfl (by exact zs8) rfl) ?_
   refine lv (v34) rfl (af cD rfl bx45 rfl) ?_
   have len51 := (o35.flat).small
   refine lv (Value.int .i64 (List.length es_ : Int)) rfl (bb Try.underlying22 rfl o35.flat) ?_
   refine lv (Value.bool (decide ((i : Int) < (List.length es_ : Int)))) rfl (b6 (m := (i : Int)) (n := (List.length es_ : Int)) rfl rfl) ?_
   refine aa ?_
   by_cases p13 : (i : Int) < (List.length es_ : Int)
   ·
    refine ah rfl (decide_eq_true p13) ?_
    obtain ⟨⟨he1, he2⟩, he3, he4⟩ := hm4 _ (aV (xs := g.2) (i := (i : Int)) (by omega) (by omega))
    refine ao ?_
    refine a7 ?_
    refine au ?_
    refine fL g50 [0, 1, 2, 3, 4, 5, 6, 7, 8, 9, 10, 11, 12, 13, 14, 15, 16, 17, 18, 19, 20, 21, 22] mA ?_
    intro w53 ch52
    refine fm (v := Value.pointer (some ⟨b40, 1, none⟩)) 0 rfl (by kernel_rfl) (by kernel_rfl) rfl (fun w => a8 Try.underlying24 rfl rfl (by exact zs8) rfl) ?_
    replace bx45 := bx45.chg ch52 (bk _)
    refine eO (v := v34) 1 [0, 2, 3, 4, 6, 12, 13, 15, 5, 14, 7, 16, 8, 17, 9, 18, 10, 19, 11, 20, 21] rfl (by kernel_rfl) (by kernel_rfl) rfl (af cD rfl bx45 rfl) ?_
    refine fm (v := Value.int .i64 (i : Int)) 2 rfl (by kernel_rfl) (by kernel_rfl) rfl (fun w => aF (by exact zs9)) ?_
    refine fm (v := to_v) 3 rfl (by kernel_rfl) (by kernel_rfl) rfl (fun w => aF (by exact zs1)) ?_
    refine fm (v := Value.pointer (some ⟨b3, 1, none⟩)) 4 rfl (by kernel_rfl) (by kernel_rfl) rfl (fun w => a8 Try.underlying24 rfl rfl (by exact zs2) rfl) ?_
    replace bx5 := bx5.chg ch52 (bk _)
    refine eO (v := g_v) 5 [4, 3, 2, 1, 0, 6, 12, 13, 15, 14, 16, 17, 18, 19, 20] rfl (by kernel_rfl) (by kernel_rfl) rfl (af cD rfl bx5 rfl) ?_
    refine fm (v := Value.int .i64 (i : Int)) 6 rfl (by kernel_rfl) (by kernel_rfl) rfl (fun w => aF (by exact zs9)) ?_
    replace r_g_v := r_g_v.chg ch52 (bk _)
    refine eO (v := Value.pointer (some (b9 g_v 2 (Int.toNat (i : Int))))) 7 [6, 5, 4, 3, 2, 1, 0, 12, 13, 15, 14, 16, 17, 18, 19, 20] rfl (by kernel_rfl) (by kernel_rfl) rfl (am (α := (Int) × (Int)) (xs := g.2) (v := g_v) (i := (i : Int)) Try.underlying22 rfl rfl r_g_v rfl (by omega) (by omega)) ?_
    refine eO (v := Value.pointer (some ⟨(b9 g_v 2 (Int.toNat (i : Int))).block, (b9 g_v 2 (Int.toNat (i : Int))).off + 0, none⟩)) 8 [7, 6, 5, 4, 3, 2, 1, 0, 12, 13, 15, 14, 16, 17, 18, 19, 20] rfl (by kernel_rfl) (by kernel_rfl) rfl (cK Try.underlying59 rfl rfl rfl (by decide) (by decide) rfl) ?_
    refine eO (v := Value.int .i64 ((gI g.2 (i : Int)).1)) 9 [8, 7, 6, 5, 4, 3, 2, 1, 0, 12, 13, 15, 14, 16, 17, 18, 19, 20] rfl (by kernel_rfl) (by kernel_rfl) rfl (bV (α := (Int) × (Int)) (xs := g.2) (v := g_v) (i := (i : Int)) ar rfl r_g_v (by omega) (by omega) (by decide) rfl) ?_
    replace r_to_v := r_to_v.chg ch52 (bk _)
    refine eO (v := Value.pointer (some (b9 to_v 1 (Int.toNat ((gI g.2 (i : Int)).1))))) 10 [9, 8, 7, 6, 5, 4, 3, 2, 1, 0, 12, 13, 15, 14, 16, 17, 18, 19, 20] rfl (by kernel_rfl) (by kernel_rfl) rfl (am (α := Int) (xs := to) (v := to_v) (i := (gI g.2 (i : Int)).1) Try.underlying39 rfl rfl r_to_v rfl (by omega) (by omega)) ?_
    refine eO (v := Value.int .i64 (gI to ((gI g.2 (i : Int)).1))) 11 [10, 9, 8, 7, 6, 5, 4, 3, 2, 1, 0, 12, 13, 15, 14, 16, 17, 18, 19, 20] rfl (by kernel_rfl) (by kernel_rfl) rfl (br (α := Int) (xs := to) (v := to_v) (i := (gI g.2 (i : Int)).1) ar rfl r_to_v (by omega) (by omega) (by decide) rfl) ?_
    refine fm (v := to_v) 12 rfl (by kernel_rfl) (by kernel_rfl) rfl (fun w => aF (by exact zs1)) ?_
    refine fm (v := Value.pointer (some ⟨b3, 1, none⟩)) 13 rfl (by kernel_rfl) (by kernel_rfl) rfl (fun w => a8 Try.underlying24 rfl rfl (by exact zs2) rfl) ?_
    refine eO (v := g_v) 14 [13, 12, 11, 10, 9, 8, 7, 6, 5, 4, 3, 2, 1, 0, 15] rfl (by kernel_rfl) (by kernel_rfl) rfl (af cD rfl bx5 rfl) ?_
    refine fm (v := Value.int .i64 (i : Int)) 15 rfl (by kernel_rfl) (by kernel_rfl) rfl (fun w => aF (by exact zs9)) ?_
    refine eO (v := Value.pointer (some (b9 g_v 2 (Int.toNat (i : Int))))) 16 [15, 14, 13, 12, 11, 10, 9, 8, 7, 6, 5, 4, 3, 2, 1, 0] rfl (by kernel_rfl) (by kernel_rfl) rfl (am (α := (Int) × (Int)) (xs := g.2) (v := g_v) (i := (i : Int)) Try.underlying22 rfl rfl r_g_v rfl (by omega) (by omega)) ?_
    refine eO (v := Value.pointer (some ⟨(b9 g_v 2 (Int.toNat (i : Int))).block, (b9 g_v 2 (Int.toNat (i : Int))).off + 1, none⟩)) 17 [16, 15, 14, 13, 12, 11, 10, 9, 8, 7, 6, 5, 4, 3, 2, 1, 0] rfl (by kernel_rfl) (by kernel_rfl) rfl (cK Try.underlying59 rfl rfl rfl (by decide) (by decide) rfl) ?_
    refine eO (v := Value.int .i64 ((gI g.2 (i : Int)).2)) 18 [17, 16, 15, 14, 13, 12, 11, 10, 9, 8, 7, 6, 5, 4, 3, 2, 1, 0] rfl (by kernel_rfl) (by kernel_rfl) rfl (bV (α := (Int) × (Int)) (xs := g.2) (v := g_v) (i := (i : Int)) ar rfl r_g_v (by omega) (by omega) (by decide) rfl) ?_
    refine eO (v := Value.pointer (some (b9 to_v 1 (Int.toNat ((gI g.2 (i : Int)).2))))) 19 [18, 17, 16, 15, 14, 13, 12, 11, 10, 9, 8, 7, 6, 5, 4, 3, 2, 1, 0] rfl (by kernel_rfl) (by kernel_rfl) rfl (am (α := Int) (xs := to) (v := to_v) (i := (gI g.2 (i : Int)).2) Try.underlying39 rfl rfl r_to_v rfl (by omega) (by omega)) ?_
    refine eO (v := Value.int .i64 (gI to ((gI g.2 (i : Int)).2))) 20 [19, 18, 17, 16, 15, 14, 13, 12, 11, 10, 9, 8, 7, 6, 5, 4, 3, 2, 1, 0] rfl (by kernel_rfl) (by kernel_rfl) rfl (br (α := Int) (xs := to) (v := to_v) (i := (gI g.2 (i : Int)).2) ar rfl r_to_v (by omega) (by omega) (by decide) rfl) ?_
    refine fm (v := Value.agg (List.toArray [Value.int .i64 (gI to ((gI g.2 (i : Int)).1)), Value.int .i64 (gI to ((gI g.2 (i : Int)).2))])) 21 rfl (by kernel_rfl) (by kernel_rfl) rfl (fun w => bF (vs := [(0, Value.int .i64 (gI to ((gI g.2 (i : Int)).1))), (1, Value.int .i64 (gI to ((gI g.2 (i : Int)).2)))]) rfl (by kernel_rfl)) ?_
    replace o35 := o35.chg ch52 (bk _) (bk _)
    refine eO (v := Value.pointer (some (b9 v34 2 (Int.toNat (i : Int))))) 22 [21, 20, 19, 18, 17, 16, 15, 14, 13, 12, 11, 10, 9, 8, 7, 6, 5, 4, 3, 2, 1, 0] rfl (by kernel_rfl) (by kernel_rfl) rfl (am (α := (Int) × (Int)) (xs := es_) (v := v34) (i := (i : Int)) Try.underlying22 rfl rfl o35.flat rfl (by omega) (by omega)) ?_
    refine jp 23 rfl (by kernel_rfl) rfl ?_
    refine eh (i := (i : Int)) ((gI to ((gI g.2 (i : Int)).1)), (gI to ((gI g.2 (i : Int)).2))) dw rfl rfl o35 (by omega) (by omega) rfl ?_
    intro w54 ch55 bx56
    clear o35
    refine oR (by kernel_rfl) ?_
    refine aq ?_
    refine a6 rfl ?_
    refine lv (Value.int .i64 (i : Int)) rfl (aF (by exact zs9)) ?_
    refine lv (Value.int .i64 ((i : Int) + 1)) rfl (aW (m := (i : Int)) (n := 1) rfl rfl (by omega)) ?_
    refine lv (Value.int .i64 ((i : Int) + 1)) rfl (bf rfl) ?_
    refine aa ?_
    replace hbase := hbase.chg ch52 (bk _)
    replace hbase := hbase.chg ch55 (cJ rfl)
    replace r_g_v := r_g_v.chg ch55 (cJ rfl)
    replace r_to_v := r_to_v.chg ch55 (cJ rfl)
    replace bx5 := bx5.chg ch55 (cJ rfl)
    replace bx10 := (bx10.chg ch52 (bk _)).chg ch55 (cJ rfl)
    replace bx45 := bx45.chg ch55 (cJ rfl)
    refine back13 (i + 1, (List.set es_ (Int.toNat (i : Int)) ((gI to ((gI g.2 (i : Int)).1)), (gI to ((gI g.2 (i : Int)).2)))), g50) _ _ ⟨hbase, (by exact zs1), (by exact zs2), (by exact zs4), (by exact zs8), rfl, r_g_v, r_to_v, bx5, bx10, bx56, bx45, ?_⟩ ?_
    · show (List.set es_ (Int.toNat (i : Int)) ((gI to ((gI g.2 (i : Int)).1)), (gI to ((gI g.2 (i : Int)).2)))) = (List.take (i + 1) g.2).map (jY to) ++ List.drop (i + 1) g.2 ∧ (i + 1) ≤ g.2.length
      refine ⟨?_, by omega⟩
      rw [hi1]
      exact qc (by omega) rfl rfl
    · show g.2.length - (i + 1) < g.2.length - i
      omega
   refine aj rfl (decide_eq_false p13) ?_
   refine aR rfl ?_
   refine a7 ?_
   clear bx5
   refine a6 rfl ?_
   refine lv (Value.agg (List.toArray [Value.int .i64 g.1, v34])) rfl (ad (ds := [Value.int .i64 g.1, v34]) ct (by exact zs8) bx45 rfl rfl) ?_
   refine bL rfl ?_
   refine ag (cs' := [Value.int .i64 g.1, v34]) ct (by exact zs4) rfl bx10 rfl (Nat.le_of_ble_eq_true rfl) (AllOne.all (.cons rfl (.cons (bZ o35.flat) .nil))) rfl ?_
   intro w57 ch58 bx59
   clear bx10
   refine lv (Value.int .i64 0) rfl (bf rfl) ?_
   refine aa ?_
   refine al (vs := [Value.agg (List.toArray [Value.int .i64 g.1, v34]), Value.int .i64 0]) Try.func17 (.cell (by exact zs4) (cF (ds := [Value.int .i64 g.1, v34]) ct bx59 rfl rfl) (.tmp rfl .nil)) ?_
   replace hbase := hbase.chg ch58 (cJ rfl)
   replace o35 := o35.chg ch58 (cJ rfl) (cJ rfl)
   have e0 : ((g.1, es_) : (Int) × (List ((Int) × (Int)))) = ((aA g to).1) := by
     first
       | (have ha : ∀ v ∈ to, 0 ≤ v ∧ v < g.1 := by rw [List.take_of_length_le (by omega)] at hinv; exact hinv
          simp only [aA, if_pos hmay]; rw [if_pos (by omega), if_pos ha, if_pos (by assumption)]
          simp only [ek]; rw [hi1, List.take_of_length_le (by omega), List.drop_eq_nil_of_le (by omega), List.append_nil]; done)
       | (have ha : ∀ v ∈ to, 0 ≤ v ∧ v < g.1 := by rw [List.take_of_length_le (by omega)] at hinv; exact hinv
          simp only [aA, if_pos hmay]; rw [if_pos (by omega), if_pos ha, if_pos (by assumption)]; done)
       | (have ha : ∀ v ∈ to, 0 ≤ v ∧ v < g.1 := by rw [List.take_of_length_le (by omega)] at hinv; exact hinv
          simp only [aA, if_pos hmay]; rw [if_pos (by omega), if_pos ha, if_neg (by assumption)]; done)
       | (have ha : ¬ ∀ v ∈ to, 0 ≤ v ∧ v < g.1 := fun h => by have := h _ (aV (xs := to) (i := (k : Int)) (by omega) (by assumption)); omega
          simp only [aA, if_pos hmay]; rw [if_pos (by omega), if_neg ha]; done)
       | (simp only [aA, if_pos hmay]; rw [if_neg (by omega)]; done)
   have e1 : (0 : Int) = ((aA g to).2) := by
     first
       | (have ha : ∀ v ∈ to, 0 ≤ v ∧ v < g.1 := by rw [List.take_of_length_le (by omega)] at hinv; exact hinv
          simp only [aA, if_pos hmay]; rw [if_pos (by omega), if_pos ha, if_pos (by assumption)]
          simp only [ek]; rw [hi1, List.take_of_length_le (by omega), List.drop_eq_nil_of_le (by omega), List.append_nil]; done)
       | (have ha : ∀ v ∈ to, 0 ≤ v ∧ v < g.1 := by rw [List.take_of_length_le (by omega)] at hinv; exact hinv
          simp only [aA, if_pos hmay]; rw [if_pos (by omega), if_pos ha, if_pos (by assumption)]; done)
       | (have ha : ∀ v ∈ to, 0 ≤ v ∧ v < g.1 := by rw [List.take_of_length_le (by omega)] at hinv; exact hinv
          simp only [aA, if_pos hmay]; rw [if_pos (by omega), if_pos ha, if_neg (by assumption)]; done)
       | (have ha : ¬ ∀ v ∈ to, 0 ≤ v ∧ v < g.1 := fun h => by have := h _ (aV (xs := to) (i := (k : Int)) (by omega) (by assumption)); omega
          simp only [aA, if_pos hmay]; rw [if_pos (by omega), if_neg ha]; done)
       | (simp only [aA, if_pos hmay]; rw [if_neg (by omega)]; done)
   exact ⟨(fin w0 g50 (fun n => if n = 3 then 1 else 0), v34), (bS (a := (g.1, es_)) (b := 0) (fun (z0 : (Int) × (List ((Int) × (Int)))) (z1 : Int) => Ending.returned (Value.tuple (List.toArray [Value.agg (List.toArray [Value.int .i64 z0.1, v34]), Value.int .i64 z1]))) e0 e1), hbase.fresh _, ((congrArg (fun (z : (Int) × (List ((Int) × (Int)))) => z.2) e0) ▸ (o35.glue (γ := c0) (ren := (fun n => if n = 3 then 1 else 0)) (k := 1) hbase.col rfl rfl))⟩
  refine ah rfl (congrArg Bool.not (decide_eq_false p9)) ?_
  refine a7 ?_
  clear bx5
  refine a6 rfl ?_
  refine lv (Value.agg (List.toArray [Value.int .i64 0, Value.slice none 0 0])) rfl (bF (vs := []) rfl (by kernel_rfl)) ?_
  refine lv (Value.int .i64 (c6 to g.1)) rfl (aF rfl) ?_
  refine bL rfl ?_
  replace bx10 := bx10.chg hb30 (bk _)
  refine ag (cs' := [Value.int .i64 0, Value.slice none 0 0]) ct (by exact zs4) rfl bx10 rfl (Nat.le_of_ble_eq_true rfl) (AllOne.all (.cons rfl (.cons rfl .nil))) rfl ?_
  intro w60 ch61 bx62
  clear bx10
  refine lv (Value.int .i64 (c6 to g.1)) rfl (bf rfl) ?_
  refine aa ?_
  refine al (vs := [Value.agg (List.toArray [Value.int .i64 0, Value.slice none 0 0]), Value.int .i64 (c6 to g.1)]) Try.func17 (.cell (by exact zs4) (cF (ds := [Value.int .i64 0, Value.slice none 0 0]) ct bx62 rfl rfl) (.tmp rfl .nil)) ?_
  replace hbase := hbase.chg hb30 (bk _)
  replace hbase := hbase.chg ch61 (cJ rfl)
  have e0 : ((0, []) : (Int) × (List ((Int) × (Int)))) = ((aA g to).1) := by
    first
      | (have ha : ∀ v ∈ to, 0 ≤ v ∧ v < g.1 := by rw [List.take_of_length_le (by omega)] at hinv; exact hinv
         simp only [aA, if_pos hmay]; rw [if_pos (by omega), if_pos ha, if_pos (by assumption)]
         simp only [ek]; rw [hi1, List.take_of_length_le (by omega), List.drop_eq_nil_of_le (by omega), List.append_nil]; done)
      | (have ha : ∀ v ∈ to, 0 ≤ v ∧ v < g.1 := by rw [List.take_of_length_le (by omega)] at hinv; exact hinv
         simp only [aA, if_pos hmay]; rw [if_pos (by omega), if_pos ha, if_pos (by assumption)]; done)
      | (have ha : ∀ v ∈ to, 0 ≤ v ∧ v < g.1 := by rw [List.take_of_length_le (by omega)] at hinv; exact hinv
         simp only [aA, if_pos hmay]; rw [if_pos (by omega), if_pos ha, if_neg (by assumption)]; done)
      | (have ha : ¬ ∀ v ∈ to, 0 ≤ v ∧ v < g.1 := fun h => by have := h _ (aV (xs := to) (i := (k : Int)) (by omega) (by assumption)); omega
         simp only [aA, if_pos hmay]; rw [if_pos (by omega), if_neg ha]; done)
      | (simp only [aA, if_pos hmay]; rw [if_neg (by omega)]; done)
  have e1 : (c6 to g.1 : Int) = ((aA g to).2) := by
    first
      | (have ha : ∀ v ∈ to, 0 ≤ v ∧ v < g.1 := by rw [List.take_of_length_le (by omega)] at hinv; exact hinv
         simp only [aA, if_pos hmay]; rw [if_pos (by omega), if_pos ha, if_pos (by assumption)]
         simp only [ek]; rw [hi1, List.take_of_length_le (by omega), List.drop_eq_nil_of_le (by omega), List.append_nil]; done)
      | (have ha : ∀ v ∈ to, 0 ≤ v ∧ v < g.1 := by rw [List.take_of_length_le (by omega)] at hinv; exact hinv
         simp only [aA, if_pos hmay]; rw [if_pos (by omega), if_pos ha, if_pos (by assumption)]; done)
      | (have ha : ∀ v ∈ to, 0 ≤ v ∧ v < g.1 := by rw [List.take_of_length_le (by omega)] at hinv; exact hinv
         simp only [aA, if_pos hmay]; rw [if_pos (by omega), if_pos ha, if_neg (by assumption)]; done)
      | (have ha : ¬ ∀ v ∈ to, 0 ≤ v ∧ v < g.1 := fun h => by have := h _ (aV (xs := to) (i := (k : Int)) (by omega) (by assumption)); omega
         simp only [aA, if_pos hmay]; rw [if_pos (by omega), if_neg ha]; done)
      | (simp only [aA, if_pos hmay]; rw [if_neg (by omega)]; done)
  exact ⟨(fin w0 g14 (fun n => 0), (Value.slice none 0 0)), (bS (a := (0, [])) (b := c6 to g.1) (fun (z0 : (Int) × (List ((Int) × (Int)))) (z1 : Int) => Ending.returned (Value.tuple (List.toArray [Value.agg (List.toArray [Value.int .i64 z0.1, Value.slice none 0 0]), Value.int .i64 z1]))) e0 e1), hbase.fresh _, ((congrArg (fun (z : (Int) × (List ((Int) × (Int)))) => z.2) e0) ▸ Ow.nil)⟩
 refine ah rfl (congrArg Bool.not (decide_eq_false p1)) ?_
 refine a7 ?_
 clear bx5
 refine a6 rfl ?_
 refine lv (Value.agg (List.toArray [Value.int .i64 0, Value.slice none 0 0])) rfl (bF (vs := []) rfl (by kernel_rfl)) ?_
 refine bL rfl ?_
 refine ag (cs' := [Value.int .i64 0, Value.slice none 0 0]) ct rfl rfl bx10 rfl (Nat.le_of_ble_eq_true rfl) (AllOne.all (.cons rfl (.cons rfl .nil))) rfl ?_
 intro w63 ch64 bx65
 clear bx10
 refine lv (Value.int .i64 2) rfl (bf rfl) ?_
 refine aa ?_
 refine al (vs := [Value.agg (List.toArray [Value.int .i64 0, Value.slice none 0 0]), Value.int .i64 2]) Try.func17 (.cell rfl (cF (ds := [Value.int .i64 0, Value.slice none 0 0]) ct bx65 rfl rfl) (.tmp rfl .nil)) ?_
 have C66 : aL (bM [2]) _ _ _ _ := (ch2.n).seq ((ch7.n).seq (ch64.l rfl))
 replace hbase := hbase.chg C66 (bg rfl)
 have e0 : ((0, []) : (Int) × (List ((Int) × (Int)))) = ((aA g to).1) := by
   first
     | (have ha : ∀ v ∈ to, 0 ≤ v ∧ v < g.1 := by rw [List.take_of_length_le (by omega)] at hinv; exact hinv
        simp only [aA, if_pos hmay]; rw [if_pos (by omega), if_pos ha, if_pos (by assumption)]
        simp only [ek]; rw [hi1, List.take_of_length_le (by omega), List.drop_eq_nil_of_le (by omega), List.append_nil]; done)
     | (have ha : ∀ v ∈ to, 0 ≤ v ∧ v < g.1 := by rw [List.take_of_length_le (by omega)] at hinv; exact hinv
        simp only [aA, if_pos hmay]; rw [if_pos (by omega), if_pos ha, if_pos (by assumption)]; done)
     | (have ha : ∀ v ∈ to, 0 ≤ v ∧ v < g.1 := by rw [List.take_of_length_le (by omega)] at hinv; exact hinv
        simp only [aA, if_pos hmay]; rw [if_pos (by omega), if_pos ha, if_neg (by assumption)]; done)
     | (have ha : ¬ ∀ v ∈ to, 0 ≤ v ∧ v < g.1 := fun h => by have := h _ (aV (xs := to) (i := (k : Int)) (by omega) (by assumption)); omega
        simp only [aA, if_pos hmay]; rw [if_pos (by omega), if_neg ha]; done)
     | (simp only [aA, if_pos hmay]; rw [if_neg (by omega)]; done)
 have e1 : (2 : Int) = ((aA g to).2) := by
   first
     | (have ha : ∀ v ∈ to, 0 ≤ v ∧ v < g.1 := by rw [List.take_of_length_le (by omega)] at hinv; exact hinv
        simp only [aA, if_pos hmay]; rw [if_pos (by omega), if_pos ha, if_pos (by assumption)]
        simp only [ek]; rw [hi1, List.take_of_length_le (by omega), List.drop_eq_nil_of_le (by omega), List.append_nil]; done)
     | (have ha : ∀ v ∈ to, 0 ≤ v ∧ v < g.1 := by rw [List.take_of_length_le (by omega)] at hinv; exact hinv
        simp only [aA, if_pos hmay]; rw [if_pos (by omega), if_pos ha, if_pos (by assumption)]; done)
     | (have ha : ∀ v ∈ to, 0 ≤ v ∧ v < g.1 := by rw [List.take_of_length_le (by omega)] at hinv; exact hinv
        simp only [aA, if_pos hmay]; rw [if_pos (by omega), if_pos ha, if_neg (by assumption)]; done)
     | (have ha : ¬ ∀ v ∈ to, 0 ≤ v ∧ v < g.1 := fun h => by have := h _ (aV (xs := to) (i := (k : Int)) (by omega) (by assumption)); omega
        simp only [aA, if_pos hmay]; rw [if_pos (by omega), if_neg ha]; done)
     | (simp only [aA, if_pos hmay]; rw [if_neg (by omega)]; done)
 exact ⟨(fin w0 g9 (fun n => 0), (Value.slice none 0 0)), (bS (a := (0, [])) (b := 2) (fun (z0 : (Int) × (List ((Int) × (Int)))) (z1 : Int) => Ending.returned (Value.tuple (List.toArray [Value.agg (List.toArray [Value.int .i64 z0.1, Value.slice none 0 0]), Value.int .i64 z1]))) e0 e1), hbase.fresh _, ((congrArg (fun (z : (Int) × (List ((Int) × (Int)))) => z.2) e0) ▸ Ow.nil)⟩
end TL
