/-
  TlNet2: nets copied, renamed, moved, joined, split, merged: what they come to.
  By an AI agent.
-/
import Derived.Test.YtifpjbjhkabhgaaTlNet
set_option linter.all false
namespace TL
/-- both ends by a list of numbers -/
def renS (to : List Int) (e : Int × Int) : Int × Int := (gI to e.1, gI to e.2)
def renR (g : Net) (to : List Int) (n : Int) : Net := (n, g.2.map (renS to))
/-- the list behind k of its edges turned -/
theorem ren_next {l : List (Int × Int)} {to : List Int} {k : Nat} (hk : (k : Int) < l.length) {a b : Int} (ha : a = gI to (gI l k).1) (hb : b = gI to (gI l k).2) :
    ((l.take k).map (renS to) ++ l.drop k).set k (a, b) = (l.take (k + 1)).map (renS to) ++ l.drop (k + 1) := by
  have hk' : k < l.length := by omega
  have e1 : gI l (k : Int) = l[k] := by simp [gI, hk']
  have hlen : ((l.take k).map (renS to)).length = k := by simp; omega
  rw [List.set_append_right _ _ (by omega), hlen, Nat.sub_self, List.drop_eq_getElem_cons hk', List.set_cons_zero, List.take_succ_eq_append_getElem hk', List.map_append, List.append_assoc]
  congr 1
  simp [renS, ha, hb, e1]
theorem ren_gI {l : List (Int × Int)} {to : List Int} {k : Nat} (hk : (k : Int) < l.length) : gI ((l.take k).map (renS to) ++ l.drop k) (k : Int) = gI l k := by
  have hk' : k < l.length := by omega
  have hlen : ((l.take k).map (renS to)).length = k := by simp; omega
  unfold gI
  simp only [Int.toNat_natCast, List.getD_eq_getElem?_getD]
  rw [List.getElem?_append_right (by omega), hlen, Nat.sub_self, List.getElem?_drop, Nat.add_zero]
theorem ren_len {l : List (Int × Int)} {to : List Int} {k : Nat} (hk : k ≤ l.length) : ((l.take k).map (renS to) ++ l.drop k).length = l.length := by
  simp; omega
def movedR (g : Net) (to : List Int) : Net × Int :=
  if MayP g then
    if (to.length : Int) = g.1 then
      if ∀ v ∈ to, 0 ≤ v ∧ v < g.1 then
        if chosenS to g.1 = 0 then (renR g to g.1, 0) else ((0, []), chosenS to g.1)
      else ((0, []), 2)
    else ((0, []), 2)
  else ((0, []), 1)
end TL
namespace TL
def shiftE (n : Int) (e : Int × Int) : Int × Int := (e.1 + n, e.2 + n)
def joinR (a b : Net) : Net × Int :=
  if MayP a ∧ MayP b then
    if a.1 + b.1 ≤ 1024 ∧ a.2.length + b.2.length ≤ 3072 then ((a.1 + b.1, a.2 ++ b.2.map (shiftE a.1)), 0) else ((0, []), 3)
  else ((0, []), 1)
theorem join_may {a b : Net} (ha : MayP a) (hb : MayP b) : MayP (a.1 + b.1, a.2 ++ b.2.map (shiftE a.1)) ↔ a.1 + b.1 ≤ 1024 ∧ a.2.length + b.2.length ≤ 3072 := by
  obtain ⟨a1, a2, a3, a4⟩ := ha
  obtain ⟨b1, b2, b3, b4⟩ := hb
  constructor
  · rintro ⟨h1, h2, h3, h4⟩
    simp at h3
    exact ⟨h2, h3⟩
  · rintro ⟨h1, h2⟩
    refine ⟨by show 0 ≤ a.1 + b.1; omega, h1, by simpa using h2, fun e he => ?_⟩
    rcases List.mem_append.1 he with h | h
    · have := a4 e h
      unfold okE at this ⊢
      show (0 ≤ e.1 ∧ e.1 < a.1 + b.1) ∧ 0 ≤ e.2 ∧ e.2 < a.1 + b.1
      omega
    · obtain ⟨d, hd, rfl⟩ := List.mem_map.1 h
      have := b4 d hd
      unfold okE at this ⊢
      show (0 ≤ d.1 + a.1 ∧ d.1 + a.1 < a.1 + b.1) ∧ 0 ≤ d.2 + a.1 ∧ d.2 + a.1 < a.1 + b.1
      omega
/-- a list of numbers looked through, pair by pair -/
structure ChoInv (l : List Int) (n : Int) (k : Nat) : Prop where
  rest : chosenF n (l.drop k) (l.take k) = chosenS l n
theorem ChoInv.start (l : List Int) (n : Int) : ChoInv l n 0 := ⟨by simp [chosenS]⟩
theorem ChoInv.next {l : List Int} {n : Int} {k : Nat} (h : ChoInv l n k) (hk : (k : Int) < l.length) (h0 : 0 ≤ gI l k) (h1 : gI l k < n) (h2 : gI l k ∉ l.take k) : ChoInv l n (k + 1) := by
  refine ⟨?_⟩
  rw [← h.rest, drop_gI hk, take_succ_gI hk]
  simp only [chosenF]
  rw [if_neg (by omega), if_neg h2]
theorem ChoInv.bad {l : List Int} {n : Int} {k : Nat} (h : ChoInv l n k) (hk : (k : Int) < l.length) (h0 : gI l k < 0 ∨ n ≤ gI l k) : 2 = chosenS l n := by
  rw [← h.rest, drop_gI hk]
  simp only [chosenF]
  rw [if_pos h0]
theorem ChoInv.twice {l : List Int} {n : Int} {k : Nat} (h : ChoInv l n k) (hk : (k : Int) < l.length) (h0 : 0 ≤ gI l k) (h1 : gI l k < n) (h2 : gI l k ∈ l.take k) : 18 = chosenS l n := by
  rw [← h.rest, drop_gI hk]
  simp only [chosenF]
  rw [if_neg (by omega), if_pos h2]
theorem ChoInv.done {l : List Int} {n : Int} {k : Nat} (h : ChoInv l n k) (hk : ¬ (k : Int) < l.length) : 0 = chosenS l n := by
  rw [← h.rest, List.drop_eq_nil_of_le (by omega)]
  rfl
theorem mem_take_gI {l : List Int} {j i : Nat} (hj : j < i) (hi : (i : Int) < l.length) : gI l (j : Int) ∈ l.take i := by
  have h1 : j < l.length := by omega
  have : gI l (j : Int) = l[j] := by simp [gI, h1]
  rw [this, List.mem_take_iff_getElem]
  exact ⟨j, by omega, rfl⟩
end TL
