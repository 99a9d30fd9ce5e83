/-
  TlNet2: nets copied, renamed, moved, joined, split, merged: what they come to.
  By an AI agent.
-/
import Derived.Test.YtklfjhklnlpdgaaTlNet
set_option linter.all false
namespace TL
/-- both ends by a list of numbers -/
def renS (to : List Int) (e : Int × Int) : Int × Int := (gI to e.1, gI to e.2)
def renR (g : Net) (to : List Int) (n : Int) : Net := (n, g.2.map (renS to))
/-- the list behind k of its edges turned -/
theorem ren_next {l : List (Int × Int)} {to : List Int} {k : Nat} (hk : (k : Int) < l.length) {a b : Int} (ha : a = gI to (gI l k).1) (hb : b = gI to (gI l k).2) :
    ((l.take k).map (renS to) ++ l.drop k).set k (a, b) = (l.take (k + 1)).map (renS to) ++ l.drop (k + 1) := by
  have hk' : k < l.length := by omega
  have e1 : gI l (k : Int) = l[k] := by simp [gI, hk']
  have hlen : ((l.take k).map (renS to)).length = k := by simp; omega
  rw [List.set_append_right _ _ (by omega), hlen, Nat.sub_self, List.drop_eq_getElem_cons hk', List.set_cons_zero, List.take_succ_eq_append_getElem hk', List.map_append, List.append_assoc]
  congr 1
  simp [renS, ha, hb, e1]
theorem ren_gI {l : List (Int × Int)} {to : List Int} {k : Nat} (hk : (k : Int) < l.length) : gI ((l.take k).map (renS to) ++ l.drop k) (k : Int) = gI l k := by
  have hk' : k < l.length := by omega
  have hlen : ((l.take k).map (renS to)).length = k := by simp; omega
  unfold gI
  simp only [Int.toNat_natCast, List.getD_eq_getElem?_getD]
  rw [List.getElem?_append_right (by omega), hlen, Nat.sub_self, List.getElem?_drop, Nat.add_zero]
theorem ren_len {l : List (Int × Int)} {to : List Int} {k : Nat} (hk : k ≤ l.length) : ((l.take k).map (renS to) ++ l.drop k).length = l.length := by
  simp; omega
def movedR (g : Net) (to : List Int) : Net × Int :=
  if MayP g then
    if (to.length : Int) = g.1 then
      if ∀ v ∈ to, 0 ≤ v ∧ v < g.1 then
        if chosenS to g.1 = 0 then (renR g to g.1, 0) else ((0, []), chosenS to g.1)
      else ((0, []), 2)
    else ((0, []), 2)
  else ((0, []), 1)
end TL
