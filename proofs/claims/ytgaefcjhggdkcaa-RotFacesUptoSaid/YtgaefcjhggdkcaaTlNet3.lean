/-
  TlNet3: nets split, merged, bared: what they come to.
  By an AI agent.
-/
import Derived.Test.YtgaefcjhggdkcaaTlNetSums
set_option linter.all false
namespace TL
def splitR (g : Net) (e : Int) : Net × Int :=
  if MayP g then
    if 0 ≤ e ∧ e < (g.2.length : Int) then
      if g.1 < 1024 ∧ g.2.length < 3072 then ((g.1 + 1, g.2.set e.toNat ((gI g.2 e).1, g.1) ++ [(g.1, (gI g.2 e).2)]), 0) else ((0, []), 3)
    else ((0, []), 2)
  else ((0, []), 1)
/-- the new number of node w where v goes into u -/
def mergeN (u v w : Int) : Int := if w = v then (if v < u then u - 1 else u) else if v < w then w - 1 else w
def mergeTo (n u v : Int) : List Int := (iotaI n.toNat).map (mergeN u v)
def mergeR (g : Net) (u v : Int) : Net × List Int × Int :=
  if MayP g then
    if (0 ≤ u ∧ u < g.1) ∧ 0 ≤ v ∧ v < g.1 then
      if u = v then ((0, []), [], 1) else (renR g (mergeTo g.1 u v) (g.1 - 1), mergeTo g.1 u v, 0)
    else ((0, []), [], 2)
  else ((0, []), [], 1)
/-- is edge i kept -/
def bareP (g : Net) (i : Int) : Bool := decide (¬ (gI g.2 i).1 = (gI g.2 i).2) && decide (¬ lvl (gI g.2 i) ∈ (g.2.map lvl).take i.toNat)
def bareK (g : Net) (k : Nat) : List Int := (iotaI k).filter (bareP g)
def bareR (g : Net) : Net × List Int × Int := if MayP g then ((g.1, (bareK g g.2.length).map (gI g.2)), bareK g g.2.length, 0) else ((0, []), [], 1)
theorem bareK_succ (g : Net) (k : Nat) : bareK g (k + 1) = if bareP g k = true then bareK g k ++ [(k : Int)] else bareK g k := by
  unfold bareK
  rw [iota_succ, List.filter_append]
  by_cases h : bareP g (k : Int) = true
  · rw [if_pos h]; simp [h]
  · rw [if_neg h]; simp [h]
theorem bareK_len (g : Net) (k : Nat) : (bareK g k).length ≤ k := by
  unfold bareK
  have := List.length_filter_le (bareP g) (iotaI k)
  rw [iota_len] at this
  exact this
end TL
namespace TL
structure BareInv (left : List Int) (out : List (Int × Int)) (F : Int × Int → Int) (g : Net) (k : Nat) : Prop where
  left : left = bareK g k
  out : out = (bareK g k).map (gI g.2)
  seen : ∀ q, F q = (((g.2.map lvl).take k).count q : Nat)
theorem BareInv.start (g : Net) : BareInv [] [] (fun _ => 0) g 0 := ⟨rfl, rfl, fun q => by simp⟩
section
variable {left : List Int} {out : List (Int × Int)} {F : Int × Int → Int} {g : Net} {k : Nat}
theorem BareInv.bd (h : BareInv left out F g k) : left.length ≤ k ∧ out.length ≤ k ∧ ∀ q, 0 ≤ F q ∧ F q ≤ k := by
  refine ⟨by rw [h.left]; exact bareK_len g k, by rw [h.out, List.length_map]; exact bareK_len g k, fun q => ?_⟩
  rw [h.seen]
  have h1 := List.count_le_length (a := q) (l := (g.2.map lvl).take k)
  have h2 : ((g.2.map lvl).take k).length ≤ k := List.length_take_le _ _
  omega
theorem BareInv.seen_next (h : BareInv left out F g k) (hk : (k : Int) < g.2.length) (q : Int × Int) : (if q = lvl (gI g.2 k) then F (lvl (gI g.2 k)) + 1 else F q) = (((g.2.map lvl).take (k + 1)).count q : Nat) := by
  rw [map_take_succ hk, List.count_append, h.seen, h.seen]
  by_cases h2 : q = lvl (gI g.2 (k : Int))
  · subst h2; simp
  · have h3 : ¬ lvl (gI g.2 (k : Int)) = q := fun h => h2 h.symm
    simp [h2, h3]
theorem BareInv.none_iff (h : BareInv left out F g k) : F (lvl (gI g.2 k)) = 0 ↔ ¬ lvl (gI g.2 k) ∈ (g.2.map lvl).take k := by
  rw [h.seen, ← List.count_eq_zero]; omega
theorem BareInv.take (h : BareInv left out F g k) (hk : (k : Int) < g.2.length) (c1 : ¬ (gI g.2 k).1 = (gI g.2 k).2) (c2 : F (min (gI g.2 k).1 (gI g.2 k).2, max (gI g.2 k).1 (gI g.2 k).2) = 0) :
    BareInv (left ++ [(k : Int)]) (out ++ [gI g.2 k]) (fun q => if q = (min (gI g.2 k).1 (gI g.2 k).2, max (gI g.2 k).1 (gI g.2 k).2) then F (min (gI g.2 k).1 (gI g.2 k).2, max (gI g.2 k).1 (gI g.2 k).2) + 1 else F q) g (k + 1) := by
  have hp : bareP g (k : Int) = true := by
    unfold bareP
    have := h.none_iff.1 c2
    simp only [Int.toNat_natCast, Bool.and_eq_true, decide_eq_true_eq]
    exact ⟨c1, this⟩
  refine ⟨by rw [bareK_succ, if_pos hp, h.left], by rw [bareK_succ, if_pos hp, h.out]; simp, fun q => h.seen_next hk q⟩
theorem BareInv.skip (h : BareInv left out F g k) (hk : (k : Int) < g.2.length) (c : (gI g.2 k).1 = (gI g.2 k).2 ∨ ¬ F (min (gI g.2 k).1 (gI g.2 k).2, max (gI g.2 k).1 (gI g.2 k).2) = 0) :
    BareInv left out (fun q => if q = (min (gI g.2 k).1 (gI g.2 k).2, max (gI g.2 k).1 (gI g.2 k).2) then F (min (gI g.2 k).1 (gI g.2 k).2, max (gI g.2 k).1 (gI g.2 k).2) + 1 else F q) g (k + 1) := by
  have hp : ¬ bareP g (k : Int) = true := by
    unfold bareP
    simp only [Int.toNat_natCast, Bool.and_eq_true, decide_eq_true_eq]
    rintro ⟨c1, c3⟩
    rcases c with c | c
    · exact c1 c
    · exact c (h.none_iff.2 c3)
  exact ⟨by rw [bareK_succ, if_neg hp, h.left], by rw [bareK_succ, if_neg hp, h.out], fun q => h.seen_next hk q⟩
end
/-- the merge's numbers, as far as they are laid -/
structure MrgInv (T : List Int) (n v : Int) (k : Nat) : Prop where
  len : (T.length : Int) = n
  at_ : ∀ w : Int, 0 ≤ w → w < k → gI T w = if v < w then w - 1 else w
theorem MrgInv.start {n v : Int} (h : 0 ≤ n) : MrgInv (List.replicate n.toNat 0) n v 0 := ⟨by simp; omega, fun w h0 h1 => by omega⟩
theorem MrgInv.no {T : List Int} {n v : Int} {k : Nat} (h : MrgInv T n v k) (hk : (k : Int) < n) (hv : ¬ v < (k : Int)) : MrgInv (T.set ((k : Int)).toNat (k : Int)) n v (k + 1) := by
  have hl := h.len
  refine ⟨by simpa using hl, fun w h0 h1 => ?_⟩
  rw [gI_set (by omega) (by omega) h0]
  by_cases e : w = k
  · subst e; rw [if_pos rfl, if_neg hv]
  · rw [if_neg e]; exact h.at_ w h0 (by omega)
theorem MrgInv.yes {T : List Int} {n v : Int} {k : Nat} (h : MrgInv T n v k) (hk : (k : Int) < n) (hv : v < (k : Int)) : MrgInv ((T.set ((k : Int)).toNat (k : Int)).set ((k : Int)).toNat ((k : Int) - 1)) n v (k + 1) := by
  have hl := h.len
  refine ⟨by simpa using hl, fun w h0 h1 => ?_⟩
  rw [gI_set (by omega) (by simp; omega) h0, gI_set (by omega) (by omega) h0]
  by_cases e : w = k
  · subst e; rw [if_pos rfl, if_pos hv]
  · rw [if_neg e, if_neg e]; exact h.at_ w h0 (by omega)
theorem MrgInv.done {T : List Int} {n u v : Int} {k : Nat} (h : MrgInv T n v k) (hk : (k : Int) = n) (hu : 0 ≤ u ∧ u < n) (hv : 0 ≤ v ∧ v < n) (huv : ¬ u = v) : T.set v.toNat (gI T u) = mergeTo n u v := by
  have hl := h.len
  apply list_ext_gI
  · simp [mergeTo, iota_len]; omega
  · intro i hi
    have hi2 : (i : Int) < n := by simp at hi; omega
    have hi0 : (0 : Int) ≤ (i : Int) := by omega
    rw [gI_set hv.1 (by omega) hi0]
    unfold mergeTo
    rw [gI_map _ hi0 (by rw [iota_len]; omega), iota_gI hi0 (by omega)]
    unfold mergeN
    by_cases e : (i : Int) = v
    · rw [if_pos e, if_pos e, h.at_ u hu.1 (by omega)]
    · rw [if_neg e, if_neg e, h.at_ _ hi0 (by omega)]
theorem mergeTo_len {n u v : Int} (h : 0 ≤ n) : ((mergeTo n u v).length : Int) = n := by simp [mergeTo, iota_len]; omega
end TL
