/-
  TlRot: rotations: which may be, turned to their least, faces.
  By an AI agent.
-/
import Derived.Test.YtgaefcjhggdkcaaTlRef3
import Derived.Test.YtgaefcjhggdkcaaTlEq
set_option linter.all false
namespace TL
abbrev Rot := List (List Int)
/-- P9.1 -/
def RotP (g : Net) (r : Rot) : Prop := (r.length : Int) = g.1 ∧ (∀ v : Nat, v < r.length → ∀ h ∈ gI r (v : Int), (0 ≤ h ∧ h < 2 * (g.2.length : Int)) ∧ fromS g h = v) ∧ r.flatten.Nodup ∧ (r.flatten.length : Int) = 2 * g.2.length
instance (g : Net) (r : Rot) : Decidable (RotP g r) := by unfold RotP; infer_instance
def rmayR (g : Net) (r : Rot) : Int := if MayP g then if RotP g r then 0 else 4 else 1
theorem rmay_ok {g : Net} {r : Rot} (h : rmayR g r = 0) : MayP g ∧ RotP g r := by
  unfold rmayR at h
  by_cases h1 : MayP g
  · by_cases h2 : RotP g r
    · exact ⟨h1, h2⟩
    · rw [if_pos h1, if_neg h2] at h; cases h
  · rw [if_neg h1] at h; cases h
theorem rmay_yes {g : Net} {r : Rot} (h1 : MayP g) (h2 : RotP g r) : rmayR g r = 0 := by unfold rmayR; rw [if_pos h1, if_pos h2]
theorem rmay_no {g : Net} {r : Rot} (h1 : MayP g) (h2 : ¬ RotP g r) : rmayR g r = 4 := by unfold rmayR; rw [if_pos h1, if_neg h2]
theorem nodup_le {n : Int} {l : List Int} (h0 : 0 ≤ n) (hn : l.Nodup) (h : ∀ x ∈ l, 0 ≤ x ∧ x < n) : (l.length : Int) ≤ n := by
  have := pigeon n.toNat l hn (fun x hx => by have := h x hx; omega)
  omega
theorem flat_take_succ {r : Rot} {k : Nat} (hk : (k : Int) < r.length) : (r.take (k + 1)).flatten = (r.take k).flatten ++ gI r (k : Int) := by
  rw [take_succ_gI hk]; simp
/-- the half-edges that have come, P -/
structure RMInv (seen : List Bool) (P : List Int) (n : Int) : Prop where
  len : (seen.length : Int) = n
  seen : ∀ h, 0 ≤ h → h < n → gI seen h = decide (h ∈ P)
  nodup : P.Nodup
  rng : ∀ h ∈ P, 0 ≤ h ∧ h < n
theorem RMInv.start {n : Int} (hn : 0 ≤ n) : RMInv (List.replicate n.toNat false) [] n :=
  ⟨by simp; omega, fun h h0 h1 => by rw [gI_rep h0 (by omega)]; simp, by simp, by simp⟩
theorem RMInv.next {seen : List Bool} {P : List Int} {n h : Int} (hi : RMInv seen P n) (h0 : 0 ≤ h) (h1 : h < n) (hs : gI seen h = false) : RMInv (seen.set h.toNat true) (P ++ [h]) n := by
  have hl := hi.len
  have hn : h ∉ P := by
    have := hi.seen h h0 h1
    rw [hs] at this
    simpa using this.symm
  refine ⟨by simpa using hl, fun x hx0 hx1 => ?_, ?_, fun x hx => ?_⟩
  · rw [gI_set h0 (by omega) hx0]
    by_cases e : x = h
    · subst e; simp
    · rw [if_neg e, hi.seen x hx0 hx1]; simp [e]
  · rw [List.nodup_append]
    refine ⟨hi.nodup, by simp, fun a ha b hb => ?_⟩
    obtain rfl := List.mem_singleton.1 hb
    intro e; subst e; exact hn ha
  · rcases List.mem_append.1 hx with hx | hx
    · exact hi.rng x hx
    · obtain rfl := List.mem_singleton.1 hx; exact ⟨h0, h1⟩
theorem RMInv.bd {seen : List Bool} {P : List Int} {n : Int} (hi : RMInv seen P n) : (P.length : Int) ≤ n := nodup_le (by have := hi.len; omega) hi.nodup hi.rng
theorem RMInv.mem {seen : List Bool} {P : List Int} {n h : Int} (hi : RMInv seen P n) (h0 : 0 ≤ h) (h1 : h < n) (hs : gI seen h = true) : h ∈ P := by
  have := hi.seen h h0 h1
  rw [hs] at this
  simpa using this.symm
/-- May, as far as it is walked: k lists, and i of the next one -/
structure MayInv (seen : List Bool) (n : Int) (g : Net) (r : Rot) (k i : Nat) : Prop where
  rm : RMInv seen ((r.take k).flatten ++ (gI r (k : Int)).take i) (2 * (g.2.length : Int))
  n : n = (((r.take k).flatten ++ (gI r (k : Int)).take i).length : Int)
  ok : ∀ v : Nat, v < k → ∀ h ∈ gI r (v : Int), (0 ≤ h ∧ h < 2 * (g.2.length : Int)) ∧ fromS g h = v
  row : ∀ h ∈ (gI r (k : Int)).take i, (0 ≤ h ∧ h < 2 * (g.2.length : Int)) ∧ fromS g h = k
theorem MayInv.start (g : Net) (r : Rot) : MayInv (List.replicate (2 * (g.2.length : Int)).toNat false) 0 g r 0 0 :=
  ⟨by simpa using RMInv.start (n := 2 * (g.2.length : Int)) (by omega), by simp, fun v hv => by omega, by simp⟩
section
variable {seen : List Bool} {n : Int} {g : Net} {r : Rot} {k i : Nat}
theorem MayInv.bd (h : MayInv seen n g r k i) : 0 ≤ n ∧ n ≤ 2 * (g.2.length : Int) := by
  have h1 := h.rm.bd
  rw [h.n]
  exact ⟨by omega, h1⟩
theorem MayInv.next (h : MayInv seen n g r k i) (hi : (i : Int) < (gI r (k : Int)).length) (h0 : 0 ≤ gI (gI r (k : Int)) (i : Int)) (h1 : gI (gI r (k : Int)) (i : Int) < 2 * (g.2.length : Int)) (hs : gI seen (gI (gI r (k : Int)) (i : Int)) = false) (hf : fromS g (gI (gI r (k : Int)) (i : Int)) = k) :
    MayInv (seen.set (gI (gI r (k : Int)) (i : Int)).toNat true) (n + 1) g r k (i + 1) := by
  have e := take_succ_gI hi
  refine ⟨?_, ?_, h.ok, fun x hx => ?_⟩
  · rw [e, ← List.append_assoc]; exact h.rm.next h0 h1 hs
  · rw [e, ← List.append_assoc, List.length_append, h.n]; simp
  · rw [e] at hx
    rcases List.mem_append.1 hx with hx | hx
    · exact h.row x hx
    · obtain rfl := List.mem_singleton.1 hx; exact ⟨⟨h0, h1⟩, hf⟩
theorem MayInv.row_done (h : MayInv seen n g r k i) (hk : (k : Int) < r.length) (hi : ¬ (i : Int) < (gI r (k : Int)).length) : MayInv seen n g r (k + 1) 0 := by
  have e : (gI r (k : Int)).take i = gI r (k : Int) := List.take_of_length_le (by omega)
  have h1 := h.rm
  have h2 := h.n
  have h3 := h.row
  rw [e] at h1 h2 h3
  refine ⟨by rw [flat_take_succ hk]; simpa using h1, by rw [flat_take_succ hk]; simpa using h2, fun v hv x hx => ?_, by simp⟩
  by_cases hvk : v = k
  · subst hvk; exact h3 x hx
  · exact h.ok v (by omega) x hx
theorem MayInv.bad (h : MayInv seen n g r k i) (hk : (k : Int) < r.length) (hi : (i : Int) < (gI r (k : Int)).length) (hb : ¬ ((0 ≤ gI (gI r (k : Int)) (i : Int) ∧ gI (gI r (k : Int)) (i : Int) < 2 * (g.2.length : Int)) ∧ fromS g (gI (gI r (k : Int)) (i : Int)) = k)) : ¬ RotP g r := fun hr =>
  hb (hr.2.1 k (by omega) _ (gI_mem (by omega) hi))
theorem MayInv.twice (h : MayInv seen n g r k i) (hk : (k : Int) < r.length) (hi : (i : Int) < (gI r (k : Int)).length) (h0 : 0 ≤ gI (gI r (k : Int)) (i : Int)) (h1 : gI (gI r (k : Int)) (i : Int) < 2 * (g.2.length : Int)) (hs : gI seen (gI (gI r (k : Int)) (i : Int)) = true) : ¬ RotP g r := fun hr => by
  have hm := h.rm.mem h0 h1 hs
  have hn := hr.2.2.1
  have hsub : List.Sublist ((r.take k).flatten ++ (gI r (k : Int)).take i ++ [gI (gI r (k : Int)) (i : Int)]) r.flatten := by
    rw [List.append_assoc, ← take_succ_gI hi]
    have e1 : r = r.take (k + 1) ++ r.drop (k + 1) := (List.take_append_drop _ _).symm
    have e2 : r.flatten = (r.take (k + 1)).flatten ++ (r.drop (k + 1)).flatten := by rw [← List.flatten_append, ← e1]
    rw [e2, flat_take_succ hk]
    exact (List.Sublist.append_left (List.take_sublist _ _) _).trans (List.sublist_append_left _ _)
  have := hn.sublist hsub
  rw [List.nodup_append] at this
  exact this.2.2 _ hm _ (by simp) rfl
theorem MayInv.fin (h : MayInv seen n g r k i) (hl : (r.length : Int) = g.1) (hk : k = r.length) (hi : i = 0) : RotP g r ↔ n = 2 * (g.2.length : Int) := by
  subst hk hi
  have h1 := h.rm
  have h2 := h.n
  simp only [List.take_zero, List.append_nil, List.take_length] at h1 h2
  rw [h2]
  exact ⟨fun hr => hr.2.2.2, fun e => ⟨hl, h.ok, h1.nodup, e⟩⟩
end
/-! turned to the least -/
def turnS (l : List Int) : List Int := if l = [] then [] else l.drop (l.idxOf (minL l)) ++ l.take (l.idxOf (minL l))
def canonS (r : Rot) : Rot := r.map turnS
def mirrorS (r : Rot) : Rot := canonS (r.map List.reverse)
def idxS (s : List Int) (v : Int) : Int := if v ∈ s then (s.idxOf v : Int) else -1
theorem idxS_yes {s : List Int} {v : Int} {i : Nat} (h : ∀ j : Nat, j < i → ¬ v = gI s (j : Int)) (hi : (i : Int) < s.length) (he : v = gI s (i : Int)) : (i : Int) = idxS s v := by
  have hlt : i < s.length := by omega
  have e : gI s (i : Int) = s[i] := by simp [gI, hlt]
  have hm : v ∈ s := by rw [he]; exact gI_mem (by omega) hi
  unfold idxS
  rw [if_pos hm]
  have hlt2 := List.idxOf_lt_length_iff.2 hm
  have h1 : ¬ s.idxOf v < i := fun hlt' => h _ hlt' (by simp [gI, hlt2])
  have h2 : ¬ i < s.idxOf v := fun hlt' => by
    have := List.not_of_lt_findIdx (xs := s) (p := (· == v)) (i := i) hlt'
    simp at this
    exact this (by rw [← e, ← he])
  omega
theorem idxS_no {s : List Int} {v : Int} {i : Nat} (h : ∀ j : Nat, j < i → ¬ v = gI s (j : Int)) (hi : ¬ (i : Int) < s.length) : (-1 : Int) = idxS s v := by
  unfold idxS
  rw [if_neg]
  intro hm
  obtain ⟨j, hj, e⟩ := List.mem_iff_getElem.1 hm
  exact h j (by omega) (by simp [gI, hj, e])
theorem foldl_min_mem : ∀ (l : List Int) (a : Int), l.foldl min a = a ∨ l.foldl min a ∈ l
  | [], a => .inl rfl
  | x :: l, a => by
    simp only [List.foldl_cons]
    rcases foldl_min_mem l (min a x) with h | h
    · rw [h]
      rcases Int.le_total a x with h1 | h1
      · rw [Int.min_eq_left h1]; exact .inl rfl
      · rw [Int.min_eq_right h1]; exact .inr (by simp)
    · exact .inr (by simp [h])
theorem foldl_min_le : ∀ (l : List Int) (a : Int), l.foldl min a ≤ a ∧ ∀ x ∈ l, l.foldl min a ≤ x
  | [], a => ⟨Int.le_refl _, by simp⟩
  | y :: l, a => by
    obtain ⟨h1, h2⟩ := foldl_min_le l (min a y)
    simp only [List.foldl_cons]
    refine ⟨by omega, fun x hx => ?_⟩
    rcases List.mem_cons.1 hx with rfl | hx
    · omega
    · exact h2 x hx
theorem minL_eq {l : List Int} (hl : l ≠ []) : minL l = (l.drop 1).foldl min (gI l 0) := by
  unfold minL minK; rw [List.take_length]
theorem minL_mem {l : List Int} (hl : l ≠ []) : minL l ∈ l := by
  rw [minL_eq hl]
  cases l with
  | nil => exact absurd rfl hl
  | cons a l =>
    simp only [List.drop_succ_cons, List.drop_zero]
    rcases foldl_min_mem l (gI (a :: l) 0) with h | h
    · rw [h]; simp [gI]
    · exact List.mem_cons_of_mem _ h
theorem minL_le {l : List Int} (hl : l ≠ []) {x : Int} (hx : x ∈ l) : minL l ≤ x := by
  rw [minL_eq hl]
  cases l with
  | nil => exact absurd rfl hl
  | cons a l =>
    simp only [List.drop_succ_cons, List.drop_zero]
    obtain ⟨h1, h2⟩ := foldl_min_le l (gI (a :: l) 0)
    rcases List.mem_cons.1 hx with rfl | hx
    · simpa [gI] using h1
    · exact h2 x hx
theorem turnS_idx {l : List Int} (hl : l ≠ []) : turnS l = l.drop (idxS l (minL l)).toNat ++ l.take (idxS l (minL l)).toNat ∧ 0 ≤ idxS l (minL l) ∧ idxS l (minL l) < l.length := by
  have hm := minL_mem hl
  unfold turnS idxS
  rw [if_neg hl, if_pos hm]
  have := List.idxOf_lt_length_iff.2 hm
  exact ⟨by simp, by omega, by omega⟩
/-- the document's way to the least -/
structure TurnInv (at_ : Int) (l : List Int) (i : Nat) : Prop where
  lo : 0 ≤ at_
  hi : at_ < l.length ∨ at_ = 0 ∧ l = []
  le : ∀ q : Nat, q < i → q < l.length → gI l at_ ≤ gI l (q : Int)
  lt : ∀ q : Nat, (q : Int) < at_ → gI l at_ < gI l (q : Int)
theorem TurnInv.start (l : List Int) : TurnInv 0 l 0 := by
  refine ⟨by omega, ?_, fun q hq => by omega, fun q hq => by omega⟩
  cases l with
  | nil => exact .inr ⟨rfl, rfl⟩
  | cons a l => left; simp
theorem TurnInv.yes {at_ : Int} {l : List Int} {i : Nat} (h : TurnInv at_ l i) (hi : (i : Int) < l.length) (hc : gI l (i : Int) < gI l at_) : TurnInv (i : Int) l (i + 1) :=
  ⟨by omega, .inl hi, fun q hq hl => by
    by_cases e : q = i
    · subst e; omega
    · have := h.le q (by omega) hl; omega, fun q hq => by
    have := h.le q (by omega) (by omega); omega⟩
theorem TurnInv.no {at_ : Int} {l : List Int} {i : Nat} (h : TurnInv at_ l i) (hc : ¬ gI l (i : Int) < gI l at_) : TurnInv at_ l (i + 1) :=
  ⟨h.lo, h.hi, fun q hq hl => by
    by_cases e : q = i
    · subst e; omega
    · exact h.le q (by omega) hl, h.lt⟩
theorem TurnInv.done {at_ : Int} {l : List Int} {i : Nat} (h : TurnInv at_ l i) (hi : ¬ (i : Int) < l.length) : l.drop at_.toNat ++ l.take at_.toNat = turnS l := by
  rcases h.hi with hh | ⟨rfl, rfl⟩
  · have hl : l ≠ [] := fun e => by subst e; simp at hh; have := h.lo; omega
    obtain ⟨e1, e2, e3⟩ := turnS_idx hl
    have hlo := h.lo
    have hmin : minL l = gI l at_ := by
      have h1 := minL_le hl (gI_mem (xs := l) hlo hh)
      obtain ⟨j, hj, ej⟩ := List.mem_iff_getElem.1 (minL_mem hl)
      have h2 := h.le j (by omega) hj
      have e : gI l (j : Int) = l[j] := by simp [gI, hj]
      rw [e, ej] at h2
      omega
    have hat : idxS l (minL l) = at_ := by
      have := idxS_yes (s := l) (v := minL l) (i := at_.toNat) (fun j hj => by
        rw [hmin]
        have := h.lt j (by omega)
        omega) (by omega) (by rw [hmin, show ((at_.toNat : Nat) : Int) = at_ by omega])
      omega
    rw [e1, hat]
  · simp [turnS]
end TL
namespace TL
theorem map_next {α β : Type} [Inhabited α] {f : α → β} {r : List α} {k : Nat} {d y : β} (hk : (k : Int) < r.length) (hy : y = f (gI r (k : Int))) : (List.map f (List.take k r) ++ List.replicate (r.length - k) d).set (k : Int).toNat y = List.map f (List.take (k + 1) r) ++ List.replicate (r.length - (k + 1)) d := by
  have hl : (List.map f (List.take k r)).length = k := by simp; omega
  have e : r.length - k = (r.length - (k + 1)) + 1 := by omega
  rw [e, List.replicate_succ, take_succ_gI hk, List.map_append, hy]
  simp only [Int.toNat_natCast]
  rw [List.set_append_right _ _ (by omega), hl]
  simp
theorem map_skip {α β : Type} [Inhabited α] {f : α → β} {r : List α} {k : Nat} {d : β} (hk : (k : Int) < r.length) (hy : f (gI r (k : Int)) = d) : (List.map f (List.take k r) ++ List.replicate (r.length - k) d) = List.map f (List.take (k + 1) r) ++ List.replicate (r.length - (k + 1)) d := by
  have e : r.length - k = (r.length - (k + 1)) + 1 := by omega
  rw [e, List.replicate_succ, take_succ_gI hk, List.map_append, List.map_cons, hy]
  simp
def sameR (g : Net) (a b : Rot) : Bool × Int :=
  if rmayR g a = 0 then if rmayR g b = 0 then (decide (canonS a = canonS b), 0) else (false, rmayR g b) else (false, rmayR g a)
end TL
