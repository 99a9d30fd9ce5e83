/-
  TlFacesW: what the loops over faces keep.
  By an AI agent.
-/
import Derived.Test.YtgaefcjhggdkcaaTlFaces
set_option linter.all false
namespace TL
/-- half-edges of faces seen: q faces, k half-edges of the next one -/
structure FcInv (g : Net) (L : Rot) (seen : List Bool) (count : Int) (q k : Nat) : Prop where
  rm : RMInv seen ((L.take q).flatten ++ (gI L (q : Int)).take k) (2 * (g.2.length : Int))
  num : count = (((L.take q).flatten ++ (gI L (q : Int)).take k).length : Int)
theorem FcInv.start (g : Net) (L : Rot) : FcInv g L (List.replicate (2 * (g.2.length : Int)).toNat false) 0 0 0 :=
  ⟨by simpa using RMInv.start (n := 2 * (g.2.length : Int)) (by omega), by simp⟩
section
variable {g : Net} {r L P : Rot} {seen : List Bool} {count : Int} {q k : Nat}
theorem FcInv.bd (h : FcInv g L seen count q k) : 0 ≤ count ∧ count ≤ 2 * (g.2.length : Int) := by
  have h1 := h.rm.bd
  rw [h.num]
  exact ⟨by omega, h1⟩
theorem FcInv.next (hr : RotP g r) (hL : L = facesS (nextS g r) r) (h : FcInv g L seen count q k) (hq : (q : Int) < L.length) (hk : (k : Int) < (gI L (q : Int)).length) :
    (0 ≤ gI (gI L (q : Int)) (k : Int) ∧ gI (gI L (q : Int)) (k : Int) < 2 * (g.2.length : Int)) ∧ (¬ gI seen (gI (gI L (q : Int)) (k : Int)) = true) ∧ (¬ gI (gI L (q : Int)) (k : Int) < gI (gI L (q : Int)) 0) ∧
    behS (gI r (toS g (gI (gI L (q : Int)) (k : Int)))) (twin (gI (gI L (q : Int)) (k : Int))) = gI (gI L (q : Int)) (((k : Int) + 1) % ((gI L (q : Int)).length : Int)) ∧
    FcInv g L (seen.set (gI (gI L (q : Int)) (k : Int)).toNat true) (count + 1) q (k + 1) := by
  subst hL
  have hf := gI_mem (xs := facesS (nextS g r) r) (i := (q : Int)) (by omega) hq
  have hxm := gI_mem (xs := gI (facesS (nextS g r) r) (q : Int)) (i := (k : Int)) (by omega) hk
  obtain ⟨a1, a2, a3⟩ := faces_all hr
  obtain ⟨b1, b2, b3⟩ := a3 _ hf
  have hx := facesS_in hr _ hf _ hxm
  have hseen : gI seen (gI (gI (facesS (nextS g r) r) (q : Int)) (k : Int)) = false := by
    rw [h.rm.seen _ hx.1 hx.2]
    refine decide_eq_false fun hm => ?_
    have hsub : List.Sublist (((facesS (nextS g r) r).take q).flatten ++ (gI (facesS (nextS g r) r) (q : Int)).take k ++ [gI (gI (facesS (nextS g r) r) (q : Int)) (k : Int)]) (facesS (nextS g r) r).flatten := by
      rw [List.append_assoc, ← take_succ_gI hk]
      have e1 : facesS (nextS g r) r = (facesS (nextS g r) r).take (q + 1) ++ (facesS (nextS g r) r).drop (q + 1) := (List.take_append_drop _ _).symm
      have e2 : (facesS (nextS g r) r).flatten = ((facesS (nextS g r) r).take (q + 1)).flatten ++ ((facesS (nextS g r) r).drop (q + 1)).flatten := by rw [← List.flatten_append, ← e1]
      rw [e2, flat_take_succ hq]
      exact (List.Sublist.append_left (List.take_sublist _ _) _).trans (List.sublist_append_left _ _)
    have := a1.sublist hsub
    rw [List.nodup_append] at this
    exact this.2.2 _ hm _ (by simp) rfl
  have e := take_succ_gI hk
  refine ⟨hx, by rw [hseen]; simp, Int.not_lt.2 (b1 _ hxm), face_behind hr hf hk, ?_, ?_⟩
  · rw [e, ← List.append_assoc]; exact h.rm.next hx.1 hx.2 hseen
  · rw [e, ← List.append_assoc, List.length_append, h.num]; simp
theorem FcInv.row_done (h : FcInv g L seen count q k) (hq : (q : Int) < L.length) (hk : ¬ (k : Int) < (gI L (q : Int)).length) : FcInv g L seen count (q + 1) 0 := by
  have e : (gI L (q : Int)).take k = gI L (q : Int) := List.take_of_length_le (by omega)
  have h1 := h.rm
  have h2 := h.num
  rw [e] at h1 h2
  exact ⟨by rw [flat_take_succ hq]; simpa using h1, by rw [flat_take_succ hq]; simpa using h2⟩
theorem FcInv.done (hr : RotP g r) (hL : L = facesS (nextS g r) r) (h : FcInv g L seen count q 0) (hq : ¬ (q : Int) < L.length) : count = 2 * (g.2.length : Int) := by
  have h2 := h.num
  rw [List.take_of_length_le (by omega)] at h2
  rw [h2, hL, ← (faces_all hr).2.1]
  simp
/-- how many faces of each length, told from one and taken from the other -/
structure LenInv (lens : List Int) (L P : Rot) (n : Int) (p : Nat) : Prop where
  len : (lens.length : Int) = n
  at_ : ∀ i : Nat, (i : Int) < n → gI lens (i : Int) = (((L.take p).map List.length).count i : Int) - (((P.take p).map List.length).count i : Int)
theorem LenInv.start (L P : Rot) {n : Int} (hn : 0 ≤ n) : LenInv (List.replicate n.toNat 0) L P n 0 :=
  ⟨by simp; omega, fun i hi => by rw [gI_rep (by omega) (by omega)]; simp⟩
variable {lens : List Int} {n : Int} {p : Nat}
theorem LenInv.bd (h : LenInv lens L P n p) {i : Nat} (hi : (i : Int) < n) : -(p : Int) ≤ gI lens (i : Int) ∧ gI lens (i : Int) ≤ p := by
  rw [h.at_ i hi]
  have h1 := List.count_le_length (a := i) (l := (L.take p).map List.length)
  have h2 := List.count_le_length (a := i) (l := (P.take p).map List.length)
  rw [List.length_map] at h1 h2
  have h3 := List.length_take_le p L
  have h4 := List.length_take_le p P
  omega
theorem gI_set_n {l : List Int} {a i : Nat} {y : Int} (ha : a < l.length) : gI (l.set a y) (i : Int) = if i = a then y else gI l (i : Int) := by
  have := gI_set (xs := l) (i := (a : Int)) (j := (i : Int)) (y := y) (by omega) (by omega) (by omega)
  rw [Int.toNat_natCast] at this
  rw [this]
  by_cases e : i = a
  · rw [if_pos e, if_pos (by omega)]
  · rw [if_neg e, if_neg (by omega)]
theorem LenInv.more (h : LenInv lens L P n p) {a b : Nat} (ha : (a : Int) < n) (hb : (b : Int) < n) : -(p : Int) ≤ gI (lens.set (Int.toNat (a : Int)) (gI lens (a : Int) + 1)) (b : Int) ∧ gI (lens.set (Int.toNat (a : Int)) (gI lens (a : Int) + 1)) (b : Int) ≤ p + 1 := by
  have hl := h.len
  have h1 := h.bd ha
  have h2 := h.bd hb
  rw [Int.toNat_natCast, gI_set_n (l := lens) (by omega)]
  split <;> omega
theorem LenInv.next (h : LenInv lens L P n p) (hL : (p : Int) < L.length) (hP : (p : Int) < P.length) (ha : ((gI L (p : Int)).length : Int) < n) (hb : ((gI P (p : Int)).length : Int) < n) :
    LenInv ((lens.set (Int.toNat ((gI L (p : Int)).length : Int)) (gI lens ((gI L (p : Int)).length : Int) + 1)).set (Int.toNat ((gI P (p : Int)).length : Int)) (gI (lens.set (Int.toNat ((gI L (p : Int)).length : Int)) (gI lens ((gI L (p : Int)).length : Int) + 1)) ((gI P (p : Int)).length : Int) - 1)) L P n (p + 1) := by
  have hl := h.len
  simp only [Int.toNat_natCast]
  refine ⟨by simpa using hl, fun i hi => ?_⟩
  rw [gI_set_n (by rw [List.length_set]; omega), gI_set_n (l := lens) (by omega), gI_set_n (l := lens) (by omega), take_succ_gI hL, take_succ_gI hP, List.map_append, List.map_append, List.count_append, List.count_append, List.map_singleton, List.map_singleton, List.count_singleton, List.count_singleton]
  have h0 := h.at_ i hi
  have h1 := h.at_ (gI L (p : Int)).length ha
  have h2 := h.at_ (gI P (p : Int)).length hb
  by_cases e1 : i = (gI P (p : Int)).length
  · rw [if_pos e1]
    by_cases e2 : (gI P (p : Int)).length = (gI L (p : Int)).length
    · rw [if_pos e2]
      have e3 : i = (gI L (p : Int)).length := by omega
      simp only [← e1, ← e3, beq_self_eq_true, if_true] at *
      omega
    · rw [if_neg e2]
      have e3 : ((gI L (p : Int)).length == i) = false := by simp; omega
      have e4 : ((gI P (p : Int)).length == i) = true := by simp; omega
      rw [e3, e4, ← e1]
      simp only [Bool.false_eq_true, if_false, if_true]
      omega
  · rw [if_neg e1]
    have e4 : ((gI P (p : Int)).length == i) = false := by simp; omega
    by_cases e2 : i = (gI L (p : Int)).length
    · rw [if_pos e2]
      have e3 : ((gI L (p : Int)).length == i) = true := by simp; omega
      rw [e3, e4, ← e2]
      simp only [Bool.false_eq_true, if_false, if_true]
      omega
    · rw [if_neg e2]
      have e3 : ((gI L (p : Int)).length == i) = false := by simp; omega
      rw [e3, e4]
      simp only [Bool.false_eq_true, if_false]
      omega
theorem LenInv.done (h : LenInv lens L P n p) (hp : List.Perm (P.map List.length) (L.map List.length)) (hL : ¬ (p : Int) < L.length) {i : Nat} (hi : (i : Int) < n) : gI lens (i : Int) = 0 := by
  have h1 := hp.length_eq
  rw [List.length_map, List.length_map] at h1
  rw [h.at_ i hi, List.take_of_length_le (by omega), List.take_of_length_le (by omega), hp.count_eq]
  omega
/-- all that RotFaces asks of a rotation -/
theorem faces_nums (hm : MayP g) (hr : RotP g r) : (facesR g r).1 = facesS (nextS g r) r ∧ (g.1 - (g.2.length : Int) + ((facesR g r).1.length : Int) = 2 * (partsR g).2.1 - 2 * (genusR g r).1 ∧ 0 ≤ (genusR g r).1) ∧ (∀ q : Nat, (q : Int) < (facesR g r).1.length → ((gI (facesR g r).1 (q : Int)).length : Int) < 2 * (g.2.length : Int) + 1) ∧ ((facesR g r).1.length : Int) ≤ r.length + 2 * (g.2.length : Int) := by
  have e : (facesR g r).1 = facesS (nextS g r) r := by unfold facesR; rw [if_pos (rmay_yes hm hr)]
  obtain ⟨h1, h2, _⟩ := genus_num hm hr
  have h3 := facesS_len (nextS g r) r
  have h4 := nextS_len g r
  rw [e]
  refine ⟨rfl, ⟨h1, h2⟩, fun q hq => ?_, by omega⟩
  have := face_len hr (gI_mem (xs := facesS (nextS g r) r) (i := (q : Int)) (by omega) hq)
  omega
theorem mir_nums (hm : MayP g) (hr : RotP g r) : ((facesR g (mirrorR g r).1).1.length = (facesR g r).1.length ∧ (genusR g (mirrorR g r).1).1 = (genusR g r).1 ∧ (mirrorR g (mirrorR g r).1).1 = (canonR g r).1 ∧ List.Perm ((facesR g (mirrorR g r).1).1.map List.length) ((facesR g r).1.map List.length)) ∧ (∀ q : Nat, (q : Int) < (facesR g (mirrorR g r).1).1.length → ((gI (facesR g (mirrorR g r).1).1 (q : Int)).length : Int) < 2 * (g.2.length : Int) + 1) := by
  have e : (mirrorR g r).1 = mirrorS r := by unfold mirrorR; rw [if_pos (rmay_yes hm hr)]
  have h := mir_all hm hr
  rw [e] at h ⊢
  exact ⟨h, (faces_nums hm (mir_RotP hr)).2.2.1⟩
theorem facesR_bad (h : ¬ (facesR g r).2 = 0) : (facesR g r).1 = [] := by
  unfold facesR at h ⊢
  by_cases c : rmayR g r = 0
  · rw [if_pos c] at h; exact absurd rfl h
  · rw [if_neg c]
theorem facesR_may (h : (facesR g r).2 = 0) : rmayR g r = 0 := by
  unfold facesR at h
  by_cases c : rmayR g r = 0
  · exact c
  · rw [if_neg c] at h; exact h
end
end TL
