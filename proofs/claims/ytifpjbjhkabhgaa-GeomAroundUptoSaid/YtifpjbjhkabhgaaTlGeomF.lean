/-
  TlGeomF: the document's way to tell how two segments meet: by the ends that both have.
  By an AI agent.
-/
import Derived.Test.YtifpjbjhkabhgaaTlGeomB
set_option linter.all false
namespace TL
def comL (a b c d : Pt) (ends : List Pt) : Nat → List Pt
  | 0 => []
  | k + 1 => if bothP a b c d (gI ends (k : Int)) ∧ gI ends (k : Int) ∉ comL a b c d ends k then comL a b c d ends k ++ [gI ends (k : Int)] else comL a b c d ends k
def refM (a b c d : Pt) : Int := if crossP a b c d then 1 else if (comL a b c d [a, b, c, d] 4).length = 0 then 0 else if (comL a b c d [a, b, c, d] 4).length = 1 then 2 else 3
section
variable {a b c d : Pt} {ends : List Pt}
theorem comL_len : ∀ k : Nat, (comL a b c d ends k).length ≤ k
  | 0 => by simp [comL]
  | k + 1 => by
    have := comL_len k
    unfold comL
    split
    · simp; omega
    · omega
theorem comL_nodup : ∀ k : Nat, (comL a b c d ends k).Nodup
  | 0 => by simp [comL]
  | k + 1 => by
    have := comL_nodup k
    unfold comL
    split
    · rename_i h
      rw [List.nodup_append]
      refine ⟨this, by simp, fun x hx y hy e => ?_⟩
      obtain rfl := List.mem_singleton.1 hy
      rw [e] at hx; exact h.2 hx
    · exact this
theorem comL_mem : ∀ {k : Nat} {e : Pt}, e ∈ comL a b c d ends k ↔ (∃ j : Nat, j < k ∧ gI ends (j : Int) = e) ∧ bothP a b c d e
  | 0, e => by simp [comL]
  | k + 1, e => by
    have ih := comL_mem (k := k) (e := e)
    unfold comL
    constructor
    · intro h
      split at h
      · rename_i hc
        rcases List.mem_append.1 h with h | h
        · obtain ⟨⟨j, hj, e1⟩, h2⟩ := ih.1 h
          exact ⟨⟨j, by omega, e1⟩, h2⟩
        · obtain rfl := List.mem_singleton.1 h
          exact ⟨⟨k, by omega, rfl⟩, hc.1⟩
      · obtain ⟨⟨j, hj, e1⟩, h2⟩ := ih.1 h
        exact ⟨⟨j, by omega, e1⟩, h2⟩
    · rintro ⟨⟨j, hj, e1⟩, h2⟩
      by_cases hk : j = k
      · subst hk
        by_cases hm : gI ends (j : Int) ∈ comL a b c d ends j
        · rw [if_neg (fun h => h.2 hm), ← e1]; exact hm
        · rw [if_pos ⟨by rw [e1]; exact h2, hm⟩, ← e1]; simp
      · have := ih.2 ⟨⟨j, by omega, e1⟩, h2⟩
        split
        · simp [this]
        · exact this
theorem four_gI {e : Pt} : (∃ j : Nat, j < 4 ∧ gI [a, b, c, d] (j : Int) = e) ↔ e ∈ [a, b, c, d] := by
  constructor
  · rintro ⟨j, hj, rfl⟩
    exact gI_mem (by omega) (by simp; omega)
  · intro h
    obtain ⟨j, hj, rfl⟩ := List.mem_iff_getElem.1 h
    exact ⟨j, by simpa using hj, by unfold gI; rw [Int.toNat_natCast, List.getD_eq_getElem?_getD, List.getElem?_eq_getElem hj]; rfl⟩
theorem comL_step {k : Nat} {l : List Pt} (h : l = comL a b c d ends k) (h1 : bothP a b c d (gI ends (k : Int))) (h2 : gI ends (k : Int) ∉ l) : l ++ [gI ends (k : Int)] = comL a b c d ends (k + 1) := by
  rw [comL, if_pos ⟨h1, by rw [← h]; exact h2⟩, h]
theorem comL_not {k : Nat} {l : List Pt} (h : l = comL a b c d ends k) (h1 : ¬ bothP a b c d (gI ends (k : Int))) : l = comL a b c d ends (k + 1) := by
  rw [comL, if_neg (fun h' => h1 h'.1), h]
theorem comL_old {k : Nat} {l : List Pt} (h : l = comL a b c d ends k) (h2 : gI ends (k : Int) ∈ l) : l = comL a b c d ends (k + 1) := by
  rw [comL, if_neg (fun h' => h'.2 (by rw [← h]; exact h2)), h]
/-- the document's way is the code's -/
theorem ref_meet (ha : bdP a) (hb : bdP b) (hc : bdP c) (hd : bdP d) : refM a b c d = meetP a b c d := by
  have hm : ∀ e, e ∈ comL a b c d [a, b, c, d] 4 ↔ e ∈ [a, b, c, d] ∧ bothP a b c d e := fun e => by rw [comL_mem, four_gI]
  have hn := comL_nodup (a := a) (b := b) (c := c) (d := d) (ends := [a, b, c, d]) 4
  generalize hL : comL a b c d [a, b, c, d] 4 = L at hm hn
  unfold refM
  rw [hL]
  rcases meet_told ha hb hc hd with ⟨h1, h2, h3⟩ | ⟨h1, h2⟩ | ⟨h1, h2, ⟨e, he, hbe⟩, h4⟩ | ⟨h1, h2, e, he, e', he', hbb, hne⟩
  · have : L = [] := List.eq_nil_iff_forall_not_mem.2 fun e he => h3 e ((hm e).1 he).1 ((hm e).1 he).2
    rw [if_neg h2, this, h1]; rfl
  · rw [if_pos h2, h1]
  · have hL1 : L.length = 1 := by
      have p1 := List.length_pos_of_mem ((hm e).2 ⟨he, hbe⟩)
      match L, hm, hn, p1 with
      | [x], _, _, _ => rfl
      | x :: y :: l, hm, hn, _ =>
        have mx := (hm x).1 (by simp)
        have my := (hm y).1 (by simp)
        have := h4 x mx.1 y my.1 mx.2 my.2
        rw [this] at hn
        simp at hn
    rw [if_neg h2, hL1, h1]; rfl
  · have hL2 : 2 ≤ L.length := by
      have m1 := (hm e).2 ⟨he, hbb.1⟩
      have m2 := (hm e').2 ⟨he', hbb.2⟩
      match L, m1, m2 with
      | [x], m1, m2 =>
        have k1 := List.mem_singleton.1 m1
        have k2 := List.mem_singleton.1 m2
        exact absurd (k1.trans k2.symm) hne
      | x :: y :: l, _, _ => simp
    rw [if_neg h2, if_neg (by omega), if_neg (by omega), h1]
theorem refM_cross (h1 : trn a b c * trn a b d < 0) (h2 : trn c d a * trn c d b < 0) : 1 = refM a b c d := by unfold refM; rw [if_pos ⟨h1, h2⟩]
theorem refM_of {l : List Pt} (h : l = comL a b c d [a, b, c, d] 4) (hc : ¬ crossP a b c d) : (l.length = 0 → 0 = refM a b c d) ∧ (l.length = 1 → 2 = refM a b c d) ∧ (l.length ≠ 0 → l.length ≠ 1 → 3 = refM a b c d) := by
  unfold refM
  rw [if_neg hc, ← h]
  refine ⟨fun h => by rw [if_pos h], fun h => by rw [if_neg (by omega), if_pos h], fun h1 h2 => by rw [if_neg h1, if_neg h2]⟩
end
end TL
namespace TL
/-- is it none of the first ones -/
def frK (l : List Pt) (e : Pt) : Nat → Bool
  | 0 => true
  | k + 1 => frK l e k && !decide (gI l (k : Int) = e)
theorem frK_iff {l : List Pt} {e : Pt} : ∀ k : Nat, frK l e k = true ↔ ∀ j : Nat, j < k → gI l (j : Int) ≠ e
  | 0 => by simp [frK]
  | k + 1 => by
    unfold frK
    rw [Bool.and_eq_true, frK_iff k]
    constructor
    · rintro ⟨h1, h2⟩ j hj
      by_cases c : j = k
      · subst c; simpa using h2
      · exact h1 j (by omega)
    · intro h
      exact ⟨fun j hj => h j (by omega), by simpa using h k (by omega)⟩
theorem fr_in {l : List Pt} {e : Pt} {k : Nat} (hk : ¬ (k : Int) < l.length) (hk2 : k ≤ l.length) : frK l e k = true ↔ e ∉ l := by
  rw [frK_iff]
  constructor
  · intro h hm
    obtain ⟨j, hj, rfl⟩ := List.mem_iff_getElem.1 hm
    exact h j (by omega) (by simp [gI, hj])
  · intro h j hj e0
    exact h (by rw [← e0]; exact gI_mem (by omega) (by omega))
section
variable {a b c d : Pt}
theorem meet_err (a b c d : Pt) : (meetR a b c d).2 = errS [a, b, c, d] ∧ (errS [a, b, c, d] = 0 → (meetR a b c d).1 = refM a b c d) ∧ (¬ errS [a, b, c, d] = 0 → (meetR a b c d).1 = 0) := by
  unfold errS
  by_cases h : okL [a, b, c, d]
  · obtain ⟨⟨h1, h2⟩, h3, h4⟩ := okL4.1 h
    rw [if_pos h, meet_yes h1 h2 h3 h4]
    exact ⟨rfl, fun _ => (ref_meet h1.bd h2.bd h3.bd h4.bd).symm, fun h => absurd rfl h⟩
  · rw [if_neg h]
    unfold meetR
    rw [if_neg (fun h' => h (okL4.2 h'))]
    exact ⟨rfl, fun h => absurd h (by decide), fun _ => rfl⟩
theorem three_err (a b c : Pt) : ((orientR a b c).2 = errS [a, b, c] ∧ (onR a b c).2 = errS [a, b, c]) ∧ decide (okL [a, b, c]) = decide (errS [a, b, c] = 0) ∧ (errS [a, b, c] = 0 → (orientR a b c).1 = trn a b c ∧ (onR a b c).1 = decide (onP a b c)) ∧ (¬ errS [a, b, c] = 0 → (orientR a b c).1 = 0 ∧ (onR a b c).1 = false) := by
  unfold errS
  by_cases h : okL [a, b, c]
  · obtain ⟨h1, h2, h3⟩ := okL3.1 h
    rw [if_pos h, orient_yes h1 h2 h3, on_yes h1 h2 h3]
    exact ⟨⟨rfl, rfl⟩, by simp [h], fun _ => ⟨rfl, rfl⟩, fun h => absurd rfl h⟩
  · rw [if_neg h]
    unfold orientR onR
    rw [if_neg (fun h' => h (okL3.2 h')), if_neg (fun h' => h (okL3.2 h'))]
    exact ⟨⟨rfl, rfl⟩, by simp [h], fun h => absurd h (by decide), fun _ => ⟨rfl, rfl⟩⟩
end
end TL
namespace TL
theorem four_bd {a b c d : Pt} (ha : bdP a) (hb : bdP b) (hc : bdP c) (hd : bdP d) {i : Nat} (hi : (i : Int) < 4) : bdP (gI [a, b, c, d] (i : Int)) := by
  have hm : gI [a, b, c, d] (i : Int) ∈ [a, b, c, d] := gI_mem (by omega) (by simp; omega)
  simp only [List.mem_cons, List.not_mem_nil, or_false] at hm
  rcases hm with hm | hm | hm | hm <;> rw [hm] <;> assumption
end TL
