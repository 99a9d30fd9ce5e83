/-
  TlGeomB: a box holds all points, and each of its sides has one; how many ends two segments share.
  By an AI agent.
-/
import Derived.Test.YtifpjbjhkabhgaaTlGeomT
set_option linter.all false
namespace TL
def anK (p : Pt → Bool) (ps : List Pt) : Nat → Bool
  | 0 => false
  | k + 1 => anK p ps k || p (gI ps (k : Int))
theorem anK_true {p : Pt → Bool} {ps : List Pt} : ∀ {k : Nat} {j : Nat}, j < k → p (gI ps (j : Int)) = true → anK p ps k = true
  | 0, j, hj, _ => by omega
  | k + 1, j, hj, h => by
    unfold anK
    by_cases e : j = k
    · subst e; rw [h]; simp
    · rw [anK_true (by omega) h]; simp
theorem lo_all {ps : List Pt} : ∀ {k j : Nat}, j < k → (loK ps k).1 ≤ (gI ps (j : Int)).1 ∧ (loK ps k).2 ≤ (gI ps (j : Int)).2
  | 0, j, h => by omega
  | k + 1, j, h => by
    unfold loK
    simp only
    by_cases e : j = k
    · subst e; omega
    · have := lo_all (ps := ps) (k := k) (j := j) (by omega)
      omega
theorem hi_all {ps : List Pt} : ∀ {k j : Nat}, j < k → (gI ps (j : Int)).1 ≤ (hiK ps k).1 ∧ (gI ps (j : Int)).2 ≤ (hiK ps k).2
  | 0, j, h => by omega
  | k + 1, j, h => by
    unfold hiK
    simp only
    by_cases e : j = k
    · subst e; omega
    · have := hi_all (ps := ps) (k := k) (j := j) (by omega)
      omega
theorem lo_hit {ps : List Pt} : ∀ k : Nat, (∃ j : Nat, j < max k 1 ∧ (gI ps (j : Int)).1 = (loK ps k).1) ∧ ∃ j : Nat, j < max k 1 ∧ (gI ps (j : Int)).2 = (loK ps k).2
  | 0 => ⟨⟨0, by omega, rfl⟩, ⟨0, by omega, rfl⟩⟩
  | k + 1 => by
    obtain ⟨⟨i, hi, ei⟩, ⟨j, hj, ej⟩⟩ := lo_hit (ps := ps) k
    unfold loK
    simp only
    refine ⟨?_, ?_⟩
    · by_cases c : (loK ps k).1 ≤ (gI ps (k : Int)).1
      · exact ⟨i, by omega, by rw [ei]; omega⟩
      · exact ⟨k, by omega, by omega⟩
    · by_cases c : (loK ps k).2 ≤ (gI ps (k : Int)).2
      · exact ⟨j, by omega, by rw [ej]; omega⟩
      · exact ⟨k, by omega, by omega⟩
theorem hi_hit {ps : List Pt} : ∀ k : Nat, (∃ j : Nat, j < max k 1 ∧ (gI ps (j : Int)).1 = (hiK ps k).1) ∧ ∃ j : Nat, j < max k 1 ∧ (gI ps (j : Int)).2 = (hiK ps k).2
  | 0 => ⟨⟨0, by omega, rfl⟩, ⟨0, by omega, rfl⟩⟩
  | k + 1 => by
    obtain ⟨⟨i, hi, ei⟩, ⟨j, hj, ej⟩⟩ := hi_hit (ps := ps) k
    unfold hiK
    simp only
    refine ⟨?_, ?_⟩
    · by_cases c : (gI ps (k : Int)).1 ≤ (hiK ps k).1
      · exact ⟨i, by omega, by rw [ei]; omega⟩
      · exact ⟨k, by omega, by omega⟩
    · by_cases c : (gI ps (k : Int)).2 ≤ (hiK ps k).2
      · exact ⟨j, by omega, by rw [ej]; omega⟩
      · exact ⟨k, by omega, by omega⟩
theorem box_yes {ps : List Pt} (h : (boxR ps).2.2 = 0) : (0 < ps.length ∧ okL ps) ∧ boxR ps = (loK ps ps.length, hiK ps ps.length, 0) := by
  unfold boxR at h ⊢
  by_cases c : okL ps
  · rw [if_pos c] at h ⊢
    by_cases c2 : (ps.length : Int) = 0
    · rw [if_pos c2] at h; simp at h
    · rw [if_neg c2]; exact ⟨⟨by omega, c⟩, rfl⟩
  · rw [if_neg c] at h; simp at h
theorem box_no {ps : List Pt} (h : ¬ (boxR ps).2.2 = 0) : (boxR ps).1 = (0, 0) ∧ (boxR ps).2.1 = (0, 0) := by
  unfold boxR at h ⊢
  by_cases c : okL ps
  · rw [if_pos c] at h ⊢
    by_cases c2 : (ps.length : Int) = 0
    · rw [if_pos c2]; exact ⟨rfl, rfl⟩
    · rw [if_neg c2] at h; exact absurd rfl h
  · rw [if_neg c]; exact ⟨rfl, rfl⟩
/-- all within, and each side has one -/
theorem box_law {ps : List Pt} (h : (boxR ps).2.2 = 0) : (∀ i : Nat, (i : Int) < ps.length → ((boxR ps).1.1 ≤ (gI ps (i : Int)).1 ∧ (gI ps (i : Int)).1 ≤ (boxR ps).2.1.1) ∧ (boxR ps).1.2 ≤ (gI ps (i : Int)).2 ∧ (gI ps (i : Int)).2 ≤ (boxR ps).2.1.2) ∧
    (anK (fun q => decide (q.1 = (boxR ps).1.1)) ps ps.length = true ∧ anK (fun q => decide (q.1 = (boxR ps).2.1.1)) ps ps.length = true) ∧ anK (fun q => decide (q.2 = (boxR ps).1.2)) ps ps.length = true ∧ anK (fun q => decide (q.2 = (boxR ps).2.1.2)) ps ps.length = true := by
  obtain ⟨⟨h0, _⟩, e⟩ := box_yes h
  rw [e]
  simp only
  obtain ⟨⟨a, ha, ea⟩, ⟨c, hc, ec⟩⟩ := lo_hit (ps := ps) ps.length
  obtain ⟨⟨b, hb, eb⟩, ⟨d, hd, ed⟩⟩ := hi_hit (ps := ps) ps.length
  refine ⟨fun i hi => ?_, ⟨anK_true (j := a) (by omega) (decide_eq_true ea), anK_true (j := b) (by omega) (decide_eq_true eb)⟩, anK_true (j := c) (by omega) (decide_eq_true ec), anK_true (j := d) (by omega) (decide_eq_true ed)⟩
  have h1 := lo_all (ps := ps) (k := ps.length) (j := i) (by omega)
  have h2 := hi_all (ps := ps) (k := ps.length) (j := i) (by omega)
  omega
/-! how many ends both have -/
def cntB (a b c d : Pt) (ends : List Pt) (k : Nat) : Int := (((ends.take k).filter fun e => decide (bothP a b c d e)).length : Int)
section
variable {a b c d : Pt} {ends : List Pt} {k : Nat}
theorem cntB_bd (a b c d : Pt) (ends : List Pt) (k : Nat) : 0 ≤ cntB a b c d ends k ∧ cntB a b c d ends k ≤ k := by
  unfold cntB
  have h1 := List.length_filter_le (fun e => decide (bothP a b c d e)) (ends.take k)
  have h2 := List.length_take_le k ends
  omega
theorem cntB_succ (hk : (k : Int) < ends.length) : cntB a b c d ends (k + 1) = cntB a b c d ends k + if bothP a b c d (gI ends (k : Int)) then 1 else 0 := by
  unfold cntB
  rw [take_succ_gI hk, List.filter_append, List.length_append]
  by_cases h : bothP a b c d (gI ends (k : Int))
  · simp [h]
  · simp [h]
theorem both_on (ha : okP a) (hb : okP b) (hc : okP c) (hd : okP d) {e : Pt} (he : okP e) : bothP a b c d e ↔ (onR a b e).1 = true ∧ (onR c d e).1 = true := by
  rw [on_yes ha hb he, on_yes hc hd he]
  simp [bothP]
/-- what GeomMeets asks -/
theorem meets_law (ha : okP a) (hb : okP b) (hc : okP c) (hd : okP d) :
    ((meetR a b c d).1 = 0 ∧ ¬ ((orientR a b c).1 * (orientR a b d).1 < 0 ∧ (orientR c d a).1 * (orientR c d b).1 < 0) ∧ cntB a b c d [a, b, c, d] 4 = 0) ∨
    ((meetR a b c d).1 = 1 ∧ ((orientR a b c).1 * (orientR a b d).1 < 0 ∧ (orientR c d a).1 * (orientR c d b).1 < 0) ∧ cntB a b c d [a, b, c, d] 4 = 0) ∨
    (((meetR a b c d).1 = 2 ∨ (meetR a b c d).1 = 3) ∧ ¬ ((orientR a b c).1 * (orientR a b d).1 < 0 ∧ (orientR c d a).1 * (orientR c d b).1 < 0) ∧ 0 < cntB a b c d [a, b, c, d] 4) := by
  rw [meet_yes ha hb hc hd, orient_yes ha hb hc, orient_yes ha hb hd, orient_yes hc hd ha, orient_yes hc hd hb]
  simp only
  have hz : ∀ {P : Prop}, (∀ e ∈ [a, b, c, d], ¬ bothP a b c d e) → cntB a b c d [a, b, c, d] 4 = 0 := fun {P} h => by
    unfold cntB
    rw [List.filter_eq_nil_iff.2 (fun e he => by
      have := h e (List.mem_of_mem_take he)
      simpa using this)]
    rfl
  have hp : (∃ e ∈ [a, b, c, d], bothP a b c d e) → 0 < cntB a b c d [a, b, c, d] 4 := fun ⟨e, he, hb⟩ => by
    unfold cntB
    have : e ∈ ([a, b, c, d].take 4).filter fun e => decide (bothP a b c d e) := List.mem_filter.2 ⟨by simpa using he, by simpa using hb⟩
    have := List.length_pos_of_mem this
    omega
  rcases meet_told ha.bd hb.bd hc.bd hd.bd with ⟨h1, h2, h3⟩ | ⟨h1, h2⟩ | ⟨h1, h2, h3, _⟩ | ⟨h1, h2, e, he, e', _, hb, _⟩
  · exact .inl ⟨h1, h2, hz (P := True) h3⟩
  · exact .inr (.inl ⟨h1, h2, hz (P := True) fun e he => cross_none h2 he⟩)
  · exact .inr (.inr ⟨.inl h1, h2, hp h3⟩)
  · exact .inr (.inr ⟨.inr h1, h2, hp ⟨e, he, hb.1⟩⟩)
end
def errS (ps : List Pt) : Int := if okL ps then 0 else 1
end TL
namespace TL
theorem errS_ok {ps : List Pt} (h : errS ps = 0) : okL ps := by
  unfold errS at h
  by_cases c : okL ps
  · exact c
  · rw [if_neg c] at h; cases h
theorem errS_no {ps : List Pt} (h : ¬ errS ps = 0) : ¬ okL ps ∧ errS ps = 1 := by
  unfold errS at h ⊢
  by_cases c : okL ps
  · rw [if_pos c] at h; exact absurd rfl h
  · rw [if_neg c]; exact ⟨c, rfl⟩
end TL
