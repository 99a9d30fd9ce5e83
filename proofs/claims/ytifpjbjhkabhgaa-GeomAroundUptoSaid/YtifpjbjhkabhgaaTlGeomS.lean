/-
  TlGeomS: polylines gone back, and two of them named the other way about.
  By an AI agent.
-/
import Derived.Test.YtifpjbjhkabhgaaTlGeomM
import Derived.Test.YtifpjbjhkabhgaaTlGeomR
set_option linter.all false
namespace TL
abbrev Sg := Pt × Pt
def segK (ps : List Pt) : Nat → List Sg
  | 0 => []
  | k + 1 => segK ps k ++ [(gI ps (k : Int), gI ps ((k : Int) + 1))]
def segS (ps : List Pt) : List Sg := if ps.length = 1 then [(gI ps 0, gI ps 0)] else segK ps (ps.length - 1)
theorem segK_len (ps : List Pt) : ∀ k : Nat, (segK ps k).length = k
  | 0 => rfl
  | k + 1 => by simp [segK, segK_len ps k]
theorem segK_mem {ps : List Pt} {s : Sg} : ∀ {k : Nat}, s ∈ segK ps k ↔ ∃ i : Nat, i < k ∧ s = (gI ps (i : Int), gI ps ((i : Int) + 1))
  | 0 => by simp [segK]
  | k + 1 => by
    rw [segK, List.mem_append, segK_mem, List.mem_singleton]
    constructor
    · rintro (⟨i, hi, e⟩ | e)
      · exact ⟨i, by omega, e⟩
      · exact ⟨k, by omega, e⟩
    · rintro ⟨i, hi, e⟩
      by_cases c : i = k
      · subst c; exact .inr e
      · exact .inl ⟨i, by omega, e⟩
theorem segK_next {ps : List Pt} {l : List Sg} {i : Nat} (h : l = segK ps (i - 1) ∧ 1 ≤ i) : l ++ [(gI ps ((i : Int) - 1), gI ps (i : Int))] = segK ps (i + 1 - 1) ∧ 1 ≤ i + 1 := by
  refine ⟨?_, by omega⟩
  rw [show i + 1 - 1 = (i - 1) + 1 by omega, segK, h.1, show ((i - 1 : Nat) : Int) = (i : Int) - 1 by omega, show (i : Int) - 1 + 1 = (i : Int) by omega]
theorem segK_done {ps : List Pt} {l : List Sg} {i : Nat} (h : l = segK ps (i - 1) ∧ 1 ≤ i) (hi : ¬ (i : Int) < ps.length) (hi2 : i ≤ max ps.length 1) (h1 : ¬ (ps.length : Int) = 1) : l = segS ps := by
  unfold segS
  rw [if_neg (by omega), h.1]
  congr 1
  omega
theorem segS_one {ps : List Pt} (h : (ps.length : Int) = 1) : [(gI ps 0, gI ps 0)] = segS ps := by
  unfold segS; rw [if_pos (by omega)]
def lastI (ps : List Pt) : Pt := gI ps ((ps.length : Int) - 1)
def endP (ps : List Pt) (p : Pt) : Prop := p = gI ps 0 ∨ p = lastI ps
instance (ps : List Pt) (p : Pt) : Decidable (endP ps p) := by unfold endP; infer_instance
def endX (q : List Pt) (s t : Sg) (x : Pt) : Prop := endP q x ∧ onP s.1 s.2 x ∧ onP t.1 t.2 x
instance (q : List Pt) (s t : Sg) (x : Pt) : Decidable (endX q s t x) := by unfold endX; infer_instance
def endsP (p q : List Pt) (s t : Sg) : Prop := endX q s t (gI p 0) ∨ endX q s t (lastI p)
instance (p q : List Pt) (s t : Sg) : Decidable (endsP p q s t) := by unfold endsP; infer_instance
def badA (p q : List Pt) (s t : Sg) : Prop := meetP s.1 s.2 t.1 t.2 = 3 ∨ meetP s.1 s.2 t.1 t.2 ≠ 0 ∧ ¬ endsP p q s t
instance (p q : List Pt) (s t : Sg) : Decidable (badA p q s t) := by unfold badA; infer_instance
def appP (p q : List Pt) : Prop := ∀ s ∈ segS p, ∀ t ∈ segS q, ¬ badA p q s t
instance (p q : List Pt) : Decidable (appP p q) := by unfold appP; infer_instance
def aptR (p q : List Pt) : Bool × Int := if ((p.length : Int) = 0 ∨ (q.length : Int) = 0) ∨ ¬ okL p ∨ ¬ okL q then (false, 1) else (decide (appP p q), 0)
theorem aptR_err {p q : List Pt} (h : ((p.length : Int) = 0 ∨ (q.length : Int) = 0) ∨ ¬ okL p ∨ ¬ okL q) : aptR p q = (false, 1) := by unfold aptR; rw [if_pos h]
theorem aptR_ok {p q : List Pt} (h1 : ¬ (p.length : Int) = 0) (h2 : ¬ (q.length : Int) = 0) (h3 : okL p) (h4 : okL q) : aptR p q = (decide (appP p q), 0) := by
  unfold aptR; rw [if_neg (by rintro ((c | c) | c | c); exact h1 c; exact h2 c; exact c h3; exact c h4)]
section
variable {p q : List Pt}
theorem seg_in {s : Sg} (h0 : 0 < p.length) (hs : s ∈ segS p) : s.1 ∈ p ∧ s.2 ∈ p := by
  unfold segS at hs
  split at hs
  · obtain rfl := List.mem_singleton.1 hs
    exact ⟨gI_mem (by omega) (by omega), gI_mem (by omega) (by omega)⟩
  · obtain ⟨i, hi, rfl⟩ := segK_mem.1 hs
    exact ⟨gI_mem (by omega) (by omega), gI_mem (by omega) (by omega)⟩
theorem gI_rev {i : Int} (h0 : 0 ≤ i) (h1 : i < p.length) : gI p.reverse i = gI p ((p.length : Int) - 1 - i) := by
  have hl : i.toNat < p.reverse.length := by simp; omega
  unfold gI
  rw [List.getD_eq_getElem?_getD, List.getD_eq_getElem?_getD, List.getElem?_reverse (by omega)]
  congr 2
  omega
theorem seg_rev {s : Sg} (hs : s ∈ segS p.reverse) : (s.2, s.1) ∈ segS p := by
  unfold segS at hs ⊢
  rw [List.length_reverse] at hs
  by_cases c : p.length = 1
  · rw [if_pos c] at hs ⊢
    obtain rfl := List.mem_singleton.1 hs
    rw [gI_rev (by omega) (by omega), c]
    simp
  · rw [if_neg c] at hs ⊢
    obtain ⟨i, hi, rfl⟩ := segK_mem.1 hs
    refine segK_mem.2 ⟨p.length - 2 - i, by omega, ?_⟩
    rw [gI_rev (by omega) (by omega), gI_rev (by omega) (by omega)]
    simp only
    rw [show ((p.length - 2 - i : Nat) : Int) = (p.length : Int) - 1 - ((i : Int) + 1) by omega, show (p.length : Int) - 1 - ((i : Int) + 1) + 1 = (p.length : Int) - 1 - (i : Int) by omega]
theorem end_rev (h0 : 0 < p.length) {x : Pt} : endP p.reverse x ↔ endP p x := by
  unfold endP lastI
  rw [List.length_reverse, gI_rev (by omega) (by omega), gI_rev (by omega) (by omega), show (p.length : Int) - 1 - 0 = (p.length : Int) - 1 by omega, show (p.length : Int) - 1 - ((p.length : Int) - 1) = 0 by omega]
  exact Or.comm
theorem ends_iff {s t : Sg} : endsP p q s t ↔ ∃ x, endP p x ∧ endX q s t x := by
  unfold endsP
  constructor
  · rintro (h | h)
    · exact ⟨_, .inl rfl, h⟩
    · exact ⟨_, .inr rfl, h⟩
  · rintro ⟨x, rfl | rfl, h⟩
    · exact .inl h
    · exact .inr h
theorem ends_turn (h0 : 0 < p.length) {s t : Sg} : endsP q p.reverse t s ↔ endsP p q (s.2, s.1) t := by
  rw [ends_iff, ends_iff]
  unfold endX
  constructor
  · rintro ⟨x, h1, h2, h3, h4⟩
    exact ⟨x, (end_rev h0).1 h2, h1, onP_swap.2 h4, h3⟩
  · rintro ⟨x, h1, h2, h3, h4⟩
    exact ⟨x, h2, (end_rev h0).2 h1, h4, onP_swap.1 h3⟩
theorem okL_rev : okL p.reverse ↔ okL p := by unfold okL; simp
theorem app_turn (hp : okL p) (hq : okL q) (h0 : 0 < p.length) (h1 : 0 < q.length) : appP q p.reverse ↔ appP p q := by
  have key : ∀ s t : Sg, s ∈ segS p → t ∈ segS q → (badA q p.reverse t (s.2, s.1) ↔ badA p q s t) := fun s t hs ht => by
    have a := seg_in h0 hs
    have b := seg_in h1 ht
    have a1 := (hp.2 _ a.1).bd
    have a2 := (hp.2 _ a.2).bd
    have b1 := (hq.2 _ b.1).bd
    have b2 := (hq.2 _ b.2).bd
    have e : meetP t.1 t.2 s.2 s.1 = meetP s.1 s.2 t.1 t.2 := by
      rw [meet_swap2 b1 b2 a1 a2, meet_comm a1 a2 b1 b2]
    unfold badA
    simp only
    rw [e, ends_turn h0]
  constructor
  · intro h s hs t ht hb
    have hs' : (s.2, s.1) ∈ segS p.reverse := by
      have := seg_rev (p := p.reverse) (s := s) (by rw [List.reverse_reverse]; exact hs)
      exact this
    exact h t ht _ hs' ((key s t hs ht).2 hb)
  · intro h t ht s' hs' hb
    have hs := seg_rev hs'
    exact h _ hs t ht ((key (s'.2, s'.1) t hs ht).1 hb)
theorem apt_turn : aptR q p.reverse = aptR p q := by
  unfold aptR
  rw [List.length_reverse]
  by_cases c : ((p.length : Int) = 0 ∨ (q.length : Int) = 0) ∨ ¬ okL p ∨ ¬ okL q
  · rw [if_pos c, if_pos (by rw [okL_rev]; grind)]
  · rw [if_neg c, if_neg (by rw [okL_rev]; grind)]
    have h0 : ¬ (p.length : Int) = 0 := fun h => c (.inl (.inl h))
    have h1 : ¬ (q.length : Int) = 0 := fun h => c (.inl (.inr h))
    have hp : okL p := Classical.byContradiction fun h => c (.inr (.inl h))
    have hq : okL q := Classical.byContradiction fun h => c (.inr (.inr h))
    rw [show decide (appP q p.reverse) = decide (appP p q) by rw [decide_eq_decide]; exact app_turn hp hq (by omega) (by omega)]
/-! one polyline gone back -/
theorem closed_rev : closedP p.reverse ↔ closedP p := by
  unfold closedP
  rw [List.length_reverse]
  by_cases h : 4 ≤ (p.length : Int)
  · rw [gI_rev (by omega) (by omega), gI_rev (by omega) (by omega), show (p.length : Int) - 1 - 0 = (p.length : Int) - 1 by omega, show (p.length : Int) - 1 - ((p.length : Int) - 1) = 0 by omega]
    exact ⟨fun h => ⟨h.1, h.2.symm⟩, fun h => ⟨h.1, h.2.symm⟩⟩
  · exact ⟨fun h' => absurd h'.1 h, fun h' => absurd h'.1 h⟩
theorem sim_rev1 (hp : okL p) (h : simP p) : simP p.reverse := by
  intro i hi hi2
  rw [List.length_reverse] at hi hi2
  have r1 := gI_rev (p := p) (i := (i : Int)) (by omega) (by omega)
  have r2 := gI_rev (p := p) (i := (i : Int) + 1) (by omega) (by omega)
  have ei : ((p.length - 2 - i : Nat) : Int) = (p.length : Int) - 1 - ((i : Int) + 1) := by omega
  refine ⟨fun e => ?_, fun k hk hik hk2 hb => ?_⟩
  · have h1 := (h (p.length - 2 - i) (by omega) (by omega)).1
    rw [r1, r2] at e
    rw [ei, show (p.length : Int) - 1 - ((i : Int) + 1) + 1 = (p.length : Int) - 1 - (i : Int) by omega] at h1
    exact h1 e.symm
  · rw [List.length_reverse] at hk hk2
    have ek : ((p.length - 2 - k : Nat) : Int) = (p.length : Int) - 1 - ((k : Int) + 1) := by omega
    have r3 := gI_rev (p := p) (i := (k : Int)) (by omega) (by omega)
    have r4 := gI_rev (p := p) (i := (k : Int) + 1) (by omega) (by omega)
    have h2 := (h (p.length - 2 - k) (by omega) (by omega)).2 (p.length - 2 - i) (by omega) (by omega) (by omega)
    refine h2 ?_
    have bd : ∀ j : Int, 0 ≤ j → j < p.length → bdP (gI p j) := fun j h0 h1 => (hp.2 _ (gI_mem h0 h1)).bd
    have em : mAt p.reverse i k = mAt p (p.length - 2 - k) (p.length - 2 - i) := by
      unfold mAt
      rw [r1, r2, r3, r4, ei, ek, show (p.length : Int) - 1 - ((i : Int) + 1) + 1 = (p.length : Int) - 1 - (i : Int) by omega, show (p.length : Int) - 1 - ((k : Int) + 1) + 1 = (p.length : Int) - 1 - (k : Int) by omega]
      have a1 := bd ((p.length : Int) - 1 - (i : Int)) (by omega) (by omega)
      have a2 := bd ((p.length : Int) - 1 - ((i : Int) + 1)) (by omega) (by omega)
      have a3 := bd ((p.length : Int) - 1 - (k : Int)) (by omega) (by omega)
      have a4 := bd ((p.length : Int) - 1 - ((k : Int) + 1)) (by omega) (by omega)
      rw [meet_swap a2 a1 a3 a4, meet_swap2 a2 a1 a4 a3, meet_comm a4 a3 a2 a1]
    have ej : joinP p.reverse i k ↔ joinP p (p.length - 2 - k) (p.length - 2 - i) := by
      unfold joinP
      rw [List.length_reverse, closed_rev]
      constructor
      · rintro (c | ⟨c, c2, c3⟩)
        · exact .inl (by omega)
        · exact .inr ⟨by omega, by omega, c3⟩
      · rintro (c | ⟨c, c2, c3⟩)
        · exact .inl (by omega)
        · exact .inr ⟨by omega, by omega, c3⟩
    unfold badP at hb ⊢
    rw [em, ej] at hb
    exact hb
theorem sim_turn : simR p.reverse = simR p := by
  unfold simR
  rw [List.length_reverse]
  by_cases c : (p.length : Int) = 0 ∨ ¬ okL p
  · rw [if_pos c, if_pos (by rw [okL_rev]; exact c)]
  · rw [if_neg c, if_neg (by rw [okL_rev]; exact c)]
    have hp : okL p := Classical.byContradiction fun h => c (.inr h)
    have : simP p.reverse ↔ simP p := ⟨fun h => by have := sim_rev1 (okL_rev.2 hp) h; rwa [List.reverse_reverse] at this, sim_rev1 hp⟩
    rw [show decide (simP p.reverse) = decide (simP p) by rw [decide_eq_decide]; exact this]
end
end TL
namespace TL
section
variable {p q : List Pt} {i k : Nat}
theorem app_bad (hi : (i : Int) < (segS p).length) (hk : (k : Int) < (segS q).length) (h : badA p q (gI (segS p) (i : Int)) (gI (segS q) (k : Int))) : false = decide (appP p q) :=
  (decide_eq_false fun ha => ha _ (gI_mem (by omega) hi) _ (gI_mem (by omega) hk) h).symm
theorem app_yes (h : ∀ j : Nat, j < i → ∀ t ∈ segS q, ¬ badA p q (gI (segS p) (j : Int)) t) (hi : ¬ (i : Int) < (segS p).length) : true = decide (appP p q) :=
  (decide_eq_true fun s hs t ht => by
    obtain ⟨j, hj, rfl⟩ := List.mem_iff_getElem.1 hs
    have := h j (by omega) t ht
    have e : gI (segS p) (j : Int) = (segS p)[j] := by unfold gI; rw [Int.toNat_natCast, List.getD_eq_getElem?_getD, List.getElem?_eq_getElem hj]; rfl
    rwa [e] at this).symm
theorem app_row {s : Sg} (h : ∀ j : Nat, j < k → ¬ badA p q s (gI (segS q) (j : Int))) (hk : ¬ (k : Int) < (segS q).length) : ∀ t ∈ segS q, ¬ badA p q s t := fun t ht => by
  obtain ⟨j, hj, rfl⟩ := List.mem_iff_getElem.1 ht
  have := h j (by omega)
  have e : gI (segS q) (j : Int) = (segS q)[j] := by unfold gI; rw [Int.toNat_natCast, List.getD_eq_getElem?_getD, List.getElem?_eq_getElem hj]; rfl
  rwa [e] at this
variable {s t : Sg}
theorem badA3 (h : meetP s.1 s.2 t.1 t.2 = 3) : badA p q s t := .inl h
theorem badA0 (h : ¬ meetP s.1 s.2 t.1 t.2 = 0) (he : ¬ decide (endsP p q s t) = true) : badA p q s t := .inr ⟨h, fun h => he (decide_eq_true h)⟩
theorem goodA0 (h3 : ¬ meetP s.1 s.2 t.1 t.2 = 3) (h : meetP s.1 s.2 t.1 t.2 = 0) : ¬ badA p q s t := by
  rintro (c | ⟨c, _⟩)
  · exact h3 c
  · exact c h
theorem goodA1 (h3 : ¬ meetP s.1 s.2 t.1 t.2 = 3) (he : decide (endsP p q s t) = true) : ¬ badA p q s t := by
  rintro (c | ⟨_, c⟩)
  · exact h3 c
  · exact c (of_decide_eq_true he)
theorem seg_bd (hp : okL p) (h0 : 0 < p.length) (hi : (i : Int) < (segS p).length) : bdP (gI (segS p) (i : Int)).1 ∧ bdP (gI (segS p) (i : Int)).2 := by
  have := seg_in h0 (gI_mem (xs := segS p) (i := (i : Int)) (by omega) hi)
  exact ⟨(hp.2 _ this.1).bd, (hp.2 _ this.2).bd⟩
theorem segS_len (h0 : 0 < p.length) : (segS p).length ≤ p.length := by
  unfold segS
  split
  · simp; omega
  · rw [segK_len]; omega
end
end TL
namespace TL
section
variable {p q : List Pt} {s t : Sg} {i : Nat}
theorem two_bd (hp : okL p) (h0 : 0 < p.length) (hi : (i : Int) < 2) : bdP (gI [gI p 0, gI p ((p.length : Int) - 1)] (i : Int)) := by
  have hm : gI [gI p 0, gI p ((p.length : Int) - 1)] (i : Int) ∈ [gI p 0, gI p ((p.length : Int) - 1)] := gI_mem (by omega) (by simp; omega)
  simp only [List.mem_cons, List.not_mem_nil, or_false] at hm
  rcases hm with hm | hm <;> rw [hm] <;> exact (hp.2 _ (gI_mem (by omega) (by omega))).bd
theorem ends2_yes (hi : (i : Int) < 2) (h1 : decide (endP q (gI [gI p 0, gI p ((p.length : Int) - 1)] (i : Int))) = true) (h2 : decide (onP s.1 s.2 (gI [gI p 0, gI p ((p.length : Int) - 1)] (i : Int))) = true) (h3 : decide (onP t.1 t.2 (gI [gI p 0, gI p ((p.length : Int) - 1)] (i : Int))) = true) : true = decide (endsP p q s t) := by
  have hm : gI [gI p 0, gI p ((p.length : Int) - 1)] (i : Int) ∈ [gI p 0, gI p ((p.length : Int) - 1)] := gI_mem (by omega) (by simp; omega)
  have hx : endX q s t (gI [gI p 0, gI p ((p.length : Int) - 1)] (i : Int)) := ⟨of_decide_eq_true h1, of_decide_eq_true h2, of_decide_eq_true h3⟩
  simp only [List.mem_cons, List.not_mem_nil, or_false] at hm
  rcases hm with hm | hm
  · rw [hm] at hx; exact (decide_eq_true (.inl hx)).symm
  · rw [hm] at hx; exact (decide_eq_true (.inr hx)).symm
theorem ends2_no (h : ∀ j : Nat, j < i → ¬ endX q s t (gI [gI p 0, gI p ((p.length : Int) - 1)] (j : Int))) (hi : ¬ (i : Int) < 2) : false = decide (endsP p q s t) := by
  refine (decide_eq_false ?_).symm
  rintro (hx | hx)
  · exact h 0 (by omega) hx
  · exact h 1 (by omega) hx
end
end TL
