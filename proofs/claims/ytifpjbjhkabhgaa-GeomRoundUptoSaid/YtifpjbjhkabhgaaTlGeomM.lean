/-
  TlGeomM: meeting segments: moved, turned, named another way about; what ends they share.
  By an AI agent.
-/
import Derived.Test.YtifpjbjhkabhgaaTlGeomL
set_option linter.all false
namespace TL
theorem Cln.sub {l l' : List Pt} {w : Pt} (h : Cln l w) (hs : ∀ p ∈ l', p ∈ l) : Cln l' w :=
  ⟨fun p hp q hq => h.pr p (hs p hp) q (hs q hq), fun e p hp q hq => h.one e p (hs p hp) q (hs q hq)⟩
section
variable {a b c d : Pt}
theorem line_add {q : Pt} (ha : bdP a) (hb : bdP b) (hc : bdP c) (hd : bdP d) (ha' : bdP (addP a q)) (hb' : bdP (addP b q)) (hc' : bdP (addP c q)) (hd' : bdP (addP d q)) {w : Pt} (h : Cln [a, b, c, d] w) : lineP (addP a q) (addP b q) (addP c q) (addP d q) = lineP a b c d := by
  have hm : ∀ p r : Pt, mns (addP p q) (addP r q) = mns p r := fun p r => by unfold mns addP; simp only; exact Prod.ext (by simp only; omega) (by simp only; omega)
  have h' : Cln ([a, b, c, d].map fun p => addP p q) w := ⟨fun p hp r hr => by
    obtain ⟨x, hx, rfl⟩ := List.mem_map.1 hp
    obtain ⟨y, hy, rfl⟩ := List.mem_map.1 hr
    rw [hm]; exact h.pr x hx y hy, fun e p hp r hr => by
    obtain ⟨x, hx, rfl⟩ := List.mem_map.1 hp
    obtain ⟨y, hy, rfl⟩ := List.mem_map.1 hr
    rw [h.one e x hx y hy]⟩
  have hD : ∀ p : Pt, Dw w (addP p q) = Dw w p + Dw w q := fun p => by unfold Dw addP; simp only; grind
  rw [line_D ha hb hc hd h, line_D ha' hb' hc' hd' h', hD, hD, hD, hD]
  apply lineK_same <;> omega
theorem line_rot (ha : bdP a) (hb : bdP b) (hc : bdP c) (hd : bdP d) {w : Pt} (h : Cln [a, b, c, d] w) : lineP (rotP a) (rotP b) (rotP c) (rotP d) = lineP a b c d := by
  have hm : ∀ p r : Pt, mns (rotP p) (rotP r) = rotP (mns p r) := fun p r => by unfold mns rotP; simp only; exact Prod.ext (by simp only; omega) (by simp only)
  have hp : ∀ u : Pt, par u w → par (rotP u) (rotP w) := fun u hu => by unfold par rotP at *; simp only; grind
  have h' : Cln ([a, b, c, d].map rotP) (rotP w) := ⟨fun p hp' r hr => by
    obtain ⟨x, hx, rfl⟩ := List.mem_map.1 hp'
    obtain ⟨y, hy, rfl⟩ := List.mem_map.1 hr
    rw [hm]; exact hp _ (h.pr x hx y hy), fun e p hp' r hr => by
    obtain ⟨x, hx, rfl⟩ := List.mem_map.1 hp'
    obtain ⟨y, hy, rfl⟩ := List.mem_map.1 hr
    have hw : w = (0, 0) := by
      unfold rotP at e
      have e1 := congrArg Prod.fst e
      have e2 := congrArg Prod.snd e
      simp only at e1 e2
      exact Prod.ext e2 (by simp only; omega)
    rw [h.one hw x hx y hy]⟩
  have hD : ∀ p : Pt, Dw (rotP w) (rotP p) = Dw w p := fun p => by unfold Dw rotP; simp only; grind
  have hb4 : ∀ p, bdP p → bdP (rotP p) := fun p h => by unfold bdP rotP at *; simp only; omega
  rw [line_D ha hb hc hd h, line_D (hb4 a ha) (hb4 b hb) (hb4 c hc) (hb4 d hd) h', hD, hD, hD, hD]
theorem line_swap (ha : bdP a) (hb : bdP b) (hc : bdP c) (hd : bdP d) {w : Pt} (h : Cln [a, b, c, d] w) : lineP b a c d = lineP a b c d := by
  rw [line_D ha hb hc hd h, line_D hb ha hc hd (h.sub (by simp)), lineK_swap1]
theorem line_comm (ha : bdP a) (hb : bdP b) (hc : bdP c) (hd : bdP d) {w : Pt} (h : Cln [a, b, c, d] w) : lineP c d a b = lineP a b c d := by
  rw [line_D ha hb hc hd h, line_D hc hd ha hb (h.sub (by simp)), lineK_comm]
theorem meet_add {q : Pt} (ha : bdP a) (hb : bdP b) (hc : bdP c) (hd : bdP d) (ha' : bdP (addP a q)) (hb' : bdP (addP b q)) (hc' : bdP (addP c q)) (hd' : bdP (addP d q)) : meetP (addP a q) (addP b q) (addP c q) (addP d q) = meetP a b c d := by
  unfold meetP
  simp only [trn_add, onP_add]
  by_cases h : trn a b c = 0 ∧ trn a b d = 0 ∧ trn c d a = 0 ∧ trn c d b = 0
  · obtain ⟨w, hw⟩ := col_of h.1 h.2.1 h.2.2.1 h.2.2.2
    rw [if_pos h, if_pos h, line_add ha hb hc hd ha' hb' hc' hd' hw]
  · rw [if_neg h, if_neg h]
theorem meet_rot (ha : bdP a) (hb : bdP b) (hc : bdP c) (hd : bdP d) : meetP (rotP a) (rotP b) (rotP c) (rotP d) = meetP a b c d := by
  unfold meetP
  simp only [trn_rot, onP_rot]
  by_cases h : trn a b c = 0 ∧ trn a b d = 0 ∧ trn c d a = 0 ∧ trn c d b = 0
  · obtain ⟨w, hw⟩ := col_of h.1 h.2.1 h.2.2.1 h.2.2.2
    rw [if_pos h, if_pos h, line_rot ha hb hc hd hw]
  · rw [if_neg h, if_neg h]
theorem meet_comm (ha : bdP a) (hb : bdP b) (hc : bdP c) (hd : bdP d) : meetP c d a b = meetP a b c d := by
  unfold meetP
  by_cases h : trn a b c = 0 ∧ trn a b d = 0 ∧ trn c d a = 0 ∧ trn c d b = 0
  · obtain ⟨w, hw⟩ := col_of h.1 h.2.1 h.2.2.1 h.2.2.2
    rw [if_pos ⟨h.2.2.1, h.2.2.2, h.1, h.2.1⟩, if_pos h, line_comm ha hb hc hd hw]
  · rw [if_neg (fun h' => h ⟨h'.2.2.1, h'.2.2.2, h'.1, h'.2.1⟩), if_neg h]
    by_cases h2 : trn a b c * trn a b d < 0 ∧ trn c d a * trn c d b < 0
    · rw [if_pos ⟨h2.2, h2.1⟩, if_pos h2]
    · rw [if_neg (fun h' => h2 ⟨h'.2, h'.1⟩), if_neg h2]
      by_cases h3 : onP a b c ∨ onP a b d ∨ onP c d a ∨ onP c d b
      · rw [if_pos (by grind), if_pos h3]
      · rw [if_neg (by grind), if_neg h3]
theorem meet_swap (ha : bdP a) (hb : bdP b) (hc : bdP c) (hd : bdP d) : meetP b a c d = meetP a b c d := by
  unfold meetP
  rw [trn_swap a b c, trn_swap a b d]
  by_cases h : trn a b c = 0 ∧ trn a b d = 0 ∧ trn c d a = 0 ∧ trn c d b = 0
  · obtain ⟨w, hw⟩ := col_of h.1 h.2.1 h.2.2.1 h.2.2.2
    rw [if_pos (by omega), if_pos h, line_swap ha hb hc hd hw]
  · rw [if_neg (by omega), if_neg h]
    have e1 : -trn a b c * -trn a b d = trn a b c * trn a b d := by grind
    have e2 : trn c d b * trn c d a = trn c d a * trn c d b := Int.mul_comm _ _
    rw [e1, e2]
    by_cases h2 : trn a b c * trn a b d < 0 ∧ trn c d a * trn c d b < 0
    · rw [if_pos h2, if_pos h2]
    · rw [if_neg h2, if_neg h2]
      have e3 : (onP b a c ∨ onP b a d ∨ onP c d b ∨ onP c d a) ↔ (onP a b c ∨ onP a b d ∨ onP c d a ∨ onP c d b) := by
        rw [onP_swap (a := a) (b := b) (p := c), onP_swap (a := a) (b := b) (p := d)]; grind
      simp only [e3]
theorem meet_swap2 (ha : bdP a) (hb : bdP b) (hc : bdP c) (hd : bdP d) : meetP a b d c = meetP a b c d := by
  rw [← meet_comm ha hb hd hc, meet_swap hc hd ha hb, meet_comm ha hb hc hd]
theorem meet_back (ha : bdP a) (hb : bdP b) (hc : bdP c) (hd : bdP d) : meetP d c b a = meetP a b c d := by
  rw [meet_swap2 hd hc ha hb, meet_swap hc hd ha hb, meet_comm ha hb hc hd]
/-! ends that both have -/
def bothP (a b c d e : Pt) : Prop := onP a b e ∧ onP c d e
instance (a b c d e : Pt) : Decidable (bothP a b c d e) := by unfold bothP; infer_instance
def crossP (a b c d : Pt) : Prop := trn a b c * trn a b d < 0 ∧ trn c d a * trn c d b < 0
instance (a b c d : Pt) : Decidable (crossP a b c d) := by unfold crossP; infer_instance
theorem cross_none (h : crossP a b c d) {e : Pt} (he : e ∈ [a, b, c, d]) : ¬ bothP a b c d e := fun hb => by
  obtain ⟨h1, h2⟩ := h
  have k1 := hb.1.1
  have k2 := hb.2.1
  simp only [List.mem_cons, List.not_mem_nil, or_false] at he
  rcases he with rfl | rfl | rfl | rfl
  · rw [k2] at h2; simp at h2
  · rw [k2] at h2; simp at h2
  · rw [k1] at h1; simp at h1
  · rw [k1] at h1; simp at h1
theorem both_iff : (∃ e ∈ [a, b, c, d], bothP a b c d e) ↔ (onP a b c ∨ onP a b d ∨ onP c d a ∨ onP c d b) := by
  have h1 := onP_end a b
  have h2 := onP_end c d
  unfold bothP
  constructor
  · rintro ⟨e, he, k1, k2⟩
    simp only [List.mem_cons, List.not_mem_nil, or_false] at he
    rcases he with rfl | rfl | rfl | rfl
    · exact .inr (.inr (.inl k2))
    · exact .inr (.inr (.inr k2))
    · exact .inl k1
    · exact .inr (.inl k1)
  · rintro (h | h | h | h)
    · exact ⟨c, by simp, h, h2.1⟩
    · exact ⟨d, by simp, h, h2.2⟩
    · exact ⟨a, by simp, h1.1, h⟩
    · exact ⟨b, by simp, h1.2, h⟩
/-- on one line: an end is on both just if it lies so along the line -/
theorem both_D (h1 : trn a b c = 0) (h2 : trn a b d = 0) (h3 : trn c d a = 0) (h4 : trn c d b = 0) {w : Pt} (h : Cln [a, b, c, d] w) {e : Pt} (he : e ∈ [a, b, c, d]) : bothP a b c d e ↔ max (min (Dw w a) (Dw w b)) (min (Dw w c) (Dw w d)) ≤ Dw w e ∧ Dw w e ≤ min (max (Dw w a) (Dw w b)) (max (Dw w c) (Dw w d)) := by
  have t1 : trn a b e = 0 := by
    simp only [List.mem_cons, List.not_mem_nil, or_false] at he
    rcases he with rfl | rfl | rfl | rfl
    · exact (onP_end _ _).1.1
    · exact (onP_end _ _).2.1
    · exact h1
    · exact h2
  have t2 : trn c d e = 0 := by
    simp only [List.mem_cons, List.not_mem_nil, or_false] at he
    rcases he with rfl | rfl | rfl | rfl
    · exact h3
    · exact h4
    · exact (onP_end _ _).1.1
    · exact (onP_end _ _).2.1
  unfold bothP onP
  rw [box_D h (a := a) (b := b) (by simp) (by simp) he, box_D h (a := c) (b := d) (by simp) (by simp) he, t1, t2]
  omega
/-- what is told of two segments, by their ends -/
theorem meet_told (ha : bdP a) (hb : bdP b) (hc : bdP c) (hd : bdP d) :
    (meetP a b c d = 0 ∧ ¬ crossP a b c d ∧ ∀ e ∈ [a, b, c, d], ¬ bothP a b c d e) ∨ (meetP a b c d = 1 ∧ crossP a b c d) ∨
    (meetP a b c d = 2 ∧ ¬ crossP a b c d ∧ (∃ e ∈ [a, b, c, d], bothP a b c d e) ∧ ∀ e ∈ [a, b, c, d], ∀ e' ∈ [a, b, c, d], bothP a b c d e → bothP a b c d e' → e = e') ∨
    (meetP a b c d = 3 ∧ ¬ crossP a b c d ∧ ∃ e ∈ [a, b, c, d], ∃ e' ∈ [a, b, c, d], (bothP a b c d e ∧ bothP a b c d e') ∧ e ≠ e') := by
  unfold meetP
  by_cases h : trn a b c = 0 ∧ trn a b d = 0 ∧ trn c d a = 0 ∧ trn c d b = 0
  · obtain ⟨w, hw⟩ := col_of h.1 h.2.1 h.2.2.1 h.2.2.2
    have hbo := fun {e : Pt} (he : e ∈ [a, b, c, d]) => both_D h.1 h.2.1 h.2.2.1 h.2.2.2 hw he
    have hno : ¬ crossP a b c d := fun hc => by have := hc.1; rw [h.1] at this; simp at this
    rw [if_pos h, line_D ha hb hc hd hw]
    have low : ∃ e ∈ [a, b, c, d], Dw w e = max (min (Dw w a) (Dw w b)) (min (Dw w c) (Dw w d)) := by
      have : max (min (Dw w a) (Dw w b)) (min (Dw w c) (Dw w d)) = Dw w a ∨ max (min (Dw w a) (Dw w b)) (min (Dw w c) (Dw w d)) = Dw w b ∨ max (min (Dw w a) (Dw w b)) (min (Dw w c) (Dw w d)) = Dw w c ∨ max (min (Dw w a) (Dw w b)) (min (Dw w c) (Dw w d)) = Dw w d := by omega
      rcases this with e | e | e | e
      · exact ⟨a, by simp, e.symm⟩
      · exact ⟨b, by simp, e.symm⟩
      · exact ⟨c, by simp, e.symm⟩
      · exact ⟨d, by simp, e.symm⟩
    have high : ∃ e ∈ [a, b, c, d], Dw w e = min (max (Dw w a) (Dw w b)) (max (Dw w c) (Dw w d)) := by
      have : min (max (Dw w a) (Dw w b)) (max (Dw w c) (Dw w d)) = Dw w a ∨ min (max (Dw w a) (Dw w b)) (max (Dw w c) (Dw w d)) = Dw w b ∨ min (max (Dw w a) (Dw w b)) (max (Dw w c) (Dw w d)) = Dw w c ∨ min (max (Dw w a) (Dw w b)) (max (Dw w c) (Dw w d)) = Dw w d := by omega
      rcases this with e | e | e | e
      · exact ⟨a, by simp, e.symm⟩
      · exact ⟨b, by simp, e.symm⟩
      · exact ⟨c, by simp, e.symm⟩
      · exact ⟨d, by simp, e.symm⟩
    unfold lineK
    generalize hL : max (min (Dw w a) (Dw w b)) (min (Dw w c) (Dw w d)) = L at hbo low
    generalize hH : min (max (Dw w a) (Dw w b)) (max (Dw w c) (Dw w d)) = H at hbo high
    by_cases c1 : H < L
    · rw [if_pos c1]
      exact .inl ⟨rfl, hno, fun e he hb => by have := (hbo he).1 hb; omega⟩
    · rw [if_neg c1]
      obtain ⟨p, hp, ep⟩ := low
      obtain ⟨q, hq, eq⟩ := high
      have bp := (hbo hp).2 (by omega)
      have bq := (hbo hq).2 (by omega)
      by_cases c2 : H = L
      · rw [if_pos c2]
        refine .inr (.inr (.inl ⟨rfl, hno, ⟨p, hp, bp⟩, fun e he e' he' b1 b2 => ?_⟩))
        have k1 := (hbo he).1 b1
        have k2 := (hbo he').1 b2
        exact hw.inj he he' (by omega)
      · rw [if_neg c2]
        exact .inr (.inr (.inr ⟨rfl, hno, p, hp, q, hq, ⟨bp, bq⟩, fun e => by subst e; omega⟩))
  · rw [if_neg h]
    by_cases h2 : crossP a b c d
    · rw [if_pos (show trn a b c * trn a b d < 0 ∧ trn c d a * trn c d b < 0 from h2)]; exact .inr (.inl ⟨rfl, h2⟩)
    · rw [if_neg (show ¬ (trn a b c * trn a b d < 0 ∧ trn c d a * trn c d b < 0) from h2)]
      by_cases h3 : onP a b c ∨ onP a b d ∨ onP c d a ∨ onP c d b
      · rw [if_pos h3]
        refine .inr (.inr (.inl ⟨rfl, h2, both_iff.2 h3, fun e he e' he' b1 b2 => ?_⟩))
        refine Classical.byContradiction fun hne => h ?_
        -- two points that both have: all lie on their line
        have hw : mns e' e ≠ (0, 0) := fun e0 => hne (mns_zero.1 e0).symm
        have pt : ∀ {u v w : Pt}, w ≠ (0, 0) → par u w → par v w → par u v := fun {u v w} hw h1 h2 => by
          obtain ⟨s1, s2⟩ := par_comb h1
          obtain ⟨t1, t2⟩ := par_comb h2
          have hn := nn_pos hw
          generalize hN : w.1 * w.1 + w.2 * w.2 = N at *
          have hN0 : N ≠ 0 := fun e => by rw [e] at hn; simp at hn
          unfold par
          have : N * (N * (u.1 * v.2)) = N * (N * (u.2 * v.1)) := by
            have f1 : N * (N * (u.1 * v.2)) = (u.1 * N) * (v.2 * N) := by grind
            have f2 : N * (N * (u.2 * v.1)) = (u.2 * N) * (v.1 * N) := by grind
            rw [f1, f2, s1, s2, t1, t2]; grind
          exact Int.eq_of_mul_eq_mul_left hN0 (Int.eq_of_mul_eq_mul_left hN0 this)
        have ps : ∀ {u v : Pt}, par u v → par v u := fun {u v} h => by unfold par at *; grind
        -- a segment with two points of it
        have seg : ∀ {a b : Pt}, onP a b e → onP a b e' → par (mns b a) (mns e' e) ∧ par (mns e a) (mns e' e) := fun {a b} k1 k2 => by
          have p1 := trn_par.1 k1.1
          have p2 := trn_par.1 k2.1
          by_cases hab : a = b
          · subst hab
            have x1 := k1.2
            have x2 := k2.2
            unfold boxP at x1 x2
            exact absurd (Prod.ext (by omega) (by omega) : e = e') hne
          · have hba : mns b a ≠ (0, 0) := fun e0 => hab (mns_zero.1 e0).symm
            have p3 : par (mns e' e) (mns b a) := par_add p2 (par_neg p1)
            exact ⟨ps p3, pt hba p1 p3⟩
        obtain ⟨a1, a2⟩ := seg b1.1 b2.1
        obtain ⟨c1, c2⟩ := seg b1.2 b2.2
        have ca : par (mns c a) (mns e' e) := par_add (par_neg c2) a2
        have da : par (mns d a) (mns e' e) := par_add c1 ca
        have ac : par (mns a c) (mns e' e) := par_neg ca
        have bc : par (mns b c) (mns e' e) := par_add a1 ac
        exact ⟨trn_par.2 (pt hw ca a1), trn_par.2 (pt hw da a1), trn_par.2 (pt hw ac c1), trn_par.2 (pt hw bc c1)⟩
      · rw [if_neg h3]
        exact .inl ⟨rfl, h2, fun e he hb => h3 (both_iff.1 ⟨e, he, hb⟩)⟩
end
end TL
