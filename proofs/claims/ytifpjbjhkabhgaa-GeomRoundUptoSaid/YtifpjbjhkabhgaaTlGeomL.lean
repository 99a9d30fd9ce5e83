/-
  TlGeomL: how segments meet, moved, turned, named another way about.
  By an AI agent.
-/
import Derived.Test.YtifpjbjhkabhgaaTlGeom
set_option linter.all false
namespace TL
theorem cmpI_sign (x y : Int) : cmpI x y = (x - y).sign := by
  unfold cmpI
  rcases sign3 (x - y) with ⟨h, h'⟩ | ⟨h, h'⟩ | ⟨h, h'⟩
  · rw [h, if_pos (by omega)]
  · rw [h, if_neg (by omega), if_neg (by omega)]
  · rw [h, if_neg (by omega), if_pos (by omega)]
def par (u w : Pt) : Prop := u.1 * w.2 = u.2 * w.1
def Dw (w p : Pt) : Int := p.1 * w.1 + p.2 * w.2
theorem Dw_sub (w p q : Pt) : Dw w (mns p q) = Dw w p - Dw w q := by
  unfold Dw mns; simp only; grind
theorem par_comb {u w : Pt} (h : par u w) : u.1 * (w.1 * w.1 + w.2 * w.2) = Dw w u * w.1 ∧ u.2 * (w.1 * w.1 + w.2 * w.2) = Dw w u * w.2 := by
  unfold par at h
  unfold Dw
  constructor <;> grind
theorem sq_nonneg (x : Int) : 0 ≤ x * x := by
  rcases Int.le_total 0 x with h | h
  · exact Int.mul_nonneg h h
  · exact Int.mul_nonneg_of_nonpos_of_nonpos h h
theorem sq_pos {x : Int} (h : x ≠ 0) : 0 < x * x := by
  have h1 := sq_nonneg x
  have h2 : x * x ≠ 0 := fun e => by rcases Int.mul_eq_zero.1 e with e | e <;> exact h e
  omega
theorem nn_pos {w : Pt} (hw : w ≠ (0, 0)) : (w.1 * w.1 + w.2 * w.2).sign = 1 := by
  have h1 : 0 ≤ w.1 * w.1 := sq_nonneg _
  have h2 : 0 ≤ w.2 * w.2 := sq_nonneg _
  refine Int.sign_eq_one_of_pos ?_
  by_cases c : w.1 = 0
  · by_cases d : w.2 = 0
    · exact absurd (Prod.ext c d) hw
    · have := sq_pos d
      omega
  · have := sq_pos c
    omega
theorem par_sign {u w : Pt} (hw : w ≠ (0, 0)) (h : par u w) : u.1.sign = (Dw w u).sign * w.1.sign ∧ u.2.sign = (Dw w u).sign * w.2.sign := by
  obtain ⟨h1, h2⟩ := par_comb h
  have hn := nn_pos hw
  have e1 := congrArg Int.sign h1
  have e2 := congrArg Int.sign h2
  rw [Int.sign_mul, Int.sign_mul, hn, Int.mul_one] at e1 e2
  exact ⟨e1, e2⟩
def lexs (u : Pt) : Int := if u.1 ≠ 0 then u.1.sign else u.2.sign
theorem ordP_lex (a b : Pt) : ordP a b = lexs (mns a b) := by
  unfold ordP lexs mns
  simp only
  rw [cmpI_sign, cmpI_sign]
  by_cases h : a.1 - b.1 = 0
  · rw [h]; simp
  · rw [if_pos (fun e => h (Int.sign_eq_zero_iff_zero.1 e)), if_pos h]
theorem par_lex {u w : Pt} (hw : w ≠ (0, 0)) (h : par u w) : lexs u = (Dw w u).sign * lexs w := by
  obtain ⟨h1, h2⟩ := par_sign hw h
  unfold lexs
  by_cases c : w.1 = 0
  · rw [c] at h1
    have hu : u.1 = 0 := by
      have : u.1.sign = 0 := by rw [h1]; simp
      exact Int.sign_eq_zero_iff_zero.1 this
    rw [if_neg (by simp [hu]), if_neg (by simp [c]), h2]
  · rw [if_pos c]
    by_cases d : u.1 = 0
    · rw [if_neg (by simp [d])]
      rw [d] at h1
      have h3 : (Dw w u).sign * w.1.sign = 0 := by rw [← h1]; rfl
      rcases Int.mul_eq_zero.1 h3 with e | e
      · rw [h2, e]; simp
      · exact absurd (Int.sign_eq_zero_iff_zero.1 e) c
    · rw [if_pos d, h1]
theorem lexs_one {w : Pt} (hw : w ≠ (0, 0)) : lexs w = 1 ∨ lexs w = -1 := by
  unfold lexs
  by_cases c : w.1 = 0
  · rw [if_neg (by simp [c])]
    have : w.2 ≠ 0 := fun d => hw (Prod.ext c d)
    rcases sign3 w.2 with ⟨h, h'⟩ | ⟨h, h'⟩ | ⟨h, h'⟩
    · exact .inr h
    · exact absurd h' this
    · exact .inl h
  · rw [if_pos c]
    rcases sign3 w.1 with ⟨h, h'⟩ | ⟨h, h'⟩ | ⟨h, h'⟩
    · exact .inr h
    · exact absurd h' c
    · exact .inl h
/-- all on one line of direction w -/
structure Cln (l : List Pt) (w : Pt) : Prop where
  pr : ∀ p ∈ l, ∀ q ∈ l, par (mns p q) w
  one : w = (0, 0) → ∀ p ∈ l, ∀ q ∈ l, p = q
theorem par_zero (w : Pt) : par (0, 0) w := by unfold TL.par; simp
theorem par_self (a : Pt) (w : Pt) : par (mns a a) w := by unfold TL.par mns; simp
theorem par_neg {a b w : Pt} (h : par (mns a b) w) : par (mns b a) w := by
  unfold TL.par mns at *; simp only at *; grind
theorem par_add {a b c w : Pt} (h1 : par (mns a b) w) (h2 : par (mns b c) w) : par (mns a c) w := by
  unfold TL.par mns at *; simp only at *; grind
theorem trn_par {a b c : Pt} : trn a b c = 0 ↔ par (mns c a) (mns b a) := by
  rw [trn_zero]
  unfold TL.par mns
  simp only
  constructor
  · intro h; grind
  · intro h; grind
theorem mns_zero {a b : Pt} : mns a b = (0, 0) ↔ a = b := by
  unfold mns
  constructor
  · intro h
    have h1 := congrArg Prod.fst h
    have h2 := congrArg Prod.snd h
    simp only at h1 h2
    exact Prod.ext (by omega) (by omega)
  · rintro rfl; simp
theorem Cln.base {l : List Pt} {w o : Pt} (h1 : ∀ p ∈ l, par (mns p o) w) (h2 : w = (0, 0) → ∀ p ∈ l, p = o) : Cln l w :=
  ⟨fun p hp q hq => par_add (h1 p hp) (par_neg (h1 q hq)), fun e p hp q hq => by rw [h2 e p hp, h2 e q hq]⟩
theorem col_of {a b c d : Pt} (h1 : trn a b c = 0) (h2 : trn a b d = 0) (h3 : trn c d a = 0) (h4 : trn c d b = 0) : ∃ w, Cln [a, b, c, d] w := by
  have k1 := trn_par.1 h1
  have k2 := trn_par.1 h2
  have k3 := trn_par.1 h3
  by_cases hab : a = b
  · subst hab
    by_cases hcd : c = d
    · subst hcd
      refine ⟨mns c a, Cln.base (o := a) (fun p hp => ?_) (fun e p hp => ?_)⟩
      · simp only [List.mem_cons, List.not_mem_nil, or_false] at hp
        rcases hp with rfl | rfl | rfl | rfl
        · exact par_self _ _
        · exact par_self _ _
        · unfold TL.par; rw [Int.mul_comm]
        · unfold TL.par; rw [Int.mul_comm]
      · have := mns_zero.1 e
        simp only [List.mem_cons, List.not_mem_nil, or_false] at hp
        rcases hp with rfl | rfl | rfl | rfl
        · rfl
        · rfl
        · exact this
        · exact this
    · refine ⟨mns d c, Cln.base (o := c) (fun p hp => ?_) (fun e p hp => absurd (mns_zero.1 e).symm hcd)⟩
      simp only [List.mem_cons, List.not_mem_nil, or_false] at hp
      rcases hp with rfl | rfl | rfl | rfl
      · exact k3
      · exact k3
      · exact par_self _ _
      · unfold TL.par; rw [Int.mul_comm]
  · refine ⟨mns b a, Cln.base (o := a) (fun p hp => ?_) (fun e p hp => absurd (mns_zero.1 e).symm hab)⟩
    simp only [List.mem_cons, List.not_mem_nil, or_false] at hp
    rcases hp with rfl | rfl | rfl | rfl
    · exact par_self _ _
    · unfold TL.par; rw [Int.mul_comm]
    · exact k1
    · exact k2
theorem Cln.ord {l : List Pt} {w p q : Pt} (h : Cln l w) (hw : w ≠ (0, 0)) (hp : p ∈ l) (hq : q ∈ l) : ordP p q = (Dw w p - Dw w q).sign * lexs w := by
  rw [ordP_lex, par_lex hw (h.pr p hp q hq), Dw_sub]
theorem Cln.inj {l : List Pt} {w p q : Pt} (h : Cln l w) (hp : p ∈ l) (hq : q ∈ l) (e : Dw w p = Dw w q) : p = q := by
  by_cases hw : w = (0, 0)
  · exact h.one hw p hp q hq
  · have h1 := par_sign hw (h.pr p hp q hq)
    rw [Dw_sub, e] at h1
    have e1 : (mns p q).1.sign = 0 := by rw [h1.1]; simp
    have e2 : (mns p q).2.sign = 0 := by rw [h1.2]; simp
    exact mns_zero.1 (Prod.ext (Int.sign_eq_zero_iff_zero.1 e1) (Int.sign_eq_zero_iff_zero.1 e2))
/-- along a line -/
theorem line_D {a b c d w : Pt} (ha : bdP a) (hb : bdP b) (hc : bdP c) (hd : bdP d) (h : Cln [a, b, c, d] w) : lineP a b c d = lineK (Dw w a) (Dw w b) (Dw w c) (Dw w d) := by
  rw [lineP_key ha hb hc hd]
  by_cases hw : w = (0, 0)
  · have e1 := h.one hw b (by simp) a (by simp)
    have e2 := h.one hw c (by simp) a (by simp)
    have e3 := h.one hw d (by simp) a (by simp)
    subst e1 e2 e3
    unfold lineK
    simp
  · have key : ∀ p q, p ∈ [a, b, c, d] → q ∈ [a, b, c, d] → bdP p → bdP q → (key p < key q ↔ (Dw w p - Dw w q).sign * lexs w < 0) := fun p q hp hq bp bq => by
      rw [← h.ord hw hp hq, ordP_key bp bq, cmpI_neg]
    rcases lexs_one hw with e | e
    · have key2 : ∀ p q, p ∈ [a, b, c, d] → q ∈ [a, b, c, d] → bdP p → bdP q → (Dw w p < Dw w q ↔ TL.key p < TL.key q) := fun p q hp hq bp bq => by
        rw [key p q hp hq bp bq, e]
        rcases sign3 (Dw w p - Dw w q) with ⟨s, s'⟩ | ⟨s, s'⟩ | ⟨s, s'⟩ <;> rw [s] <;> omega
      exact lineK_same (key2 a b (by simp) (by simp) ha hb) (key2 b a (by simp) (by simp) hb ha) (key2 a c (by simp) (by simp) ha hc) (key2 c a (by simp) (by simp) hc ha) (key2 a d (by simp) (by simp) ha hd) (key2 d a (by simp) (by simp) hd ha) (key2 b c (by simp) (by simp) hb hc) (key2 c b (by simp) (by simp) hc hb) (key2 b d (by simp) (by simp) hb hd) (key2 d b (by simp) (by simp) hd hb) (key2 c d (by simp) (by simp) hc hd) (key2 d c (by simp) (by simp) hd hc)
    · have key2 : ∀ p q, p ∈ [a, b, c, d] → q ∈ [a, b, c, d] → bdP p → bdP q → (Dw w p < Dw w q ↔ -TL.key p < -TL.key q) := fun p q hp hq bp bq => by
        have := key q p hq hp bq bp
        rw [e] at this
        rcases sign3 (Dw w q - Dw w p) with ⟨s, s'⟩ | ⟨s, s'⟩ | ⟨s, s'⟩ <;> rw [s] at this <;> omega
      rw [← lineK_neg]
      exact lineK_same (key2 a b (by simp) (by simp) ha hb) (key2 b a (by simp) (by simp) hb ha) (key2 a c (by simp) (by simp) ha hc) (key2 c a (by simp) (by simp) hc ha) (key2 a d (by simp) (by simp) ha hd) (key2 d a (by simp) (by simp) hd ha) (key2 b c (by simp) (by simp) hb hc) (key2 c b (by simp) (by simp) hc hb) (key2 b d (by simp) (by simp) hb hd) (key2 d b (by simp) (by simp) hd hb) (key2 c d (by simp) (by simp) hc hd) (key2 d c (by simp) (by simp) hd hc)
theorem between_sign (a b p : Int) : (min a b ≤ p ∧ p ≤ max a b) ↔ (p - a).sign * (p - b).sign ≤ 0 := by
  rcases sign3 (p - a) with ⟨s, s'⟩ | ⟨s, s'⟩ | ⟨s, s'⟩ <;> rcases sign3 (p - b) with ⟨t, t'⟩ | ⟨t, t'⟩ | ⟨t, t'⟩ <;> rw [s, t] <;> omega
theorem box_D {l : List Pt} {w a b p : Pt} (h : Cln l w) (ha : a ∈ l) (hb : b ∈ l) (hp : p ∈ l) : boxP a b p ↔ min (Dw w a) (Dw w b) ≤ Dw w p ∧ Dw w p ≤ max (Dw w a) (Dw w b) := by
  by_cases hw : w = (0, 0)
  · have e1 := h.one hw b hb a ha
    have e2 := h.one hw p hp a ha
    subst e1 e2
    unfold boxP
    omega
  · obtain ⟨u1, u2⟩ := par_sign hw (h.pr p hp a ha)
    obtain ⟨v1, v2⟩ := par_sign hw (h.pr p hp b hb)
    rw [Dw_sub] at u1 u2 v1 v2
    unfold boxP
    rw [between_sign, between_sign, between_sign]
    have f1 : (p.1 - a.1).sign = (mns p a).1.sign := rfl
    have f2 : (p.2 - a.2).sign = (mns p a).2.sign := rfl
    have f3 : (p.1 - b.1).sign = (mns p b).1.sign := rfl
    have f4 : (p.2 - b.2).sign = (mns p b).2.sign := rfl
    rw [f1, f2, f3, f4, u1, u2, v1, v2]
    have hne : w.1 ≠ 0 ∨ w.2 ≠ 0 := by
      by_cases c : w.1 = 0
      · exact .inr fun d => hw (Prod.ext c d)
      · exact .inl c
    rcases sign3 (Dw w p - Dw w a) with ⟨s, _⟩ | ⟨s, _⟩ | ⟨s, _⟩ <;> rcases sign3 (Dw w p - Dw w b) with ⟨t, _⟩ | ⟨t, _⟩ | ⟨t, _⟩ <;> rcases sign3 w.1 with ⟨x, x'⟩ | ⟨x, x'⟩ | ⟨x, x'⟩ <;> rcases sign3 w.2 with ⟨y, y'⟩ | ⟨y, y'⟩ | ⟨y, y'⟩ <;> rw [s, t, x, y] <;> omega
end TL
