/-
  TlGeom: points with whole coordinates: turns, segments, how they meet.
  By an AI agent.
-/
import Derived.Test.YtifpjbjhkabhgaaTlNetLaws
set_option linter.all false
namespace TL
abbrev Pt := Int × Int
def cmpI (x y : Int) : Int := if x < y then -1 else if y < x then 1 else 0
theorem cmpI_zero (x : Int) : cmpI x 0 = x.sign := by
  unfold cmpI
  rcases Int.lt_trichotomy x 0 with h | h | h
  · rw [if_pos h, Int.sign_eq_neg_one_of_neg h]
  · subst h; rfl
  · rw [if_neg (by omega), if_pos h, Int.sign_eq_one_of_pos h]
theorem sign3 (x : Int) : x.sign = -1 ∧ x < 0 ∨ x.sign = 0 ∧ x = 0 ∨ x.sign = 1 ∧ 0 < x := by
  rcases Int.lt_trichotomy x 0 with h | h | h
  · exact .inl ⟨Int.sign_eq_neg_one_of_neg h, h⟩
  · exact .inr (.inl ⟨by rw [h]; rfl, h⟩)
  · exact .inr (.inr ⟨Int.sign_eq_one_of_pos h, h⟩)
def crs (a b : Pt) : Int := a.1 * b.2 - a.2 * b.1
def mns (b a : Pt) : Pt := (b.1 - a.1, b.2 - a.2)
def trn (a b c : Pt) : Int := cmpI (crs (mns b a) (mns c a)) 0
theorem trn_zero {a b c : Pt} : trn a b c = 0 ↔ (b.1 - a.1) * (c.2 - a.2) = (b.2 - a.2) * (c.1 - a.1) := by
  unfold trn
  rw [cmpI_zero, Int.sign_eq_zero_iff_zero]
  unfold crs mns
  simp only
  omega
theorem trn_abs (a b c : Pt) : -1 ≤ trn a b c ∧ trn a b c ≤ 1 := by unfold trn cmpI; split <;> (try split) <;> omega
theorem trn_swap (a b c : Pt) : trn b a c = - trn a b c := by
  unfold trn
  rw [cmpI_zero, cmpI_zero, ← Int.sign_neg]
  congr 1
  unfold crs mns
  simp only
  grind
theorem trn_next (a b c : Pt) : trn b c a = trn a b c := by
  unfold trn
  congr 1
  unfold crs mns
  simp only
  grind
def addP (p by_ : Pt) : Pt := (p.1 + by_.1, p.2 + by_.2)
def rotP (p : Pt) : Pt := (-p.2, p.1)
theorem trn_add (a b c q : Pt) : trn (addP a q) (addP b q) (addP c q) = trn a b c := by
  unfold trn
  congr 1
  unfold crs mns addP
  simp only
  grind
theorem trn_rot (a b c : Pt) : trn (rotP a) (rotP b) (rotP c) = trn a b c := by
  unfold trn
  congr 1
  unfold crs mns rotP
  simp only
  grind
/-- within the box of two points -/
def boxP (a b p : Pt) : Prop := (min a.1 b.1 ≤ p.1 ∧ p.1 ≤ max a.1 b.1) ∧ min a.2 b.2 ≤ p.2 ∧ p.2 ≤ max a.2 b.2
instance (a b p : Pt) : Decidable (boxP a b p) := by unfold boxP; infer_instance
def onP (a b p : Pt) : Prop := trn a b p = 0 ∧ boxP a b p
instance (a b p : Pt) : Decidable (onP a b p) := by unfold onP; infer_instance
theorem onP_swap {a b p : Pt} : onP b a p ↔ onP a b p := by
  unfold onP boxP
  rw [trn_swap]
  omega
theorem onP_add {a b p q : Pt} : onP (addP a q) (addP b q) (addP p q) ↔ onP a b p := by
  unfold onP boxP
  rw [trn_add]
  unfold addP
  simp only
  omega
theorem onP_rot {a b p : Pt} : onP (rotP a) (rotP b) (rotP p) ↔ onP a b p := by
  unfold onP boxP
  rw [trn_rot]
  unfold rotP
  simp only
  omega
theorem onP_end (a b : Pt) : onP a b a ∧ onP a b b := by
  have e1 : trn a b a = 0 := trn_zero.2 (by simp)
  have e2 : trn a b b = 0 := trn_zero.2 (by rw [Int.mul_comm])
  unfold onP boxP
  rw [e1, e2]
  omega
/-- by X, then Y -/
def ordP (a b : Pt) : Int := if cmpI a.1 b.1 ≠ 0 then cmpI a.1 b.1 else cmpI a.2 b.2
def lineP (a b c d : Pt) : Int :=
  let a' := if 0 < ordP a b then b else a
  let b' := if 0 < ordP a b then a else b
  let c' := if 0 < ordP c d then d else c
  let d' := if 0 < ordP c d then c else d
  let low := if 0 < ordP c' a' then c' else a'
  let high := if ordP d' b' < 0 then d' else b'
  if 0 < ordP low high then 0 else if ordP low high = 0 then 2 else 3
def meetP (a b c d : Pt) : Int :=
  if trn a b c = 0 ∧ trn a b d = 0 ∧ trn c d a = 0 ∧ trn c d b = 0 then lineP a b c d
  else if trn a b c * trn a b d < 0 ∧ trn c d a * trn c d b < 0 then 1
  else if onP a b c ∨ onP a b d ∨ onP c d a ∨ onP c d b then 2 else 0
/-! on one line -/
def key (p : Pt) : Int := p.1 * 1073741824 + p.2
def bdP (p : Pt) : Prop := (-4194304 ≤ p.1 ∧ p.1 ≤ 4194304) ∧ -4194304 ≤ p.2 ∧ p.2 ≤ 4194304
theorem ordP_key {a b : Pt} (ha : bdP a) (hb : bdP b) : ordP a b = cmpI (key a) (key b) := by
  unfold ordP cmpI key
  unfold bdP at ha hb
  repeat' split
  all_goals omega
theorem key_inj {a b : Pt} (ha : bdP a) (hb : bdP b) (h : key a = key b) : a = b := by
  unfold key at h
  unfold bdP at ha hb
  exact Prod.ext (by omega) (by omega)
def lineK (a b c d : Int) : Int :=
  if min (max a b) (max c d) < max (min a b) (min c d) then 0 else if min (max a b) (max c d) = max (min a b) (min c d) then 2 else 3
theorem cmpI_pos {x y : Int} : 0 < cmpI x y ↔ y < x := by unfold cmpI; split <;> (try split) <;> omega
theorem cmpI_neg {x y : Int} : cmpI x y < 0 ↔ x < y := by unfold cmpI; split <;> (try split) <;> omega
theorem cmpI_eq {x y : Int} : cmpI x y = 0 ↔ x = y := by unfold cmpI; split <;> (try split) <;> omega
theorem lineP_key {a b c d : Pt} (ha : bdP a) (hb : bdP b) (hc : bdP c) (hd : bdP d) : lineP a b c d = lineK (key a) (key b) (key c) (key d) := by
  unfold lineP
  simp only
  have e1 : 0 < ordP a b ↔ key b < key a := by rw [ordP_key ha hb, cmpI_pos]
  have e2 : 0 < ordP c d ↔ key d < key c := by rw [ordP_key hc hd, cmpI_pos]
  have fin : ∀ a b c d : Pt, bdP a → bdP b → bdP c → bdP d → key a ≤ key b → key c ≤ key d →
      (if 0 < ordP (if 0 < ordP c a then c else a) (if ordP d b < 0 then d else b) then (0 : Int) else if ordP (if 0 < ordP c a then c else a) (if ordP d b < 0 then d else b) = 0 then 2 else 3) = lineK (key a) (key b) (key c) (key d) := by
    intro a b c d ha hb hc hd h1 h2
    have e3 : 0 < ordP c a ↔ key a < key c := by rw [ordP_key hc ha, cmpI_pos]
    have e4 : ordP d b < 0 ↔ key d < key b := by rw [ordP_key hd hb, cmpI_neg]
    have low : ∃ p, (if 0 < ordP c a then c else a) = p ∧ bdP p ∧ key p = max (key a) (key c) := by
      by_cases h : 0 < ordP c a
      · rw [if_pos h]; exact ⟨c, rfl, hc, by have := e3.1 h; omega⟩
      · rw [if_neg h]; exact ⟨a, rfl, ha, by have := mt e3.2 h; omega⟩
    have high : ∃ p, (if ordP d b < 0 then d else b) = p ∧ bdP p ∧ key p = min (key b) (key d) := by
      by_cases h : ordP d b < 0
      · rw [if_pos h]; exact ⟨d, rfl, hd, by have := e4.1 h; omega⟩
      · rw [if_neg h]; exact ⟨b, rfl, hb, by have := mt e4.2 h; omega⟩
    obtain ⟨p, ep, hp, kp⟩ := low
    obtain ⟨q, eq, hq, kq⟩ := high
    rw [ep, eq, ordP_key hp hq]
    unfold lineK
    have m1 : max (key a) (key b) = key b := by omega
    have m2 : max (key c) (key d) = key d := by omega
    have m3 : min (key a) (key b) = key a := by omega
    have m4 : min (key c) (key d) = key c := by omega
    rw [m1, m2, m3, m4, ← kp, ← kq]
    by_cases c1 : key q < key p
    · rw [if_pos (cmpI_pos.2 c1), if_pos c1]
    · rw [if_neg (mt cmpI_pos.1 c1), if_neg c1]
      by_cases c2 : key q = key p
      · rw [if_pos (cmpI_eq.2 c2.symm), if_pos c2]
      · rw [if_neg (fun h => c2 (cmpI_eq.1 h).symm), if_neg c2]
  have lk1 : ∀ x y z t : Int, lineK y x z t = lineK x y z t := fun x y z t => by unfold lineK; rw [Int.max_comm y x, Int.min_comm y x]
  have lk2 : ∀ x y z t : Int, lineK x y t z = lineK x y z t := fun x y z t => by unfold lineK; rw [Int.max_comm t z, Int.min_comm t z]
  by_cases c1 : 0 < ordP a b
  · have k1 := e1.1 c1
    by_cases c2 : 0 < ordP c d
    · have k2 := e2.1 c2
      simp only [if_pos c1, if_pos c2]
      rw [fin b a d c hb ha hd hc (by omega) (by omega), lk1, lk2]
    · have k2 := mt e2.2 c2
      simp only [if_pos c1, if_neg c2]
      rw [fin b a c d hb ha hc hd (by omega) (by omega), lk1]
  · have k1 := mt e1.2 c1
    by_cases c2 : 0 < ordP c d
    · have k2 := e2.1 c2
      simp only [if_neg c1, if_pos c2]
      rw [fin a b d c ha hb hd hc (by omega) (by omega), lk2]
    · have k2 := mt e2.2 c2
      simp only [if_neg c1, if_neg c2]
      rw [fin a b c d ha hb hc hd (by omega) (by omega)]
theorem lineK_swap1 (x y z t : Int) : lineK y x z t = lineK x y z t := by unfold lineK; rw [Int.max_comm y x, Int.min_comm y x]
theorem lineK_swap2 (x y z t : Int) : lineK x y t z = lineK x y z t := by unfold lineK; rw [Int.max_comm t z, Int.min_comm t z]
theorem lineK_comm (x y z t : Int) : lineK z t x y = lineK x y z t := by unfold lineK; rw [Int.min_comm (max z t), Int.max_comm (min z t)]
theorem lineK_lt (x y z t : Int) : (min (max x y) (max z t) < max (min x y) (min z t)) ↔ ((x < z ∧ x < t) ∧ y < z ∧ y < t) ∨ ((z < x ∧ t < x) ∧ z < y ∧ t < y) := by omega
theorem lineK_gt (x y z t : Int) : (max (min x y) (min z t) < min (max x y) (max z t)) ↔ ((x < y ∨ y < x) ∧ (z < t ∨ t < z)) ∧ ((x < z ∨ x < t) ∨ y < z ∨ y < t) ∧ ((z < x ∨ t < x) ∨ z < y ∨ t < y) := by omega
/-- four numbers ordered alike, or just the other way about -/
theorem lineK_same {x y z t x' y' z' t' : Int} (h1 : x < y ↔ x' < y') (h1' : y < x ↔ y' < x') (h2 : x < z ↔ x' < z') (h2' : z < x ↔ z' < x') (h3 : x < t ↔ x' < t') (h3' : t < x ↔ t' < x') (h4 : y < z ↔ y' < z') (h4' : z < y ↔ z' < y') (h5 : y < t ↔ y' < t') (h5' : t < y ↔ t' < y') (h6 : z < t ↔ z' < t') (h6' : t < z ↔ t' < z') : lineK x' y' z' t' = lineK x y z t := by
  have e1 : (min (max x' y') (max z' t') < max (min x' y') (min z' t')) ↔ (min (max x y) (max z t) < max (min x y) (min z t)) := by
    rw [lineK_lt, lineK_lt, h2, h2', h3, h3', h4, h4', h5, h5']
  have e2 : (max (min x' y') (min z' t') < min (max x' y') (max z' t')) ↔ (max (min x y) (min z t) < min (max x y) (max z t)) := by
    rw [lineK_gt, lineK_gt, h1, h1', h2, h2', h3, h3', h4, h4', h5, h5', h6, h6']
  have e3 : (min (max x' y') (max z' t') = max (min x' y') (min z' t')) ↔ (min (max x y) (max z t) = max (min x y) (min z t)) := by
    constructor
    · intro h
      have a := mt e1.2 (by omega)
      have b := mt e2.2 (by omega)
      omega
    · intro h
      have a := mt e1.1 (by omega)
      have b := mt e2.1 (by omega)
      omega
  unfold lineK
  simp only [e1, e3]
theorem lineK_neg (x y z t : Int) : lineK (-x) (-y) (-z) (-t) = lineK x y z t := by
  unfold lineK
  have e1 : (min (max (-x) (-y)) (max (-z) (-t)) < max (min (-x) (-y)) (min (-z) (-t))) ↔ (min (max x y) (max z t) < max (min x y) (min z t)) := by omega
  have e2 : (min (max (-x) (-y)) (max (-z) (-t)) = max (min (-x) (-y)) (min (-z) (-t))) ↔ (min (max x y) (max z t) = max (min x y) (min z t)) := by omega
  simp only [e1, e2]
end TL
namespace TL
/-! what the program's functions answer -/
theorem mul_bd {x y : Int} (h1 : -16777216 ≤ x ∧ x ≤ 16777216) (h2 : -16777216 ≤ y ∧ y ≤ 16777216) : -281474976710656 ≤ x * y ∧ x * y ≤ 281474976710656 := by
  have h := Int.natAbs_mul x y
  have a : x.natAbs ≤ 16777216 := by omega
  have b : y.natAbs ≤ 16777216 := by omega
  have c : x.natAbs * y.natAbs ≤ 16777216 * 16777216 := Nat.mul_le_mul a b
  omega
def bdW (p : Pt) : Prop := (-16777216 ≤ p.1 ∧ p.1 ≤ 16777216) ∧ -16777216 ≤ p.2 ∧ p.2 ≤ 16777216
theorem bdW_mns {a b : Pt} (ha : bdP a) (hb : bdP b) : bdW (mns b a) := by
  unfold bdP at ha hb
  unfold bdW mns
  simp only
  omega
def okP (p : Pt) : Prop := (-1048576 ≤ p.1 ∧ p.1 ≤ 1048576) ∧ -1048576 ≤ p.2 ∧ p.2 ≤ 1048576
instance (p : Pt) : Decidable (okP p) := by unfold okP; infer_instance
theorem okP.bd {p : Pt} (h : okP p) : bdP p := by unfold okP at h; unfold bdP; omega
def okL (ps : List Pt) : Prop := ps.length ≤ 4096 ∧ ∀ p ∈ ps, okP p
instance (ps : List Pt) : Decidable (okL ps) := by unfold okL; infer_instance
theorem okL_gI {ps : List Pt} (h : ∀ j : Nat, j < ps.length → okP (gI ps (j : Int))) : ∀ p ∈ ps, okP p := fun p hp => by
  obtain ⟨i, hi, rfl⟩ := List.mem_iff_getElem.1 hp
  have := h i hi
  have e : gI ps (i : Int) = ps[i] := by simp [gI, hi]
  rwa [e] at this
def orL : List Int → Int
  | [] => 0
  | x :: l => if x = 0 then orL l else x
theorem ordP_orL (a b : Pt) : ordP a b = orL [cmpI a.1 b.1, cmpI a.2 b.2] := by
  unfold ordP orL
  by_cases h : cmpI a.1 b.1 = 0
  · rw [if_neg (by simp [h]), if_pos h]
    unfold orL
    by_cases h2 : cmpI a.2 b.2 = 0
    · rw [if_pos h2, h2]; rfl
    · rw [if_neg h2]
  · rw [if_pos h, if_neg h]
theorem orL_take {l : List Int} {k : Nat} (h : ∀ j : Nat, j < k → gI l (j : Int) = 0) (hk : (k : Int) < l.length) (hx : gI l (k : Int) ≠ 0) : gI l (k : Int) = orL l := by
  induction l generalizing k with
  | nil => simp at hk; omega
  | cons a l ih =>
    cases k with
    | zero =>
      have e : gI (a :: l) ((0 : Nat) : Int) = a := by simp [gI]
      rw [e] at hx ⊢
      unfold orL; rw [if_neg hx]
    | succ k =>
      have e : ∀ j : Nat, gI (a :: l) ((j + 1 : Nat) : Int) = gI l (j : Int) := fun j => by simp [gI]
      have e0 : gI (a :: l) ((0 : Nat) : Int) = a := by simp [gI]
      have h0 := h 0 (by omega)
      rw [e0] at h0
      rw [e] at hx ⊢
      unfold orL; rw [if_pos h0]
      exact ih (fun j hj => by rw [← e]; exact h (j + 1) (by omega)) (by simp at hk; omega) hx
theorem orL_none {l : List Int} {k : Nat} (h : ∀ j : Nat, j < k → gI l (j : Int) = 0) (hk : ¬ (k : Int) < l.length) : 0 = orL l := by
  induction l generalizing k with
  | nil => rfl
  | cons a l ih =>
    have e : ∀ j : Nat, gI (a :: l) ((j + 1 : Nat) : Int) = gI l (j : Int) := fun j => by simp [gI]
    have e0 : gI (a :: l) ((0 : Nat) : Int) = a := by simp [gI]
    simp at hk
    have h0 := h 0 (by omega)
    rw [e0] at h0
    unfold orL; rw [if_pos h0]
    exact ih (k := k - 1) (fun j hj => by rw [← e]; exact h (j + 1) (by omega)) (by omega)
def orientR (a b c : Pt) : Int × Int := if okP a ∧ okP b ∧ okP c then (trn a b c, 0) else (0, 1)
def onR (a b c : Pt) : Bool × Int := if okP a ∧ okP b ∧ okP c then (decide (onP a b c), 0) else (false, 1)
def meetR (a b c d : Pt) : Int × Int := if (okP a ∧ okP b) ∧ okP c ∧ okP d then (meetP a b c d, 0) else (0, 1)
theorem okL3 {a b c : Pt} : okL [a, b, c] ↔ okP a ∧ okP b ∧ okP c := by simp [okL]
theorem okL4 {a b c d : Pt} : okL [a, b, c, d] ↔ (okP a ∧ okP b) ∧ okP c ∧ okP d := by simp [okL, and_assoc]
theorem okL1 {a : Pt} : okL [a] ↔ okP a := by simp [okL]
def halfS (p : Pt) : Int := if 0 < p.1 ∨ p.1 = 0 ∧ 0 < p.2 then 0 else 1
section
variable {a b c d : Pt}
theorem meetP_line (h1 : trn a b c = 0) (h2 : trn a b d = 0) (h3 : trn c d a = 0) (h4 : trn c d b = 0) : lineP a b c d = meetP a b c d := by
  unfold meetP; rw [if_pos ⟨h1, h2, h3, h4⟩]
theorem meetP_cross (h1 : trn a b c * trn a b d < 0) (h2 : trn c d a * trn c d b < 0) : 1 = meetP a b c d := by
  unfold meetP
  rw [if_neg (fun h => by rw [h.1, Int.zero_mul] at h1; omega), if_pos ⟨h1, h2⟩]
theorem meetP_touch (h0 : ¬ (trn a b c = 0 ∧ trn a b d = 0 ∧ trn c d a = 0 ∧ trn c d b = 0)) (h1 : ¬ (trn a b c * trn a b d < 0 ∧ trn c d a * trn c d b < 0)) (h2 : onP a b c ∨ onP a b d ∨ onP c d a ∨ onP c d b) : 2 = meetP a b c d := by
  unfold meetP
  rw [if_neg h0, if_neg h1, if_pos h2]
theorem meetP_apart (h0 : ¬ (trn a b c = 0 ∧ trn a b d = 0 ∧ trn c d a = 0 ∧ trn c d b = 0)) (h1 : ¬ (trn a b c * trn a b d < 0 ∧ trn c d a * trn c d b < 0)) (h2 : ¬ (onP a b c ∨ onP a b d ∨ onP c d a ∨ onP c d b)) : 0 = meetP a b c d := by
  unfold meetP
  rw [if_neg h0, if_neg h1, if_neg h2]
end
end TL
