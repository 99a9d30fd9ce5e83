/-
  TlAround: points round another one: the order, its laws, the list that is sorted by it.
  By an AI agent.
-/
import Derived.Test.YtifpjbjhkabhgaaTlGeomB
import Derived.Test.YtifpjbjhkabhgaaTlNet
set_option linter.all false
namespace TL

def nrm (p : Pt) : Int := p.1 * p.1 + p.2 * p.2
def Up (p : Pt) : Prop := 0 < p.1 ∨ p.1 = 0 ∧ 0 < p.2
theorem crs_id (u v w : Pt) : v.1 * crs u w = w.1 * crs u v + u.1 * crs v w := by
  unfold crs; grind
theorem crs_antV (u v : Pt) : crs v u = - crs u v := by unfold crs; grind
theorem crs_slf (u : Pt) : crs u u = 0 := by unfold crs; grind

theorem crs_up {u v w : Pt} (hu : Up u) (hv : Up v) (hw : Up w) (c1 : crs u v ≤ 0) (c2 : crs v w ≤ 0) : crs u w ≤ 0 ∧ (crs u v < 0 ∨ crs v w < 0 → crs u w < 0) := by
  have hid := crs_id u v w
  have hu0 : 0 ≤ u.1 := by rcases hu with h | h <;> omega
  have hw0 : 0 ≤ w.1 := by rcases hw with h | h <;> omega
  rcases hv with hv | ⟨hv, hv2⟩
  · have hw1 : 0 < w.1 := by
      rcases hw with h | ⟨h, h2⟩
      · exact h
      · exfalso
        have : crs v w = v.1 * w.2 := by unfold crs; rw [h]; omega
        have := Int.mul_pos hv h2
        omega
    have k1 : w.1 * crs u v ≤ 0 := Int.mul_nonpos_of_nonneg_of_nonpos hw0 c1
    have k2 : u.1 * crs v w ≤ 0 := Int.mul_nonpos_of_nonneg_of_nonpos hu0 c2
    refine ⟨?_, ?_⟩
    · refine Int.not_lt.1 fun h => ?_
      have := Int.mul_pos hv h
      omega
    · intro hs
      refine Int.not_le.1 fun h => ?_
      have k3 : 0 ≤ v.1 * crs u w := Int.mul_nonneg (by omega) h
      rcases hs with hs | hs
      · have := Int.mul_neg_of_pos_of_neg hw1 hs
        omega
      · rcases hu with hu | ⟨hu, hu2⟩
        · have := Int.mul_neg_of_pos_of_neg hu hs
          omega
        · have e : crs u w = - (u.2 * w.1) := by unfold crs; rw [hu]; omega
          have := Int.mul_pos hu2 hw1
          omega
  · have e1 : crs u v = u.1 * v.2 := by unfold crs; rw [hv]; omega
    have hu1 : u.1 = 0 := by
      rcases hu with h | h
      · have := Int.mul_pos h hv2
        omega
      · exact h.1
    have hu2 : 0 < u.2 := by rcases hu with h | h <;> omega
    have e2 : crs u w = - (u.2 * w.1) := by unfold crs; rw [hu1]; omega
    have e3 : crs v w = - (v.2 * w.1) := by unfold crs; rw [hv]; omega
    have k1 := Int.mul_nonneg (Int.le_of_lt hu2) hw0
    refine ⟨by omega, ?_⟩
    rintro (h | h)
    · rw [e1, hu1] at h; omega
    · have : 0 < w.1 := by
        rcases hw with h' | h'
        · exact h'
        · rw [e3, h'.1] at h; omega
      have := Int.mul_pos hu2 this
      omega

def nz (p : Pt) : Prop := ¬ (p.1 = 0 ∧ p.2 = 0)
def neg (p : Pt) : Pt := (-p.1, -p.2)
theorem crs_neg (u v : Pt) : crs (neg u) (neg v) = crs u v := by unfold crs neg; grind
theorem up_or {p : Pt} (h : nz p) : (halfS p = 0 ∧ Up p) ∨ (halfS p = 1 ∧ Up (neg p)) := by
  unfold halfS Up neg
  unfold nz at h
  split
  · exact .inl ⟨rfl, by assumption⟩
  · refine .inr ⟨rfl, ?_⟩
    dsimp
    omega
theorem crs_tr {u v w : Pt} (hu : nz u) (hv : nz v) (hw : nz w) (h1 : halfS u = halfS v) (h2 : halfS v = halfS w) (c1 : crs u v ≤ 0) (c2 : crs v w ≤ 0) : crs u w ≤ 0 ∧ (crs u v < 0 ∨ crs v w < 0 → crs u w < 0) := by
  rcases up_or hu with ⟨a1, a2⟩ | ⟨a1, a2⟩ <;> rcases up_or hv with ⟨b1, b2⟩ | ⟨b1, b2⟩ <;> rcases up_or hw with ⟨d1, d2⟩ | ⟨d1, d2⟩ <;> try (exfalso; omega)
  · exact crs_up a2 b2 d2 c1 c2
  · have := crs_up a2 b2 d2 (by rw [crs_neg]; exact c1) (by rw [crs_neg]; exact c2)
    simpa only [crs_neg] using this

/-- a before b, going clockwise from straight up, nearer ones first -/
def ltV (a b : Pt) (i k : Int) : Prop := halfS a < halfS b ∨ halfS a = halfS b ∧ (crs a b < 0 ∨ crs a b = 0 ∧ (nrm a < nrm b ∨ nrm a = nrm b ∧ i < k))
theorem ltV_irrefl (a : Pt) (i : Int) : ¬ ltV a a i i := by
  unfold ltV; rw [crs_slf]; omega
theorem ltV_tr {a b c : Pt} {i j k : Int} (ha : nz a) (hb : nz b) (hc : nz c) (h1 : ltV a b i j) (h2 : ltV b c j k) : ltV a c i k := by
  unfold ltV at *
  rcases h1 with h1 | ⟨h1, h1'⟩
  · rcases h2 with h2 | ⟨h2, _⟩
    · exact .inl (by omega)
    · exact .inl (by omega)
  · rcases h2 with h2 | ⟨h2, h2'⟩
    · exact .inl (by omega)
    · refine .inr ⟨by omega, ?_⟩
      have t := crs_tr ha hb hc h1 h2 (by omega) (by omega)
      have t' := crs_tr hc hb ha h2.symm h1.symm
      have a1 := crs_antV a b
      have a2 := crs_antV b c
      have a3 := crs_antV a c
      rcases h1' with h1' | ⟨h1', h1''⟩
      · exact .inl (t.2 (.inl h1'))
      · rcases h2' with h2' | ⟨h2', h2''⟩
        · exact .inl (t.2 (.inr h2'))
        · have := t' (by omega) (by omega)
          exact .inr ⟨by omega, by omega⟩
theorem ltV_tot {a b : Pt} {i k : Int} (h : i ≠ k) : ltV a b i k ∨ ltV b a k i := by
  unfold ltV
  have := crs_antV a b
  omega

def vA (o : Pt) (ps : List Pt) (i : Int) : Pt := mns (gI ps i) o
def ltA (o : Pt) (ps : List Pt) (i k : Int) : Prop := ltV (vA o ps i) (vA o ps k) i k
def cfA (o : Pt) (ps : List Pt) (i k : Int) : Int := orL [cmpI (halfS (vA o ps i)) (halfS (vA o ps k)), cmpI (crs (vA o ps i) (vA o ps k)) 0, cmpI (nrm (vA o ps i)) (nrm (vA o ps k)), cmpI i k]
theorem cmpA_neg {x y : Int} : cmpI x y < 0 ↔ x < y := by unfold cmpI; split <;> (try split) <;> omega
theorem cmpA_zero {x y : Int} : cmpI x y = 0 ↔ x = y := by unfold cmpI; split <;> (try split) <;> omega
theorem cfA_lt {o : Pt} {ps : List Pt} {i k : Int} : cfA o ps i k < 0 ↔ ltA o ps i k := by
  unfold cfA ltA ltV
  generalize halfS (vA o ps i) = a1
  generalize halfS (vA o ps k) = a2
  generalize crs (vA o ps i) (vA o ps k) = b1
  generalize nrm (vA o ps i) = c1
  generalize nrm (vA o ps k) = c2
  have q1 := @cmpA_neg a1 a2
  have q2 := @cmpA_zero a1 a2
  have q3 := @cmpA_neg b1 0
  have q4 := @cmpA_zero b1 0
  have q5 := @cmpA_neg c1 c2
  have q6 := @cmpA_zero c1 c2
  have q7 := @cmpA_neg i k
  have q8 := @cmpA_zero i k
  simp only [orL]
  split
  · split
    · split
      · split
        · omega
        · omega
      · omega
    · omega
  · omega
/-- o is none of the points -/
def nzA (o : Pt) (ps : List Pt) : Prop := ∀ i : Nat, i < ps.length → gI ps (i : Int) ≠ o
theorem nzA.nz {o : Pt} {ps : List Pt} (h : nzA o ps) {i : Int} (h0 : 0 ≤ i) (h1 : i < ps.length) : nz (vA o ps i) := by
  have k := h i.toNat (by omega)
  rw [Int.toNat_of_nonneg h0] at k
  intro ⟨e1, e2⟩
  unfold vA mns at e1 e2
  simp only at e1 e2
  exact k (Prod.ext (by omega) (by omega))
def arP (o : Pt) (ps : List Pt) (k : Nat) (l : List Int) : Prop := l.Pairwise (ltA o ps) ∧ ∀ x, x ∈ l ↔ 0 ≤ x ∧ x < (k : Int)

theorem pw_ext {α : Type} {R : α → α → Prop} : ∀ {l1 l2 : List α}, (∀ a, a ∈ l1 → ∀ b, b ∈ l1 → R a b → ¬ R b a) → l1.Pairwise R → l2.Pairwise R → (∀ x, x ∈ l1 ↔ x ∈ l2) → l1 = l2
  | [], [], _, _, _, _ => rfl
  | [], b :: t2, _, _, _, h => by have := (h b).2 (by simp); simp at this
  | a :: t1, [], _, _, _, h => by have := (h a).1 (by simp); simp at this
  | a :: t1, b :: t2, ha, h1, h2, h => by
    rw [List.pairwise_cons] at h1 h2
    have e : a = b := by
      rcases List.mem_cons.1 ((h a).1 (by simp)) with e | m1
      · exact e
      · rcases List.mem_cons.1 ((h b).2 (by simp)) with e | m2
        · exact e.symm
        · exact absurd (h2.1 a m1) (ha a (by simp) b (by simp [m2]) (h1.1 b m2))
    subst e
    have n1 : a ∉ t1 := fun m => ha a (by simp) a (by simp) (h1.1 a m) (h1.1 a m)
    have n2 : a ∉ t2 := fun m => ha a (by simp) a (by simp) (h2.1 a m) (h2.1 a m)
    have := pw_ext (R := R) (l1 := t1) (l2 := t2) (fun x hx y hy => ha x (by simp [hx]) y (by simp [hy])) h1.2 h2.2 fun x => by
      constructor
      · intro m
        rcases List.mem_cons.1 ((h x).1 (by simp [m])) with e | m'
        · subst e; exact absurd m n1
        · exact m'
      · intro m
        rcases List.mem_cons.1 ((h x).2 (by simp [m])) with e | m'
        · subst e; exact absurd m n2
        · exact m'
    rw [this]

section
variable {o : Pt} {ps : List Pt} {k : Nat} {l l' : List Int}
theorem ltA_tr (hz : nzA o ps) {i j k : Int} (hi : 0 ≤ i ∧ i < ps.length) (hj : 0 ≤ j ∧ j < ps.length) (hk : 0 ≤ k ∧ k < ps.length) (h1 : ltA o ps i j) (h2 : ltA o ps j k) : ltA o ps i k :=
  ltV_tr (hz.nz hi.1 hi.2) (hz.nz hj.1 hj.2) (hz.nz hk.1 hk.2) h1 h2
theorem ltA_as (hz : nzA o ps) {i j : Int} (hi : 0 ≤ i ∧ i < ps.length) (hj : 0 ≤ j ∧ j < ps.length) (h1 : ltA o ps i j) : ¬ ltA o ps j i := fun h2 => ltV_irrefl _ _ (ltA_tr hz hi hj hi h1 h2)
theorem arP_uniq (hz : nzA o ps) (hk : k ≤ ps.length) (h : arP o ps k l) (h' : arP o ps k l') : l = l' :=
  pw_ext (fun a ha b hb h1 => ltA_as hz (by have := (h.2 a).1 ha; omega) (by have := (h.2 b).1 hb; omega) h1) h.1 h'.1 fun x => (h.2 x).trans (h'.2 x).symm

theorem arP_ins (hz : nzA o ps) (hk : k < ps.length) (h : arP o ps k l) {m : Nat} (hm : m ≤ l.length) (h1 : ∀ j : Nat, m ≤ j → j < l.length → ltA o ps (k : Int) (gI l (j : Int))) (h2 : m = 0 ∨ ¬ ltA o ps (k : Int) (gI l ((m : Int) - 1))) :
    arP o ps (k + 1) (l.take m ++ (k : Int) :: l.drop m) := by
  have hin : ∀ j : Nat, j < l.length → 0 ≤ gI l (j : Int) ∧ gI l (j : Int) < (k : Int) := fun j hj => (h.2 _).1 (gI_mem (by omega) (by omega))
  constructor
  · have hs : (l.take m ++ l.drop m).Pairwise (ltA o ps) := by rw [List.take_append_drop]; exact h.1
    rw [List.pairwise_append] at hs ⊢
    refine ⟨hs.1, ?_, ?_⟩
    · rw [List.pairwise_cons]
      refine ⟨fun x hx => ?_, hs.2.1⟩
      obtain ⟨j, hj, rfl⟩ := List.mem_iff_getElem.1 hx
      rw [List.length_drop] at hj
      have := h1 (m + j) (by omega) (by omega)
      rw [List.getElem_drop]
      have e : gI l ((m + j : Nat) : Int) = l[m + j] := by simp only [gI]; rw [Int.toNat_natCast]; simp [show m + j < l.length by omega]
      rwa [e] at this
    · intro x hx y hy
      rcases List.mem_cons.1 hy with rfl | hy
      · -- x lies ahead of m
        obtain ⟨j, hj, rfl⟩ := List.mem_iff_getElem.1 hx
        have hj' : j < m ∧ j < l.length := by rw [List.length_take] at hj; omega
        rw [List.getElem_take]
        have e : ∀ q (hq : q < l.length), gI l (q : Int) = l[q] := fun q hq => by simp only [gI]; rw [Int.toNat_natCast]; simp [hq]
        have hlast : ltA o ps (gI l ((m : Int) - 1)) (k : Int) := by
          have hb := hin (m - 1) (by omega)
          rw [show ((m - 1 : Nat) : Int) = (m : Int) - 1 by omega] at hb
          rcases ltV_tot (a := vA o ps (k : Int)) (b := vA o ps (gI l ((m : Int) - 1))) (i := (k : Int)) (k := gI l ((m : Int) - 1)) (by omega) with q | q
          · exact absurd q (by rcases h2 with h2 | h2; (· omega); (· exact h2))
          · exact q
        by_cases hjm : j = m - 1
        · subst hjm
          rw [← e _ hj'.2, show ((m - 1 : Nat) : Int) = (m : Int) - 1 by omega]
          exact hlast
        · have hp := List.pairwise_iff_getElem.1 h.1 j (m - 1) hj'.2 (by omega) (by omega)
          rw [← e _ hj'.2, ← e (m - 1) (by omega)] at hp
          rw [← e _ hj'.2]
          have b1 := hin j hj'.2
          have b2 := hin (m - 1) (by omega)
          rw [show ((m - 1 : Nat) : Int) = (m : Int) - 1 by omega] at hp b2
          exact ltA_tr hz (by omega) (by omega) (by omega) hp hlast
      · exact hs.2.2 x hx y hy
  · intro x
    have : x ∈ l.take m ++ (k : Int) :: l.drop m ↔ x = (k : Int) ∨ x ∈ l := by
      conv => rhs; rw [← List.take_append_drop m l]
      simp only [List.mem_append, List.mem_cons]
      constructor
      · rintro (h | h | h) <;> simp [h]
      · rintro (h | h | h) <;> simp [h]
    rw [this, h.2 x]
    omega
theorem at_ex (l : List Int) (P : Int → Prop) : ∀ m : Nat, m ≤ l.length → (∀ j : Nat, m ≤ j → j < l.length → P (gI l (j : Int))) → ∃ m' : Nat, m' ≤ l.length ∧ (∀ j : Nat, m' ≤ j → j < l.length → P (gI l (j : Int))) ∧ (m' = 0 ∨ ¬ P (gI l ((m' : Int) - 1)))
  | 0, h0, h => ⟨0, h0, h, .inl rfl⟩
  | m + 1, h0, h => by
    by_cases hp : P (gI l (m : Int))
    · exact at_ex l P m (by omega) (fun j hj hl => by
        by_cases e : j = m
        · subst e; exact hp
        · exact h j (by omega) hl)
    · exact ⟨m + 1, h0, h, .inr (by rwa [show ((m + 1 : Nat) : Int) - 1 = (m : Int) by omega])⟩
theorem arP_ex (hz : nzA o ps) : ∀ k : Nat, k ≤ ps.length → ∃ l, arP o ps k l
  | 0, _ => ⟨[], .nil, fun x => by simp⟩
  | k + 1, hk => by
    obtain ⟨l, hl⟩ := arP_ex hz k (by omega)
    obtain ⟨m, h0, h1, h2⟩ := at_ex l (ltA o ps (k : Int)) l.length (Nat.le_refl _) (fun j hj h => by omega)
    exact ⟨_, arP_ins hz (by omega) hl h0 h1 h2⟩
open Classical in
noncomputable def arL (o : Pt) (ps : List Pt) : List Int := if h : ∃ l, arP o ps ps.length l then choose h else []
theorem arL_ok (hz : nzA o ps) : arP o ps ps.length (arL o ps) := by
  have h := arP_ex hz ps.length (Nat.le_refl _)
  unfold arL
  rw [dif_pos h]
  exact Classical.choose_spec h
theorem arL_eq (hz : nzA o ps) (h : arP o ps ps.length l) : l = arL o ps := arP_uniq hz (Nat.le_refl _) h (arL_ok hz)
end

def idxL (n : Nat) : List Int := (List.range n).map fun (i : Nat) => (i : Int)
theorem idxL_len (n : Nat) : (idxL n).length = n := by simp [idxL]
theorem idxL_succ (n : Nat) : idxL (n + 1) = idxL n ++ [(n : Int)] := by simp [idxL, List.range_succ]
open Classical in
noncomputable def arR (o : Pt) (ps : List Pt) : List Int × Int := if (okP o ∧ okL ps) ∧ nzA o ps then (arL o ps, 0) else ([], 1)
theorem arR_ok {o : Pt} {ps : List Pt} (h1 : okP o) (h2 : okL ps) (h3 : nzA o ps) : arR o ps = (arL o ps, 0) := if_pos ⟨⟨h1, h2⟩, h3⟩
theorem arR_no {o : Pt} {ps : List Pt} (h : ¬ ((okP o ∧ okL ps) ∧ nzA o ps)) : arR o ps = ([], 1) := if_neg h
theorem nzA_no {o : Pt} {ps : List Pt} {k : Nat} (h0 : (k : Int) < ps.length) (h : gI ps (k : Int) = o) : ¬ nzA o ps := fun hz => hz k (by omega) h

theorem sqr_bd {x : Int} (h1 : -2097152 ≤ x) (h2 : x ≤ 2097152) : 0 ≤ x * x ∧ x * x ≤ 4398046511104 := by
  have := mul_bd (x := x) (y := x) (by omega) (by omega)
  constructor
  · rcases Int.le_total 0 x with h | h
    · exact Int.mul_nonneg h h
    · exact Int.mul_nonneg_of_nonpos_of_nonpos h h
  · rcases Int.le_total 0 x with h | h
    · exact Int.mul_le_mul h2 h2 h (by omega)
    · have e := Int.neg_mul_neg x x
      have : (-x) * (-x) ≤ 2097152 * 2097152 := Int.mul_le_mul (by omega) (by omega) (by omega) (by omega)
      omega
theorem vA_bd {o : Pt} {ps : List Pt} {i : Int} (ho : okP o) (hp : okL ps) (h0 : 0 ≤ i) (h1 : i < ps.length) :
    (-2097152 ≤ (vA o ps i).1 ∧ (vA o ps i).1 ≤ 2097152) ∧ -2097152 ≤ (vA o ps i).2 ∧ (vA o ps i).2 ≤ 2097152 := by
  have := hp.2 _ (gI_mem h0 h1)
  unfold okP at this ho
  unfold vA mns
  simp only
  omega
theorem vA_sq {o : Pt} {ps : List Pt} {i : Int} (ho : okP o) (hp : okL ps) (h0 : 0 ≤ i) (h1 : i < ps.length) :
    ((0 ≤ (vA o ps i).1 * (vA o ps i).1 ∧ (vA o ps i).1 * (vA o ps i).1 ≤ 4398046511104) ∧ 0 ≤ (vA o ps i).2 * (vA o ps i).2 ∧ (vA o ps i).2 * (vA o ps i).2 ≤ 4398046511104) := by
  have ⟨⟨a, b⟩, c, d⟩ := vA_bd ho hp h0 h1
  exact ⟨sqr_bd a b, sqr_bd c d⟩

/-- the document's comparison of directions -/
def befS (a b : Pt) : Int := if halfS a = halfS b then cmpI (crs a b) 0 else cmpI (halfS a - halfS b) 0
section
variable {o : Pt} {ps : List Pt} {k : Nat} {l : List Int} {q : Int}
theorem bef_lt (hq : q < (k : Int)) : ltA o ps (k : Int) q ↔ ¬ (0 < befS (vA o ps (k : Int)) (vA o ps q) ∨ befS (vA o ps (k : Int)) (vA o ps q) = 0 ∧ nrm (vA o ps q) ≤ nrm (vA o ps (k : Int))) := by
  unfold ltA ltV befS
  generalize halfS (vA o ps (k : Int)) = a1
  generalize halfS (vA o ps q) = a2
  generalize crs (vA o ps (k : Int)) (vA o ps q) = b1
  generalize nrm (vA o ps (k : Int)) = c1
  generalize nrm (vA o ps q) = c2
  have q3 := @cmpA_neg b1 0
  have q4 := @cmpA_zero b1 0
  have q5 := @cmpA_neg (a1 - a2) 0
  have q6 := @cmpA_zero (a1 - a2) 0
  split <;> omega
theorem shift_eq {X : List Int} {m v : Int} (h0 : 0 ≤ m) (h1 : m ≤ l.length) (hX : X.length = l.length + 1) (ha : ∀ j : Nat, (j : Int) < m → gI X (j : Int) = gI l (j : Int)) (hb : ∀ j : Nat, m < (j : Int) → j ≤ l.length → gI X (j : Int) = gI l ((j : Int) - 1)) :
    List.set X (Int.toNat m) v = l.take m.toNat ++ v :: l.drop m.toNat := by
  apply List.ext_getElem?
  intro i
  rw [List.getElem?_set]
  by_cases e : m.toNat = i
  · rw [if_pos e, if_pos (by omega)]
    subst e
    rw [List.getElem?_append_right (by rw [List.length_take]; omega)]
    simp [List.length_take, show min m.toNat l.length = m.toNat by omega]
  · rw [if_neg e]
    by_cases hi : i < X.length
    · have e1 : X[i]? = some (gI X (i : Int)) := by simp [gI, hi]
      rw [e1]
      by_cases hlt : i < m.toNat
      · rw [ha i (by omega), List.getElem?_append_left (by rw [List.length_take]; omega), List.getElem?_take_of_lt hlt]
        simp [gI, show i < l.length by omega]
      · rw [hb i (by omega) (by omega), List.getElem?_append_right (by rw [List.length_take]; omega), List.length_take, show min m.toNat l.length = m.toNat by omega]
        obtain ⟨d, hd⟩ : ∃ d, i - m.toNat = d + 1 := ⟨i - m.toNat - 1, by omega⟩
        rw [hd, List.getElem?_cons_succ, List.getElem?_drop]
        simp only [gI]
        rw [show ((i : Int) - 1).toNat = m.toNat + d by omega]
        simp [show m.toNat + d < l.length by omega]
    · rw [List.getElem?_eq_none (by omega), List.getElem?_eq_none (by simp; omega)]
theorem arP_len (hz : nzA o ps) (hk : k ≤ ps.length) (h : arP o ps k l) : l.length = k := by
  induction k generalizing l with
  | zero =>
    cases l with
    | nil => rfl
    | cons a t => have := (h.2 a).1 (by simp); omega
  | succ k ih =>
    obtain ⟨l0, hl0⟩ := arP_ex hz k (by omega)
    obtain ⟨m, h0, h1, h2⟩ := at_ex l0 (ltA o ps (k : Int)) l0.length (Nat.le_refl _) (fun j hj h => by omega)
    have := arP_uniq hz hk h (arP_ins hz (by omega) hl0 h0 h1 h2)
    have hl := ih (by omega) hl0
    rw [this]
    simp [List.length_append, List.length_take, List.length_drop]
    omega
theorem arP_step (hz : nzA o ps) (hk : k < ps.length) (h : arP o ps k l) {m : Int} (h0 : 0 ≤ m) (hm : m ≤ l.length) (h1 : ∀ j : Nat, m ≤ (j : Int) → j < l.length → ltA o ps (k : Int) (gI l (j : Int))) (h2 : m = 0 ∨ ¬ ltA o ps (k : Int) (gI l (m - 1))) {X : List Int}
    (hX : X.length = l.length + 1) (ha : ∀ j : Nat, (j : Int) < m → gI X (j : Int) = gI l (j : Int)) (hb : ∀ j : Nat, m < (j : Int) → j ≤ l.length → gI X (j : Int) = gI l ((j : Int) - 1)) : arP o ps (k + 1) (List.set X (Int.toNat m) (k : Int)) := by
  rw [shift_eq h0 hm hX ha hb]
  refine arP_ins hz hk h (by omega) (fun j hj hl => h1 j (by omega) hl) ?_
  rcases h2 with h2 | h2
  · exact .inl (by omega)
  · exact .inr (by rwa [Int.toNat_of_nonneg h0])
end
/-- what the sort makes of the numbers is the list -/
theorem arP_of_sort {o : Pt} {ps : List Pt} (hz : nzA o ps) {l : List Int} (hp : l.Perm (idxL ps.length)) (hs : l.Pairwise fun x y => ¬ ltA o ps y x) : l = arL o ps := by
  refine arL_eq hz ⟨?_, fun x => ?_⟩
  · have hn : l.Nodup := hp.nodup_iff.2 (by unfold idxL; exact List.Pairwise.map _ (fun (a b : Nat) (h : a ≠ b) (e : (a : Int) = (b : Int)) => h (by omega)) List.nodup_range)
    refine (List.Pairwise.and hs hn).imp ?_
    intro x y ⟨h1, h2⟩
    rcases ltV_tot (a := vA o ps x) (b := vA o ps y) (i := x) (k := y) h2 with q | q
    · exact q
    · exact absurd q h1
  · rw [hp.mem_iff]
    unfold idxL
    simp only [List.mem_map, List.mem_range]
    constructor
    · rintro ⟨a, h, rfl⟩; omega
    · intro h
      exact ⟨x.toNat, by omega, by omega⟩

def shP (l : List Int) (m k : Int) (X : List Int) : Prop := (m ≤ k ∧ k ≤ l.length) ∧ X.length = l.length + 1 ∧ (∀ j : Nat, (j : Int) < k → gI X (j : Int) = gI l (j : Int)) ∧ (∀ j : Nat, k < (j : Int) → j ≤ l.length → gI X (j : Int) = gI l ((j : Int) - 1))
theorem shift_init {l : List Int} {m k : Int} (h : m ≤ l.length) (hk : k = l.length) : shP l m k (l ++ [0]) := by
  refine ⟨⟨by omega, by omega⟩, by simp, fun j hj => ?_, fun j hj hl => by omega⟩
  rw [gI_nat, gI_nat]
  simp [List.getD, List.getElem?_append_left (show j < l.length by omega)]
theorem shift_step {l X : List Int} {m k : Int} (h0 : 0 ≤ m) (h : shP l m k X) (hk : m < k) : shP l m (k - 1) (List.set X (Int.toNat k) (gI X (k - 1))) := by
  obtain ⟨⟨h1, h2⟩, h3, h4, h5⟩ := h
  refine ⟨⟨by omega, by omega⟩, by rw [List.length_set]; exact h3, fun j hj => ?_, fun j hj hl => ?_⟩
  · rw [← h4 j (by omega), gI_set (by omega) (by omega) (by omega), if_neg (by omega)]
  · by_cases e : (j : Int) = k
    · have e2 := h4 (k - 1).toNat (by omega)
      rw [Int.toNat_of_nonneg (by omega)] at e2
      rw [e, ← e2]
      rw [gI_set (by omega) (by omega) (by omega), if_pos rfl]
    · rw [← h5 j (by omega) hl, gI_set (by omega) (by omega) (by omega), if_neg (by omega)]

section
variable {o : Pt} {ps : List Pt}
theorem arR_zero (h : (arR o ps).2 = 0) : arR o ps = (arL o ps, 0) ∧ okP o ∧ okL ps ∧ nzA o ps := by
  by_cases c : (okP o ∧ okL ps) ∧ nzA o ps
  · exact ⟨arR_ok c.1.1 c.1.2 c.2, c.1.1, c.1.2, c.2⟩
  · rw [arR_no c] at h; cases h
theorem arR_two : ((arR o ps).2 = 0 ∨ (arR o ps).2 = 1) ∧ (¬ (arR o ps).2 = 0 → arR o ps = ([], 1)) := by
  by_cases c : (okP o ∧ okL ps) ∧ nzA o ps
  · rw [arR_ok c.1.1 c.1.2 c.2]; simp
  · rw [arR_no c]; simp
theorem around_law {e : Int} {i : Nat} (hl : (ps.length : Int) ≤ 200) (hi : i = ps.length) (h : (e = 0 ∧ okL ([o] ++ ps) ∧ ∀ j : Nat, j < i → gI ps (j : Int) ≠ o) ∨ (e = 1 ∧ ¬ (okL ([o] ++ ps) ∧ ∀ j : Nat, j < i → gI ps (j : Int) ≠ o))) :
    (e = 0 ∧ arR o ps = (arL o ps, 0) ∧ okP o ∧ okL ps ∧ nzA o ps) ∨ (e = 1 ∧ arR o ps = ([], 1)) := by
  subst hi
  have hk : okL ([o] ++ ps) ↔ okP o ∧ okL ps := by
    unfold okL
    simp only [List.length_append, List.length_singleton, List.mem_append, List.mem_singleton]
    constructor
    · intro ⟨_, h⟩
      exact ⟨h o (.inl rfl), by omega, fun p hp => h p (.inr hp)⟩
    · intro ⟨h1, _, h2⟩
      exact ⟨by omega, fun p hp => hp.elim (fun e => e ▸ h1) (h2 p)⟩
  rcases h with ⟨h1, h2, h3⟩ | ⟨h1, h2⟩
  · obtain ⟨a, b⟩ := hk.1 h2
    exact .inl ⟨h1, arR_ok a b h3, a, b, h3⟩
  · refine .inr ⟨h1, arR_no fun ⟨⟨a, b⟩, c⟩ => h2 ⟨hk.2 ⟨a, b⟩, c⟩⟩
theorem arL_len (hz : nzA o ps) : (arL o ps).length = ps.length := arP_len hz (Nat.le_refl _) (arL_ok hz)
theorem arL_in (hz : nzA o ps) {i : Int} (h0 : 0 ≤ i) (h1 : i < ps.length) : 0 ≤ gI (arL o ps) i ∧ gI (arL o ps) i < (ps.length : Int) :=
  ((arL_ok hz).2 _).1 (gI_mem h0 (by rw [arL_len hz]; exact h1))
theorem arL_lt (hz : nzA o ps) {i j : Int} (h0 : 0 ≤ i) (hij : i < j) (h1 : j < ps.length) : ltA o ps (gI (arL o ps) i) (gI (arL o ps) j) := by
  have hl := arL_len hz
  have := List.pairwise_iff_getElem.1 (arL_ok hz).1 i.toNat j.toNat (by omega) (by omega) (by omega)
  have e1 := gI_get (xs := arL o ps) (i := i) h0 (by omega)
  have e2 := gI_get (xs := arL o ps) (i := j) (by omega) (by omega)
  rw [List.getElem?_eq_getElem (by omega)] at e1 e2
  rw [← Option.some.inj e1, ← Option.some.inj e2]
  exact this
theorem arL_ne (hz : nzA o ps) {i j : Int} (h0 : 0 ≤ i) (hij : i < j) (h1 : j < ps.length) : gI (arL o ps) i ≠ gI (arL o ps) j := fun e => by
  have := arL_lt hz h0 hij h1
  rw [e] at this
  exact ltV_irrefl _ _ this
theorem round_law (hz : nzA o ps) (ho : okP o) (hps : okL ps) {i : Int} (h0 : 0 < i) (h1 : i < ps.length) :
    (orientR o (gI ps (gI (arL o ps) (i - 1))) (gI ps (gI (arL o ps) i))).2 = 0 ∧ halfS (mns (gI ps (gI (arL o ps) (i - 1))) o) ≤ halfS (mns (gI ps (gI (arL o ps) i)) o) ∧
      (halfS (mns (gI ps (gI (arL o ps) (i - 1))) o) = halfS (mns (gI ps (gI (arL o ps) i)) o) → (orientR o (gI ps (gI (arL o ps) (i - 1))) (gI ps (gI (arL o ps) i))).1 ≤ 0) := by
  obtain ⟨a1, a2⟩ := arL_in hz (i := i - 1) (by omega) (by omega)
  obtain ⟨b1, b2⟩ := arL_in hz (i := i) (by omega) (by omega)
  have k1 := hps.2 _ (gI_mem a1 a2)
  have k2 := hps.2 _ (gI_mem b1 b2)
  have hlt := arL_lt hz (i := i - 1) (j := i) (by omega) (by omega) h1
  have e : orientR o (gI ps (gI (arL o ps) (i - 1))) (gI ps (gI (arL o ps) i)) = (trn o (gI ps (gI (arL o ps) (i - 1))) (gI ps (gI (arL o ps) i)), 0) := if_pos ⟨ho, k1, k2⟩
  rw [e]
  unfold ltA ltV vA at hlt
  refine ⟨rfl, by omega, fun h => ?_⟩
  unfold trn
  simp only
  have q := @cmpI_pos (crs (mns (gI ps (gI (arL o ps) (i - 1))) o) (mns (gI ps (gI (arL o ps) i)) o)) 0
  omega
/-- the places that have been seen -/
def seenP (o : Pt) (ps : List Pt) (i : Nat) (S : List Bool) : Prop := S.length = ps.length ∧ ∀ x : Int, 0 ≤ x → x < ps.length → (gI S x = true ↔ ∃ j : Nat, j < i ∧ gI (arL o ps) (j : Int) = x)
theorem seen_start : seenP o ps 0 (List.replicate ps.length false) := by
  refine ⟨by simp, fun x h0 h1 => ?_⟩
  rw [gI_rep h0 h1]; simp
theorem seen_new (hz : nzA o ps) {i : Nat} {S : List Bool} (h : seenP o ps i S) (hi : (i : Int) < ps.length) : ¬ gI S (gI (arL o ps) (i : Int)) = true := by
  obtain ⟨b1, b2⟩ := arL_in hz (i := (i : Int)) (by omega) hi
  intro hs
  obtain ⟨j, hj, e⟩ := (h.2 _ b1 b2).1 hs
  exact arL_ne hz (by omega) (by omega) hi e
theorem seen_step (hz : nzA o ps) {i : Nat} {S : List Bool} (h : seenP o ps i S) (hi : (i : Int) < ps.length) : seenP o ps (i + 1) (List.set S (Int.toNat (gI (arL o ps) (i : Int))) true) := by
  obtain ⟨b1, b2⟩ := arL_in hz (i := (i : Int)) (by omega) hi
  refine ⟨by rw [List.length_set]; exact h.1, fun x h0 h1 => ?_⟩
  rw [gI_set b1 (by rw [h.1]; exact b2) h0]
  split
  · rename_i e
    simp only [true_iff]
    exact ⟨i, by omega, e.symm⟩
  · rename_i e
    rw [h.2 x h0 h1]
    constructor
    · rintro ⟨j, hj, hx⟩; exact ⟨j, by omega, hx⟩
    · rintro ⟨j, hj, hx⟩
      refine ⟨j, ?_, hx⟩
      by_cases e' : j = i
      · subst e'; exact absurd hx.symm e
      · omega
end
theorem ea_start {o : Pt} {ps l : List Pt} : (errS l = 0 ∧ okL l ∧ ∀ j : Nat, j < 0 → gI ps (j : Int) ≠ o) ∨ (errS l = 1 ∧ ¬ (okL l ∧ ∀ j : Nat, j < 0 → gI ps (j : Int) ≠ o)) := by
  unfold errS
  by_cases c : okL l
  · exact .inl ⟨if_pos c, c, fun j hj => by omega⟩
  · exact .inr ⟨if_neg c, fun h => c h.1⟩
end TL
