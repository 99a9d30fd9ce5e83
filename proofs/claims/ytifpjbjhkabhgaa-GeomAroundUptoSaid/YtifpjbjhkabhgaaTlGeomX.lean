/-
  TlGeomX: polylines: the document's way and the code's.
  By an AI agent.
-/
import Derived.Test.YtifpjbjhkabhgaaTlGeomS
import Derived.Test.YtifpjbjhkabhgaaTlGeomB
set_option linter.all false
namespace TL
def areaI (ps : List Pt) : Int := if (ps.length : Int) < 3 then 0 else areaK ps ps.length
theorem area_step {a b : Pt} {n : Int} : n + a.1 * b.2 - b.1 * a.2 = n + crs a b := by
  unfold crs; have := Int.mul_comm b.1 a.2; omega
section
variable {a b c d : Pt}
theorem par_trans {u v w : Pt} (hw : w ≠ (0, 0)) (h1 : par u w) (h2 : par v w) : par u v := by
  obtain ⟨s1, s2⟩ := par_comb h1
  obtain ⟨t1, t2⟩ := par_comb h2
  have hn := nn_pos hw
  generalize hN : w.1 * w.1 + w.2 * w.2 = N at *
  have hN0 : N ≠ 0 := fun e => by rw [e] at hn; simp at hn
  unfold par
  have : N * (N * (u.1 * v.2)) = N * (N * (u.2 * v.1)) := by
    have f1 : N * (N * (u.1 * v.2)) = (u.1 * N) * (v.2 * N) := by grind
    have f2 : N * (N * (u.2 * v.1)) = (u.2 * N) * (v.1 * N) := by grind
    rw [f1, f2, s1, s2, t1, t2]; grind
  exact Int.eq_of_mul_eq_mul_left hN0 (Int.eq_of_mul_eq_mul_left hN0 this)
theorem par_sym {u v : Pt} (h : par u v) : par v u := by unfold par at *; grind
/-- two points that both segments have: all on one line -/
theorem two_pts {e e' : Pt} (b1 : bothP a b c d e) (b2 : bothP a b c d e') (hne : e ≠ e') : trn a b c = 0 ∧ trn a b d = 0 ∧ trn c d a = 0 ∧ trn c d b = 0 := by
  have hw : mns e' e ≠ (0, 0) := fun e0 => hne (mns_zero.1 e0).symm
  have seg : ∀ {a b : Pt}, onP a b e → onP a b e' → par (mns b a) (mns e' e) ∧ par (mns e a) (mns e' e) := fun {a b} k1 k2 => by
    have p1 := trn_par.1 k1.1
    have p2 := trn_par.1 k2.1
    by_cases hab : a = b
    · subst hab
      have x1 := k1.2
      have x2 := k2.2
      unfold boxP at x1 x2
      exact absurd (Prod.ext (by omega) (by omega) : e = e') hne
    · have hba : mns b a ≠ (0, 0) := fun e0 => hab (mns_zero.1 e0).symm
      have p3 : par (mns e' e) (mns b a) := par_add p2 (par_neg p1)
      exact ⟨par_sym p3, par_trans hba p1 p3⟩
  obtain ⟨a1, a2⟩ := seg b1.1 b2.1
  obtain ⟨c1, c2⟩ := seg b1.2 b2.2
  have ca : par (mns c a) (mns e' e) := par_add (par_neg c2) a2
  have da : par (mns d a) (mns e' e) := par_add c1 ca
  have ac : par (mns a c) (mns e' e) := par_neg ca
  have bc : par (mns b c) (mns e' e) := par_add a1 ac
  exact ⟨trn_par.2 (par_trans hw ca a1), trn_par.2 (par_trans hw da a1), trn_par.2 (par_trans hw ac c1), trn_par.2 (par_trans hw bc c1)⟩
theorem cln_more {w x : Pt} (h : Cln [a, b, c, d] w) (hx : onP a b x) : Cln [x, a, b, c, d] w := by
  have hxa : par (mns x a) w ∧ (w = (0, 0) → x = a) := by
    by_cases hab : a = b
    · subst hab
      have x1 := hx.2
      unfold boxP at x1
      have : x = a := Prod.ext (by omega) (by omega)
      subst this
      exact ⟨par_self _ _, fun _ => rfl⟩
    · have hba : mns b a ≠ (0, 0) := fun e0 => hab (mns_zero.1 e0).symm
      have p1 := trn_par.1 hx.1
      have p2 := h.pr b (by simp) a (by simp)
      refine ⟨par_trans hba p1 (par_sym p2), fun e => absurd (h.one e b (by simp) a (by simp)).symm hab⟩
  refine Cln.base (o := a) (fun p hp => ?_) (fun e p hp => ?_)
  · rcases List.mem_cons.1 hp with rfl | hp
    · exact hxa.1
    · exact h.pr p hp a (by simp)
  · rcases List.mem_cons.1 hp with rfl | hp
    · exact hxa.2 e
    · exact h.one e p hp a (by simp)
/-- where they touch, they have one point -/
theorem touch_one (ha : bdP a) (hb : bdP b) (hc : bdP c) (hd : bdP d) (hm : meetP a b c d = 2) {e x : Pt} (hme : e ∈ [a, b, c, d]) (he : bothP a b c d e) (hx : bothP a b c d x) : x = e := by
  refine Classical.byContradiction fun hne => ?_
  obtain ⟨z1, z2, z3, z4⟩ := two_pts hx he hne
  obtain ⟨w, hw⟩ := col_of z1 z2 z3 z4
  have hl : lineK (Dw w a) (Dw w b) (Dw w c) (Dw w d) = 2 := by
    rw [← line_D ha hb hc hd hw, ← hm]
    unfold meetP
    rw [if_pos ⟨z1, z2, z3, z4⟩]
  have hw2 := cln_more hw hx.1
  have k1 := (box_D hw2 (a := a) (b := b) (p := x) (by simp) (by simp) (by simp)).1 hx.1.2
  have k2 := (box_D hw2 (a := c) (b := d) (p := x) (by simp) (by simp) (by simp)).1 hx.2.2
  have k3 := (both_D z1 z2 z3 z4 hw hme).1 he
  have heq : Dw w x = Dw w e := by
    unfold lineK at hl
    by_cases c1 : min (max (Dw w a) (Dw w b)) (max (Dw w c) (Dw w d)) < max (min (Dw w a) (Dw w b)) (min (Dw w c) (Dw w d))
    · rw [if_pos c1] at hl; simp at hl
    · rw [if_neg c1] at hl
      by_cases c2 : min (max (Dw w a) (Dw w b)) (max (Dw w c) (Dw w d)) = max (min (Dw w a) (Dw w b)) (min (Dw w c) (Dw w d))
      · omega
      · rw [if_neg c2] at hl; simp at hl
  exact hne (hw2.inj (by simp) (List.mem_cons_of_mem _ hme) heq)
theorem share_m (ha : bdP a) (hb : bdP b) (hc : bdP c) (hd : bdP d) {e : Pt} (hme : e ∈ [a, b, c, d]) (he : bothP a b c d e) : meetP a b c d = 2 ∨ meetP a b c d = 3 := by
  rcases meet_told ha hb hc hd with ⟨_, _, h3⟩ | ⟨_, h2⟩ | ⟨h1, _⟩ | ⟨h1, _⟩
  · exact absurd he (h3 e hme)
  · exact absurd he (cross_none h2 hme)
  · exact .inl h1
  · exact .inr h1
end
/-! simple -/
section
variable {ps : List Pt} {i k : Nat}
theorem join_m (hp : okL ps) (hi : (i : Int) ≤ (ps.length : Int) - 2) (hk : (k : Int) ≤ (ps.length : Int) - 2) (hj : joinP ps i k) : mAt ps i k = 2 ∨ mAt ps i k = 3 := by
  have bd : ∀ j : Int, 0 ≤ j → j < ps.length → bdP (gI ps j) := fun j h0 h1 => (hp.2 _ (gI_mem h0 h1)).bd
  unfold mAt
  have b1 := bd (i : Int) (by omega) (by omega)
  have b2 := bd ((i : Int) + 1) (by omega) (by omega)
  have b3 := bd (k : Int) (by omega) (by omega)
  have b4 := bd ((k : Int) + 1) (by omega) (by omega)
  rcases hj with e | ⟨e, e2, _, e4⟩
  · subst e
    have e0 : ((i + 1 : Nat) : Int) = (i : Int) + 1 := by omega
    rw [e0] at b3 b4 ⊢
    exact share_m b1 b2 b3 b4 (e := gI ps ((i : Int) + 1)) (by simp) ⟨(onP_end _ _).2, (onP_end _ _).1⟩
  · subst e
    have e5 : gI ps ((k : Int) + 1) = gI ps 0 := by rw [show (k : Int) + 1 = (ps.length : Int) - 1 by omega]; exact e4.symm
    exact share_m b1 b2 b3 b4 (e := gI ps ((0 : Nat) : Int)) (by simp) ⟨(onP_end _ _).1, by rw [e5]; exact (onP_end _ _).2⟩
theorem bad2 (hp : okL ps) (hi : (i : Int) ≤ (ps.length : Int) - 2) (hk : (k : Int) ≤ (ps.length : Int) - 2) (hj : joinP ps i k) (hm : ¬ meetP (gI ps (i : Int)) (gI ps ((i : Int) + 1)) (gI ps (k : Int)) (gI ps ((k : Int) + 1)) = 2) : badP ps i k :=
  .inl ⟨hj, (join_m hp hi hk hj).resolve_left hm⟩
theorem good2 (hj : joinP ps i k) (hm : meetP (gI ps (i : Int)) (gI ps ((i : Int) + 1)) (gI ps (k : Int)) (gI ps ((k : Int) + 1)) = 2) : ¬ badP ps i k :=
  good3 hj (by rw [hm]; decide)
theorem join2' (h1 : (i : Int) = 0) (h2 : (k : Int) = (ps.length : Int) - 1 - 1) (h3 : 3 ≤ (ps.length : Int) - 1) (h4 : gI ps 0 = gI ps ((ps.length : Int) - 1)) : joinP ps i k := .inr ⟨by omega, by omega, by omega, h4⟩
theorem nojoin1' (h : ¬ (k : Int) = (i : Int) + 1) (h1 : ¬ (k : Int) = (ps.length : Int) - 1 - 1) : ¬ joinP ps i k := nojoin1 h (by omega)
theorem nojoin3 (h : ¬ (k : Int) = (i : Int) + 1) (h1 : ¬ 3 ≤ (ps.length : Int) - 1) : ¬ joinP ps i k := by
  rintro (c | ⟨_, _, c, _⟩) <;> omega
theorem nojoin4 (h : ¬ (k : Int) = (i : Int) + 1) (h1 : ¬ gI ps 0 = gI ps ((ps.length : Int) - 1)) : ¬ joinP ps i k := by
  rintro (c | ⟨_, _, _, c⟩)
  · omega
  · exact h1 c
theorem sim_all {i : Nat} (h0 : ∀ j : Nat, (j : Int) < (ps.length : Int) - 1 → gI ps (j : Int) ≠ gI ps ((j : Int) + 1)) (h : ∀ j : Nat, j < i → ∀ k : Nat, j < k → (k : Int) < (ps.length : Int) - 1 → ¬ badP ps j k) (hi : ¬ (i : Int) < (ps.length : Int) - 1) : true = decide (simP ps) :=
  (decide_eq_true fun j hj hj2 => ⟨h0 j (by omega), fun k hk hjk hk2 => h j (by omega) k hjk (by omega)⟩).symm
end
/-! apart -/
def byX (but : List Pt) (s t : Sg) : Prop := meetP s.1 s.2 t.1 t.2 = 3 ∨ (meetP s.1 s.2 t.1 t.2 = 1 ∧ ¬ ∃ x ∈ but, bothP s.1 s.2 t.1 t.2 x) ∨ ((meetP s.1 s.2 t.1 t.2 ≠ 0 ∧ meetP s.1 s.2 t.1 t.2 ≠ 1) ∧ ∃ e ∈ [s.1, s.2, t.1, t.2], bothP s.1 s.2 t.1 t.2 e ∧ e ∉ but)
instance (but : List Pt) (s t : Sg) : Decidable (byX but s t) := by unfold byX; infer_instance
def beyP (p q but : List Pt) : Prop := ∃ s ∈ segS p, ∃ t ∈ segS q, byX but s t
instance (p q but : List Pt) : Decidable (beyP p q but) := by unfold beyP; infer_instance
section
variable {p q B : List Pt}
theorem by_iff (hp : okL p) (hq : okL q) (h0 : 0 < p.length) (h1 : 0 < q.length) (hB : ∀ x, x ∈ B ↔ endP p x ∧ endP q x) {s t : Sg} (hs : s ∈ segS p) (ht : t ∈ segS q) : byX B s t ↔ badA p q s t := by
  have a := seg_in h0 hs
  have b := seg_in h1 ht
  have a1 := (hp.2 _ a.1).bd
  have a2 := (hp.2 _ a.2).bd
  have b1 := (hq.2 _ b.1).bd
  have b2 := (hq.2 _ b.2).bd
  have hex : (∃ x ∈ B, bothP s.1 s.2 t.1 t.2 x) ↔ endsP p q s t := by
    rw [ends_iff]
    constructor
    · rintro ⟨x, hx, h⟩
      have := (hB x).1 hx
      exact ⟨x, this.1, this.2, h.1, h.2⟩
    · rintro ⟨x, k1, k2, k3, k4⟩
      exact ⟨x, (hB x).2 ⟨k1, k2⟩, k3, k4⟩
  unfold byX badA
  rcases meet_told a1 a2 b1 b2 with ⟨hm, _, _⟩ | ⟨hm, _⟩ | ⟨hm, _, ⟨e, he, hbe⟩, _⟩ | ⟨hm, _⟩
  · rw [hm]; simp
  · rw [hm, hex]; simp
  · rw [hm, ← hex]
    constructor
    · rintro (h | ⟨h, _⟩ | ⟨_, e', he', hb', hno⟩)
      · omega
      · omega
      · refine .inr ⟨by decide, ?_⟩
        rintro ⟨x, hx, hbx⟩
        have := touch_one a1 a2 b1 b2 hm he' hb' hbx
        rw [this] at hx
        exact hno hx
    · rintro (h | ⟨_, h⟩)
      · omega
      · exact .inr (.inr ⟨⟨by decide, by decide⟩, e, he, hbe, fun hm => h ⟨e, hm, hbe⟩⟩)
  · rw [hm]; simp
theorem app_bey (hp : okL p) (hq : okL q) (h0 : 0 < p.length) (h1 : 0 < q.length) (hB : ∀ x, x ∈ B ↔ endP p x ∧ endP q x) : (!decide (beyP p q B)) = decide (appP p q) := by
  have : beyP p q B ↔ ¬ appP p q := by
    unfold beyP appP
    constructor
    · rintro ⟨s, hs, t, ht, h⟩ ha
      exact ha s hs t ht ((by_iff hp hq h0 h1 hB hs ht).1 h)
    · intro h
      refine Classical.byContradiction fun hno => h fun s hs t ht hb => hno ⟨s, hs, t, ht, (by_iff hp hq h0 h1 hB hs ht).2 hb⟩
  by_cases h : appP p q
  · rw [decide_eq_true h, decide_eq_false (fun h' => this.1 h' h)]; rfl
  · rw [decide_eq_false h, decide_eq_true (this.2 h)]; rfl
theorem both_mem (h : B = (if gI p 0 ∈ [gI q 0, gI q ((q.length : Int) - 1)] then [gI p 0] else []) ++ (if gI p ((p.length : Int) - 1) ∈ [gI q 0, gI q ((q.length : Int) - 1)] then [gI p ((p.length : Int) - 1)] else [])) : ∀ x, x ∈ B ↔ endP p x ∧ endP q x := by
  intro x
  have hq : ∀ y, y ∈ [gI q 0, gI q ((q.length : Int) - 1)] ↔ endP q y := fun y => by unfold endP lastI; simp
  have hx : ∀ y, y ∈ [gI q 0, gI q ((q.length : Int) - 1)] → endP p y → y ∈ B := fun y hy hp => by
    rw [h]
    rcases hp with e | e
    · rw [e] at hy ⊢
      rw [if_pos hy]; simp
    · unfold lastI at e
      rw [e] at hy ⊢
      rw [List.mem_append]
      exact .inr (by rw [if_pos hy]; simp)
  constructor
  · intro hm
    rw [h, List.mem_append] at hm
    rcases hm with hm | hm
    · by_cases c : gI p 0 ∈ [gI q 0, gI q ((q.length : Int) - 1)]
      · rw [if_pos c] at hm
        have e := List.mem_singleton.1 hm
        rw [e]; exact ⟨.inl rfl, (hq _).1 c⟩
      · rw [if_neg c] at hm; cases hm
    · by_cases c : gI p ((p.length : Int) - 1) ∈ [gI q 0, gI q ((q.length : Int) - 1)]
      · rw [if_pos c] at hm
        have e := List.mem_singleton.1 hm
        rw [e]; exact ⟨.inr rfl, (hq _).1 c⟩
      · rw [if_neg c] at hm; cases hm
  · rintro ⟨h1, h2⟩
    exact hx x ((hq x).2 h2) h1
/-- all that is told of polylines -/
theorem lines_law (p q : List Pt) : ((areaR p).2 = errS p ∧ (errS p = 0 → (areaR p).1 = areaI p)) ∧
    (errS p = 0 → (p.length : Int) = 0 → ((simR p).2 = 1 ∧ (boxR p).2.2 = 9) ∧ (aptR p q).2 = 1 ∧ (simR p).1 = false ∧ (aptR p q).1 = false) ∧
    (¬ (errS p = 0 ∧ (p.length : Int) = 0) → (simR p).2 = errS p ∧ (boxR p).2.2 = errS p) ∧
    (errS p = 0 → ¬ (p.length : Int) = 0 → (simR p).1 = decide (simP p) ∧ (boxR p).1 = loK p p.length ∧ (boxR p).2.1 = hiK p p.length) ∧
    (((¬ errS p = 0 ∨ ¬ errS q = 0) ∨ (q.length : Int) = 0) → (aptR p q).2 = 1 ∧ (aptR p q).1 = false) ∧
    (errS p = 0 → errS q = 0 → ¬ (p.length : Int) = 0 → ¬ (q.length : Int) = 0 → (aptR p q).2 = 0 ∧ (aptR p q).1 = decide (appP p q)) := by
  have ez : ∀ {ps : List Pt}, errS ps = 0 ↔ okL ps := fun {ps} => ⟨errS_ok, fun h => by unfold errS; rw [if_pos h]⟩
  have eo : ∀ {ps : List Pt}, ¬ okL ps → errS ps = 1 := fun {ps} h => by unfold errS; rw [if_neg h]
  refine ⟨⟨?_, fun h => ?_⟩, fun h h0 => ?_, fun h => ?_, fun h h0 => ?_, fun h => ?_, fun h1 h2 h3 h4 => ?_⟩
  · unfold areaR errS
    by_cases c : okL p
    · rw [if_pos c, if_pos c]; split <;> rfl
    · rw [if_neg c, if_neg c]
  · unfold areaR areaI
    rw [if_pos (ez.1 h)]
    split <;> rfl
  · rw [simR_err (.inl h0), aptR_err (.inl (.inl h0))]
    unfold boxR
    rw [if_pos (ez.1 h), if_pos h0]
    exact ⟨⟨rfl, rfl⟩, rfl, rfl, rfl⟩
  · by_cases c : okL p
    · have h0 : ¬ (p.length : Int) = 0 := fun h0 => h ⟨ez.2 c, h0⟩
      rw [simR_ok h0 c, ez.2 c]
      unfold boxR
      rw [if_pos c, if_neg h0]
      exact ⟨rfl, rfl⟩
    · rw [simR_err (.inr c), eo c]
      unfold boxR
      rw [if_neg c]
      exact ⟨rfl, rfl⟩
  · rw [simR_ok h0 (ez.1 h)]
    unfold boxR
    rw [if_pos (ez.1 h), if_neg h0]
    exact ⟨rfl, rfl, rfl⟩
  · rw [aptR_err]
    · exact ⟨rfl, rfl⟩
    · rcases h with (h | h) | h
      · exact .inr (.inl fun c => h (ez.2 c))
      · exact .inr (.inr fun c => h (ez.2 c))
      · exact .inl (.inr h)
  · rw [aptR_ok h3 h4 (ez.1 h1) (ez.1 h2)]
    exact ⟨rfl, rfl⟩
end
end TL
namespace TL
section
variable {p q but : List Pt} {i k : Nat}
theorem bey_yes (hi : (i : Int) < (segS p).length) (hk : (k : Int) < (segS q).length) (h : byX but (gI (segS p) (i : Int)) (gI (segS q) (k : Int))) : true = decide (beyP p q but) :=
  (decide_eq_true ⟨_, gI_mem (by omega) hi, _, gI_mem (by omega) hk, h⟩).symm
theorem bey_no (h : ∀ j : Nat, j < i → ∀ t ∈ segS q, ¬ byX but (gI (segS p) (j : Int)) t) (hi : ¬ (i : Int) < (segS p).length) : false = decide (beyP p q but) :=
  (decide_eq_false fun ⟨s, hs, t, ht, hb⟩ => by
    obtain ⟨j, hj, rfl⟩ := List.mem_iff_getElem.1 hs
    have := h j (by omega) t ht
    have e : gI (segS p) (j : Int) = (segS p)[j] := by unfold gI; rw [Int.toNat_natCast, List.getD_eq_getElem?_getD, List.getElem?_eq_getElem hj]; rfl
    rw [e] at this
    exact this hb).symm
theorem bey_row {s : Sg} (h : ∀ j : Nat, j < k → ¬ byX but s (gI (segS q) (j : Int))) (hk : ¬ (k : Int) < (segS q).length) : ∀ t ∈ segS q, ¬ byX but s t := fun t ht => by
  obtain ⟨j, hj, rfl⟩ := List.mem_iff_getElem.1 ht
  have := h j (by omega)
  have e : gI (segS q) (j : Int) = (segS q)[j] := by unfold gI; rw [Int.toNat_natCast, List.getD_eq_getElem?_getD, List.getElem?_eq_getElem hj]; rfl
  rwa [e] at this
variable {s t : Sg}
def oneK (s t : Sg) (but : List Pt) (k : Nat) : Bool := anK (fun x => decide (bothP s.1 s.2 t.1 t.2 x)) but k
theorem anK_ex {f : Pt → Bool} {ps : List Pt} : ∀ {k : Nat}, anK f ps k = true → ∃ j : Nat, j < k ∧ f (gI ps (j : Int)) = true
  | 0, h => by simp [anK] at h
  | k + 1, h => by
    unfold anK at h
    rcases Bool.or_eq_true _ _ ▸ h with h | h
    · obtain ⟨j, hj, e⟩ := anK_ex h
      exact ⟨j, by omega, e⟩
    · exact ⟨k, by omega, h⟩
theorem one_iff {j : Nat} (hj : ¬ (j : Int) < but.length) (hj2 : j ≤ but.length) : oneK s t but j = true ↔ ∃ x ∈ but, bothP s.1 s.2 t.1 t.2 x := by
  unfold oneK
  constructor
  · intro h
    obtain ⟨i, hi, e⟩ := anK_ex h
    exact ⟨_, gI_mem (by omega) (by omega), of_decide_eq_true e⟩
  · rintro ⟨x, hx, h⟩
    obtain ⟨i, hi, rfl⟩ := List.mem_iff_getElem.1 hx
    have e : gI but (i : Int) = but[i] := by unfold gI; rw [Int.toNat_natCast, List.getD_eq_getElem?_getD, List.getElem?_eq_getElem hi]; rfl
    exact anK_true (j := i) (by omega) (by rw [e]; exact decide_eq_true h)
theorem one_t {j : Nat} {b : Bool} (h : b = oneK s t but j) (hb : b = true) : true = oneK s t but (j + 1) := by
  unfold oneK at h ⊢; rw [anK, ← h, hb]; rfl
theorem one_2 {j : Nat} {b : Bool} (h : b = oneK s t but j) (hb : ¬ b = true) (h1 : decide (onP s.1 s.2 (gI but (j : Int))) = true) : decide (onP t.1 t.2 (gI but (j : Int))) = oneK s t but (j + 1) := by
  unfold oneK at h ⊢; rw [anK, ← h, Bool.eq_false_iff.2 hb, Bool.false_or, decide_eq_decide]
  exact ⟨fun h2 => ⟨of_decide_eq_true h1, h2⟩, fun h2 => h2.2⟩
theorem one_f {j : Nat} {b : Bool} (h : b = oneK s t but j) (hb : ¬ b = true) (h1 : ¬ decide (onP s.1 s.2 (gI but (j : Int))) = true) : false = oneK s t but (j + 1) := by
  unfold oneK at h ⊢; rw [anK, ← h, Bool.eq_false_iff.2 hb, Bool.false_or]
  exact (decide_eq_false fun h2 => h1 (decide_eq_true h2.1)).symm
theorem bx3 (h : meetP s.1 s.2 t.1 t.2 = 3) : byX but s t := .inl h
theorem bx0 (h : meetP s.1 s.2 t.1 t.2 = 0) : ¬ byX but s t := by
  unfold byX; rw [h]; simp
theorem bx1 (h : meetP s.1 s.2 t.1 t.2 = 1) {j : Nat} (hj : ¬ (j : Int) < but.length) (hj2 : j ≤ but.length) {b : Bool} (hb : b = oneK s t but j) (h1 : ¬ b = true) : byX but s t :=
  .inr (.inl ⟨h, fun he => h1 (hb.trans ((one_iff hj hj2).2 he))⟩)
theorem bx1' (h : meetP s.1 s.2 t.1 t.2 = 1) {j : Nat} (hj : ¬ (j : Int) < but.length) (hj2 : j ≤ but.length) {b : Bool} (hb : b = oneK s t but j) (h1 : b = true) : ¬ byX but s t := by
  have he := (one_iff (s := s) (t := t) hj hj2).1 (by rw [← hb]; exact h1)
  unfold byX; rw [h]
  rintro (c | ⟨_, c⟩ | ⟨⟨_, c⟩, _⟩)
  · omega
  · exact c he
  · exact c rfl
theorem bx2 (h0 : ¬ meetP s.1 s.2 t.1 t.2 = 0) (h1 : ¬ meetP s.1 s.2 t.1 t.2 = 1) {j : Nat} (hj : (j : Int) < 4) (k1 : decide (onP s.1 s.2 (gI [s.1, s.2, t.1, t.2] (j : Int))) = true) (k2 : decide (onP t.1 t.2 (gI [s.1, s.2, t.1, t.2] (j : Int))) = true) (k3 : ¬ decide (gI [s.1, s.2, t.1, t.2] (j : Int) ∈ but) = true) : byX but s t :=
  .inr (.inr ⟨⟨h0, h1⟩, _, gI_mem (by omega) (by simpa using hj), ⟨of_decide_eq_true k1, of_decide_eq_true k2⟩, fun h => k3 (decide_eq_true h)⟩)
def goodE (but : List Pt) (s t : Sg) (j : Nat) : Prop := ∀ i : Nat, i < j → ¬ (bothP s.1 s.2 t.1 t.2 (gI [s.1, s.2, t.1, t.2] (i : Int)) ∧ gI [s.1, s.2, t.1, t.2] (i : Int) ∉ but)
theorem goodE.a {j : Nat} (h : goodE but s t j) (k1 : ¬ decide (onP s.1 s.2 (gI [s.1, s.2, t.1, t.2] (j : Int))) = true) : goodE but s t (j + 1) := fun i hi => by
  by_cases e : i = j
  · subst e; exact fun hb => k1 (decide_eq_true hb.1.1)
  · exact h i (by omega)
theorem goodE.b {j : Nat} (h : goodE but s t j) (k1 : ¬ decide (onP t.1 t.2 (gI [s.1, s.2, t.1, t.2] (j : Int))) = true) : goodE but s t (j + 1) := fun i hi => by
  by_cases e : i = j
  · subst e; exact fun hb => k1 (decide_eq_true hb.1.2)
  · exact h i (by omega)
theorem goodE.c {j : Nat} (h : goodE but s t j) (k1 : decide (gI [s.1, s.2, t.1, t.2] (j : Int) ∈ but) = true) : goodE but s t (j + 1) := fun i hi => by
  by_cases e : i = j
  · subst e; exact fun hb => hb.2 (of_decide_eq_true k1)
  · exact h i (by omega)
theorem bx2' (h3 : ¬ meetP s.1 s.2 t.1 t.2 = 3) (h1 : ¬ meetP s.1 s.2 t.1 t.2 = 1) {j : Nat} (hj : ¬ (j : Int) < 4) (h : goodE but s t j) : ¬ byX but s t := by
  rintro (c | ⟨c, _⟩ | ⟨_, e, he, hb, hno⟩)
  · exact h3 c
  · exact h1 c
  · obtain ⟨i, hi, rfl⟩ := List.mem_iff_getElem.1 he
    have e2 : gI [s.1, s.2, t.1, t.2] (i : Int) = [s.1, s.2, t.1, t.2][i] := by unfold gI; rw [Int.toNat_natCast, List.getD_eq_getElem?_getD, List.getElem?_eq_getElem hi]; rfl
    have h4 : i < 4 := by simpa using hi
    exact h i (by omega) ⟨by rw [e2]; exact hb, by rw [e2]; exact hno⟩
theorem gI_mark {α : Type} [Inhabited α] (xs : List α) (m : α) : gI (xs ++ [m]) (xs.length : Int) = m := by
  unfold gI; simp [List.getD_eq_getElem?_getD]
end
end TL
