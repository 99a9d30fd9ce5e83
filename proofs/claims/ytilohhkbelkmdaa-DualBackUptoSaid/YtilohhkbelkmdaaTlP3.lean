/- Plain texts of this claim, part 3. By an AI agent. -/
import Derived.Test.YtilohhkbelkmdaaTlP2
import Derived.Carry
import Derived.Deep.Slices
import Derived.Lib.SmallJoins
import Derived.RowKit
/-
  TlBack: the dual: its rounds are the faces, its faces the nodes; the dual's dual.
  By an AI agent.
-/
set_option linter.all false
namespace TL
section
variable {g : Net} {r : Rot}
theorem dualN_eq (hm : MayP g) (hr : RotP g r) : dualN g r = (((facesS (nextS g r) r).length : Int), (iotaI g.2.length).map (endsS (ofS g r))) := by
  unfold dualN; rw [facesR_yes (rmay_yes hm hr), ofR_yes (rmay_yes hm hr)]
theorem dual_len (g : Net) (r : Rot) : (dualN g r).2.length = g.2.length := by simp [dualN, iota_len]
theorem dual_from (hm : MayP g) (hr : RotP g r) {h : Int} (hh : In (2 * (g.2.length : Int)) h) : fromS (dualN g r) h = gI (ofS g r) h := by
  obtain ⟨h0, h1⟩ := hh
  rw [dualN_eq hm hr]
  unfold fromS
  simp only
  rw [gI_map _ (by omega) (by rw [iota_len]; omega)]
  have e1 : gI (iotaI g.2.length) (h / 2) = h / 2 := by
    obtain ⟨k, hk⟩ : ∃ k : Nat, h / 2 = (k : Int) := ⟨(h / 2).toNat, by omega⟩
    rw [hk]
    simp [iotaI, gI, show k < g.2.length by omega]
  rw [e1]
  unfold endsS pI
  split
  · rw [show 2 * (h / 2) = h by omega]
  · rw [show 2 * (h / 2) + 1 = h by omega]
theorem dual_RotP (hm : MayP g) (hr : RotP g r) : RotP (dualN g r) (facesS (nextS g r) r) := by
  obtain ⟨h1, h2, _⟩ := faces_all hr
  have hl := dual_len g r
  refine ⟨by rw [dualN_eq hm hr], fun v hv h hh => ?_, h1, by rw [hl]; exact h2⟩
  have hb := facesS_in hr _ (gI_mem (xs := facesS (nextS g r) r) (i := (v : Int)) (by omega) (by omega)) _ hh
  rw [hl]
  exact ⟨hb, by rw [dual_from hm hr hb]; exact of_at hr (by omega) hh⟩
/-- round a face: right behind the twin -/
theorem dual_cy (hm : MayP g) (hr : RotP g r) {h : Int} (hh : In (2 * (g.2.length : Int)) h) : cy (canonS (facesS (nextS g r) r)) h = cy r (twin h) := by
  have hd := dual_RotP hm hr
  have hl := dual_len g r
  have hh' : In (2 * ((dualN g r).2.length : Int)) h := by rw [hl]; exact hh
  rw [cy_succ hd.canon hh', succS_canon hd hh'.1 hh'.2, ← cy_succ hd hh']
  obtain ⟨b1, b2⟩ := of_face hr hh.1 hh.2
  have hfm := gI_mem (xs := facesS (nextS g r) r) b1.1 b1.2
  obtain ⟨_, hnd, hnx⟩ := (faces_all hr).2.2 _ hfm
  rw [cy_mem hd.2.2.1 hfm b2, ← (next_pm hr).2 h hh]
  have hlt := List.idxOf_lt_length_iff.2 b2
  have := hnx ((gI (facesS (nextS g r) r) (gI (ofS g r) h)).idxOf h) (by omega)
  unfold nxt
  rw [this]
  have h9 := (idx_in b2).2.2
  unfold idxS at h9
  rw [if_pos b2] at h9
  rw [h9]
theorem dual_phi (hm : MayP g) (hr : RotP g r) {h : Int} (hh : In (2 * (g.2.length : Int)) h) : cy (canonS (facesS (nextS g r) r)) (twin h) = cy r h := by
  have ht := twin_tw g.2.length
  rw [dual_cy hm hr (ht.rng h hh), ht.inv h hh]
theorem dual_empties (hr : RotP g r) : ((canonS (facesS (nextS g r) r)).filter fun l => decide (l.length = 0)).length = (r.filter fun l => decide (l.length = 0)).length := by
  rw [canon_empty]
  obtain ⟨hp, _⟩ := next_pm hr
  obtain ⟨f1, _⟩ := facesL_ok hp
  unfold facesS
  rw [List.filter_append, List.length_append]
  have e1 : ((facesL (nextS g r) (iotaI (nextS g r).length) []).filter fun l => decide (l.length = 0)) = [] := List.filter_eq_nil_iff.2 fun f hf => by
    have := (f1 f hf).ne
    simpa using this
  have e2 : (((r.filter fun l => decide (l.length = 0)).map fun _ => ([] : List Int)).filter fun l => decide (l.length = 0)) = (r.filter fun l => decide (l.length = 0)).map fun _ => ([] : List Int) := List.filter_eq_self.2 fun l hl => by
    obtain ⟨_, _, rfl⟩ := List.mem_map.1 hl
    rfl
  rw [e1, e2]; simp
/-- as many faces as the net has nodes -/
theorem dual_faces (hm : MayP g) (hr : RotP g r) : ((facesS (nextS (dualN g r) (canonS (facesS (nextS g r) r))) (canonS (facesS (nextS g r) r))).length : Int) = g.1 := by
  have hd := (dual_RotP hm hr).canon
  have hl := dual_len g r
  obtain ⟨F, hF, eF⟩ := rot_F hd
  obtain ⟨V, hV, eV⟩ := rot_V hr
  have hpm := (twin_tw (dualN g r).2.length).comp (rot_pm hd)
  rw [hl] at hF hpm
  have h1 : Num (In (2 * (g.2.length : Int))) (Orb (cy r)) F := hF.iff fun x y hx hy => Orb.iff hpm (fun z hz => dual_phi hm hr hz) hx
  have := h1.eq (rot_pm hr).eqv hV
  have := dual_empties hr
  omega
theorem dual_genus (hm : MayP g) (hr : RotP g r) (hd : MayP (dualN g r)) : genusS (dualN g r) (canonS (facesS (nextS g r) r)) = genusS g r := by
  have hR := (dual_RotP hm hr).canon
  have hl := dual_len g r
  obtain ⟨C, hC, eC⟩ := rot_C hd hR
  obtain ⟨C', hC', eC'⟩ := rot_C hm hr
  have ht := twin_tw g.2.length
  have hs := rot_pm hr
  rw [hl] at hC
  have hle := Lk.eqv (2 * (g.2.length : Int)) (cy r) twin
  have h1 : Num (In (2 * (g.2.length : Int))) (Lk (2 * (g.2.length : Int)) (cy r) twin) C := hC.iff fun x y hx hy => by
    constructor
    · intro h R hR1 h2 h3
      refine h R hR1 (fun z hz => ?_) h3
      rw [dual_cy hm hr hz]
      exact hR1.trans _ _ _ hz (ht.rng z hz) (hs.rng _ (ht.rng z hz)) (h3 z hz) (h2 _ (ht.rng z hz))
    · intro h R hR1 h2 h3
      refine h R hR1 (fun z hz => ?_) h3
      have := h2 _ (ht.rng z hz)
      rw [dual_phi hm hr hz] at this
      exact hR1.trans _ _ _ hz (ht.rng z hz) (hs.rng z hz) (h3 z hz) this
  have e1 := h1.eq hle hC'
  have e2 := dual_empties hr
  have e3 := dual_faces hm hr
  unfold genusS
  rw [e3, hl]
  have e4 : (dualN g r).1 = ((facesS (nextS g r) r).length : Int) := by rw [dualN_eq hm hr]
  rw [e4]
  congr 1
  omega
theorem dual_may (hm : MayP g) (hr : RotP g r) (hf : ((facesS (nextS g r) r).length : Int) ≤ 1024) : MayP (dualN g r) := by
  rw [dualN_eq hm hr]
  have key : ∀ x ∈ (iotaI g.2.length).map (endsS (ofS g r)), okE ((facesS (nextS g r) r).length : Int) x := fun x hx => by
    obtain ⟨e, he, rfl⟩ := List.mem_map.1 hx
    have hb := iota_mem.1 he
    have h1 := (of_face hr (h := 2 * e) (by omega) (by omega)).1
    have h2 := (of_face hr (h := 2 * e + 1) (by omega) (by omega)).1
    unfold okE endsS
    exact ⟨h1, h2⟩
  have hl : ((iotaI g.2.length).map (endsS (ofS g r))).length ≤ 3072 := by rw [List.length_map, iota_len]; exact hm.2.2.1
  unfold MayP
  exact ⟨by simp only; omega, hf, hl, key⟩
theorem dualR_ok (h : (dualR g r).2.2 = 0) : MayP g ∧ RotP g r ∧ MayP (dualN g r) ∧ dualR g r = (dualN g r, canonS (facesS (nextS g r) r), 0) := by
  unfold dualR at h ⊢
  by_cases c : (facesR g r).2 = 0
  · rw [if_pos c] at h ⊢
    by_cases c2 : MayP (dualN g r)
    · rw [if_pos c2]
      obtain ⟨hm, hr⟩ := rmay_ok (facesR_may c)
      have e : (facesR g r).1 = facesS (nextS g r) r := by rw [facesR_yes (rmay_yes hm hr)]
      rw [e, canonR_yes c2 (dual_RotP hm hr)]
      exact ⟨hm, hr, c2, rfl⟩
    · rw [if_neg c2] at h; cases h
  · rw [if_neg c] at h; exact absurd h c
theorem dualR_bad (h : ¬ (dualR g r).2.2 = 0) : (dualR g r).1.1 = 0 := by
  unfold dualR at h ⊢
  by_cases c : (facesR g r).2 = 0
  · rw [if_pos c] at h ⊢
    by_cases c2 : MayP (dualN g r)
    · rw [if_pos c2] at h; exact absurd rfl h
    · rw [if_neg c2]
  · rw [if_neg c]
theorem dualR_yes (hm : MayP g) (hr : RotP g r) (hd : MayP (dualN g r)) : dualR g r = (dualN g r, canonS (facesS (nextS g r) r), 0) := by
  unfold dualR
  rw [facesR_yes (rmay_yes hm hr)]
  simp only
  rw [if_pos trivial, if_pos hd, canonR_yes hd (dual_RotP hm hr)]
/-- what is known of a dual and of its own -/
structure BackL (g : Net) (r : Rot) : Prop where
  may : MayP g
  rot : RotP g r
  may1 : rmayR (dualR g r).1 (dualR g r).2.1 = 0
  gen : genusS (dualR g r).1 (dualR g r).2.1 = genusS g r
  ok2 : (dualR (dualR g r).1 (dualR g r).2.1).2.2 = 0
  n2 : (dualR (dualR g r).1 (dualR g r).2.1).1.1 = g.1
  yl : ((dualR (dualR g r).1 (dualR g r).2.1).2.1.length : Int) = g.1
  row : ∀ v k : Nat, (v : Int) < g.1 → (k : Int) < ((gI (dualR (dualR g r).1 (dualR g r).2.1).2.1 (v : Int)).length : Int) → In (2 * (g.2.length : Int)) (gI (gI (dualR (dualR g r).1 (dualR g r).2.1).2.1 (v : Int)) (k : Int))
  rl : ∀ v : Nat, (v : Int) < g.1 → ((gI (dualR (dualR g r).1 (dualR g r).2.1).2.1 (v : Int)).length : Int) ≤ 6144
  pt : ∀ v k : Nat, (v : Int) < g.1 → (k : Int) < ((gI r (v : Int)).length : Int) →
    In (2 * (g.2.length : Int)) (gI (gI r (v : Int)) (k : Int)) ∧ In (2 * (g.2.length : Int)) (gI (gI r (v : Int)) 0) ∧
    gI (ofK (dualR (dualR g r).1 (dualR g r).2.1).2.1 (2 * (g.2.length : Int)) (dualR (dualR g r).1 (dualR g r).2.1).2.1.length) (gI (gI r (v : Int)) (k : Int)) = gI (ofK (dualR (dualR g r).1 (dualR g r).2.1).2.1 (2 * (g.2.length : Int)) (dualR (dualR g r).1 (dualR g r).2.1).2.1.length) (gI (gI r (v : Int)) 0) ∧
    (0 ≤ gI (ofK (dualR (dualR g r).1 (dualR g r).2.1).2.1 (2 * (g.2.length : Int)) (dualR (dualR g r).1 (dualR g r).2.1).2.1.length) (gI (gI r (v : Int)) 0) ∧ gI (ofK (dualR (dualR g r).1 (dualR g r).2.1).2.1 (2 * (g.2.length : Int)) (dualR (dualR g r).1 (dualR g r).2.1).2.1.length) (gI (gI r (v : Int)) 0) < g.1) ∧
    ((gI (dualR (dualR g r).1 (dualR g r).2.1).2.1 (gI (ofK (dualR (dualR g r).1 (dualR g r).2.1).2.1 (2 * (g.2.length : Int)) (dualR (dualR g r).1 (dualR g r).2.1).2.1.length) (gI (gI r (v : Int)) 0))).length : Int) = ((gI r (v : Int)).length : Int) ∧
    behS (gI (dualR (dualR g r).1 (dualR g r).2.1).2.1 (gI (ofK (dualR (dualR g r).1 (dualR g r).2.1).2.1 (2 * (g.2.length : Int)) (dualR (dualR g r).1 (dualR g r).2.1).2.1.length) (gI (gI r (v : Int)) 0))) (gI (gI r (v : Int)) (k : Int)) = gI (gI r (v : Int)) (((k : Int) + 1) % ((gI r (v : Int)).length : Int))
theorem back_law (h : (dualR g r).2.2 = 0) : BackL g r := by
  obtain ⟨hm, hr, hd, hE⟩ := dualR_ok h
  have hR := (dual_RotP hm hr).canon
  have hl := dual_len g r
  have hn := dual_faces hm hr
  have hrl := hr.1
  obtain ⟨d, ed⟩ : ∃ d, d = dualN g r := ⟨_, rfl⟩
  obtain ⟨q, eq⟩ : ∃ q, q = canonS (facesS (nextS g r) r) := ⟨_, rfl⟩
  have hphi : ∀ z, In (2 * (g.2.length : Int)) z → cy q (twin z) = cy r z := fun z hz => by rw [eq]; exact dual_phi hm hr hz
  have hgen := dual_genus hm hr hd
  rw [← ed, ← eq] at hE hgen
  rw [← ed] at hl hd
  rw [← ed, ← eq] at hR hn
  have hd2 := dual_may hd hR (by rw [hn]; exact hm.2.1)
  have hE2 := dualR_yes hd hR hd2
  have hY := (dual_RotP hd hR).canon
  have hl2 := dual_len d q
  obtain ⟨f, ef⟩ : ∃ f, f = facesS (nextS d q) q := ⟨_, rfl⟩
  rw [← ef] at hE2 hY hn
  obtain ⟨y, ey⟩ : ∃ y, y = canonS f := ⟨_, rfl⟩
  rw [← ey] at hE2 hY
  have hyl : (y.length : Int) = g.1 := by rw [ey, canon_len]; exact hn
  have hpm := (twin_tw d.2.length).comp (rot_pm hR)
  rw [hl] at hpm
  -- whose list it is
  have hof : ∀ z, In (2 * (g.2.length : Int)) z → gI (ofK y (2 * (g.2.length : Int)) y.length) z = gI (ofS d q) z ∧ z ∈ gI y (gI (ofS d q) z) ∧ 0 ≤ gI (ofS d q) z ∧ gI (ofS d q) z < g.1 := fun z hz => by
    have hz' : In (2 * (d.2.length : Int)) z := by rw [hl]; exact hz
    obtain ⟨b1, b2⟩ := of_face hR hz'.1 hz'.2
    rw [← ef] at b1 b2
    obtain ⟨p, hp⟩ : ∃ p : Nat, gI (ofS d q) z = (p : Int) := ⟨(gI (ofS d q) z).toNat, by omega⟩
    have b3 : z ∈ gI y (gI (ofS d q) z) := by
      rw [ey, hp, canon_gI (by omega), (turn_perm _).mem_iff, ← hp]; exact b2
    refine ⟨?_, b3, b1.1, by omega⟩
    rw [hp]
    refine (ofK_at (F := y) (n := 2 * (g.2.length : Int)) (by omega) hY.2.2.1 (fun l hl' x hx => ?_) y.length (Nat.le_refl _) z hz.1 hz.2).1 p (by omega) (by rw [← hp]; exact b3)
    have := rot_in hY x (List.mem_flatten.2 ⟨l, hl', hx⟩)
    rw [hl2, hl] at this
    exact this
  refine ⟨hm, hr, ?_, ?_, ?_, ?_, ?_, ?_, ?_, ?_⟩
  · rw [hE]; exact rmay_yes hd hR
  · rw [hE]; exact hgen
  · rw [hE]; simp only; rw [hE2]
  · rw [hE]; simp only; rw [hE2]; simp only; rw [dualN_eq hd hR, ← ef]; exact hn
  · rw [hE]; simp only; rw [hE2]; exact hyl
  · rw [hE]; simp only; rw [hE2]; simp only
    intro v k hv hk
    have := rot_in hY (gI (gI y (v : Int)) (k : Int)) (List.mem_flatten.2 ⟨_, gI_mem (xs := y) (i := (v : Int)) (by omega) (by omega), gI_mem (by omega) hk⟩)
    rw [hl2, hl] at this
    exact this
  · rw [hE]; simp only; rw [hE2]; simp only
    intro v hv
    have := row_len hY (k := v) (by omega)
    rw [hl2, hl] at this
    have := hm.2.2.1
    omega
  · rw [hE]; simp only; rw [hE2]; simp only
    intro v k hv hk
    have hrow := row_nodup hr (v := v) (by omega)
    have hx0m := gI_mem (xs := gI r (v : Int)) (i := 0) (by omega) (by omega)
    have hxm := gI_mem (xs := gI r (v : Int)) (i := (k : Int)) (by omega) hk
    obtain ⟨x, ex⟩ : ∃ x, x = gI (gI r (v : Int)) (k : Int) := ⟨_, rfl⟩
    obtain ⟨x0, ex0⟩ : ∃ x0, x0 = gI (gI r (v : Int)) 0 := ⟨_, rfl⟩
    rw [← ex] at hxm ⊢
    rw [← ex0] at hx0m ⊢
    have i1 := hr.2.1 v (by omega) x hxm
    have i0 := hr.2.1 v (by omega) x0 hx0m
    have ix : In (2 * (g.2.length : Int)) x := i1.1
    have ix0 : In (2 * (g.2.length : Int)) x0 := i0.1
    have ix' : In (2 * (d.2.length : Int)) x := by rw [hl]; exact ix
    have ix0' : In (2 * (d.2.length : Int)) x0 := by rw [hl]; exact ix0
    obtain ⟨a1, a2, a3, a4⟩ := hof x ix
    obtain ⟨b1, b2, b3, b4⟩ := hof x0 ix0
    have horb : ∀ z w, In (2 * (g.2.length : Int)) z → In (2 * (g.2.length : Int)) w → (gI (ofS d q) z = gI (ofS d q) w ↔ Orb (cy r) z w) := fun z w hz hw => by
      rw [← of_orb hR (by rw [hl]; exact hz) (by rw [hl]; exact hw)]
      exact Orb.iff hpm hphi hz
    have hsame : gI (ofS d q) x = gI (ofS d q) x0 := (horb x x0 ix ix0).2 (same_row hr ix ix0 (by rw [i1.2, i0.2]))
    refine ⟨ix, ix0, by rw [a1, b1, hsame], by rw [b1]; exact ⟨b3, b4⟩, ?_, ?_⟩
    · rw [b1]
      obtain ⟨p, hp⟩ : ∃ p : Nat, gI (ofS d q) x0 = (p : Int) := ⟨(gI (ofS d q) x0).toNat, by omega⟩
      have hp2 : (p : Int) < y.length := by omega
      have hperm : List.Perm (gI y (gI (ofS d q) x0)) (gI r (v : Int)) := by
        refine (List.perm_ext_iff_of_nodup (by rw [hp]; exact row_nodup hY hp2) hrow).2 fun z => ?_
        constructor
        · intro hz
          have hz2 := rot_in hY z (List.mem_flatten.2 ⟨_, gI_mem (xs := y) b3 (by omega), hz⟩)
          rw [hl2, hl] at hz2
          rw [ey, hp, canon_gI (by rw [ey, canon_len] at hp2; exact hp2), (turn_perm _).mem_iff, ef, of_iff hR hz2.1 (by rw [hl]; exact hz2.2) (by omega) (by rw [← ef]; omega)] at hz
          have ho := (horb x0 z ix0 hz2).1 (by rw [hp, hz])
          have hfz : fromS g z = v := (Orb.ind (S := fun u => In (2 * (g.2.length : Int)) u ∧ fromS g u = v) (fun u hu => ⟨(rot_pm hr).rng u hu.1, by rw [cy_from hr hu.1]; exact hu.2⟩) ho ⟨ix0, i0.2⟩).2
          obtain ⟨w, hw, hzw⟩ := rot_at hr hz2.1 hz2.2
          have := (hr.2.1 w (by omega) z hzw).2
          rw [hfz] at this
          rw [this]; exact hzw
        · intro hz
          have iz := hr.2.1 v (by omega) z hz
          obtain ⟨_, c2, _⟩ := hof z iz.1
          have : gI (ofS d q) z = gI (ofS d q) x0 := (horb z x0 iz.1 ix0).2 (same_row hr iz.1 ix0 (by rw [iz.2, i0.2]))
          rw [← this]; exact c2
      rw [hperm.length_eq]
    · rw [b1, ← hsame]
      have hyrow := gI_mem (xs := y) (i := gI (ofS d q) x) a3 (by omega)
      unfold behS
      rw [if_pos a2, ← cy_mem hY.2.2.1 hyrow a2, ey, ef, dual_cy hd hR ix', hphi x ix, cy_mem hr.2.2.1 (gI_mem (xs := r) (i := (v : Int)) (by omega) (by omega)) hxm]
      unfold nxt
      rw [ex, idxOf_gI hrow hk]
end
end TL
/-
  TlOpen: arguments opened: what a law's reader says of a slice is what a walk wants of it.
  By an AI agent.
-/
namespace TL
open Go Go.Proofs Go.ChangeShapes Go.WideShapes Go.Joins Go.Deep
structure BulkOk {H : Type} (f : DataW H → Nat) : Prop where
  slice : ∀ l s : List (DataW H), l.length ≤ f (.slice l s)
  elem : ∀ l s : List (DataW H), ∀ d ∈ l, f d ≤ f (.slice l s)
  part : ∀ l : List (DataW H), ∀ d ∈ l, f d ≤ f (.agg l)
/-- cells that hold no pointer -/
def OpnF (α : Type) [Rp α] (P : Program) (t : TypeId) : Prop :=
  ∀ {H : Type} (enc : TypeId × Value → H) (w : World) (fuel : Nat) (cs : List Value) (x : DataW H × List MemPlace), DataW.trod enc P w 0 (fun _ => true) true fuel t cs = some x → ∃ y : α, Rp.rep c0 any w cs y
theorem opn_int {P : Program} {t : TypeId} (ht : P.underlying t = some (.int .i64)) : OpnF Int P t := by
  intro H enc w fuel cs x h
  obtain ⟨n, rfl, _, _⟩ := DataW.trod_int ht h
  exact ⟨n, rfl⟩
theorem trod_array2 {H : Type} {enc : TypeId × Value → H} {P : Program} {w : World} {base : Nat} {spare : Nat → Bool} {held : Bool} {t e : TypeId} {fuel : Nat} {cs : List Value} {x : DataW H × List MemPlace} (ht : P.underlying t = some (.array 2 e)) (hce : P.cellsOf e = 1) (hct : P.cellsOf t = 2)
    (h : DataW.trod enc P w base spare held fuel t cs = some x) :
    ∃ v0 v1 y0 y1 n, cs = [v0, v1] ∧ x = (.agg [y0.1, y1.1], y0.2 ++ y1.2) ∧ DataW.trod enc P w base spare held n e [v0] = some y0 ∧ DataW.trod enc P w base spare held n e [v1] = some y1 := by
  cases fuel with
  | zero => simp [DataW.trod] at h
  | succ n =>
    unfold DataW.trod at h
    rw [ht] at h
    have r2 : List.range 2 = [0, 1] := rfl
    simp only [hct] at h
    by_cases hl : cs.length = 2
    · rw [if_pos hl] at h
      match cs, hl with
      | [v0, v1], _ =>
        simp [r2, hce] at h
        cases h0 : DataW.trod enc P w base spare held n e [v0] with
        | none => simp [h0] at h
        | some y0 =>
          cases h1 : DataW.trod enc P w base spare held n e [v1] with
          | none => simp [h0, h1] at h
          | some y1 =>
            simp [h0, h1] at h
            exact ⟨v0, v1, y0, y1, n, rfl, h.symm, h0, h1⟩
    · rw [if_neg hl] at h; cases h
theorem opn_two {P : Program} {t e : TypeId} (ht : P.underlying t = some (.array 2 e)) (he : P.underlying e = some (.int .i64)) (hce : P.cellsOf e = 1) (hct : P.cellsOf t = 2) : OpnF (Int × Int) P t := by
  intro H enc w fuel cs x h
  obtain ⟨v0, v1, y0, y1, n, rfl, _, h0, h1⟩ := trod_array2 ht hce hct h
  obtain ⟨a, ha⟩ := opn_int he enc w n [v0] y0 h0
  obtain ⟨b, hb⟩ := opn_int he enc w n [v1] y1 h1
  exact ⟨(a, b), [v0], [v1], rfl, ha, hb⟩
/-- a slice of such cells -/
theorem opn_slice {α : Type} [Rp α] [Inhabited α] {P : Program} {t e : TypeId} (ht : P.underlying t = some (.slice e)) (hc : P.cellsOf e = Rp.sz α) (hz : 0 < Rp.sz α) (he : OpnF α P e)
    {H : Type} {enc : TypeId × Value → H} {w : World} {f : DataW H → Nat} (hf : BulkOk f) {fuel : Nat} {v : Value} {x : DataW H × List MemPlace}
    (hs : ∀ a len cap, v = .slice (some a) len cap → a.spot = none) (h : DataW.trod enc P w 0 (fun _ => true) true fuel t [v] = some x) (hb : f x.1 ≤ 1048576) : ∃ xs : List α, Ro w v xs := by
  rcases Deep.open_slice ht h with ⟨h0, _⟩ | ⟨a, len, cap, m, n, D, Pl, h0, _, hlc, _, hm, rfl, hx⟩
  · obtain rfl : v = .slice none 0 0 := by simpa using h0
    exact ⟨[], .inl ⟨⟨_, rfl⟩, rfl⟩⟩
  · obtain rfl : v = .slice (some a) len cap := by simpa using h0
    have hsp := hs a len cap rfl
    obtain ⟨b, off, spot⟩ := a
    obtain rfl : spot = none := hsp
    simp only [if_true] at hm
    subst hm
    obtain ⟨Y, hY⟩ := Deep.choose_lt (α := α) (n := len) (p := fun i y => ∃ cs, (∀ j, j < Rp.sz α → w.cell? ⟨b, off + i * Rp.sz α + j, none⟩ = cs[j]?) ∧ Rp.rep c0 any w cs y) (fun i hi => by
      obtain ⟨cs', h1, h2⟩ := hx i (by omega)
      obtain ⟨y, hy⟩ := he enc w n cs' _ h2
      refine ⟨y, cs', fun j hj => ?_, hy⟩
      obtain ⟨_, hl, hcell⟩ := World.cells?_some h1
      have := hcell j (by omega)
      rw [Deep.add_add, hc] at this
      rw [← this]
      unfold Addr.add
      by_cases hij : i * Rp.sz α + j = 0
      · rw [if_pos hij, Nat.add_assoc, hij]; rfl
      · rw [if_neg hij, Nat.add_assoc])
    have hlen : ((List.range len).map Y).length = len := by simp
    have hbound := Nat.le_trans (hf.slice _ _) hb
    refine ⟨(List.range len).map Y, .inr ⟨b, off, m, by rw [hlen], ⟨by omega, by simp at hbound; omega⟩, fun i y hi => ?_⟩⟩
    have hil : i < len := by
      have := (List.getElem?_eq_some_iff.1 hi).1
      omega
    obtain rfl : Y i = y := by simpa [hil] using hi
    obtain ⟨cs, h1, h2⟩ := hY i hil
    refine ⟨?_, trivial, cs, h1, h2⟩
    have h3 := h1 0 hz
    have h4 := Rp.len h2
    have h5 : 0 < cs.length := by omega
    rw [List.getElem?_eq_getElem h5] at h3
    by_cases hbl : b < w.heap.size
    · exact hbl
    · have : w.heap[b]? = none := Array.getElem?_eq_none (by omega)
      simp [World.cell?, this] at h3
theorem spot_of_cell {P : Program} {w : World} {base : Nat} {t e : TypeId} {v : Value} (ht : P.underlying t = some (.slice e)) (h : Cell.okWide P w .any base t v) : ∀ a len cap, v = .slice (some a) len cap → a.spot = none := by
  rintro a len cap rfl
  simp only [Cell.okWide, Cell.ok, ht] at h
  exact h.2.2.2.1
/-- an argument that is an int and a slice -/
theorem top_net {α : Type} [Rp α] [Inhabited α] {P : Program} {t t0 t1 e : TypeId} {f0 f1 : Field} (hs : P.underlying t = some (.struct #[f0, f1])) (hone : oneCellFields P #[f0, f1] = true) (hC : P.cellsOf t = 2) (hts : P.cellTypes P.depth t = some [t0, t1])
    (h0 : f0.type = t0) (h1 : f1.type = t1) (hi : P.underlying t0 = some (.int .i64)) (ht : P.underlying t1 = some (.slice e)) (hc : P.cellsOf e = Rp.sz α) (hz : 0 < Rp.sz α) (he : OpnF α P e)
    {H : Type} {enc : TypeId × Value → H} {w : World} {f : DataW H → Nat} (hf : BulkOk f) {base : Nat} {v : Value} {d : DataW H} {p : List MemPlace}
    (hval : Value.okWide P w .any base t v) (h : DataW.Trod enc P w 0 (fun _ => true) true t v d p) (hb : f d ≤ 1048576) : ∃ (n : Int) (u : Value) (xs : List α), v = .agg #[.int .i64 n, u] ∧ Ro w u xs := by
  obtain ⟨v0, v1, y0, y1, n, rfl, rfl, rfl, r0, r1⟩ := open_agg2 hs hone hC hval h
  subst h0 h1
  obtain ⟨k, hk, _, _⟩ := DataW.trod_int hi r0
  obtain rfl : v0 = .int .i64 k := by simpa using hk
  have hcell : Cell.okWide P w .any base f1.type v1 := by
    simp only [Value.okWide, hs] at hval
    obtain ⟨cs, hcs, _, ts, h3, _, h4⟩ := hval
    rw [hts] at h3
    obtain rfl := Option.some.inj h3
    obtain rfl : #[Value.int .i64 k, v1] = cs := by simpa using hcs
    obtain ⟨u, hu, hk⟩ := h4 1 v1 rfl
    simp at hu
    subst hu
    exact hk
  obtain ⟨xs, hx⟩ := opn_slice ht hc hz he hf (spot_of_cell ht hcell) (x := y1) r1 (Nat.le_trans (hf.part _ _ (by simp)) hb)
  exact ⟨k, v1, xs, rfl, hx⟩
/-- a slice of ints within another slice -/
theorem opn_inner {P : Program} {e q : TypeId} (he : P.underlying e = some (.slice q)) (hq : P.underlying q = some (.int .i64)) (hcq : P.cellsOf q = 1)
    {H : Type} {enc : TypeId × Value → H} {w : World} {f : DataW H → Nat} (hf : BulkOk f) {fuel : Nat} {u : Value} {x : DataW H × List MemPlace}
    (h : DataW.trod enc P w 0 (fun _ => true) true fuel e [u] = some x) (hb : f x.1 ≤ 1048576) : ∃ xs : List Int, Ro w u xs ∧ xs.length ≤ 1048576 := by
  have h' := h
  rcases Deep.open_slice he h with ⟨h0, _⟩ | ⟨a, len, cap, m, n, D, Pl, h0, _, hlc, _, hm, rfl, hx⟩
  · obtain rfl : u = .slice none 0 0 := by simpa using h0
    exact ⟨[], .inl ⟨⟨_, rfl⟩, rfl⟩, by simp⟩
  · obtain rfl : u = .slice (some a) len cap := by simpa using h0
    simp only [if_true] at hm
    subst hm
    by_cases hc : m = 0
    · have hl : len = 0 := by omega
      subst hl hc
      exact ⟨[], .inl ⟨⟨_, rfl⟩, rfl⟩, by simp⟩
    · obtain ⟨cs', h1, h2⟩ := hx 0 (by omega)
      obtain ⟨_, hl, hcell⟩ := World.cells?_some h1
      have h3 := hcell 0 (by rw [hcq]; omega)
      have h4 : 0 < cs'.length := by rw [hl, hcq]; omega
      rw [List.getElem?_eq_getElem h4] at h3
      have hs : a.spot = none := by
        have := World.cell?_spot h3
        simpa [Addr.add] using this
      obtain ⟨xs, hxs⟩ := opn_slice he (α := Int) (by rw [hcq]; rfl) (by decide) (opn_int hq) hf (by rintro a' len' cap' e'; cases e'; exact hs) h' hb
      have hform := hxs.form
      have hlen : xs.length = len := by
        cases hform; rfl
      have hbound := Nat.le_trans (hf.slice _ _) hb
      exact ⟨xs, hxs, by simp at hbound; omega⟩
/-- an argument that is a slice of slices of ints -/
theorem top_rot {P : Program} {t e q : TypeId} (ht : P.underlying t = some (.slice e)) (he : P.underlying e = some (.slice q)) (hq : P.underlying q = some (.int .i64)) (hce : P.cellsOf e = 1) (hcq : P.cellsOf q = 1)
    {H : Type} {enc : TypeId × Value → H} {w : World} {f : DataW H → Nat} (hf : BulkOk f) {base : Nat} {v : Value} {d : DataW H} {p : List MemPlace}
    (hval : Value.okWide P w .any base t v) (h : DataW.Trod enc P w 0 (fun _ => true) true t v d p) (hb : f d ≤ 1048576) : ∃ xss : List (List Int), Ro w v xss ∧ (xss.length : Int) ≤ 1048576 ∧ ∀ l ∈ xss, l.length ≤ 1048576 := by
  obtain ⟨a, len, cap, rfl⟩ := okWide_slice ht hval
  have hs := spot_of_cell (w := w) (base := base) (v := .slice a len cap) ht (by simpa [Value.okWide, ht] using hval)
  obtain ⟨fuel, hfu⟩ := h
  rcases Deep.open_slice ht hfu with ⟨h0, _⟩ | ⟨a', len', cap', m, n, D, Pl, h0, _, hlc, _, hm, hd, hx⟩
  · have h0' : (Value.slice a len cap) = .slice none 0 0 := by simpa [Value.cells] using h0
    rw [h0']
    exact ⟨[], .inl ⟨⟨_, rfl⟩, rfl⟩, by simp, by simp⟩
  · have h0' : (Value.slice a len cap) = .slice (some a') len' cap' := by simpa [Value.cells] using h0
    cases h0'
    have hsp := hs a' len cap rfl
    obtain ⟨b, off, spot⟩ := a'
    obtain rfl : spot = none := hsp
    simp only [if_true] at hm
    subst hm
    obtain ⟨rfl, _⟩ : d = _ ∧ p = _ := by simpa using hd
    have hbound := Nat.le_trans (hf.slice _ _) hb
    obtain ⟨Y, hY⟩ := Deep.choose_lt (α := List Int) (n := len) (p := fun i y => (∃ cs, (∀ j, j < Rp.sz (List Int) → w.cell? ⟨b, off + i * Rp.sz (List Int) + j, none⟩ = cs[j]?) ∧ Rp.rep c0 any w cs y) ∧ y.length ≤ 1048576) (fun i hi => by
      obtain ⟨cs', h1, h2⟩ := hx i (by omega)
      obtain ⟨_, hl, hcell⟩ := World.cells?_some h1
      rw [hce] at hl
      obtain ⟨u, rfl⟩ : ∃ u, cs' = [u] := by
        match cs', hl with
        | [u], _ => exact ⟨u, rfl⟩
      obtain ⟨y, hy, hyl⟩ := opn_inner he hq hcq hf h2 (Nat.le_trans (hf.elem _ _ _ (by simp; exact ⟨i, hi, rfl⟩)) hb)
      refine ⟨y, ⟨[u], fun j hj => ?_, u, rfl, hy⟩, hyl⟩
      have hj0 : j < 1 := hj
      have := hcell j (by rw [hce]; exact hj0)
      rw [Deep.add_add, hce] at this
      rw [← this]
      show w.cell? ⟨b, off + i * 1 + j, none⟩ = _
      unfold Addr.add
      by_cases hij : i * 1 + j = 0
      · rw [if_pos hij, Nat.add_assoc, hij]; rfl
      · rw [if_neg hij, Nat.add_assoc])
    have hlen : ((List.range len).map Y).length = len := by simp
    have hll : len ≤ 1048576 := by simp at hbound; omega
    refine ⟨(List.range len).map Y, .inr ⟨b, off, m, by rw [hlen], ⟨by omega, by omega⟩, fun i y hi => ?_⟩, by simp; omega, fun l hl => ?_⟩
    · have hil : i < len := by
        have := (List.getElem?_eq_some_iff.1 hi).1
        omega
      obtain rfl : Y i = y := by simpa [hil] using hi
      obtain ⟨⟨cs, h1, h2⟩, _⟩ := hY i hil
      refine ⟨?_, trivial, cs, h1, h2⟩
      have h3 := h1 0 (by decide)
      have h4 := Rp.len h2
      have h5 : 0 < cs.length := by rw [h4]; decide
      rw [List.getElem?_eq_getElem h5] at h3
      by_cases hbl : b < w.heap.size
      · exact hbl
      · have : w.heap[b]? = none := Array.getElem?_eq_none (by omega)
        simp [World.cell?, this] at h3
    · obtain ⟨i, hi, rfl⟩ := List.mem_map.1 hl
      exact (hY i (List.mem_range.1 hi)).2
end TL
/-
  TlPost: what is owed behind a law that returns true and writes nothing of the caller's.
  By an AI agent.
-/
namespace TL
open Go Go.Proofs Go.ChangeShapes Go.WideShapes Go.RowKit
def rowed (P : Program) (ts : List TypeId) : Bool := ts.all fun t => P.readableRec t && decide (t < P.types.size)
theorem all_stays {H : Type} {enc : TypeId × Value → H} {P : Program} (hl : laidOutB P = true) {W W' : World} (hb : Below W.heap.size W W') (sp : Nat → Bool) :
    ∀ {ts : List TypeId} {vs : List Value} {ds : List (DataW H)} {ps : List MemPlace}, rowed P ts = true → DataW.TrodAll enc P W 0 (fun _ => true) true ts vs ds ps → (∀ p ∈ ps, p.block < W.heap.size) → (∀ p ∈ ps, sp p.block = true) → DataW.TrodAll enc P W' 0 sp true ts vs ds ps
  | [], [], [], _, _, h, _, _ => h
  | [], [], _ :: _, _, _, h, _, _ => h.elim
  | [], _ :: _, _, _, _, h, _, _ => by cases ‹List (DataW H)› <;> exact h.elim
  | _ :: _, [], _, _, _, h, _, _ => by cases ‹List (DataW H)› <;> exact h.elim
  | _ :: _, _ :: _, [], _, _, h, _, _ => h.elim
  | t :: ts, v :: vs, d :: ds, ps, hr, h, hlt, hsp => by
    obtain ⟨p, q, h1, h2, rfl⟩ := h
    simp only [rowed, List.all_cons, Bool.and_eq_true, decide_eq_true_eq] at hr
    exact ⟨p, q, WideElems.Trod_stays hl hr.1.1 hr.1.2 h1 (fun x hx => hb.same (hlt x (by simp [hx]))) (fun x hx => hsp x (by simp [hx])),
      all_stays hl hb sp hr.2 h2 (fun x hx => hlt x (by simp [hx])) (fun x hx => hsp x (by simp [hx])), rfl⟩
theorem law_post {H : Type} {enc : TypeId × Value → H} {P : Program} {f : Func} {s : ChangeSpec} {W W' : World} {args : Array Value} {ds gs : List (DataW H)} {before : List MemPlace} {tb : TypeId}
    (hl : laidOutB P = true) (hr : rowed P f.params.toList = true) (hv : s.vars = []) (hrt : f.resultTypes = #[tb]) (htb : P.underlying tb = some .bool)
    (hW : DataW.Whole enc P f.params.toList s.vars false W args.toList ds gs before) (hfn : s.fn H (ds ++ gs) = { results := [.lit (.bool true)], args := ds }) (hB : Below W.heap.size W W') :
    s.post enc P f false true false false W args (.bool true) W' := by
  have hlt := hW.lt
  have hW0 := hW
  obtain ⟨p, q, hA, hV, rfl, hfz, _⟩ := hW
  rw [hv] at hV
  obtain ⟨rfl, rfl⟩ := trodVars_none hV
  simp only [List.append_nil] at hlt hfz hW0 hfn
  have hres : ∀ (b : Nat) (sp : Nat → Bool) (hd : Bool), DataW.TrodAll enc P W' b sp hd f.resultTypes.toList ((Value.bool true).resultList f.resultTypes.size) (s.fn H (ds ++ [])).results [] := fun b sp hd => by
    rw [hrt, List.append_nil, hfn]
    exact trodAll_cons_mk (shut_bool htb true) trodAll_mk0
  have hargs : ∀ sp : Nat → Bool, (∀ x ∈ p, sp x.block = true) → DataW.TrodAll enc P W' 0 sp true f.params.toList args.toList (s.fn H (ds ++ [])).args p := fun sp hsp => by
    rw [List.append_nil, hfn]
    exact all_stays hl hB sp hr hA hlt hsp
  have hvars : ∀ sp : Nat → Bool, DataW.TrodVars enc P W' sp s.vars (s.fn H (ds ++ [])).vars [] := fun sp => by
    rw [List.append_nil, hfn, hv]
    rfl
  refine ⟨ds, [], p, [], p, [], hW0, hres _ _ _, hargs _ (fun x hx => by simpa using hlt x hx), hvars _, World.keptBut_mono (fun x hx => ⟨hx, Or.inr (by simpa using hx)⟩) (hB.frame _), fun _ => ?_⟩
  refine ⟨?_, _, _, ([] ++ p) ++ [], ⟨[] ++ p, [], trodAll_append (hargs _ (fun _ _ => rfl)) (hres _ _ _), hvars _, rfl, ?_, ?_⟩, ?_⟩
  · exact ok_one hrt rfl (okWide_bool_mk htb true)
  · intro b off hp
    have hp' : MemPlace.cell b off ∈ p := by simpa using hp
    rw [hB.frozen (p := ⟨b, off, none⟩) (hlt _ hp')]
    exact hfz b off hp'
  · intro ha; cases ha
  · intro x hx _
    simpa using hx
end TL
