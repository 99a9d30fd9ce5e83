/- Plain texts of this claim, part 3. By an AI agent. -/
import Derived.Test.YtilohhkbelkmdaaTlP2
import Derived.Carry
import Derived.Deep.Slices
import Derived.Lib.SmallJoins
import Derived.RowKit
/-
  TlSplit2: a split edge leaves as many faces, each with one half-edge more for each side of the edge that it is on, and the genus.
  By an AI agent.
-/
set_option linter.all false
namespace TL
section
variable {g : Net} {r : Rot} {e : Int}
theorem dsplit_empties (hm : MayP g) (hr : RotP g r) (he : 0 ≤ e ∧ e < (g.2.length : Int)) : ((canonS (dsplitS g r e)).filter fun l => decide (l.length = 0)).length = (r.filter fun l => decide (l.length = 0)).length := by
  have h1 : ∀ (f : List Int → List Int) (hf : ∀ l, (f l).length = l.length) (r : Rot), ((r.map f).filter fun l => decide (l.length = 0)).length = (r.filter fun l => decide (l.length = 0)).length := by
    intro f hf r
    induction r with
    | nil => rfl
    | cons l r ih =>
      simp only [List.map_cons, List.filter_cons, hf]
      split
      · simp only [List.length_cons, ih]
      · exact ih
  unfold canonS
  rw [h1 turnS (fun l => (turn_perm l).length_eq), dsplit_rows hm hr he, List.filter_append, List.length_append, h1 _ (fun l => by simp)]
  simp
theorem split_comps (h : (splitR g e).2 = 0) : (partsR (splitR g e).1).2.1 = (partsR g).2.1 := by
  obtain ⟨hm, he, hs, h4⟩ := splitR_ok h
  obtain ⟨s1, s2, s3, s4, s5⟩ := splitE h
  obtain ⟨k, e1, h1⟩ := parts_num hm
  obtain ⟨k', e2, h2⟩ := parts_num (split_may h)
  have hge := hm.2.2.2 (gI g.2 e) (gI_mem he.1 he.2)
  obtain ⟨a, ha⟩ : ∃ a, a = (gI g.2 e).1 := ⟨_, rfl⟩
  obtain ⟨b, hb⟩ : ∃ b, b = (gI g.2 e).2 := ⟨_, rfl⟩
  unfold okE at hge
  rw [← ha, ← hb] at hge
  rw [← ha] at s4
  rw [← hb] at s5
  have hla := Cn.eqv (splitR g e).1
  have up : ∀ {x}, ndP g x → ndP (splitR g e).1 x := fun {x} hx => ⟨hx.1, by rw [s1]; have := hx.2; omega⟩
  have hN : ndP (splitR g e).1 g.1 := ⟨hm.1, by omega⟩
  have m1 : (a, g.1) ∈ (splitR g e).1.2 := by rw [← s4]; exact gI_mem he.1 (by omega)
  have m2 : (g.1, b) ∈ (splitR g e).1.2 := by rw [← s5]; exact gI_mem (by omega) (by omega)
  have h3 : Num (ndP (splitR g e).1) (Cn (splitR g e).1) k := by
    refine h1.map (fun x => x) hla (fun x hx => up hx) (fun x y hx hy hc => ?_) (fun x y hx hy hc => ?_) (fun z hz => ?_)
    · refine hc (Cn (splitR g e).1) ⟨fun x hx => hla.rfl _ (up hx), fun x y hx hy => hla.symm _ _ (up hx) (up hy), fun x y z hx hy hz => hla.trans _ _ _ (up hx) (up hy) (up hz)⟩ (fun x hx => ?_)
      obtain ⟨i, hi, ei⟩ := List.mem_iff_getElem.1 hx
      have ei : gI g.2 (i : Int) = x := by simp [gI, hi, ei]
      by_cases c : (i : Int) = e
      · rw [c] at ei
        rw [← ei, ← ha, ← hb]
        exact hla.trans _ _ _ (up hge.1) hN (up hge.2) (Cn.edge m1) (Cn.edge m2)
      · exact Cn.edge (by rw [← ei, ← s3 i (by omega) (by omega) c]; exact gI_mem (by omega) (by omega))
    · intro R hR h5
      have := hc (fun u v => R (if u = g.1 then a else u) (if v = g.1 then a else v)) ⟨fun u hu => hR.rfl _ (by split; exact hge.1; exact ⟨hu.1, by have := hu.2; omega⟩), fun u v hu hv => hR.symm _ _ (by split; exact hge.1; exact ⟨hu.1, by have := hu.2; omega⟩) (by split; exact hge.1; exact ⟨hv.1, by have := hv.2; omega⟩), fun u v w hu hv hw => hR.trans _ _ _ (by split; exact hge.1; exact ⟨hu.1, by have := hu.2; omega⟩) (by split; exact hge.1; exact ⟨hv.1, by have := hv.2; omega⟩) (by split; exact hge.1; exact ⟨hw.1, by have := hw.2; omega⟩)⟩ (fun x hx => ?_)
      · have hx2 := hx.2
        have hy2 := hy.2
        simpa [show ¬ x = g.1 by omega, show ¬ y = g.1 by omega] using this
      · obtain ⟨i, hi, ei⟩ := List.mem_iff_getElem.1 hx
        have ei : gI (splitR g e).1.2 (i : Int) = x := by simp [gI, hi, ei]
        by_cases c : (i : Int) = e
        · rw [c, s4] at ei
          rw [← ei]
          simp only [show ¬ a = g.1 by omega, if_false, if_true]
          exact hR.rfl _ hge.1
        · by_cases d : (i : Int) = g.2.length
          · rw [d, s5] at ei
            rw [← ei]
            simp only [show ¬ b = g.1 by omega, if_false, if_true]
            have := h5 (gI g.2 e) (gI_mem he.1 he.2)
            rwa [← ha, ← hb] at this
          · rw [s3 i (by omega) (by omega) c] at ei
            have hxm : x ∈ g.2 := by rw [← ei]; exact gI_mem (by omega) (by omega)
            have ho := hm.2.2.2 x hxm
            unfold okE at ho
            simp only [show ¬ x.1 = g.1 by omega, show ¬ x.2 = g.1 by omega, if_false]
            exact h5 x hxm
    · by_cases c : z = g.1
      · subst c
        exact ⟨a, hge.1, hla.symm _ _ (up hge.1) hN (Cn.edge m1)⟩
      · exact ⟨z, ⟨hz.1, by have := hz.2; omega⟩, hla.rfl _ hz⟩
  have := h3.eq hla h2
  omega
theorem split_faces (h : (splitR g e).2 = 0) (hr : RotP g r) : (facesS (nextS (splitR g e).1 (canonS (dsplitS g r e))) (canonS (dsplitS g r e))).length = (facesS (nextS g r) r).length := by
  obtain ⟨hm, he, hs, h4⟩ := splitR_ok h
  obtain ⟨s1, s2, _⟩ := splitE h
  have hq := (dsplit_RotP h hr).canon
  obtain ⟨F', hF', eF'⟩ := rot_F hq
  obtain ⟨F, hF, eF⟩ := rot_F hr
  have hpm' := (twin_tw (splitR g e).1.2.length).comp (rot_pm hq)
  have hin' : ∀ x, In (2 * (g.2.length : Int)) x → In (2 * ((splitR g e).1.2.length : Int)) (halfE g.2.length e x) := fun x hx => by
    have := (halfE_in he hx).1
    exact ⟨this.1, by omega⟩
  have h3 : Num (In (2 * ((splitR g e).1.2.length : Int))) (Orb fun x => cy (canonS (dsplitS g r e)) (twin x)) F := by
    refine hF.map (halfE g.2.length e) hpm'.eqv hin' (fun x y hx hy ho => ?_) (fun x y hx hy ho => ?_) (fun z hz => ?_)
    · have a := halfE_in he hx
      have b := halfE_in he hy
      rw [dsplit_orb h hr a.1 b.1, a.2.2.2, b.2.2.2]; exact ho
    · have a := halfE_in he hx
      have b := halfE_in he hy
      rwa [dsplit_orb h hr a.1 b.1, a.2.2.2, b.2.2.2] at ho
    · have hz' : 0 ≤ z ∧ z < 2 * (g.2.length : Int) + 2 := ⟨hz.1, by have := hz.2; omega⟩
      have hb := backE_in he hz'
      have a := halfE_in he hb
      refine ⟨backE g.2.length e z, hb, ?_⟩
      rw [dsplit_orb h hr hz' a.1, a.2.2.2]; exact Orb.refl _ _
  have := h3.eq hpm'.eqv hF'
  have := dsplit_empties hm hr he
  omega
/-- how long a face is -/
theorem split_len2 (h : (splitR g e).2 = 0) (hr : RotP g r) {k : Int} (hk : In (2 * (g.2.length : Int)) k) :
    ((gI (facesS (nextS (splitR g e).1 (canonS (dsplitS g r e))) (canonS (dsplitS g r e))) (gI (ofS (splitR g e).1 (canonS (dsplitS g r e))) (halfE g.2.length e k))).length : Int) =
    ((gI (facesS (nextS g r) r) (gI (ofS g r) k)).length : Int) + (if gI (ofS g r) k = gI (ofS g r) (2 * e) then 1 else 0) + (if gI (ofS g r) k = gI (ofS g r) (2 * e + 1) then 1 else 0) := by
  obtain ⟨hm, he, hs, h4⟩ := splitR_ok h
  obtain ⟨s1, s2, _⟩ := splitE h
  have hq := (dsplit_RotP h hr).canon
  have a := halfE_in he hk
  have hk' : In (2 * ((splitR g e).1.2.length : Int)) (halfE g.2.length e k) := ⟨a.1.1, by omega⟩
  have i1 : In (2 * (g.2.length : Int)) (2 * e) := ⟨by omega, by omega⟩
  have i2 : In (2 * (g.2.length : Int)) (2 * e + 1) := ⟨by omega, by omega⟩
  obtain ⟨b1, b2⟩ := of_face hr hk.1 hk.2
  obtain ⟨c1, c2⟩ := of_face hq hk'.1 hk'.2
  obtain ⟨A, hA⟩ : ∃ A, A = gI (facesS (nextS g r) r) (gI (ofS g r) k) := ⟨_, rfl⟩
  obtain ⟨B, hB⟩ : ∃ B, B = gI (facesS (nextS (splitR g e).1 (canonS (dsplitS g r e))) (canonS (dsplitS g r e))) (gI (ofS (splitR g e).1 (canonS (dsplitS g r e))) (halfE g.2.length e k)) := ⟨_, rfl⟩
  have hAm := gI_mem (xs := facesS (nextS g r) r) b1.1 b1.2
  have hBm := gI_mem (xs := facesS (nextS (splitR g e).1 (canonS (dsplitS g r e))) (canonS (dsplitS g r e))) c1.1 c1.2
  have nA := ((faces_all hr).2.2 _ hAm).2.1
  have nB := ((faces_all hq).2.2 _ hBm).2.1
  have rA := facesS_in hr _ hAm
  have rB := facesS_in hq _ hBm
  rw [← hA] at nA rA ⊢
  rw [← hB] at nB rB ⊢
  have mA : ∀ x, In (2 * (g.2.length : Int)) x → (x ∈ A ↔ gI (ofS g r) k = gI (ofS g r) x) := fun x hx => by
    rw [hA, of_iff hr hx.1 hx.2 b1.1 b1.2]
    exact ⟨fun h => h.symm, fun h => h.symm⟩
  have mB : ∀ y, (0 ≤ y ∧ y < 2 * (g.2.length : Int) + 2) → (y ∈ B ↔ backE g.2.length e y ∈ A) := fun y hy => by
    have hy' : In (2 * ((splitR g e).1.2.length : Int)) y := ⟨hy.1, by omega⟩
    have hb := backE_in he hy
    rw [mA _ hb, hB, of_iff hq hy'.1 hy'.2 c1.1 c1.2, ← of_orb hr hk hb]
    have := dsplit_orb h hr (y := halfE g.2.length e k) (z := y) a.1 hy
    rw [a.2.2.2] at this
    rw [← this, of_orb hq hk' hy']
    exact ⟨fun h => h.symm, fun h => h.symm⟩
  have e1 : backE g.2.length e (2 * (g.2.length : Int)) = 2 * e := if_pos rfl
  have e3 : backE g.2.length e (2 * e + 1) = 2 * e + 1 := by unfold backE; rw [if_neg (by omega), if_neg (by omega)]
  have hperm : List.Perm B (A.map (halfE g.2.length e) ++ ((if 2 * e ∈ A then [2 * (g.2.length : Int)] else []) ++ (if 2 * e + 1 ∈ A then [2 * e + 1] else []))) := by
    refine (List.perm_ext_iff_of_nodup nB ?_).2 fun y => ?_
    · refine List.nodup_append.2 ⟨nodup_map_on nA fun x hx y hy e' => halfE_inj he (rA x hx) (rA y hy) e', List.nodup_append.2 ⟨by split <;> simp, by split <;> simp, fun u hu v hv => ?_⟩, fun u hu v hv huv => ?_⟩
      · have hu' : u = 2 * (g.2.length : Int) := by
          split at hu
          · simpa using hu
          · cases hu
        have hv' : v = 2 * e + 1 := by
          split at hv
          · simpa using hv
          · cases hv
        omega
      · obtain ⟨x, hx, rfl⟩ := List.mem_map.1 hu
        have q := halfE_in he (rA x hx)
        rcases List.mem_append.1 hv with hv | hv
        · split at hv
          · exact q.2.2.1 (huv.trans (by simpa using hv))
          · cases hv
        · split at hv
          · exact q.2.1 (huv.trans (by simpa using hv))
          · cases hv
    · simp only [List.mem_append, List.mem_map]
      constructor
      · intro hy
        have hyr := rB y hy
        have hy' : 0 ≤ y ∧ y < 2 * (g.2.length : Int) + 2 := ⟨hyr.1, by omega⟩
        have hb := (mB y hy').1 hy
        by_cases d1 : y = 2 * (g.2.length : Int)
        · rw [d1, e1] at hb
          exact .inr (.inl (by rw [if_pos hb, d1]; simp))
        · by_cases d2 : y = 2 * e + 1
          · rw [d2, e3] at hb
            exact .inr (.inr (by rw [if_pos hb, d2]; simp))
          · left
            refine ⟨backE g.2.length e y, hb, ?_⟩
            unfold backE halfE
            rw [if_neg d1]
            by_cases d3 : y = 2 * (g.2.length : Int) + 1
            · rw [if_pos d3, if_pos rfl, d3]
            · rw [if_neg d3, if_neg d2]
      · rintro (⟨x, hx, rfl⟩ | hy | hy)
        · have q := halfE_in he (rA x hx)
          exact (mB _ q.1).2 (by rw [q.2.2.2]; exact hx)
        · split at hy
          · rename_i c
            obtain rfl : y = 2 * (g.2.length : Int) := by simpa using hy
            exact (mB _ (by omega)).2 (by rw [e1]; exact c)
          · cases hy
        · split at hy
          · rename_i c
            obtain rfl : y = 2 * e + 1 := by simpa using hy
            exact (mB _ (by omega)).2 (by rw [e3]; exact c)
          · cases hy
  have hl := hperm.length_eq
  rw [List.length_append, List.length_append, List.length_map] at hl
  have k1 := mA _ i1
  have k2 := mA _ i2
  by_cases d1 : 2 * e ∈ A
  · rw [if_pos d1] at hl
    rw [if_pos (k1.1 d1)]
    by_cases d2 : 2 * e + 1 ∈ A
    · rw [if_pos d2] at hl; rw [if_pos (k2.1 d2)]; simp at hl; omega
    · rw [if_neg d2] at hl; rw [if_neg (fun c => d2 (k2.2 c))]; simp at hl; omega
  · rw [if_neg d1] at hl
    rw [if_neg (fun c => d1 (k1.2 c))]
    by_cases d2 : 2 * e + 1 ∈ A
    · rw [if_pos d2] at hl; rw [if_pos (k2.1 d2)]; simp at hl; omega
    · rw [if_neg d2] at hl; rw [if_neg (fun c => d2 (k2.2 c))]; simp at hl; omega
/-- what is known of a split edge -/
structure SplitL (g : Net) (r : Rot) (e : Int) : Prop where
  may : MayP g
  rot : RotP g r
  bd : 0 ≤ e ∧ e < (g.2.length : Int)
  may' : MayP (dsplitR g r e).1
  rot' : RotP (dsplitR g r e).1 (dsplitR g r e).2.1
  m' : ((dsplitR g r e).1.2.length : Int) = (g.2.length : Int) + 1
  fl : (facesS (nextS (dsplitR g r e).1 (dsplitR g r e).2.1) (dsplitR g r e).2.1).length = (facesS (nextS g r) r).length
  gen : genusS g r = genusS (dsplitR g r e).1 (dsplitR g r e).2.1
  len : ∀ k, In (2 * (g.2.length : Int)) k → ((gI (facesS (nextS (dsplitR g r e).1 (dsplitR g r e).2.1) (dsplitR g r e).2.1) (gI (ofS (dsplitR g r e).1 (dsplitR g r e).2.1) (halfE g.2.length e k))).length : Int) =
    ((gI (facesS (nextS g r) r) (gI (ofS g r) k)).length : Int) + (if gI (ofS g r) k = gI (ofS g r) (2 * e) then 1 else 0) + (if gI (ofS g r) k = gI (ofS g r) (2 * e + 1) then 1 else 0)
theorem dsplit_ok (h : (dsplitR g r e).2.2 = 0) : MayP g ∧ RotP g r ∧ (splitR g e).2 = 0 ∧ dsplitR g r e = ((splitR g e).1, canonS (dsplitS g r e), 0) := by
  unfold dsplitR at h ⊢
  by_cases c : rmayR g r = 0
  · rw [if_pos c] at h ⊢
    by_cases c2 : (splitR g e).2 = 0
    · rw [if_pos c2]
      obtain ⟨hm, hr⟩ := rmay_ok c
      rw [canonR_yes (split_may c2) (dsplit_RotP c2 hr)]
      exact ⟨hm, hr, c2, rfl⟩
    · rw [if_neg c2] at h; exact absurd h c2
  · rw [if_neg c] at h; exact absurd h c
theorem dsplit_bad (h : ¬ (dsplitR g r e).2.2 = 0) : (dsplitR g r e).1.1 = 0 ∧ (dsplitR g r e).2.1 = [] := by
  unfold dsplitR at h ⊢
  by_cases c : rmayR g r = 0
  · rw [if_pos c] at h ⊢
    by_cases c2 : (splitR g e).2 = 0
    · rw [if_pos c2] at h; exact absurd rfl h
    · rw [if_neg c2]; exact ⟨rfl, rfl⟩
  · rw [if_neg c]; exact ⟨rfl, rfl⟩
theorem split_law (h : (dsplitR g r e).2.2 = 0) : SplitL g r e := by
  obtain ⟨hm, hr, hs, h1⟩ := dsplit_ok h
  obtain ⟨_, he, _, _⟩ := splitR_ok hs
  obtain ⟨s1, s2, _⟩ := splitE hs
  have hq := (dsplit_RotP hs hr).canon
  have hm' := split_may hs
  have hf := split_faces hs hr
  have hc := split_comps hs
  refine ⟨hm, hr, he, by rw [h1]; exact hm', by rw [h1]; exact hq, by rw [h1]; exact s2, by rw [h1]; exact hf, ?_, fun k hk => by rw [h1]; exact split_len2 hs hr hk⟩
  rw [h1]
  simp only
  unfold genusS
  rw [hf, hc, s1, s2]
  congr 1
  omega
end
end TL
/-
  TlOpen: arguments opened: what a law's reader says of a slice is what a walk wants of it.
  By an AI agent.
-/
namespace TL
open Go Go.Proofs Go.ChangeShapes Go.WideShapes Go.Joins Go.Deep
structure BulkOk {H : Type} (f : DataW H → Nat) : Prop where
  slice : ∀ l s : List (DataW H), l.length ≤ f (.slice l s)
  elem : ∀ l s : List (DataW H), ∀ d ∈ l, f d ≤ f (.slice l s)
  part : ∀ l : List (DataW H), ∀ d ∈ l, f d ≤ f (.agg l)
/-- cells that hold no pointer -/
def OpnF (α : Type) [Rp α] (P : Program) (t : TypeId) : Prop :=
  ∀ {H : Type} (enc : TypeId × Value → H) (w : World) (fuel : Nat) (cs : List Value) (x : DataW H × List MemPlace), DataW.trod enc P w 0 (fun _ => true) true fuel t cs = some x → ∃ y : α, Rp.rep c0 any w cs y
theorem opn_int {P : Program} {t : TypeId} (ht : P.underlying t = some (.int .i64)) : OpnF Int P t := by
  intro H enc w fuel cs x h
  obtain ⟨n, rfl, _, _⟩ := DataW.trod_int ht h
  exact ⟨n, rfl⟩
theorem trod_array2 {H : Type} {enc : TypeId × Value → H} {P : Program} {w : World} {base : Nat} {spare : Nat → Bool} {held : Bool} {t e : TypeId} {fuel : Nat} {cs : List Value} {x : DataW H × List MemPlace} (ht : P.underlying t = some (.array 2 e)) (hce : P.cellsOf e = 1) (hct : P.cellsOf t = 2)
    (h : DataW.trod enc P w base spare held fuel t cs = some x) :
    ∃ v0 v1 y0 y1 n, cs = [v0, v1] ∧ x = (.agg [y0.1, y1.1], y0.2 ++ y1.2) ∧ DataW.trod enc P w base spare held n e [v0] = some y0 ∧ DataW.trod enc P w base spare held n e [v1] = some y1 := by
  cases fuel with
  | zero => simp [DataW.trod] at h
  | succ n =>
    unfold DataW.trod at h
    rw [ht] at h
    have r2 : List.range 2 = [0, 1] := rfl
    simp only [hct] at h
    by_cases hl : cs.length = 2
    · rw [if_pos hl] at h
      match cs, hl with
      | [v0, v1], _ =>
        simp [r2, hce] at h
        cases h0 : DataW.trod enc P w base spare held n e [v0] with
        | none => simp [h0] at h
        | some y0 =>
          cases h1 : DataW.trod enc P w base spare held n e [v1] with
          | none => simp [h0, h1] at h
          | some y1 =>
            simp [h0, h1] at h
            exact ⟨v0, v1, y0, y1, n, rfl, h.symm, h0, h1⟩
    · rw [if_neg hl] at h; cases h
theorem opn_two {P : Program} {t e : TypeId} (ht : P.underlying t = some (.array 2 e)) (he : P.underlying e = some (.int .i64)) (hce : P.cellsOf e = 1) (hct : P.cellsOf t = 2) : OpnF (Int × Int) P t := by
  intro H enc w fuel cs x h
  obtain ⟨v0, v1, y0, y1, n, rfl, _, h0, h1⟩ := trod_array2 ht hce hct h
  obtain ⟨a, ha⟩ := opn_int he enc w n [v0] y0 h0
  obtain ⟨b, hb⟩ := opn_int he enc w n [v1] y1 h1
  exact ⟨(a, b), [v0], [v1], rfl, ha, hb⟩
/-- a slice of such cells -/
theorem opn_slice {α : Type} [Rp α] [Inhabited α] {P : Program} {t e : TypeId} (ht : P.underlying t = some (.slice e)) (hc : P.cellsOf e = Rp.sz α) (hz : 0 < Rp.sz α) (he : OpnF α P e)
    {H : Type} {enc : TypeId × Value → H} {w : World} {f : DataW H → Nat} (hf : BulkOk f) {fuel : Nat} {v : Value} {x : DataW H × List MemPlace}
    (hs : ∀ a len cap, v = .slice (some a) len cap → a.spot = none) (h : DataW.trod enc P w 0 (fun _ => true) true fuel t [v] = some x) (hb : f x.1 ≤ 1048576) : ∃ xs : List α, Ro w v xs := by
  rcases Deep.open_slice ht h with ⟨h0, _⟩ | ⟨a, len, cap, m, n, D, Pl, h0, _, hlc, _, hm, rfl, hx⟩
  · obtain rfl : v = .slice none 0 0 := by simpa using h0
    exact ⟨[], .inl ⟨⟨_, rfl⟩, rfl⟩⟩
  · obtain rfl : v = .slice (some a) len cap := by simpa using h0
    have hsp := hs a len cap rfl
    obtain ⟨b, off, spot⟩ := a
    obtain rfl : spot = none := hsp
    simp only [if_true] at hm
    subst hm
    obtain ⟨Y, hY⟩ := Deep.choose_lt (α := α) (n := len) (p := fun i y => ∃ cs, (∀ j, j < Rp.sz α → w.cell? ⟨b, off + i * Rp.sz α + j, none⟩ = cs[j]?) ∧ Rp.rep c0 any w cs y) (fun i hi => by
      obtain ⟨cs', h1, h2⟩ := hx i (by omega)
      obtain ⟨y, hy⟩ := he enc w n cs' _ h2
      refine ⟨y, cs', fun j hj => ?_, hy⟩
      obtain ⟨_, hl, hcell⟩ := World.cells?_some h1
      have := hcell j (by omega)
      rw [Deep.add_add, hc] at this
      rw [← this]
      unfold Addr.add
      by_cases hij : i * Rp.sz α + j = 0
      · rw [if_pos hij, Nat.add_assoc, hij]; rfl
      · rw [if_neg hij, Nat.add_assoc])
    have hlen : ((List.range len).map Y).length = len := by simp
    have hbound := Nat.le_trans (hf.slice _ _) hb
    refine ⟨(List.range len).map Y, .inr ⟨b, off, m, by rw [hlen], ⟨by omega, by simp at hbound; omega⟩, fun i y hi => ?_⟩⟩
    have hil : i < len := by
      have := (List.getElem?_eq_some_iff.1 hi).1
      omega
    obtain rfl : Y i = y := by simpa [hil] using hi
    obtain ⟨cs, h1, h2⟩ := hY i hil
    refine ⟨?_, trivial, cs, h1, h2⟩
    have h3 := h1 0 hz
    have h4 := Rp.len h2
    have h5 : 0 < cs.length := by omega
    rw [List.getElem?_eq_getElem h5] at h3
    by_cases hbl : b < w.heap.size
    · exact hbl
    · have : w.heap[b]? = none := Array.getElem?_eq_none (by omega)
      simp [World.cell?, this] at h3
theorem spot_of_cell {P : Program} {w : World} {base : Nat} {t e : TypeId} {v : Value} (ht : P.underlying t = some (.slice e)) (h : Cell.okWide P w .any base t v) : ∀ a len cap, v = .slice (some a) len cap → a.spot = none := by
  rintro a len cap rfl
  simp only [Cell.okWide, Cell.ok, ht] at h
  exact h.2.2.2.1
/-- an argument that is an int and a slice -/
theorem top_net {α : Type} [Rp α] [Inhabited α] {P : Program} {t t0 t1 e : TypeId} {f0 f1 : Field} (hs : P.underlying t = some (.struct #[f0, f1])) (hone : oneCellFields P #[f0, f1] = true) (hC : P.cellsOf t = 2) (hts : P.cellTypes P.depth t = some [t0, t1])
    (h0 : f0.type = t0) (h1 : f1.type = t1) (hi : P.underlying t0 = some (.int .i64)) (ht : P.underlying t1 = some (.slice e)) (hc : P.cellsOf e = Rp.sz α) (hz : 0 < Rp.sz α) (he : OpnF α P e)
    {H : Type} {enc : TypeId × Value → H} {w : World} {f : DataW H → Nat} (hf : BulkOk f) {base : Nat} {v : Value} {d : DataW H} {p : List MemPlace}
    (hval : Value.okWide P w .any base t v) (h : DataW.Trod enc P w 0 (fun _ => true) true t v d p) (hb : f d ≤ 1048576) : ∃ (n : Int) (u : Value) (xs : List α), v = .agg #[.int .i64 n, u] ∧ Ro w u xs := by
  obtain ⟨v0, v1, y0, y1, n, rfl, rfl, rfl, r0, r1⟩ := open_agg2 hs hone hC hval h
  subst h0 h1
  obtain ⟨k, hk, _, _⟩ := DataW.trod_int hi r0
  obtain rfl : v0 = .int .i64 k := by simpa using hk
  have hcell : Cell.okWide P w .any base f1.type v1 := by
    simp only [Value.okWide, hs] at hval
    obtain ⟨cs, hcs, _, ts, h3, _, h4⟩ := hval
    rw [hts] at h3
    obtain rfl := Option.some.inj h3
    obtain rfl : #[Value.int .i64 k, v1] = cs := by simpa using hcs
    obtain ⟨u, hu, hk⟩ := h4 1 v1 rfl
    simp at hu
    subst hu
    exact hk
  obtain ⟨xs, hx⟩ := opn_slice ht hc hz he hf (spot_of_cell ht hcell) (x := y1) r1 (Nat.le_trans (hf.part _ _ (by simp)) hb)
  exact ⟨k, v1, xs, rfl, hx⟩
/-- a slice of ints within another slice -/
theorem opn_inner {P : Program} {e q : TypeId} (he : P.underlying e = some (.slice q)) (hq : P.underlying q = some (.int .i64)) (hcq : P.cellsOf q = 1)
    {H : Type} {enc : TypeId × Value → H} {w : World} {f : DataW H → Nat} (hf : BulkOk f) {fuel : Nat} {u : Value} {x : DataW H × List MemPlace}
    (h : DataW.trod enc P w 0 (fun _ => true) true fuel e [u] = some x) (hb : f x.1 ≤ 1048576) : ∃ xs : List Int, Ro w u xs ∧ xs.length ≤ 1048576 := by
  have h' := h
  rcases Deep.open_slice he h with ⟨h0, _⟩ | ⟨a, len, cap, m, n, D, Pl, h0, _, hlc, _, hm, rfl, hx⟩
  · obtain rfl : u = .slice none 0 0 := by simpa using h0
    exact ⟨[], .inl ⟨⟨_, rfl⟩, rfl⟩, by simp⟩
  · obtain rfl : u = .slice (some a) len cap := by simpa using h0
    simp only [if_true] at hm
    subst hm
    by_cases hc : m = 0
    · have hl : len = 0 := by omega
      subst hl hc
      exact ⟨[], .inl ⟨⟨_, rfl⟩, rfl⟩, by simp⟩
    · obtain ⟨cs', h1, h2⟩ := hx 0 (by omega)
      obtain ⟨_, hl, hcell⟩ := World.cells?_some h1
      have h3 := hcell 0 (by rw [hcq]; omega)
      have h4 : 0 < cs'.length := by rw [hl, hcq]; omega
      rw [List.getElem?_eq_getElem h4] at h3
      have hs : a.spot = none := by
        have := World.cell?_spot h3
        simpa [Addr.add] using this
      obtain ⟨xs, hxs⟩ := opn_slice he (α := Int) (by rw [hcq]; rfl) (by decide) (opn_int hq) hf (by rintro a' len' cap' e'; cases e'; exact hs) h' hb
      have hform := hxs.form
      have hlen : xs.length = len := by
        cases hform; rfl
      have hbound := Nat.le_trans (hf.slice _ _) hb
      exact ⟨xs, hxs, by simp at hbound; omega⟩
/-- an argument that is a slice of slices of ints -/
theorem top_rot {P : Program} {t e q : TypeId} (ht : P.underlying t = some (.slice e)) (he : P.underlying e = some (.slice q)) (hq : P.underlying q = some (.int .i64)) (hce : P.cellsOf e = 1) (hcq : P.cellsOf q = 1)
    {H : Type} {enc : TypeId × Value → H} {w : World} {f : DataW H → Nat} (hf : BulkOk f) {base : Nat} {v : Value} {d : DataW H} {p : List MemPlace}
    (hval : Value.okWide P w .any base t v) (h : DataW.Trod enc P w 0 (fun _ => true) true t v d p) (hb : f d ≤ 1048576) : ∃ xss : List (List Int), Ro w v xss ∧ (xss.length : Int) ≤ 1048576 ∧ ∀ l ∈ xss, l.length ≤ 1048576 := by
  obtain ⟨a, len, cap, rfl⟩ := okWide_slice ht hval
  have hs := spot_of_cell (w := w) (base := base) (v := .slice a len cap) ht (by simpa [Value.okWide, ht] using hval)
  obtain ⟨fuel, hfu⟩ := h
  rcases Deep.open_slice ht hfu with ⟨h0, _⟩ | ⟨a', len', cap', m, n, D, Pl, h0, _, hlc, _, hm, hd, hx⟩
  · have h0' : (Value.slice a len cap) = .slice none 0 0 := by simpa [Value.cells] using h0
    rw [h0']
    exact ⟨[], .inl ⟨⟨_, rfl⟩, rfl⟩, by simp, by simp⟩
  · have h0' : (Value.slice a len cap) = .slice (some a') len' cap' := by simpa [Value.cells] using h0
    cases h0'
    have hsp := hs a' len cap rfl
    obtain ⟨b, off, spot⟩ := a'
    obtain rfl : spot = none := hsp
    simp only [if_true] at hm
    subst hm
    obtain ⟨rfl, _⟩ : d = _ ∧ p = _ := by simpa using hd
    have hbound := Nat.le_trans (hf.slice _ _) hb
    obtain ⟨Y, hY⟩ := Deep.choose_lt (α := List Int) (n := len) (p := fun i y => (∃ cs, (∀ j, j < Rp.sz (List Int) → w.cell? ⟨b, off + i * Rp.sz (List Int) + j, none⟩ = cs[j]?) ∧ Rp.rep c0 any w cs y) ∧ y.length ≤ 1048576) (fun i hi => by
      obtain ⟨cs', h1, h2⟩ := hx i (by omega)
      obtain ⟨_, hl, hcell⟩ := World.cells?_some h1
      rw [hce] at hl
      obtain ⟨u, rfl⟩ : ∃ u, cs' = [u] := by
        match cs', hl with
        | [u], _ => exact ⟨u, rfl⟩
      obtain ⟨y, hy, hyl⟩ := opn_inner he hq hcq hf h2 (Nat.le_trans (hf.elem _ _ _ (by simp; exact ⟨i, hi, rfl⟩)) hb)
      refine ⟨y, ⟨[u], fun j hj => ?_, u, rfl, hy⟩, hyl⟩
      have hj0 : j < 1 := hj
      have := hcell j (by rw [hce]; exact hj0)
      rw [Deep.add_add, hce] at this
      rw [← this]
      show w.cell? ⟨b, off + i * 1 + j, none⟩ = _
      unfold Addr.add
      by_cases hij : i * 1 + j = 0
      · rw [if_pos hij, Nat.add_assoc, hij]; rfl
      · rw [if_neg hij, Nat.add_assoc])
    have hlen : ((List.range len).map Y).length = len := by simp
    have hll : len ≤ 1048576 := by simp at hbound; omega
    refine ⟨(List.range len).map Y, .inr ⟨b, off, m, by rw [hlen], ⟨by omega, by omega⟩, fun i y hi => ?_⟩, by simp; omega, fun l hl => ?_⟩
    · have hil : i < len := by
        have := (List.getElem?_eq_some_iff.1 hi).1
        omega
      obtain rfl : Y i = y := by simpa [hil] using hi
      obtain ⟨⟨cs, h1, h2⟩, _⟩ := hY i hil
      refine ⟨?_, trivial, cs, h1, h2⟩
      have h3 := h1 0 (by decide)
      have h4 := Rp.len h2
      have h5 : 0 < cs.length := by rw [h4]; decide
      rw [List.getElem?_eq_getElem h5] at h3
      by_cases hbl : b < w.heap.size
      · exact hbl
      · have : w.heap[b]? = none := Array.getElem?_eq_none (by omega)
        simp [World.cell?, this] at h3
    · obtain ⟨i, hi, rfl⟩ := List.mem_map.1 hl
      exact (hY i (List.mem_range.1 hi)).2
end TL
/-
  TlPost: what is owed behind a law that returns true and writes nothing of the caller's.
  By an AI agent.
-/
namespace TL
open Go Go.Proofs Go.ChangeShapes Go.WideShapes Go.RowKit
def rowed (P : Program) (ts : List TypeId) : Bool := ts.all fun t => P.readableRec t && decide (t < P.types.size)
theorem all_stays {H : Type} {enc : TypeId × Value → H} {P : Program} (hl : laidOutB P = true) {W W' : World} (hb : Below W.heap.size W W') (sp : Nat → Bool) :
    ∀ {ts : List TypeId} {vs : List Value} {ds : List (DataW H)} {ps : List MemPlace}, rowed P ts = true → DataW.TrodAll enc P W 0 (fun _ => true) true ts vs ds ps → (∀ p ∈ ps, p.block < W.heap.size) → (∀ p ∈ ps, sp p.block = true) → DataW.TrodAll enc P W' 0 sp true ts vs ds ps
  | [], [], [], _, _, h, _, _ => h
  | [], [], _ :: _, _, _, h, _, _ => h.elim
  | [], _ :: _, _, _, _, h, _, _ => by cases ‹List (DataW H)› <;> exact h.elim
  | _ :: _, [], _, _, _, h, _, _ => by cases ‹List (DataW H)› <;> exact h.elim
  | _ :: _, _ :: _, [], _, _, h, _, _ => h.elim
  | t :: ts, v :: vs, d :: ds, ps, hr, h, hlt, hsp => by
    obtain ⟨p, q, h1, h2, rfl⟩ := h
    simp only [rowed, List.all_cons, Bool.and_eq_true, decide_eq_true_eq] at hr
    exact ⟨p, q, WideElems.Trod_stays hl hr.1.1 hr.1.2 h1 (fun x hx => hb.same (hlt x (by simp [hx]))) (fun x hx => hsp x (by simp [hx])),
      all_stays hl hb sp hr.2 h2 (fun x hx => hlt x (by simp [hx])) (fun x hx => hsp x (by simp [hx])), rfl⟩
theorem law_post {H : Type} {enc : TypeId × Value → H} {P : Program} {f : Func} {s : ChangeSpec} {W W' : World} {args : Array Value} {ds gs : List (DataW H)} {before : List MemPlace} {tb : TypeId}
    (hl : laidOutB P = true) (hr : rowed P f.params.toList = true) (hv : s.vars = []) (hrt : f.resultTypes = #[tb]) (htb : P.underlying tb = some .bool)
    (hW : DataW.Whole enc P f.params.toList s.vars false W args.toList ds gs before) (hfn : s.fn H (ds ++ gs) = { results := [.lit (.bool true)], args := ds }) (hB : Below W.heap.size W W') :
    s.post enc P f false true false false W args (.bool true) W' := by
  have hlt := hW.lt
  have hW0 := hW
  obtain ⟨p, q, hA, hV, rfl, hfz, _⟩ := hW
  rw [hv] at hV
  obtain ⟨rfl, rfl⟩ := trodVars_none hV
  simp only [List.append_nil] at hlt hfz hW0 hfn
  have hres : ∀ (b : Nat) (sp : Nat → Bool) (hd : Bool), DataW.TrodAll enc P W' b sp hd f.resultTypes.toList ((Value.bool true).resultList f.resultTypes.size) (s.fn H (ds ++ [])).results [] := fun b sp hd => by
    rw [hrt, List.append_nil, hfn]
    exact trodAll_cons_mk (shut_bool htb true) trodAll_mk0
  have hargs : ∀ sp : Nat → Bool, (∀ x ∈ p, sp x.block = true) → DataW.TrodAll enc P W' 0 sp true f.params.toList args.toList (s.fn H (ds ++ [])).args p := fun sp hsp => by
    rw [List.append_nil, hfn]
    exact all_stays hl hB sp hr hA hlt hsp
  have hvars : ∀ sp : Nat → Bool, DataW.TrodVars enc P W' sp s.vars (s.fn H (ds ++ [])).vars [] := fun sp => by
    rw [List.append_nil, hfn, hv]
    rfl
  refine ⟨ds, [], p, [], p, [], hW0, hres _ _ _, hargs _ (fun x hx => by simpa using hlt x hx), hvars _, World.keptBut_mono (fun x hx => ⟨hx, Or.inr (by simpa using hx)⟩) (hB.frame _), fun _ => ?_⟩
  refine ⟨?_, _, _, ([] ++ p) ++ [], ⟨[] ++ p, [], trodAll_append (hargs _ (fun _ _ => rfl)) (hres _ _ _), hvars _, rfl, ?_, ?_⟩, ?_⟩
  · exact ok_one hrt rfl (okWide_bool_mk htb true)
  · intro b off hp
    have hp' : MemPlace.cell b off ∈ p := by simpa using hp
    rw [hB.frozen (p := ⟨b, off, none⟩) (hlt _ hp')]
    exact hfz b off hp'
  · intro ha; cases ha
  · intro x hx _
    simpa using hx
end TL
