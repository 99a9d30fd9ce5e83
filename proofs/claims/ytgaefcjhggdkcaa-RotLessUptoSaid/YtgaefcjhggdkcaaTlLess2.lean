/-
  TlLess2: a rotation's part: its half-edges among the whole's, and its genus.
  By an AI agent.
-/
import Derived.Test.YtgaefcjhggdkcaaTlLess
set_option linter.all false
namespace TL
theorem nxt_map {l : List Int} {f : Int → Int} (hn : l.Nodup) (hi : ∀ x ∈ l, ∀ y ∈ l, f x = f y → x = y) {x : Int} (hx : x ∈ l) : nxt (l.map f) (f x) = f (nxt l x) := by
  obtain ⟨u, w, rfl⟩ := List.append_of_mem hx
  have hu : x ∉ u := fun h => (List.nodup_append.1 hn).2.2 x h x (by simp) rfl
  have hu' : f x ∉ u.map f := fun h => by
    obtain ⟨y, hy, e⟩ := List.mem_map.1 h
    exact hu (by rw [← hi y (by simp [hy]) x (by simp) e]; exact hy)
  rw [List.map_append, List.map_cons, nxt_split hu', nxt_split hu]
  have : w.map f ++ u.map f ++ [f x] = (w ++ u ++ [x]).map f := by simp
  rw [this, gI_map f (by omega) (by simp; omega)]
theorem nodup_of_map {f : Int → Int} : ∀ {l : List Int}, (l.map f).Nodup → l.Nodup
  | [], _ => by simp
  | a :: l, h => by
    rw [List.map_cons] at h
    have h := List.nodup_cons.1 h
    exact List.nodup_cons.2 ⟨fun ha => h.1 (List.mem_map.2 ⟨a, ha, rfl⟩), nodup_of_map h.2⟩
/-- a part's half-edge among the whole's -/
def iotaH (keep : List Int) (x : Int) : Int := 2 * gI keep (x / 2) + x % 2
theorem iotaH_half (keep : List Int) (x : Int) : iotaH keep x / 2 = gI keep (x / 2) ∧ iotaH keep x % 2 = x % 2 := by
  unfold iotaH; omega
theorem iotaH_back {keep : List Int} {h : Int} (hk : h / 2 ∈ keep) : iotaH keep (2 * (posS keep (h / 2) - 1) + h % 2) = h := by
  unfold iotaH
  rw [show (2 * (posS keep (h / 2) - 1) + h % 2) / 2 = posS keep (h / 2) - 1 by omega, gI_posS hk]
  omega
theorem keepRow_iota (keep l : List Int) : (keepRow keep l).map (iotaH keep) = l.filter fun h => decide (h / 2 ∈ keep) := by
  unfold keepRow
  rw [List.map_map]
  have e : (l.filter fun h => decide (0 < posS keep (h / 2))) = l.filter fun h => decide (h / 2 ∈ keep) := List.filter_congr fun h _ => by
    rw [decide_eq_decide]; exact posS_pos
  rw [e]
  conv => rhs; rw [← List.map_id (l.filter fun h => decide (h / 2 ∈ keep))]
  apply List.map_congr_left
  intro h hh
  have := (List.mem_filter.1 hh).2
  simp only [decide_eq_true_eq] at this
  exact iotaH_back this
section
variable {g : Net} {r : Rot} {keep : List Int}
/-- the half-edges that are not kept -/
def gone (m : Nat) (keep : List Int) : List Int := (iotaI (2 * m)).filter fun h => decide (h / 2 ∉ keep)
theorem gone_mem {m : Nat} {h : Int} : h ∈ gone m keep ↔ In (2 * (m : Int)) h ∧ h / 2 ∉ keep := by
  unfold gone
  rw [List.mem_filter, iota_mem]
  simp only [decide_eq_true_eq, In]
  constructor
  · rintro ⟨a, b⟩; exact ⟨⟨by omega, by omega⟩, b⟩
  · rintro ⟨a, b⟩; exact ⟨⟨by omega, by omega⟩, b⟩
theorem part_rows (hr : RotP g r) : (r.map (keepRow keep)).map (List.map (iotaH keep)) = rmL (gone g.2.length keep) r := by
  unfold rmL
  rw [List.map_map]
  apply List.map_congr_left
  intro l hl
  show (keepRow keep l).map (iotaH keep) = _
  rw [keepRow_iota]
  apply List.filter_congr
  intro h hh
  have := rot_in hr h (List.mem_flatten.2 ⟨l, hl, hh⟩)
  rw [decide_eq_decide, gone_mem]
  simp [this]
theorem part_flat (hr : RotP g r) : (r.map (keepRow keep)).flatten.map (iotaH keep) = (rmL (gone g.2.length keep) r).flatten := by
  rw [← part_rows hr, List.map_flatten]
theorem iotaH_inj (hn : keep.Nodup) {x y : Int} (hx : In (2 * (keep.length : Int)) x) (hy : In (2 * (keep.length : Int)) y) (e : iotaH keep x = iotaH keep y) : x = y := by
  obtain ⟨a, b⟩ := iotaH_half keep x
  obtain ⟨c, d⟩ := iotaH_half keep y
  have hx1 := hx.1
  have hx2 := hx.2
  have hy1 := hy.1
  have hy2 := hy.2
  have := gI_inj hn (i := x / 2) (j := y / 2) (by omega) (by omega) (by omega) (by omega) (by rw [← a, ← c, e])
  have : x % 2 = y % 2 := by rw [← b, ← d, e]
  omega
theorem iotaH_in {m : Nat} (hb : ∀ i ∈ keep, 0 ≤ i ∧ i < (m : Int)) {x : Int} (hx : In (2 * (keep.length : Int)) x) : In (2 * (m : Int)) (iotaH keep x) := by
  have hx1 := hx.1
  have hx2 := hx.2
  have := hb _ (gI_mem (xs := keep) (i := x / 2) (by omega) (by omega))
  obtain ⟨a, b⟩ := iotaH_half keep x
  exact ⟨by omega, by omega⟩
theorem iotaH_onto {z : Int} (hz : z / 2 ∈ keep) : ∃ x, In (2 * (keep.length : Int)) x ∧ z = iotaH keep x := by
  have h1 := posS_pos.2 hz
  have h2 := posS_le keep (z / 2)
  exact ⟨2 * (posS keep (z / 2) - 1) + z % 2, ⟨by omega, by omega⟩, (iotaH_back hz).symm⟩
theorem rmL_mem {L : List Int} {r : Rot} {x : Int} : x ∈ (rmL L r).flatten ↔ x ∈ r.flatten ∧ x ∉ L := by
  unfold rmL
  simp only [List.mem_flatten, List.mem_map]
  constructor
  · rintro ⟨l, ⟨l', hl', rfl⟩, hx⟩
    have := List.mem_filter.1 hx
    simp only [decide_eq_true_eq] at this
    exact ⟨⟨l', hl', this.1⟩, this.2⟩
  · rintro ⟨⟨l, hl, hx⟩, hL⟩
    exact ⟨_, ⟨l, hl, rfl⟩, List.mem_filter.2 ⟨hx, by simpa using hL⟩⟩
theorem part_RotP (hr : RotP g r) (hn : keep.Nodup) (hb : ∀ i ∈ keep, 0 ≤ i ∧ i < (g.2.length : Int)) : RotP (g.1, keep.map (gI g.2)) (r.map (keepRow keep)) := by
  have hlen := hr.1
  have hfl := part_flat (keep := keep) hr
  have hnd : (r.map (keepRow keep)).flatten.Nodup := nodup_of_map (f := iotaH keep) (by rw [hfl]; exact hr.2.2.1.sublist (rmL_sub _ _))
  have hat : ∀ v : Nat, v < (r.map (keepRow keep)).length → ∀ h ∈ gI (r.map (keepRow keep)) (v : Int), (0 ≤ h ∧ h < 2 * (((g.1, keep.map (gI g.2)) : Net).2.length : Int)) ∧ fromS (g.1, keep.map (gI g.2)) h = v := by
    intro v hv h hh
    rw [List.length_map] at hv
    rw [gI_map _ (by omega) (by omega)] at hh
    unfold keepRow at hh
    obtain ⟨y, hy, rfl⟩ := List.mem_map.1 hh
    obtain ⟨hy1, hy2⟩ := List.mem_filter.1 hy
    simp only [decide_eq_true_eq] at hy2
    have hyk := posS_pos.1 hy2
    have h2 := posS_le keep (y / 2)
    have h3 := hr.2.1 v hv y hy1
    simp only [List.length_map]
    refine ⟨⟨by omega, by omega⟩, ?_⟩
    rw [← h3.2]
    unfold fromS
    simp only
    rw [show (2 * (posS keep (y / 2) - 1) + y % 2) / 2 = posS keep (y / 2) - 1 by omega, show (2 * (posS keep (y / 2) - 1) + y % 2) % 2 = y % 2 by omega, gI_map _ (by omega) (by omega), gI_posS hyk]
  refine ⟨by rw [List.length_map]; exact hlen, hat, hnd, ?_⟩
  have hin : ∀ h ∈ (r.map (keepRow keep)).flatten, In (2 * (keep.length : Int)) h := fun h hh => by
    obtain ⟨l, hl, hhl⟩ := List.mem_flatten.1 hh
    obtain ⟨v, hv, e⟩ := List.mem_iff_getElem.1 hl
    have ev : gI (r.map (keepRow keep)) (v : Int) = l := by rw [← e]; unfold gI; rw [Int.toNat_natCast, List.getD_eq_getElem?_getD, List.getElem?_eq_getElem hv]; rfl
    have := (hat v hv h (by rw [ev]; exact hhl)).1
    rw [List.length_map] at this
    exact this
  have hp : List.Perm (r.map (keepRow keep)).flatten (iotaI (2 * keep.length)) := (List.perm_ext_iff_of_nodup hnd (iota_nodup _)).2 fun x => by
    rw [iota_mem]
    constructor
    · intro hx
      have := hin x hx
      exact ⟨this.1, by have := this.2; omega⟩
    · intro hx
      have hxi : In (2 * (keep.length : Int)) x := ⟨hx.1, by omega⟩
      have hz := iotaH_in hb hxi
      obtain ⟨v, hv, hh⟩ := rot_at hr hz.1 hz.2
      have hzr : iotaH keep x ∈ r.flatten := List.mem_flatten.2 ⟨_, gI_mem (by omega) hv, hh⟩
      have hk : iotaH keep x / 2 ∈ keep := by
        rw [(iotaH_half keep x).1]
        exact gI_mem (by omega) (by omega)
      have hm : iotaH keep x ∈ (rmL (gone g.2.length keep) r).flatten := rmL_mem.2 ⟨hzr, fun h => (gone_mem.1 h).2 hk⟩
      rw [← hfl] at hm
      obtain ⟨y, hy, e⟩ := List.mem_map.1 hm
      rw [← iotaH_inj hn (hin y hy) hxi e]
      exact hy
  rw [hp.length_eq, iota_len]
  simp
theorem part_may (hm : MayP g) (hn : keep.Nodup) (hb : ∀ i ∈ keep, 0 ≤ i ∧ i < (g.2.length : Int)) : MayP (g.1, keep.map (gI g.2)) := by
  obtain ⟨m1, m2, m3, m4⟩ := hm
  have := nodup_le (n := (g.2.length : Int)) (by omega) hn hb
  refine ⟨m1, m2, by simp only [List.length_map]; omega, fun e he => ?_⟩
  obtain ⟨i, hi, rfl⟩ := List.mem_map.1 he
  have := hb i hi
  exact m4 _ (gI_mem this.1 this.2)
theorem part_emb (hr : RotP g r) (hn : keep.Nodup) (hb : ∀ i ∈ keep, 0 ≤ i ∧ i < (g.2.length : Int)) : Emb g.2.length keep.length (iotaH keep) (cy (rmL (gone g.2.length keep) r)) (cy (canonS (r.map (keepRow keep)))) ((iotaI g.2.length).filter fun i => decide (i ∉ keep)) := by
  have hp := part_RotP hr hn hb
  have hc := hp.canon
  have hsub := rmL_sub (gone g.2.length keep) r
  have hnd := hr.2.2.1.sublist hsub
  have hpm := rot_pm hc
  simp only [List.length_map] at hpm
  have hE : ∀ i, i ∈ (iotaI g.2.length).filter (fun i => decide (i ∉ keep)) ↔ (0 ≤ i ∧ i < (g.2.length : Int)) ∧ i ∉ keep := fun i => by
    rw [List.mem_filter, iota_mem]; simp
  have hk : ∀ x, In (2 * (keep.length : Int)) x → gI keep (x / 2) ∈ keep := fun x hx => by
    have hx1 := hx.1
    have hx2 := hx.2
    exact gI_mem (by omega) (by omega)
  refine ⟨(eul_ex hnd (fun y hy => rot_in hr y (hsub.subset hy))).1, hpm.rng, fun x hx => iotaH_in hb hx, fun x y hx hy e => iotaH_inj hn hx hy e, fun x hx => ?_, fun x hx => ?_, (iota_nodup _).filter _, ?_, fun i hi => ((hE i).1 hi).1, fun z hz => ?_, fun x hx => ?_, fun z hz he => cy_out fun hm => ?_⟩
  · have hx' : In (2 * (((g.1, keep.map (gI g.2)) : Net).2.length : Int)) x := by simp only [List.length_map]; exact hx
    rw [cy_succ hc hx', succS_canon hp hx'.1 hx'.2, ← cy_succ hp hx']
    obtain ⟨v, hv, hh⟩ := rot_at hp hx'.1 hx'.2
    have hrow := gI_mem (xs := r.map (keepRow keep)) (i := (v : Int)) (by omega) hv
    rw [cy_mem hp.2.2.1 hrow hh]
    have hrow' : (gI (r.map (keepRow keep)) (v : Int)).map (iotaH keep) ∈ rmL (gone g.2.length keep) r := by
      rw [← part_rows hr]
      exact List.mem_map.2 ⟨_, hrow, rfl⟩
    rw [cy_mem hnd hrow' (List.mem_map.2 ⟨x, hh, rfl⟩)]
    refine nxt_map (hp.2.2.1.sublist (sub_flat hrow)) (fun a ha b hb' e => ?_) hh
    have ha := rot_in hp a (List.mem_flatten.2 ⟨_, hrow, ha⟩)
    have hb' := rot_in hp b (List.mem_flatten.2 ⟨_, hrow, hb'⟩)
    simp only [List.length_map] at ha hb'
    exact iotaH_inj hn ha hb' e
  · have h1 := twin_half hx.1
    unfold iotaH
    rw [h1]
    unfold twin
    rcases Int.emod_two_eq x with e | e
    · rw [if_pos (by omega), if_pos e]; omega
    · rw [if_neg (by omega), if_neg (by omega)]; omega
  · have h1 := split_len (fun i => decide (i ∈ keep)) (iotaI g.2.length)
    have h2 : List.Perm ((iotaI g.2.length).filter fun i => decide (i ∈ keep)) keep := (List.perm_ext_iff_of_nodup ((iota_nodup _).filter _) hn).2 fun x => by
      rw [List.mem_filter, iota_mem]
      simp only [decide_eq_true_eq]
      exact ⟨fun h => h.2, fun h => ⟨hb x h, h⟩⟩
    rw [h2.length_eq, iota_len] at h1
    have h3 : ((iotaI g.2.length).filter fun x => !decide (x ∈ keep)) = (iotaI g.2.length).filter fun x => decide (x ∉ keep) := List.filter_congr fun x _ => by simp
    rw [h3] at h1
    omega
  · have hz1 := hz.1
    have hz2 := hz.2
    by_cases c : z / 2 ∈ keep
    · exact .inr (iotaH_onto c)
    · exact .inl ((hE _).2 ⟨⟨by omega, by omega⟩, c⟩)
  · rw [(iotaH_half keep x).1, hE]
    exact fun h => h.2 (hk x hx)
  · exact (rmL_mem.1 hm).2 (gone_mem.2 ⟨hz, ((hE _).1 he).2⟩)
theorem rsubR_ok (h : (rsubR g r keep).2.2 = 0) : MayP g ∧ RotP g r ∧ keep.Nodup ∧ (∀ i ∈ keep, 0 ≤ i ∧ i < (g.2.length : Int)) ∧ rsubR g r keep = ((g.1, keep.map (gI g.2)), canonS (r.map (keepRow keep)), 0) := by
  unfold rsubR at h ⊢
  by_cases c : rmayR g r = 0
  · rw [if_pos c] at h ⊢
    obtain ⟨hm, hr⟩ := rmay_ok c
    by_cases c2 : (subR g keep).2 = 0
    · obtain ⟨_, h2, h3⟩ := subR_ok c2
      obtain ⟨h4, h5⟩ := chosenS_ok h2
      rw [if_pos c2, h3]
      exact ⟨hm, hr, h5, h4, rfl⟩
    · rw [if_neg c2] at h; exact absurd h c2
  · rw [if_neg c] at h; exact absurd h c
theorem rsubR_bad (h : ¬ (rsubR g r keep).2.2 = 0) : (rsubR g r keep).1.1 = 0 ∧ (rsubR g r keep).2.1 = [] := by
  unfold rsubR at h ⊢
  by_cases c : rmayR g r = 0
  · rw [if_pos c] at h ⊢
    by_cases c2 : (subR g keep).2 = 0
    · rw [if_pos c2] at h; exact absurd rfl h
    · rw [if_neg c2]; exact ⟨rfl, rfl⟩
  · rw [if_neg c]; exact ⟨rfl, rfl⟩
/-- edges taken away never raise the genus -/
theorem less_genus (h : (rsubR g r keep).2.2 = 0) : (genusR (rsubR g r keep).1 (rsubR g r keep).2.1).2 = 0 ∧ (genusR (rsubR g r keep).1 (rsubR g r keep).2.1).1 ≤ (genusR g r).1 ∧ 0 ≤ (genusR (rsubR g r keep).1 (rsubR g r keep).2.1).1 := by
  obtain ⟨hm, hr, hn, hb, e⟩ := rsubR_ok h
  rw [e]
  simp only
  have hms := part_may hm hn hb
  have hp := part_RotP hr hn hb
  have hc := hp.canon
  have hem := part_emb hr hn hb
  have hsub := rmL_sub (gone g.2.length keep) r
  have hpm := rot_pm hc
  have hec := genus_ec hms hc
  have hok := genus_ok hms hc
  simp only [List.length_map] at hpm hec hok
  have h1 := hem.ec hpm hec
  obtain ⟨h2, h3⟩ := cy_steps (twin_tw g.2.length) hr.2.2.1 (rot_in hr) (gone g.2.length keep) hem.pm
  obtain ⟨d, h4, h5, _⟩ := h3 _ h1
  have h6 := h4.uniq (twin_tw g.2.length) h2 (genus_ec hm hr)
  have h7 := genus_ok hm hr
  have hnum := hem.num
  unfold genusR
  rw [if_pos (rmay_yes hms hc), if_pos (rmay_yes hm hr)]
  simp only [List.length_map]
  rw [Int.tdiv_eq_ediv_of_nonneg hok.1, Int.tdiv_eq_ediv_of_nonneg h7.1]
  refine ⟨trivial, ?_, ?_⟩ <;> omega
end
end TL
