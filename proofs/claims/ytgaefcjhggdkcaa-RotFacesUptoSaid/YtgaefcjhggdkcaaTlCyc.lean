/-
  TlCyc: lists gone round: what stands behind what; rotations turned, and moved.
  By an AI agent.
-/
import Derived.Test.YtgaefcjhggdkcaaTlTr
set_option linter.all false
namespace TL
def nxt (l : List Int) (h : Int) : Int := gI l ((((l.idxOf h : Nat) : Int) + 1) % (l.length : Int))
theorem nxt_split {u w : List Int} {x : Int} (hx : x ∉ u) : nxt (u ++ x :: w) x = gI (w ++ u ++ [x]) 0 := by
  have hi : (u ++ x :: w).idxOf x = u.length := by
    rw [List.idxOf_append, if_neg hx]; simp
  unfold nxt
  rw [hi]
  cases w with
  | nil =>
    have h1 : ((u.length : Int) + 1) % ((u ++ [x]).length : Int) = 0 := by simp
    rw [h1]; simp
  | cons b w =>
    have h1 : ((u.length : Int) + 1) % ((u ++ x :: b :: w).length : Int) = (u.length : Int) + 1 := Int.emod_eq_of_lt (by omega) (by simp; omega)
    rw [h1]
    unfold gI
    rw [show ((u.length : Int) + 1).toNat = u.length + 1 by omega]
    simp [List.getD_eq_getElem?_getD]
theorem nxt_rot {s t : List Int} {y : Int} (hn : (s ++ t).Nodup) (hy : y ∈ s ++ t) : nxt (s ++ t) y = nxt (t ++ s) y := by
  have hn2 := List.nodup_append.1 hn
  rcases List.mem_append.1 hy with h | h
  · obtain ⟨s1, s2, rfl⟩ := List.append_of_mem h
    have h1 : y ∉ s1 := fun hm => (List.nodup_append.1 hn2.1).2.2 y hm y (by simp) rfl
    have h2 : y ∉ t := fun hm => hn2.2.2 y h y hm rfl
    have e1 : (s1 ++ y :: s2) ++ t = s1 ++ y :: (s2 ++ t) := by simp
    have e2 : t ++ (s1 ++ y :: s2) = (t ++ s1) ++ y :: s2 := by simp
    rw [e1, e2, nxt_split h1, nxt_split (by simp [h1, h2])]
    simp [List.append_assoc]
  · obtain ⟨t1, t2, rfl⟩ := List.append_of_mem h
    have h1 : y ∉ t1 := fun hm => (List.nodup_append.1 hn2.2.1).2.2 y hm y (by simp) rfl
    have h2 : y ∉ s := fun hm => hn2.2.2 y hm y h rfl
    have e1 : s ++ (t1 ++ y :: t2) = (s ++ t1) ++ y :: t2 := by simp
    have e2 : (t1 ++ y :: t2) ++ s = t1 ++ y :: (t2 ++ s) := by simp
    rw [e1, e2, nxt_split h1, nxt_split (by simp [h1, h2])]
    simp [List.append_assoc]
theorem turn_perm (l : List Int) : List.Perm (turnS l) l := by
  unfold turnS
  split
  · rename_i h; rw [h]
  · exact List.perm_append_comm.trans (by rw [List.take_append_drop])
theorem nxt_turn {l : List Int} (hn : l.Nodup) {y : Int} (hy : y ∈ l) : nxt (turnS l) y = nxt l y := by
  unfold turnS
  split
  · rename_i h; rw [h] at hy; cases hy
  · have h := nxt_rot (s := l.take (l.idxOf (minL l))) (t := l.drop (l.idxOf (minL l))) (y := y) (by rw [List.take_append_drop]; exact hn) (by rw [List.take_append_drop]; exact hy)
    rw [List.take_append_drop] at h
    exact h.symm
theorem succS_row {g : Net} {r : Rot} (hr : RotP g r) {v : Nat} (hv : (v : Int) < r.length) {h : Int} (hh : h ∈ gI r (v : Int)) : succS r h = nxt (gI r (v : Int)) h := by
  unfold succS; rw [rot_row hr hv hh]; rfl
theorem canon_gI {r : Rot} {v : Nat} (hv : (v : Int) < r.length) : gI (canonS r) (v : Int) = turnS (gI r (v : Int)) := by
  unfold canonS
  rw [gI_map _ (by omega) hv]
theorem canon_len (r : Rot) : (canonS r).length = r.length := by simp [canonS]
theorem RotP.canon {g : Net} {r : Rot} (hr : RotP g r) : RotP g (canonS r) := by
  have hp := flat_perm (canonS r) r (canon_len r) (fun q hq => by rw [canon_gI (by omega)]; exact turn_perm _)
  refine ⟨by rw [canon_len]; exact hr.1, fun v hv h hh => ?_, hp.nodup_iff.2 hr.2.2.1, by rw [hp.length_eq]; exact hr.2.2.2⟩
  rw [canon_len] at hv
  rw [canon_gI (by omega)] at hh
  exact hr.2.1 v hv h ((turn_perm _).mem_iff.1 hh)
theorem rot_at {g : Net} {r : Rot} (hr : RotP g r) {h : Int} (h0 : 0 ≤ h) (h1 : h < 2 * (g.2.length : Int)) : ∃ v : Nat, (v : Int) < r.length ∧ h ∈ gI r (v : Int) := by
  obtain ⟨v, i, hv, hi, e⟩ := rot_all hr h0 h1
  exact ⟨v, hv, by rw [← e]; exact gI_mem (by omega) hi⟩
theorem succS_canon {g : Net} {r : Rot} (hr : RotP g r) {h : Int} (h0 : 0 ≤ h) (h1 : h < 2 * (g.2.length : Int)) : succS (canonS r) h = succS r h := by
  obtain ⟨v, hv, hh⟩ := rot_at hr h0 h1
  rw [succS_row hr hv hh, succS_row hr.canon (v := v) (by rw [canon_len]; exact hv) (by rw [canon_gI hv]; exact (turn_perm _).mem_iff.2 hh), canon_gI hv, nxt_turn (row_nodup hr hv) hh]
theorem next_congr {g g' : Net} {r r' : Rot} (hl : g'.2.length = g.2.length) (h : ∀ h : Int, 0 ≤ h → h < 2 * (g.2.length : Int) → succS r' h = succS r h) : nextS g' r' = nextS g r := by
  unfold nextS
  rw [hl]
  apply List.map_congr_left
  intro k hk
  have := iota_mem.1 hk
  have ht := twin_in (n := (g.2.length : Int)) this.1 (by omega)
  exact h _ ht.1 ht.2
theorem empties (L : Rot) : (L.map fun _ => ([] : List Int)) = List.replicate L.length [] := by
  induction L with
  | nil => rfl
  | cons a L ih => rw [List.map_cons, ih]; rfl
theorem faces_congr {nx : List Int} {r r' : Rot} (h : (r'.filter fun l => decide (l.length = 0)).length = (r.filter fun l => decide (l.length = 0)).length) : facesS nx r' = facesS nx r := by
  unfold facesS
  rw [empties, empties, h]
theorem canon_empty (r : Rot) : ((canonS r).filter fun l => decide (l.length = 0)).length = (r.filter fun l => decide (l.length = 0)).length := by
  unfold canonS
  rw [List.filter_map, List.length_map]
  congr 1
  apply List.filter_congr
  intro l hl
  simp only [Function.comp, (turn_perm l).length_eq]
/-! moved -/
theorem fromS_ren {g : Net} {to : List Int} {n : Int} {h : Int} (h0 : 0 ≤ h) (h1 : h < 2 * (g.2.length : Int)) : fromS (renR g to n) h = gI to (fromS g h) := by
  unfold fromS renR
  simp only
  rw [gI_map _ (by omega) (by omega)]
  unfold renS pI
  split <;> rfl
theorem ren_may {g : Net} (hm : MayP g) {to : List Int} (hl : (to.length : Int) = g.1) (hr : ∀ x ∈ to, 0 ≤ x ∧ x < g.1) : MayP (renR g to g.1) := by
  obtain ⟨m1, m2, m3, m4⟩ := hm
  refine ⟨m1, m2, by unfold renR; simpa using m3, fun e he => ?_⟩
  unfold renR at he
  obtain ⟨d, hd, rfl⟩ := List.mem_map.1 he
  obtain ⟨⟨k1, k2⟩, k3, k4⟩ := m4 d hd
  exact ⟨hr _ (gI_mem k1 (by omega)), hr _ (gI_mem k3 (by omega))⟩
section
variable {g : Net} {r : Rot} {to : List Int}
theorem rmv_len (hn : 0 ≤ g.1) : ((rmovedS r to g.1).length : Int) = g.1 := by simp [rmovedS, iota_len]; omega
theorem rmv_gI {u : Int} (h0 : 0 ≤ u) (h1 : u < g.1) : gI (rmovedS r to g.1) u = gI r ((to.idxOf u : Nat) : Int) := by
  unfold rmovedS
  rw [gI_map _ h0 (by rw [iota_len]; omega), iota_gI h0 (by omega)]
theorem rmv_at (hl : (to.length : Int) = g.1) (hd : to.Nodup) (hr : ∀ x ∈ to, 0 ≤ x ∧ x < g.1) {v : Nat} (hv : (v : Int) < g.1) : gI (rmovedS r to g.1) (gI to (v : Int)) = gI r (v : Int) := by
  have := hr _ (gI_mem (xs := to) (i := (v : Int)) (by omega) (by omega))
  rw [rmv_gI this.1 this.2, idxOf_gI hd (by omega)]
theorem rmv_perm (hl : (to.length : Int) = g.1) (hd : to.Nodup) (hr : ∀ x ∈ to, 0 ≤ x ∧ x < g.1) (hrl : (r.length : Int) = g.1) : List.Perm (rmovedS r to g.1) r := by
  have hmem : ∀ u : Int, 0 ≤ u → u < g.1 → u ∈ to := fun u h0 h1 => all_there hd (n := g.1.toNat) (fun x hx => by have := hr x hx; omega) (by omega) h0 (by omega)
  have e1 : rmovedS r to g.1 = ((iotaI g.1.toNat).map fun u => ((to.idxOf u : Nat) : Int)).map (gI r) := by unfold rmovedS; rw [List.map_map]; rfl
  have e2 : (iotaI r.length).map (gI r) = r := iota_map r
  rw [e1]
  conv => rhs; rw [← e2]
  refine List.Perm.map _ ?_
  have hnd : ((iotaI g.1.toNat).map fun u => ((to.idxOf u : Nat) : Int)).Nodup := nodup_map_on (iota_nodup _) (fun x hx y hy e => by
    have hx' := iota_mem.1 hx
    have hy' := iota_mem.1 hy
    have mx := hmem x hx'.1 (by omega)
    have my := hmem y hy'.1 (by omega)
    have e : to.idxOf x = to.idxOf y := by omega
    have h1 := List.idxOf_lt_length_iff.2 mx
    have h2 := List.idxOf_lt_length_iff.2 my
    have h3 : to[to.idxOf x] = x := by simp
    have h4 : to[to.idxOf y] = y := by simp
    rw [← h3, ← h4]; congr 1)
  have hrg : ∀ x ∈ (iotaI g.1.toNat).map (fun u => ((to.idxOf u : Nat) : Int)), 0 ≤ x ∧ x < (r.length : Int) := fun x hx => by
    obtain ⟨u, hu, rfl⟩ := List.mem_map.1 hx
    have hu' := iota_mem.1 hu
    have := List.idxOf_lt_length_iff.2 (hmem u hu'.1 (by omega))
    omega
  rw [List.perm_ext_iff_of_nodup hnd (iota_nodup _)]
  intro a
  constructor
  · intro ha; exact iota_mem.2 (hrg a ha)
  · intro ha
    have := iota_mem.1 ha
    exact all_there hnd hrg (by rw [List.length_map, iota_len]; omega) this.1 this.2
theorem rmv_RotP (hm : MayP g) (hrp : RotP g r) (hl : (to.length : Int) = g.1) (hd : to.Nodup) (hr : ∀ x ∈ to, 0 ≤ x ∧ x < g.1) : RotP (renR g to g.1) (rmovedS r to g.1) := by
  have hp := (rmv_perm (r := r) hl hd hr hrp.1).flatten
  have hn := hm.1
  refine ⟨rmv_len hn, fun u hu h hh => ?_, hp.nodup_iff.2 hrp.2.2.1, by rw [hp.length_eq]; simp only [renR, List.length_map]; exact hrp.2.2.2⟩
  have hul := rmv_len (r := r) (to := to) hn
  have hut := all_there hd (n := g.1.toNat) (fun x hx => by have := hr x hx; omega) (by omega) (u := (u : Int)) (by omega) (by omega)
  obtain ⟨v, hv, e⟩ := List.mem_iff_getElem.1 hut
  have ev : gI to (v : Int) = u := by simp [gI, hv, e]
  rw [← ev, rmv_at hl hd hr (by omega)] at hh
  have hrl := hrp.1
  have h2 := hrp.2.1 v (by omega) h hh
  refine ⟨⟨h2.1.1, by simp only [renR, List.length_map]; exact h2.1.2⟩, ?_⟩
  rw [fromS_ren h2.1.1 h2.1.2, h2.2, ev]
theorem rmv_succ (hm : MayP g) (hrp : RotP g r) (hl : (to.length : Int) = g.1) (hd : to.Nodup) (hr : ∀ x ∈ to, 0 ≤ x ∧ x < g.1) {h : Int} (h0 : 0 ≤ h) (h1 : h < 2 * (g.2.length : Int)) : succS (rmovedS r to g.1) h = succS r h := by
  obtain ⟨v, hv, hh⟩ := rot_at hrp h0 h1
  have hrl := hrp.1
  have hx := hr _ (gI_mem (xs := to) (i := (v : Int)) (by omega) (by omega))
  have hn := hm.1
  have hrow := rmv_at (r := r) hl hd hr (v := v) (by omega)
  have ht : ((gI to (v : Int)).toNat : Int) = gI to (v : Int) := by omega
  rw [succS_row hrp hv hh, succS_row (rmv_RotP hm hrp hl hd hr) (v := (gI to (v : Int)).toNat) (by rw [rmv_len hn]; omega) (by rw [ht, hrow]; exact hh), ht, hrow]
end
theorem rmovedR_ok {g : Net} {r : Rot} {to : List Int} (hm : MayP g) (hrp : RotP g r) (h : (rmovedR g r to).2.2 = 0) :
    (to.length : Int) = g.1 ∧ to.Nodup ∧ (∀ x ∈ to, 0 ≤ x ∧ x < g.1) ∧ rmovedR g r to = (renR g to g.1, canonS (rmovedS r to g.1), 0) := by
  unfold rmovedR at h ⊢
  rw [if_pos (rmay_yes hm hrp)] at h ⊢
  by_cases c : (movedR g to).2 = 0
  · rw [if_pos c]
    obtain ⟨_, k2, k3, k4⟩ := movedR_ok c
    obtain ⟨k5, k6⟩ := chosenS_ok k3
    exact ⟨k2, k6, k5, by rw [k4]⟩
  · rw [if_neg c] at h; exact absurd h c
theorem rmovedR_bad {g : Net} {r : Rot} {to : List Int} (hm : MayP g) (hrp : RotP g r) (h : ¬ (rmovedR g r to).2.2 = 0) : (rmovedR g r to).1.1 = 0 := by
  unfold rmovedR at h ⊢
  rw [if_pos (rmay_yes hm hrp)] at h ⊢
  by_cases c : (movedR g to).2 = 0
  · rw [if_pos c] at h; exact absurd rfl h
  · rw [if_neg c]
/-- what stays when nodes are named anew -/
theorem moved_keeps {g : Net} {r : Rot} {to : List Int} (hm : MayP g) (hrp : RotP g r) (h : (rmovedR g r to).2.2 = 0) :
    genusR (rmovedR g r to).1 (rmovedR g r to).2.1 = genusR g r ∧ facesR (rmovedR g r to).1 (rmovedR g r to).2.1 = facesR g r ∧ (genusR g r).2 = 0 := by
  obtain ⟨k1, k2, k3, k4⟩ := rmovedR_ok hm hrp h
  rw [k4]
  have hm' := ren_may hm k1 k3
  have hr1 := rmv_RotP hm hrp k1 k2 k3
  have hr2 := hr1.canon
  have hll : (renR g to g.1).2.length = g.2.length := by simp [renR]
  have hnx : nextS (renR g to g.1) (canonS (rmovedS r to g.1)) = nextS g r := next_congr hll (fun x h0 h1 => by
    rw [succS_canon hr1 h0 (by rw [hll]; exact h1), rmv_succ hm hrp k1 k2 k3 h0 h1])
  have hfc : facesS (nextS g r) (canonS (rmovedS r to g.1)) = facesS (nextS g r) r := faces_congr (by
    rw [canon_empty]; exact ((rmv_perm k1 k2 k3 hrp.1).filter _).length_eq)
  have hpt : (partsR g).2.1 = (partsR (renR g to g.1)).2.1 := parts_iso hm hm' (gI to) (fun x hx => k3 _ (gI_mem hx.1 (by have := hx.2; omega))) (fun x y hx hy e => gI_inj k2 hx.1 (by have := hx.2; omega) hy.1 (by have := hy.2; omega) e) (fun z hz => by
    have hz' : 0 ≤ z ∧ z < g.1 := hz
    have hut := all_there k2 (n := g.1.toNat) (fun x hx => by have := k3 x hx; omega) (by omega) (u := z) (by omega) (by omega)
    obtain ⟨v, hv, e⟩ := List.mem_iff_getElem.1 hut
    exact ⟨(v : Int), ⟨by omega, by omega⟩, by simp [gI, hv, e]⟩) (fun a b => by
    constructor
    · intro hab
      obtain ⟨d, hd, e⟩ := List.mem_map.1 hab
      exact ⟨d.1, d.2, hd, (congrArg Prod.fst e).symm, (congrArg Prod.snd e).symm⟩
    · rintro ⟨c, d, hcd, rfl, rfl⟩
      exact List.mem_map.2 ⟨(c, d), hcd, rfl⟩)
  unfold genusR facesR
  rw [if_pos (rmay_yes hm' hr2), if_pos (rmay_yes hm hrp), if_pos (rmay_yes hm' hr2), if_pos (rmay_yes hm hrp), hnx, hfc, ← hpt, hll]
  exact ⟨rfl, rfl, rfl⟩
theorem posS_iota {n : Nat} {x : Int} (h0 : 0 ≤ x) (h1 : x < n) : posS (iotaI n) x = x + 1 := by
  have := posS_gI (iota_nodup n) h0 (by rw [iota_len]; exact h1)
  rwa [iota_gI h0 h1] at this
theorem keepRow_all {n : Nat} : ∀ {l : List Int}, (∀ h ∈ l, 0 ≤ h ∧ h < 2 * (n : Int)) → keepRow (iotaI n) l = l
  | [], _ => rfl
  | a :: l, h => by
    have ha := h a (by simp)
    have ih := keepRow_all (n := n) (l := l) (fun x hx => h x (by simp [hx]))
    unfold keepRow at ih ⊢
    have hp := posS_iota (n := n) (x := a / 2) (by omega) (by omega)
    rw [List.filter_cons, if_pos (by rw [hp]; simp; omega), List.map_cons, ih, hp]
    congr 1
    omega
theorem canonR_yes {g : Net} {r : Rot} (hm : MayP g) (hrp : RotP g r) : canonR g r = (canonS r, 0) := by unfold canonR; rw [if_pos (rmay_yes hm hrp)]
theorem rsub_all {g : Net} {r : Rot} (hm : MayP g) (hrp : RotP g r) : rsubR g r (iotaI g.2.length) = (g, canonS r, 0) := by
  unfold rsubR
  rw [if_pos (rmay_yes hm hrp), subAll hm]
  have : r.map (keepRow (iotaI g.2.length)) = r := by
    apply list_ext_gI (by simp)
    intro v hv
    rw [List.length_map] at hv
    rw [gI_map _ (by omega) (by omega)]
    exact keepRow_all (fun h hh => (hrp.2.1 v hv h hh).1)
  rw [this]; rfl
theorem rmoved_all {g : Net} {r : Rot} (hm : MayP g) (hrp : RotP g r) : rmovedR g r (iotaI g.1.toNat) = (g, canonS r, 0) := by
  have h0 := hm.1
  have e1 : movedR g (iotaI g.1.toNat) = (g, 0) := by
    unfold movedR
    rw [if_pos hm, if_pos (by rw [iota_len]; omega), if_pos (fun v hv => by have := iota_mem.1 hv; omega), if_pos (chosenS_zero (fun v hv => by have := iota_mem.1 hv; omega) (iota_nodup _))]
    unfold renR
    have : g.2.map (renS (iotaI g.1.toNat)) = g.2 := by
      conv => rhs; rw [← List.map_id g.2]
      apply List.map_congr_left
      intro e he
      obtain ⟨⟨a, b⟩, c, d⟩ := hm.2.2.2 e he
      unfold renS
      rw [iota_gI a (by omega), iota_gI c (by omega)]; rfl
    rw [this]
  have e2 : rmovedS r (iotaI g.1.toNat) g.1 = r := by
    have hrl := hrp.1
    apply list_ext_gI
    · have := rmv_len (r := r) (to := iotaI g.1.toNat) h0; omega
    · intro v hv
      have hl := rmv_len (r := r) (to := iotaI g.1.toNat) h0
      have h1 := idxOf_gI (iota_nodup g.1.toNat) (i := v) (by rw [iota_len]; omega)
      rw [iota_gI (by omega) (by omega)] at h1
      rw [rmv_gI (by omega) (by omega), h1]
  unfold rmovedR
  rw [if_pos (rmay_yes hm hrp), e1, e2]; rfl
end TL
