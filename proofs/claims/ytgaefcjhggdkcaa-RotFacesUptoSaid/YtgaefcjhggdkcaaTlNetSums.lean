/-
  TlNetSums: degrees' sum; all edges, all nodes; moved there and back.
  By an AI agent.
-/
import Derived.Test.YtgaefcjhggdkcaaTlNetLaws
import Derived.Test.YtgaefcjhggdkcaaTlNet2
set_option linter.all false
namespace TL
def iotaI (n : Nat) : List Int := (List.range n).map fun (i : Nat) => (i : Int)
theorem iota_len (n : Nat) : (iotaI n).length = n := by simp [iotaI]
theorem iota_succ (n : Nat) : iotaI (n + 1) = iotaI n ++ [(n : Int)] := by simp [iotaI, List.range_succ]
theorem iota_mem {n : Nat} {x : Int} : x ∈ iotaI n ↔ 0 ≤ x ∧ x < n := by
  unfold iotaI
  rw [List.mem_map]
  constructor
  · rintro ⟨i, hi, rfl⟩
    have := List.mem_range.1 hi
    omega
  · rintro ⟨h1, h2⟩
    exact ⟨x.toNat, List.mem_range.2 (by omega), by omega⟩
theorem iota_nodup (n : Nat) : (iotaI n).Nodup := by
  induction n with
  | zero => simp [iotaI]
  | succ n ih =>
    rw [iota_succ, List.nodup_append]
    refine ⟨ih, by simp, fun a ha b hb => ?_⟩
    have := iota_mem.1 ha
    have := List.mem_singleton.1 hb
    omega
theorem iota_gI {n : Nat} {i : Int} (h0 : 0 ≤ i) (h1 : i < n) : gI (iotaI n) i = i := by
  have : i.toNat < n := by omega
  simp [gI, iotaI, this]
  omega
theorem iota_map {α : Type} [Inhabited α] (l : List α) : (iotaI l.length).map (gI l) = l := by
  apply List.ext_getElem
  · simp [iotaI]
  · intro i h1 h2; simp [iotaI, gI, h2]

theorem nat_sum_add (f h : Nat → Int) (n : Nat) : ((List.range n).map fun v => f v + h v).sum = ((List.range n).map f).sum + ((List.range n).map h).sum := by
  induction n with
  | zero => rfl
  | succ n ih =>
    simp only [List.range_succ, List.map_append, List.sum_append, ih, List.map_cons, List.map_nil, List.sum_cons, List.sum_nil]
    omega
theorem sum_one {a : Int} : ∀ n : Nat, ((List.range n).map fun (v : Nat) => (if a = (v : Int) then (1 : Int) else 0)).sum = if 0 ≤ a ∧ a < n then 1 else 0 := by
  intro n
  induction n with
  | zero => rw [if_neg (by omega)]; rfl
  | succ n ih =>
    simp only [List.range_succ, List.map_append, List.sum_append, ih, List.map_cons, List.map_nil, List.sum_cons, List.sum_nil]
    by_cases h : a = (n : Int)
    · rw [if_pos h, if_neg (by omega), if_pos (by omega)]; rfl
    · rw [if_neg h]
      by_cases h2 : 0 ≤ a ∧ a < n
      · rw [if_pos h2, if_pos (by omega)]; rfl
      · rw [if_neg h2, if_neg (by omega)]; rfl
theorem deg_sum {g : Net} (hm : MayP g) : (degS g).sum = 2 * (g.2.length : Int) := by
  obtain ⟨h1, h2, h3, h4⟩ := hm
  have key : ∀ k : Nat, k ≤ g.2.length → ((List.range g.1.toNat).map fun (v : Nat) => ((outSk g v k).length : Int)).sum = 2 * (k : Int) := by
    intro k
    induction k with
    | zero =>
      intro _
      have : ((List.range g.1.toNat).map fun (v : Nat) => ((outSk g v 0).length : Int)) = (List.range g.1.toNat).map fun _ => (0 : Int) := by
        apply List.map_congr_left; intro v _; simp [outSk]
      rw [this]
      generalize g.1.toNat = n
      induction n with
      | zero => rfl
      | succ n ih => simp [List.range_succ, List.sum_append] at ih ⊢; exact ih
    | succ k ih =>
      intro hk
      have e : ((List.range g.1.toNat).map fun (v : Nat) => ((outSk g v (k + 1)).length : Int)) = (List.range g.1.toNat).map fun (v : Nat) => ((outSk g v k).length : Int) + ((if (gI g.2 k).1 = (v : Int) then (1 : Int) else 0) + (if (gI g.2 k).2 = (v : Int) then (1 : Int) else 0)) := by
        apply List.map_congr_left; intro v _; exact outSk_len_succ g v k
      have hok := h4 _ (gI_mem (xs := g.2) (i := (k : Int)) (by omega) (by omega))
      unfold okE at hok
      rw [e, nat_sum_add, nat_sum_add, ih (by omega), sum_one, sum_one, if_pos (by omega), if_pos (by omega)]
      omega
  exact key _ (Nat.le_refl _)
theorem deg_gI {g : Net} {v : Int} (h0 : 0 ≤ v) (h1 : v < g.1) : gI (degS g) v = ((outS g v).length : Int) := by
  have : v.toNat < g.1.toNat := by omega
  have e : ((v.toNat : Nat) : Int) = v := by omega
  simp [degS, gI, this, e]
theorem deg_len {g : Net} (hm : 0 ≤ g.1) : ((degS g).length : Int) = g.1 := by simp [degS]; omega
theorem take_sum_le {l : List Int} (h : ∀ x ∈ l, 0 ≤ x) (k : Nat) : 0 ≤ (l.take k).sum ∧ (l.take k).sum ≤ l.sum := by
  induction l generalizing k with
  | nil => simp
  | cons a l ih =>
    have ha := h a (by simp)
    have hl := fun k => ih (fun x hx => h x (by simp [hx])) k
    cases k with
    | zero =>
      have := hl l.length
      simp only [List.take_length] at this
      simp only [List.take_zero, List.sum_nil, List.sum_cons]; omega
    | succ k =>
      have := hl k
      simp only [List.take_succ_cons, List.sum_cons]; omega
theorem deg_nonneg {g : Net} : ∀ x ∈ degS g, 0 ≤ x := by
  intro x hx
  unfold degS at hx
  obtain ⟨v, _, rfl⟩ := List.mem_map.1 hx
  omega
theorem outR_in {g : Net} {v : Int} (hm : MayP g) (h0 : 0 ≤ v) (h1 : v < g.1) : outR g v = (outS g v, 0) := by
  unfold outR; rw [if_pos hm, if_pos ⟨h0, h1⟩]

theorem subAll {g : Net} (hm : MayP g) : subR g (iotaI g.2.length) = (g, 0) := by
  have hc : chosenS (iotaI g.2.length) g.2.length = 0 := chosenS_zero (fun i hi => iota_mem.1 hi) (iota_nodup _)
  unfold subR
  rw [if_pos hm, if_pos hc, iota_map]
theorem partAll {g : Net} (hm : MayP g) : partR g (iotaI g.1.toNat) = (g, iotaI g.2.length, 0) := by
  have hm0 := hm
  obtain ⟨h1, h2, h3, h4⟩ := hm
  have hc : chosenS (iotaI g.1.toNat) g.1 = 0 := chosenS_zero (fun i hi => by have := iota_mem.1 hi; omega) (iota_nodup _)
  have hin : ∀ i ∈ iotaI g.2.length, (0 ≤ (gI g.2 i).1 ∧ (gI g.2 i).1 < g.1) ∧ 0 ≤ (gI g.2 i).2 ∧ (gI g.2 i).2 < g.1 := fun i hi => by
    have := iota_mem.1 hi
    exact h4 _ (gI_mem (xs := g.2) this.1 this.2)
  have hw : partW g (iotaI g.1.toNat) = iotaI g.2.length := by
    unfold partW
    show (iotaI g.2.length).filter _ = _
    rw [List.filter_eq_self]
    intro i hi
    have := hin i hi
    simp only [Bool.and_eq_true, decide_eq_true_eq, iota_mem]
    omega
  have hp : ∀ v : Int, 0 ≤ v → v < g.1 → posS (iotaI g.1.toNat) v - 1 = v := fun v hv0 hv1 => by
    have h := posS_gI (iota_nodup g.1.toNat) (i := v) hv0 (by rw [iota_len]; omega)
    rw [iota_gI hv0 (by omega)] at h
    omega
  unfold partR
  rw [if_pos hm0, if_pos hc, hw, iota_len]
  have hmap : ((iotaI g.2.length).map fun i => (posS (iotaI g.1.toNat) (gI g.2 i).1 - 1, posS (iotaI g.1.toNat) (gI g.2 i).2 - 1)) = g.2 := by
    rw [show ((iotaI g.2.length).map fun i => (posS (iotaI g.1.toNat) (gI g.2 i).1 - 1, posS (iotaI g.1.toNat) (gI g.2 i).2 - 1)) = (iotaI g.2.length).map (gI g.2) from List.map_congr_left fun i hi => by
      have := hin i hi
      rw [hp _ this.1.1 this.1.2, hp _ this.2.1 this.2.2]]
    exact iota_map _
  rw [hmap]
  have : ((g.1.toNat : Nat) : Int) = g.1 := by omega
  rw [this]

theorem pigeon : ∀ (n : Nat) (l : List Int), l.Nodup → (∀ x ∈ l, 0 ≤ x ∧ x < (n : Int)) → l.length ≤ n
  | 0, l, _, h => by
    cases l with
    | nil => simp
    | cons a l => have := h a (by simp); omega
  | n + 1, l, hn, h => by
    have h1 : (l.erase (n : Int)).Nodup := hn.erase _
    have h2 := pigeon n (l.erase (n : Int)) h1 (fun x hx => by
      have h3 := hn.mem_erase_iff.1 hx
      have := h x h3.2
      omega)
    by_cases hm : (n : Int) ∈ l
    · have := List.length_erase_of_mem hm
      omega
    · rw [List.erase_of_not_mem hm] at h2
      omega
theorem all_there {n : Nat} {l : List Int} (hn : l.Nodup) (h : ∀ x ∈ l, 0 ≤ x ∧ x < (n : Int)) (hl : l.length = n) {u : Int} (h0 : 0 ≤ u) (h1 : u < n) : u ∈ l := by
  by_cases hu : u ∈ l
  · exact hu
  · have := pigeon n (u :: l) (List.nodup_cons.2 ⟨hu, hn⟩) (fun x hx => by
      rcases List.mem_cons.1 hx with rfl | hx
      · exact ⟨h0, h1⟩
      · exact h x hx)
    simp at this
    omega

theorem movedR_ok {g : Net} {to : List Int} (h : (movedR g to).2 = 0) : MayP g ∧ (to.length : Int) = g.1 ∧ chosenS to g.1 = 0 ∧ movedR g to = (renR g to g.1, 0) := by
  unfold movedR at h ⊢
  by_cases h1 : MayP g
  · by_cases h2 : (to.length : Int) = g.1
    · by_cases h3 : ∀ v ∈ to, 0 ≤ v ∧ v < g.1
      · by_cases h4 : chosenS to g.1 = 0
        · rw [if_pos h1, if_pos h2, if_pos h3, if_pos h4]; exact ⟨h1, h2, h4, rfl⟩
        · rw [if_pos h1, if_pos h2, if_pos h3, if_neg h4] at h; exact absurd h h4
      · rw [if_pos h1, if_pos h2, if_neg h3] at h; simp at h
    · rw [if_pos h1, if_neg h2] at h; simp at h
  · rw [if_neg h1] at h; simp at h
/-- the way back, as far as it is laid -/
structure BackInv (back to : List Int) (n : Int) (k : Nat) : Prop where
  len : (back.length : Int) = n
  at_ : ∀ v : Int, 0 ≤ v → v < k → gI back (gI to v) = v
theorem BackInv.start {to : List Int} {n : Int} (h : 0 ≤ n) : BackInv (List.replicate n.toNat 0) to n 0 := ⟨by simp; omega, fun v h0 h1 => by omega⟩
theorem BackInv.next {back to : List Int} {n : Int} {k : Nat} (h : BackInv back to n k) (hn : to.Nodup) (hr : ∀ x ∈ to, 0 ≤ x ∧ x < n) (hk : (k : Int) < to.length) : BackInv (back.set (gI to k).toNat (k : Int)) to n (k + 1) := by
  have hl := h.len
  refine ⟨by simpa using hl, fun v h0 h1 => ?_⟩
  have hv := hr _ (gI_mem (xs := to) h0 (by omega))
  have hk' := hr _ (gI_mem (xs := to) (i := (k : Int)) (by omega) hk)
  rw [gI_set hk'.1 (by omega) hv.1]
  by_cases e : gI to v = gI to k
  · rw [if_pos e]
    exact (gI_inj hn h0 (by omega) (by omega) hk e).symm
  · rw [if_neg e]
    have : v ≠ k := fun h => e (by rw [h])
    exact h.at_ v h0 (by omega)
theorem there_and_back {g : Net} {to back : List Int} (h : (movedR g to).2 = 0) {k : Nat} (hk : (k : Int) = g.1) (hb : BackInv back to g.1 k) : movedR (movedR g to).1 back = (g, 0) := by
  obtain ⟨hm, hl, hc, e⟩ := movedR_ok h
  obtain ⟨hr, hn⟩ := chosenS_ok hc
  have hbl := hb.len
  have hm0 := hm
  obtain ⟨h1, h2, h3, h4⟩ := hm
  have hsur : ∀ u : Int, 0 ≤ u → u < g.1 → ∃ v, 0 ≤ v ∧ v < g.1 ∧ gI to v = u := fun u hu0 hu1 => by
    have := all_there hn (n := g.1.toNat) (fun x hx => by have := hr x hx; omega) (by omega) hu0 (by omega)
    have hp := posS_pos.2 this
    have hq := posS_le to u
    exact ⟨posS to u - 1, by omega, by omega, gI_posS this⟩
  have hback : ∀ u : Int, 0 ≤ u → u < g.1 → 0 ≤ gI back u ∧ gI back u < g.1 ∧ gI to (gI back u) = u := fun u hu0 hu1 => by
    obtain ⟨v, hv0, hv1, rfl⟩ := hsur u hu0 hu1
    rw [hb.at_ v hv0 (by omega)]
    exact ⟨hv0, hv1, rfl⟩
  have hbr : ∀ x ∈ back, 0 ≤ x ∧ x < g.1 := fun x hx => by
    have hp := posS_pos.2 hx
    have hq := posS_le back x
    have hx2 := gI_posS hx
    have := hback (posS back x - 1) (by omega) (by omega)
    rw [hx2] at this
    exact ⟨this.1, this.2.1⟩
  have hbn : back.Nodup := by
    unfold List.Nodup
    rw [List.pairwise_iff_getElem]
    intro i j hi' hj hij he2
    have ei : gI back (i : Int) = back[i] := by simp [gI, hi']
    have ej : gI back (j : Int) = back[j] := by simp [gI, hj]
    have a := hback i (by omega) (by omega)
    have b := hback j (by omega) (by omega)
    rw [ei] at a
    rw [ej, ← he2, a.2.2] at b
    have := b.2.2
    omega
  have hmoved : MayP (renR g to g.1) := by
    refine ⟨h1, h2, by simpa [renR] using h3, fun e he => ?_⟩
    obtain ⟨d, hd, rfl⟩ := List.mem_map.1 he
    have hd' := h4 d hd
    unfold okE at hd' ⊢
    have a := hr _ (gI_mem (xs := to) hd'.1.1 (by omega))
    have b := hr _ (gI_mem (xs := to) hd'.2.1 (by omega))
    exact ⟨a, b⟩
  rw [e]
  show movedR (renR g to g.1) back = (g, 0)
  unfold movedR
  have hc2 : chosenS back (renR g to g.1).1 = 0 := chosenS_zero hbr hbn
  rw [if_pos hmoved, if_pos (show (back.length : Int) = (renR g to g.1).1 from hbl), if_pos (show ∀ v ∈ back, 0 ≤ v ∧ v < (renR g to g.1).1 from hbr), if_pos hc2]
  unfold renR
  simp only [List.map_map]
  have : g.2.map (renS back ∘ renS to) = g.2 := by
    conv => rhs; rw [← List.map_id g.2]
    apply List.map_congr_left
    intro d hd
    have hd' := h4 d hd
    unfold okE at hd'
    simp only [Function.comp, renS, id]
    rw [hb.at_ _ hd'.1.1 (by omega), hb.at_ _ hd'.2.1 (by omega)]
  rw [this]
end TL
