/-
  TlFaces: faces: each half-edge on one, the least ahead, each right behind the twin of the one ahead; and the mirror's faces.
  By an AI agent.
-/
import Derived.Test.YtgaefcjhggdkcaaTlEul2
import Derived.Test.YtgaefcjhggdkcaaTlDfs
set_option linter.all false
namespace TL
theorem facesL_least {nx : List Int} (hp : Pm nx.length (gI nx)) : ∀ (l S : List Int), S.Nodup → (∀ x ∈ S, In nx.length x) → (∀ x ∈ S, gI nx x ∈ S) → (∀ x ∈ l, In nx.length x) → l.Pairwise (· < ·) → (∀ x, In nx.length x → x ∈ S ∨ x ∈ l) → ∀ f ∈ facesL nx l S, ∀ x ∈ f, gI f 0 ≤ x
  | [], S, _, _, _, _, _, _, f, hf => by simp [facesL] at hf
  | a :: l, S, hn, hin, hc, hl, hs, hall, f, hf => by
    simp only [facesL] at hf
    have hs' := List.pairwise_cons.1 hs
    by_cases c : a ∈ S
    · rw [if_pos c] at hf
      exact facesL_least hp l S hn hin hc (fun x hx => hl x (by simp [hx])) hs'.2 (fun x hx => by
        rcases hall x hx with h | h
        · exact .inl h
        · rcases List.mem_cons.1 h with h | h
          · rw [h]; exact .inl c
          · exact .inr h) f hf
    · rw [if_neg c] at hf
      obtain ⟨k1, k2, k3, k4⟩ := orbS_ok hp hn hin hc (hl a (by simp)) c
      rcases List.mem_cons.1 hf with rfl | hf
      · intro x hx
        rw [k2]
        have hxS := k1.notS x hx
        rcases hall x (k1.inn x hx) with h | h
        · exact absurd h hxS
        · rcases List.mem_cons.1 h with h | h
          · omega
          · have := hs'.1 x h; omega
      · refine facesL_least hp l _ k3 (fun x hx => ?_) (fun x hx => ?_) (fun x hx => hl x (by simp [hx])) hs'.2 (fun x hx => ?_) f hf
        · rcases List.mem_append.1 hx with h | h
          · exact hin x h
          · exact k1.inn x h
        · rcases List.mem_append.1 hx with h | h
          · exact List.mem_append.2 (.inl (hc x h))
          · exact List.mem_append.2 (.inr (k1.cls x h))
        · rcases hall x hx with h | h
          · exact .inl (by simp [h])
          · rcases List.mem_cons.1 h with h | h
            · rw [h]; exact .inl (by simp [k4])
            · exact .inr h
theorem iota_sorted (n : Nat) : (iotaI n).Pairwise (· < ·) := by
  unfold iotaI
  rw [List.pairwise_map]
  exact List.pairwise_lt_range.imp (fun h => by omega)
/-- round a face -/
theorem fc_round {nx S f : List Int} (hp : Pm nx.length (gI nx)) (h : FcOk nx S f) (hn : f.Nodup) {k : Nat} (hk : (k : Int) < f.length) : gI f (((k : Int) + 1) % (f.length : Int)) = gI nx (gI f (k : Int)) := by
  by_cases c : k + 1 < f.length
  · rw [Int.emod_eq_of_lt (by omega) (by omega)]; exact h.chain k c
  · have e : (k : Int) + 1 = f.length := by omega
    rw [e, Int.emod_self]
    have hx := gI_mem (xs := f) (i := (k : Int)) (by omega) hk
    obtain ⟨j, hj, ej⟩ := List.mem_iff_getElem.1 (h.cls _ hx)
    have ej' : gI f (j : Int) = gI nx (gI f (k : Int)) := by rw [← ej]; simp [gI, hj]
    cases j with
    | zero => exact ej'
    | succ j =>
      have h1 := h.chain j hj
      rw [show ((j + 1 : Nat) : Int) = (j : Int) + 1 by omega, h1] at ej'
      have h2 := hp.inj _ _ (h.inn _ (gI_mem (xs := f) (i := (j : Int)) (by omega) (by omega))) (h.inn _ hx) ej'
      have := gI_inj hn (i := (j : Int)) (j := (k : Int)) (by omega) (by omega) (by omega) hk h2
      omega
/-- what stands behind a number in a list, round -/
def behS (l : List Int) (x : Int) : Int := if x ∈ l then nxt l x else -1
theorem behS_yes {l : List Int} {x : Int} {i : Nat} (h : ∀ j : Nat, j < i → ¬ gI l (j : Int) = x) (hi : (i : Int) < l.length) (he : gI l (i : Int) = x) : gI l (((i : Int) + 1) % (l.length : Int)) = behS l x := by
  have hm : x ∈ l := by rw [← he]; exact gI_mem (by omega) hi
  have h1 := idxS_yes (s := l) (v := x) (i := i) (fun j hj e => h j hj e.symm) hi he.symm
  unfold idxS at h1
  rw [if_pos hm] at h1
  unfold behS nxt
  rw [if_pos hm, ← h1]
theorem behS_no {l : List Int} {x : Int} {i : Nat} (h : ∀ j : Nat, j < i → ¬ gI l (j : Int) = x) (hi : ¬ (i : Int) < l.length) : (-1 : Int) = behS l x := by
  unfold behS
  rw [if_neg]
  intro hm
  obtain ⟨j, hj, e⟩ := List.mem_iff_getElem.1 hm
  exact h j (by omega) (by simp [gI, hj, e])
theorem flat_empties (k : Nat) : (List.replicate k ([] : List Int)).flatten = [] := by
  induction k with
  | zero => rfl
  | succ k ih => rw [List.replicate_succ, List.flatten_cons, ih]; rfl
theorem half_from {g : Net} {h : Int} (h0 : 0 ≤ h) : fromS g (twin h) = toS g h := by
  unfold fromS toS
  rw [twin_half h0]
  congr 1
  unfold twin; split <;> omega
section
variable {g : Net} {r : Rot}
theorem faces_all (hr : RotP g r) : (facesS (nextS g r) r).flatten.Nodup ∧ ((facesS (nextS g r) r).flatten.length : Int) = 2 * (g.2.length : Int) ∧ ∀ f ∈ facesS (nextS g r) r, (∀ x ∈ f, gI f 0 ≤ x) ∧ f.Nodup ∧ ∀ k : Nat, (k : Int) < f.length → gI f (((k : Int) + 1) % (f.length : Int)) = gI (nextS g r) (gI f (k : Int)) := by
  obtain ⟨hp, _⟩ := next_pm hr
  obtain ⟨h1, h2, h3, _⟩ := facesL_ok hp
  have hl := nextS_len g r
  have e : (facesS (nextS g r) r).flatten = (facesL (nextS g r) (iotaI (nextS g r).length) []).flatten := by
    unfold facesS
    rw [empties, List.flatten_append, flat_empties, List.append_nil]
  have hperm : List.Perm (facesL (nextS g r) (iotaI (nextS g r).length) []).flatten (iotaI (nextS g r).length) := (List.perm_ext_iff_of_nodup h2 (iota_nodup _)).2 fun x => by
    rw [iota_mem]
    constructor
    · intro hx
      obtain ⟨f, hf, hxf⟩ := List.mem_flatten.1 hx
      exact (h1 f hf).inn x hxf
    · exact fun hx => h3 x hx
  rw [e, hperm.length_eq, iota_len, hl]
  refine ⟨h2, rfl, fun f hf => ?_⟩
  unfold facesS at hf
  rcases List.mem_append.1 hf with hf | hf
  · have hfn := h2.sublist (sub_flat hf)
    refine ⟨facesL_least hp _ _ (by simp) (by simp) (by simp) (fun x hx => by have := iota_mem.1 hx; exact ⟨by omega, by omega⟩) (iota_sorted _) (fun x hx => .inr (iota_mem.2 ⟨hx.1, by have := hx.2; omega⟩)) f hf, hfn, fun k hk => fc_round hp (h1 f hf) hfn hk⟩
  · obtain ⟨l, _, rfl⟩ := List.mem_map.1 hf
    exact ⟨by simp, by simp, fun k hk => by simp at hk; omega⟩
/-- along a face: right behind the twin -/
theorem face_behind (hr : RotP g r) {f : List Int} (hf : f ∈ facesS (nextS g r) r) {k : Nat} (hk : (k : Int) < f.length) : behS (gI r (toS g (gI f (k : Int)))) (twin (gI f (k : Int))) = gI f (((k : Int) + 1) % (f.length : Int)) := by
  have hx := facesS_in hr f hf _ (gI_mem (xs := f) (i := (k : Int)) (by omega) hk)
  rw [((faces_all hr).2.2 f hf).2.2 k hk, nextS_gI hx.1 hx.2]
  have ht := twin_in hx.1 hx.2
  obtain ⟨v, hv, hh⟩ := rot_at hr ht.1 ht.2
  have h2 := (hr.2.1 v (by omega) _ hh).2
  rw [half_from hx.1] at h2
  rw [h2, succS_row hr hv hh]
  unfold behS
  rw [if_pos hh]
theorem face_len (hr : RotP g r) {f : List Int} (hf : f ∈ facesS (nextS g r) r) : (f.length : Int) ≤ 2 * (g.2.length : Int) := by
  obtain ⟨h1, h2, _⟩ := faces_all hr
  have := (sub_flat hf).length_le
  omega
theorem genus_num (hm : MayP g) (hr : RotP g r) : g.1 - (g.2.length : Int) + ((facesS (nextS g r) r).length : Int) = 2 * (partsR g).2.1 - 2 * (genusR g r).1 ∧ 0 ≤ (genusR g r).1 ∧ (genusR g r).2 = 0 := by
  have h := genus_ok hm hr
  unfold genusR
  rw [if_pos (rmay_yes hm hr)]
  simp only
  rw [Int.tdiv_eq_ediv_of_nonneg h.1]
  refine ⟨?_, ?_, trivial⟩ <;> omega
/-! the mirror -/
theorem nxt_rev {l : List Int} (hn : l.Nodup) {x : Int} (hx : x ∈ l) : nxt l (nxt l.reverse x) = x ∧ nxt l.reverse (nxt l x) = x := by
  have key : ∀ {l : List Int}, l.Nodup → ∀ {x : Int}, x ∈ l → nxt l (nxt l.reverse x) = x := by
    intro l hn x hx
    obtain ⟨u, w, rfl⟩ := List.append_of_mem hx
    have hp : List.Perm (u ++ x :: w) (x :: w ++ u) := List.perm_append_comm
    have hn2 : (x :: w ++ u).Nodup := hp.nodup_iff.1 hn
    have e1 : (u ++ x :: w).reverse = w.reverse ++ x :: u.reverse := by simp
    have hxw : x ∉ w.reverse := fun h => by
      have := (List.nodup_cons.1 (List.nodup_append.1 hn).2.1).1
      exact this (List.mem_reverse.1 h)
    rw [e1, nxt_split hxw]
    have e2 : u.reverse ++ w.reverse ++ [x] = (x :: (w ++ u)).reverse := by simp
    rw [e2]
    rcases List.eq_nil_or_concat (w ++ u) with hz | ⟨z, a, hz⟩
    · have hwu := List.append_eq_nil_iff.1 hz
      rw [hwu.1, hwu.2]
      simp [gI, nxt]
    · rw [List.concat_eq_append] at hz
      have e3 : gI (x :: (w ++ u)).reverse 0 = a := by rw [hz]; simp [gI]
      rw [e3]
      have ha : a ∈ u ++ x :: w := by
        have : a ∈ w ++ u := by rw [hz]; simp
        rcases List.mem_append.1 this with h | h <;> simp [h]
      rw [nxt_rot hn ha]
      have e4 : x :: w ++ u = x :: z ++ a :: [] := by rw [List.cons_append, hz]; simp
      have hn3 := hn2
      rw [e4] at hn3
      have hna : a ∉ x :: z := fun h => (List.nodup_append.1 hn3).2.2 a h a (by simp) rfl
      rw [e4, nxt_split hna]
      simp [gI]
  refine ⟨key hn hx, ?_⟩
  have := key (l := l.reverse) ((List.reverse_perm l).nodup_iff.2 hn) (x := x) (List.mem_reverse.2 hx)
  rwa [List.reverse_reverse] at this
theorem rev_RotP (hr : RotP g r) : RotP g (r.map List.reverse) := by
  have hg : ∀ v : Nat, (v : Int) < r.length → gI (r.map List.reverse) (v : Int) = (gI r (v : Int)).reverse := fun v hv => gI_map _ (by omega) hv
  have hp := flat_perm (r.map List.reverse) r (by simp) (fun q hq => by rw [hg q (by omega)]; exact List.reverse_perm _)
  refine ⟨by rw [List.length_map]; exact hr.1, fun v hv h hh => ?_, hp.nodup_iff.2 hr.2.2.1, by rw [hp.length_eq]; exact hr.2.2.2⟩
  rw [List.length_map] at hv
  rw [hg v (by omega)] at hh
  exact hr.2.1 v hv h (List.mem_reverse.1 hh)
theorem mir_RotP (hr : RotP g r) : RotP g (mirrorS r) := (rev_RotP hr).canon
theorem mir_cy (hr : RotP g r) {x : Int} (hx : In (2 * (g.2.length : Int)) x) : cy r (cy (mirrorS r) x) = x ∧ cy (mirrorS r) (cy r x) = x := by
  have hv2 := rev_RotP hr
  have e : ∀ x, In (2 * (g.2.length : Int)) x → cy (mirrorS r) x = cy (r.map List.reverse) x := fun x hx => by
    rw [cy_succ (mir_RotP hr) hx]
    unfold mirrorS
    rw [succS_canon hv2 hx.1 hx.2, ← cy_succ hv2 hx]
  obtain ⟨v, hv, hh⟩ := rot_at hr hx.1 hx.2
  have hrow := gI_mem (xs := r) (i := (v : Int)) (by omega) hv
  have hrow' : (gI r (v : Int)).reverse ∈ r.map List.reverse := List.mem_map.2 ⟨_, hrow, rfl⟩
  have hnd := row_nodup hr hv
  have hnm : ∀ {l : List Int} {x : Int}, x ∈ l → nxt l x ∈ l := fun {l x} hx => by
    have := List.length_pos_of_mem hx
    exact gI_mem (Int.emod_nonneg _ (by omega)) (Int.emod_lt_of_pos _ (by omega))
  obtain ⟨k1, k2⟩ := nxt_rev hnd hh
  have hr1 : cy r x = nxt (gI r (v : Int)) x := cy_mem hr.2.2.1 hrow hh
  have hr2 : cy (r.map List.reverse) x = nxt (gI r (v : Int)).reverse x := cy_mem hv2.2.2.1 hrow' (List.mem_reverse.2 hh)
  have hm1 : nxt (gI r (v : Int)).reverse x ∈ gI r (v : Int) := List.mem_reverse.1 (hnm (List.mem_reverse.2 hh))
  constructor
  · rw [e x hx, hr2, cy_mem hr.2.2.1 hrow hm1, k1]
  · rw [e _ ((rot_pm hr).rng x hx), hr1, cy_mem hv2.2.2.1 hrow' (List.mem_reverse.2 (hnm hh)), k2]
theorem orb_conj {n : Int} {t p q : Int → Int} (hp : Pm n p) (ht : Tw n t) (hq : ∀ x, In n x → In n (q x)) (h : ∀ x, In n x → p (t (q x)) = t x) {x y : Int} (hx : In n x) (ho : Orb q x y) : Orb p (t x) (t y) := by
  refine (Orb.ind (S := fun z => In n z ∧ Orb p (t x) (t z)) (fun z hz => ⟨hq z hz.1, hz.2.trans (hp.eqv.symm _ _ (ht.rng _ (hq z hz.1)) (ht.rng _ hz.1) ?_)⟩) ho ⟨hx, Orb.refl _ _⟩).2
  exact ⟨1, h z hz.1⟩
theorem part_lens : ∀ (A B : Rot), A.flatten.Nodup → B.flatten.Nodup → (∀ a ∈ A, a ≠ []) → (∀ b ∈ B, b ≠ []) → (∀ x, x ∈ A.flatten ↔ x ∈ B.flatten) → (∀ a ∈ A, ∀ b ∈ B, ∀ x, x ∈ a → x ∈ b → ∀ y, y ∈ a ↔ y ∈ b) → List.Perm (A.map List.length) (B.map List.length)
  | [], B, _, _, _, hb, hm, _ => by
    cases B with
    | nil => simp
    | cons b B =>
      exfalso
      cases hb0 : b with
      | nil => exact hb b (by simp) hb0
      | cons x l =>
        have := (hm x).2 (by simp [hb0])
        simp at this
  | a :: A, B, hA, hB, ha, hb, hm, hc => by
    cases ha0 : a with
    | nil => exact absurd ha0 (ha a (by simp))
    | cons x l =>
    rw [← ha0]
    have hxa : x ∈ a := by simp [ha0]
    obtain ⟨b, hbB, hxb⟩ := List.mem_flatten.1 ((hm x).1 (by simp [hxa]))
    have hsame := hc a (by simp) b hbB x hxa hxb
    have hab : List.Perm a b := (List.perm_ext_iff_of_nodup (hA.sublist (sub_flat (by simp))) (hB.sublist (sub_flat hbB))).2 hsame
    obtain ⟨B1, B2, rfl⟩ := List.append_of_mem hbB
    have hp : List.Perm (B1 ++ b :: B2) (b :: (B1 ++ B2)) := List.perm_middle
    have hB' := hp.flatten.nodup_iff.1 hB
    rw [List.flatten_cons] at hB' hA
    have nA := List.nodup_append.1 hA
    have nB := List.nodup_append.1 hB'
    have ih := part_lens A (B1 ++ B2) nA.2.1 nB.2.1 (fun q hq => ha q (by simp [hq])) (fun q hq => hb q (by
      rcases List.mem_append.1 hq with h | h <;> simp [h])) (fun y => ?_) (fun q hq p hp' => hc q (by simp [hq]) p (by
      rcases List.mem_append.1 hp' with h | h <;> simp [h]))
    · have h1 : List.Perm ((B1 ++ b :: B2).map List.length) ((b :: (B1 ++ B2)).map List.length) := hp.map _
      refine List.Perm.trans ?_ h1.symm
      rw [List.map_cons, List.map_cons, hab.length_eq]
      exact List.Perm.cons _ ih
    · have h1 := hm y
      rw [hp.flatten.mem_iff, List.flatten_cons, List.flatten_cons, List.mem_append, List.mem_append] at h1
      have h2 := hsame y
      constructor
      · intro hy
        rcases h1.1 (.inr hy) with h | h
        · exact absurd rfl (nA.2.2 y (h2.2 h) y hy)
        · exact h
      · intro hy
        rcases h1.2 (.inr hy) with h | h
        · exact absurd rfl (nB.2.2 y (h2.1 h) y hy)
        · exact h
theorem fc_orb {nx S f : List Int} (hp : Pm nx.length (gI nx)) (h : FcOk nx S f) {x y : Int} (hx : x ∈ f) : y ∈ f ↔ Orb (gI nx) x y :=
  ⟨fun hy => (hp.eqv.symm _ _ (h.inn _ (head_mem h.ne)) (h.inn x hx) (h.orb x hx)).trans (h.orb y hy), fun ho => Orb.ind (S := fun z => z ∈ f) h.cls ho hx⟩
/-- the mirror's faces are as long -/
theorem mir_lens (hr : RotP g r) : List.Perm ((facesS (nextS g (mirrorS r)) (mirrorS r)).map List.length) ((facesS (nextS g r) r).map List.length) := by
  have hr' := mir_RotP hr
  obtain ⟨hp, hpe⟩ := next_pm hr
  obtain ⟨hp', hpe'⟩ := next_pm hr'
  obtain ⟨h1, h2, h3, _⟩ := facesL_ok hp
  obtain ⟨k1, k2, k3, _⟩ := facesL_ok hp'
  have hl := nextS_len g r
  have hl' := nextS_len g (mirrorS r)
  have ht := twin_tw g.2.length
  rw [hl] at hp
  rw [hl'] at hp'
  have hcyr := rot_pm hr
  have hcym := rot_pm hr'
  have c1 : ∀ x, In (2 * (g.2.length : Int)) x → gI (nextS g r) (twin (gI (nextS g (mirrorS r)) x)) = twin x := fun x hx => by
    have hx' := ht.rng x hx
    have hq := hp'.rng x hx
    rw [hpe _ (ht.rng _ hq), ht.inv _ hq, hpe' x hx, (mir_cy hr hx').1]
  have c2 : ∀ x, In (2 * (g.2.length : Int)) x → gI (nextS g (mirrorS r)) (twin (gI (nextS g r) x)) = twin x := fun x hx => by
    have hx' := ht.rng x hx
    have hq := hp.rng x hx
    rw [hpe' _ (ht.rng _ hq), ht.inv _ hq, hpe x hx, (mir_cy hr hx').2]
  have hemp : ((mirrorS r).filter fun l => decide (l.length = 0)).length = (r.filter fun l => decide (l.length = 0)).length := by
    unfold mirrorS
    rw [canon_empty, List.filter_map, List.length_map]
    congr 1
    apply List.filter_congr
    intro l _
    simp [Function.comp]
  unfold facesS
  rw [empties, empties, hemp, List.map_append, List.map_append]
  refine List.Perm.append_right _ ?_
  have e2 : (facesL (nextS g r) (iotaI (nextS g r).length) []).map List.length = ((facesL (nextS g r) (iotaI (nextS g r).length) []).map (List.map twin)).map List.length := by
    rw [List.map_map]
    apply List.map_congr_left
    intro l _
    simp
  rw [e2]
  have hfl : ((facesL (nextS g r) (iotaI (nextS g r).length) []).map (List.map twin)).flatten = (facesL (nextS g r) (iotaI (nextS g r).length) []).flatten.map twin := by rw [List.map_flatten]
  have hin1 : ∀ x ∈ (facesL (nextS g r) (iotaI (nextS g r).length) []).flatten, In (2 * (g.2.length : Int)) x := fun x hx => by
    obtain ⟨f, hf, hxf⟩ := List.mem_flatten.1 hx
    have := (h1 f hf).inn x hxf
    rwa [hl] at this
  have hin2 : ∀ x ∈ (facesL (nextS g (mirrorS r)) (iotaI (nextS g (mirrorS r)).length) []).flatten, In (2 * (g.2.length : Int)) x := fun x hx => by
    obtain ⟨f, hf, hxf⟩ := List.mem_flatten.1 hx
    have := (k1 f hf).inn x hxf
    rwa [hl'] at this
  refine part_lens _ _ k2 (by rw [hfl]; exact nodup_map_on h2 (fun x hx y hy e => by
    have := congrArg twin e
    rwa [ht.inv x (hin1 x hx), ht.inv y (hin1 y hy)] at this)) (fun a ha => (k1 a ha).ne) (fun b hb => ?_) (fun x => ?_) (fun a ha b hb x hxa hxb y => ?_)
  · obtain ⟨f, hf, rfl⟩ := List.mem_map.1 hb
    exact fun e => (h1 f hf).ne (List.map_eq_nil_iff.1 e)
  · rw [hfl]
    constructor
    · intro hx
      have hxi := hin2 x hx
      exact List.mem_map.2 ⟨twin x, h3 _ (by rw [hl]; exact ht.rng x hxi), ht.inv x hxi⟩
    · intro hx
      obtain ⟨z, hz, rfl⟩ := List.mem_map.1 hx
      exact k3 _ (by rw [hl']; exact ht.rng z (hin1 z hz))
  · obtain ⟨f, hf, rfl⟩ := List.mem_map.1 hb
    obtain ⟨z, hz, rfl⟩ := List.mem_map.1 hxb
    have hzi : In (2 * (g.2.length : Int)) z := by
      have := (h1 f hf).inn z hz
      rwa [hl] at this
    have hfo : ∀ {y : Int}, y ∈ f ↔ Orb (gI (nextS g r)) z y := fun {y} => fc_orb (by rw [hl]; exact hp) (h1 f hf) hz
    have hao : ∀ {y : Int}, y ∈ a ↔ Orb (gI (nextS g (mirrorS r))) (twin z) y := fun {y} => fc_orb (by rw [hl']; exact hp') (k1 a ha) hxa
    constructor
    · intro hy
      have hyi : In (2 * (g.2.length : Int)) y := by
        have := (k1 a ha).inn y hy
        rwa [hl'] at this
      have := orb_conj hp ht hp'.rng c1 (ht.rng z hzi) (hao.1 hy)
      rw [ht.inv z hzi] at this
      exact List.mem_map.2 ⟨twin y, hfo.2 this, ht.inv y hyi⟩
    · intro hy
      obtain ⟨w, hw, rfl⟩ := List.mem_map.1 hy
      exact hao.2 (orb_conj hp' ht hp.rng c2 hzi (hfo.1 hw))
theorem turn_back {l : List Int} (hn : l.Nodup) : turnS (turnS l.reverse).reverse = turnS l := by
  have key : ∀ {T D : List Int}, T ++ D = l.reverse → turnS (D ++ T).reverse = turnS l := fun {T D} e => by
    have e2 : l = D.reverse ++ T.reverse := by
      have := congrArg List.reverse e
      rw [List.reverse_reverse, List.reverse_append] at this
      exact this.symm
    rw [List.reverse_append, e2]
    exact turnS_swap (by rw [← e2]; exact hn)
  by_cases h : l.reverse = []
  · have : l = [] := by simpa using h
    subst this; rfl
  · have e : turnS l.reverse = l.reverse.drop (l.reverse.idxOf (minL l.reverse)) ++ l.reverse.take (l.reverse.idxOf (minL l.reverse)) := by
      conv => lhs; unfold turnS
      rw [if_neg h]
    rw [e]
    exact key (List.take_append_drop _ _)
theorem mir_back (hr : RotP g r) : mirrorS (mirrorS r) = canonS r := by
  unfold mirrorS canonS
  rw [List.map_map, List.map_map, List.map_map]
  apply List.map_congr_left
  intro l hl
  simp only [Function.comp]
  exact turn_back (hr.2.2.1.sublist (sub_flat hl))
/-- all that is asked of the mirror -/
theorem mir_all (hm : MayP g) (hr : RotP g r) : (facesR g (mirrorR g r).1).1.length = (facesR g r).1.length ∧ (genusR g (mirrorR g r).1).1 = (genusR g r).1 ∧ (mirrorR g (mirrorR g r).1).1 = (canonR g r).1 ∧ List.Perm ((facesR g (mirrorR g r).1).1.map List.length) ((facesR g r).1.map List.length) := by
  have hr' := mir_RotP hr
  have hy := rmay_yes hm hr
  have hy' := rmay_yes hm hr'
  have hl := mir_lens hr
  have hn := hl.length_eq
  rw [List.length_map, List.length_map] at hn
  unfold facesR genusR mirrorR canonR
  simp only [if_pos hy, if_pos hy']
  refine ⟨hn, ?_, mir_back hr, hl⟩
  rw [hn]
end
end TL
