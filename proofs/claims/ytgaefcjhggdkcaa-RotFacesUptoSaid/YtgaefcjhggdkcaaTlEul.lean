/-
  TlEul: Euler's count of a rotation.
  By an AI agent.
-/
import Derived.Test.YtgaefcjhggdkcaaTlOrb
set_option linter.all false
namespace TL
/-- what stands behind a half-edge round its node; itself, if it stands nowhere -/
def cy (r : Rot) (x : Int) : Int := match r.find? (fun l => decide (x ∈ l)) with
  | some l => nxt l x
  | none => x
theorem flat_disj {F : Rot} (hn : F.flatten.Nodup) {f f' : List Int} (hf : f ∈ F) (hf' : f' ∈ F) {x : Int} (hx : x ∈ f) (hx' : x ∈ f') : f = f' := by
  obtain ⟨A, B, rfl⟩ := List.append_of_mem hf
  rw [List.flatten_append, List.flatten_cons] at hn
  have h1 := List.nodup_append.1 hn
  have h2 := List.nodup_append.1 h1.2.1
  rcases List.mem_append.1 hf' with h | h
  · exact absurd rfl (h1.2.2 x (List.mem_flatten.2 ⟨f', h, hx'⟩) x (List.mem_append.2 (.inl hx)))
  · rcases List.mem_cons.1 h with h | h
    · exact h.symm
    · exact absurd rfl (h2.2.2 x hx x (List.mem_flatten.2 ⟨f', h, hx'⟩))
theorem cy_mem {r : Rot} (hn : r.flatten.Nodup) {l : List Int} (hl : l ∈ r) {x : Int} (hx : x ∈ l) : cy r x = nxt l x := by
  unfold cy
  cases h : r.find? (fun l => decide (x ∈ l)) with
  | none =>
    have := List.find?_eq_none.1 h l hl
    simp [hx] at this
  | some l' =>
    have h1 := List.mem_of_find?_eq_some h
    have h2 := List.find?_some h
    simp only [decide_eq_true_eq] at h2
    simp only
    rw [flat_disj hn hl h1 hx h2]
theorem cy_out {r : Rot} {x : Int} (hx : x ∉ r.flatten) : cy r x = x := by
  unfold cy
  rw [List.find?_eq_none.2 (fun l hl => by
    simp only [decide_eq_true_eq]
    exact fun hm => hx (List.mem_flatten.2 ⟨l, hl, hm⟩))]
theorem nxt_ins {u w : List Int} {x : Int} (hn : (u ++ x :: w).Nodup) (hne : u ++ w ≠ []) : ∃ a ∈ u ++ w, nxt (u ++ x :: w) x = nxt (u ++ w) a ∧ nxt (u ++ x :: w) a = x ∧ ∀ y ∈ u ++ w, y ≠ a → nxt (u ++ x :: w) y = nxt (u ++ w) y := by
  have hne' : w ++ u ≠ [] := fun e => hne (by
    have := List.append_eq_nil_iff.1 e
    rw [this.1, this.2]; rfl)
  obtain ⟨z, a, hz⟩ : ∃ z a, w ++ u = z ++ [a] := ⟨(w ++ u).dropLast, (w ++ u).getLast hne', (List.dropLast_concat_getLast hne').symm⟩
  have hmem : ∀ y, y ∈ u ++ w ↔ y ∈ z ++ [a] := fun y => by rw [← hz, List.mem_append, List.mem_append]; exact Or.comm
  have hsub : List.Sublist (u ++ w) (u ++ x :: w) := List.Sublist.append_left (List.sublist_cons_self _ _) _
  have hn1 : (u ++ w).Nodup := hn.sublist hsub
  have hp : List.Perm (u ++ x :: w) (x :: (w ++ u)) := List.perm_append_comm
  have hn2 : (x :: (w ++ u)).Nodup := hp.nodup_iff.1 hn
  rw [hz] at hn2
  have hn3 := List.nodup_cons.1 hn2
  have hn4 := List.nodup_append.1 hn3.2
  have r1 : ∀ y, y ∈ u ++ x :: w → nxt (u ++ x :: w) y = nxt ((z ++ [a]) ++ [x]) y := fun y hy => by
    have h1 := nxt_rot hn hy
    have h2 : (x :: w) ++ u = [x] ++ (z ++ [a]) := by rw [← hz]; rfl
    rw [h1, h2]
    exact nxt_rot (by rw [← h2]; exact (List.perm_append_comm.nodup_iff).1 hn) (by rw [← h2]; exact List.perm_append_comm.mem_iff.1 hy)
  have r2 : ∀ y, y ∈ u ++ w → nxt (u ++ w) y = nxt (z ++ [a]) y := fun y hy => by rw [nxt_rot hn1 hy, hz]
  have hxz : x ∉ z ++ [a] := hn3.1
  have haz : a ∉ z := fun h => hn4.2.2 a h a (by simp) rfl
  have ha : a ∈ u ++ w := (hmem a).2 (by simp)
  refine ⟨a, ha, ?_, ?_, fun y hy hya => ?_⟩
  · rw [r1 x (by simp), r2 a ha]
    rw [show (z ++ [a]) ++ [x] = (z ++ [a]) ++ x :: [] from rfl, nxt_split hxz, show z ++ [a] = z ++ a :: [] from rfl, nxt_split haz]
    cases z <;> simp [gI]
  · rw [r1 a (hsub.subset ha), List.append_assoc, show z ++ ([a] ++ [x]) = z ++ a :: [x] from rfl, nxt_split haz]
    simp [gI]
  · rw [r1 y (hsub.subset hy), r2 y hy]
    have hyz : y ∈ z := by
      rcases List.mem_append.1 ((hmem y).1 hy) with h | h
      · exact h
      · exact absurd (List.mem_singleton.1 h) hya
    obtain ⟨z1, z2, rfl⟩ := List.append_of_mem hyz
    have hy1 : y ∉ z1 := fun h => (List.nodup_append.1 hn4.1).2.2 y h y (by simp) rfl
    rw [show (z1 ++ y :: z2) ++ [a] ++ [x] = z1 ++ y :: (z2 ++ [a] ++ [x]) by simp, nxt_split hy1, show (z1 ++ y :: z2) ++ [a] = z1 ++ y :: (z2 ++ [a]) by simp, nxt_split hy1]
    cases z2 <;> simp [gI]
theorem cy_rm {A B : Rot} {u w : List Int} {x : Int} (hn : (A ++ (u ++ x :: w) :: B).flatten.Nodup) :
    cy (A ++ (u ++ x :: w) :: B) = cy (A ++ (u ++ w) :: B) ∨ ∃ a, a ∈ u ++ w ∧ a ≠ x ∧ cy (A ++ (u ++ w) :: B) x = x ∧ cy (A ++ (u ++ x :: w) :: B) = sw (cy (A ++ (u ++ w) :: B)) x a := by
  have hsub : List.Sublist (A ++ (u ++ w) :: B).flatten (A ++ (u ++ x :: w) :: B).flatten := by
    rw [List.flatten_append, List.flatten_append, List.flatten_cons, List.flatten_cons]
    exact List.Sublist.append_left (List.Sublist.append_right (List.Sublist.append_left (List.sublist_cons_self _ _) _) _) _
  have hn' := hn.sublist hsub
  have hl : (u ++ x :: w) ∈ A ++ (u ++ x :: w) :: B := by simp
  have hl' : (u ++ w) ∈ A ++ (u ++ w) :: B := by simp
  have hrow := hn.sublist (sub_flat hl)
  have hxuw : x ∉ u ++ w := by
    have hp : List.Perm (u ++ x :: w) (x :: (u ++ w)) := List.perm_middle
    exact (List.nodup_cons.1 (hp.nodup_iff.1 hrow)).1
  have hx' : x ∉ (A ++ (u ++ w) :: B).flatten := by
    intro hm
    obtain ⟨f, hf, hxf⟩ := List.mem_flatten.1 hm
    rcases List.mem_append.1 hf with h | h
    · have := flat_disj hn (f := f) (f' := u ++ x :: w) (by simp [h]) hl hxf (by simp)
      rw [List.flatten_append] at hn
      exact (List.nodup_append.1 hn).2.2 x (List.mem_flatten.2 ⟨f, h, hxf⟩) x (by simp) rfl
    · rcases List.mem_cons.1 h with h | h
      · rw [h] at hxf; exact hxuw hxf
      · rw [List.flatten_append, List.flatten_cons] at hn
        exact (List.nodup_append.1 (List.nodup_append.1 hn).2.1).2.2 x (by simp) x (List.mem_flatten.2 ⟨f, h, hxf⟩) rfl
  -- everything but the one row
  have other : ∀ y, y ∉ u ++ x :: w → cy (A ++ (u ++ x :: w) :: B) y = cy (A ++ (u ++ w) :: B) y := by
    intro y hy
    by_cases hm : y ∈ (A ++ (u ++ x :: w) :: B).flatten
    · obtain ⟨f, hf, hyf⟩ := List.mem_flatten.1 hm
      have hf' : f ∈ A ++ (u ++ w) :: B := by
        rcases List.mem_append.1 hf with h | h
        · simp [h]
        · rcases List.mem_cons.1 h with h | h
          · rw [h] at hyf; exact absurd hyf hy
          · simp [h]
      rw [cy_mem hn hf hyf, cy_mem hn' hf' hyf]
    · rw [cy_out hm, cy_out fun h => hm (hsub.subset h)]
  by_cases he : u ++ w = []
  · refine .inl (funext fun y => ?_)
    by_cases hy : y ∈ u ++ x :: w
    · have hu := List.append_eq_nil_iff.1 he
      have hyx : y = x := by
        rw [hu.1, hu.2] at hy; simpa using hy
      rw [hyx, cy_out hx', cy_mem hn hl (by simp), hu.1, hu.2]
      simp [nxt, gI]
    · exact other y hy
  · obtain ⟨a, ha, k1, k2, k3⟩ := nxt_ins hrow he
    have hax : a ≠ x := fun e => hxuw (by rw [← e]; exact ha)
    have ha2 : a ∈ u ++ x :: w := (List.Sublist.append_left (List.sublist_cons_self _ _) _).subset ha
    refine .inr ⟨a, ha, hax, cy_out hx', funext fun y => ?_⟩
    by_cases hyx : y = x
    · rw [hyx, sw_a, cy_mem hn hl (by simp), cy_mem hn' hl' ha, k1]
    · by_cases hya : y = a
      · rw [hya, sw_b, cy_out hx', cy_mem hn hl ha2, k2]
      · rw [sw_o _ hyx hya]
        by_cases hy : y ∈ u ++ x :: w
        · have hy2 : y ∈ u ++ w := by
            rcases List.mem_append.1 hy with h | h
            · simp [h]
            · rcases List.mem_cons.1 h with h | h
              · exact absurd h hyx
              · simp [h]
          rw [cy_mem hn hl hy, cy_mem hn' hl' hy2, k3 y hy2 hya]
        · exact other y hy
/-! half-edges taken away -/
def rm1 (x : Int) (r : Rot) : Rot := r.map fun l => l.filter fun y => decide (y ≠ x)
def rmL (L : List Int) (r : Rot) : Rot := r.map fun l => l.filter fun y => decide (y ∉ L)
theorem rmL_cons (x : Int) (L : List Int) (r : Rot) : rmL (x :: L) r = rm1 x (rmL L r) := by
  unfold rmL rm1
  rw [List.map_map]
  apply List.map_congr_left
  intro l _
  simp only [Function.comp]
  rw [List.filter_filter]
  apply List.filter_congr
  intro y _
  simp
theorem rmL_sub (L : List Int) (r : Rot) : List.Sublist (rmL L r).flatten r.flatten := by
  induction r with
  | nil => simp [rmL]
  | cons l r ih =>
    have : rmL L (l :: r) = (l.filter fun y => decide (y ∉ L)) :: rmL L r := rfl
    rw [this, List.flatten_cons, List.flatten_cons]
    exact List.Sublist.append List.filter_sublist ih
theorem rm1_no {x : Int} {A : Rot} (h : ∀ l ∈ A, x ∉ l) : rm1 x A = A := by
  unfold rm1
  conv => rhs; rw [← List.map_id A]
  apply List.map_congr_left
  intro l hl
  refine List.filter_eq_self.2 fun y hy => ?_
  simp only [decide_eq_true_eq]
  exact fun e => h l hl (by rw [← e]; exact hy)
theorem fil_no {x : Int} {A : List Int} (h : x ∉ A) : (A.filter fun y => decide (y ≠ x)) = A :=
  List.filter_eq_self.2 fun y hy => by
    simp only [decide_eq_true_eq]
    exact fun e => h (by rw [← e]; exact hy)
theorem cy_step {n : Int} {t : Int → Int} (ht : Tw n t) {r : Rot} {x : Int} (hn : r.flatten.Nodup) (hin : ∀ y ∈ r.flatten, In n y) (hp : Pm n (cy (rm1 x r))) :
    Pm n (cy r) ∧ ∀ d, Ec n t (cy (rm1 x r)) d → ∃ d', Ec n t (cy r) d' ∧ (d' = d ∨ d' = d + 2) := by
  by_cases hx : x ∈ r.flatten
  · obtain ⟨l, hl, hxl⟩ := List.mem_flatten.1 hx
    obtain ⟨A, B, rfl⟩ := List.append_of_mem hl
    obtain ⟨u, w, rfl⟩ := List.append_of_mem hxl
    have hn0 := hn
    rw [List.flatten_append, List.flatten_cons] at hn0
    have n1 := List.nodup_append.1 hn0
    have n2 := List.nodup_append.1 n1.2.1
    have hrow := n2.1
    have hxuw : x ∉ u ++ w := by
      have hp : List.Perm (u ++ x :: w) (x :: (u ++ w)) := List.perm_middle
      exact (List.nodup_cons.1 (hp.nodup_iff.1 hrow)).1
    have e1 : rm1 x (A ++ (u ++ x :: w) :: B) = A ++ (u ++ w) :: B := by
      have eA := rm1_no (x := x) (A := A) (fun l hl hm => n1.2.2 x (List.mem_flatten.2 ⟨l, hl, hm⟩) x (by simp) rfl)
      have eB := rm1_no (x := x) (A := B) (fun l hl hm => n2.2.2 x (by simp) x (List.mem_flatten.2 ⟨l, hl, hm⟩) rfl)
      unfold rm1 at eA eB ⊢
      rw [List.map_append, List.map_cons, eA, eB, List.filter_append, List.filter_cons, if_neg (by simp), fil_no (fun h => hxuw (by simp [h])), fil_no (fun h => hxuw (by simp [h]))]
    rw [e1] at hp ⊢
    have hxi := hin x hx
    rcases cy_rm hn with e | ⟨a, ha, hax, hxx, e⟩
    · rw [e]; exact ⟨hp, fun d hd => ⟨d, hd, .inl rfl⟩⟩
    · have hai : In n a := hin a (by
        rw [List.flatten_append, List.flatten_cons]
        rcases List.mem_append.1 ha with h | h <;> simp [h])
      rw [e]
      refine ⟨hp.sw hxi hai, fun d hd => hd.sw ht hp hxi hai fun ho => hax ?_⟩
      exact (Orb.ind (S := fun z => z = x) (fun z hz => by rw [hz]; exact hxx) ho rfl)
  · have e1 : rm1 x r = r := rm1_no fun l hl hm => hx (List.mem_flatten.2 ⟨l, hl, hm⟩)
    rw [e1] at hp ⊢
    exact ⟨hp, fun d hd => ⟨d, hd, .inl rfl⟩⟩
theorem cy_steps {n : Int} {t : Int → Int} (ht : Tw n t) {r : Rot} (hn : r.flatten.Nodup) (hin : ∀ y ∈ r.flatten, In n y) : ∀ L : List Int, Pm n (cy (rmL L r)) →
    Pm n (cy r) ∧ ∀ d, Ec n t (cy (rmL L r)) d → ∃ d', Ec n t (cy r) d' ∧ d ≤ d' ∧ (d' - d) % 2 = 0
  | [], hp => by
    have e : rmL [] r = r := by
      unfold rmL
      conv => rhs; rw [← List.map_id r]
      apply List.map_congr_left
      intro l _
      exact List.filter_eq_self.2 fun y _ => by simp
    rw [e] at hp ⊢
    exact ⟨hp, fun d hd => ⟨d, hd, Int.le_refl _, by omega⟩⟩
  | x :: L, hp => by
    rw [rmL_cons] at hp ⊢
    have hs := rmL_sub L r
    obtain ⟨h1, h2⟩ := cy_step ht (hn.sublist hs) (fun y hy => hin y (hs.subset hy)) hp
    obtain ⟨h3, h4⟩ := cy_steps ht hn hin L h1
    refine ⟨h3, fun d hd => ?_⟩
    obtain ⟨d1, k1, k2⟩ := h2 d hd
    obtain ⟨d2, k3, k4, k5⟩ := h4 d1 k1
    exact ⟨d2, k3, by omega, by omega⟩
theorem twin_tw (m : Nat) : Tw (2 * (m : Int)) twin :=
  ⟨fun x hx => twin_in hx.1 hx.2, fun x hx => twin_twin hx.1⟩
theorem twin_half {x : Int} (h : 0 ≤ x) : twin x / 2 = x / 2 := by
  unfold twin; split <;> omega
theorem ec_base (m : Nat) : Pm (2 * (m : Int)) (fun x => x) ∧ Ec (2 * (m : Int)) twin (fun x => x) (-(m : Int)) := by
  have hpid : Pm (2 * (m : Int)) (fun x => x) := ⟨fun x hx => hx, fun x y _ _ e => e⟩
  have ht := twin_tw m
  have hpt : Pm (2 * (m : Int)) (fun x => (fun x => x) (twin x)) := ht.comp hpid
  refine ⟨hpid, 2 * m, m, m, ⟨iotaI (2 * m), ⟨iota_nodup _, fun x hx => by have := iota_mem.1 hx; exact ⟨by omega, by omega⟩, fun x hx => ⟨x, iota_mem.2 ⟨hx.1, by have := hx.2; omega⟩, Orb.refl _ _⟩, fun x hx y hy h => ?_⟩, iota_len _⟩, ?_, ?_, by omega⟩
  · exact (Orb.ind (S := fun z => z = x) (fun z hz => hz) h rfl).symm
  · refine ⟨(iotaI m).map fun i => 2 * i, ⟨nodup_map_on (iota_nodup _) (fun x _ y _ e => by omega), fun x hx => ?_, fun x hx => ?_, fun x hx y hy h => ?_⟩, by rw [List.length_map, iota_len]⟩
    · obtain ⟨i, hi, rfl⟩ := List.mem_map.1 hx
      have := iota_mem.1 hi
      exact ⟨by omega, by omega⟩
    · have hx1 := hx.1
      have hx2 := hx.2
      refine ⟨2 * (x / 2), List.mem_map.2 ⟨x / 2, iota_mem.2 ⟨by omega, by omega⟩, rfl⟩, ?_⟩
      by_cases e : x % 2 = 0
      · rw [show 2 * (x / 2) = x by omega]; exact Orb.refl _ _
      · have h1 := Orb.step (fun x => (fun x => x) (twin x)) x
        have h2 : twin x = 2 * (x / 2) := by unfold twin; rw [if_neg e]; omega
        simp only at h1
        rwa [h2] at h1
    · obtain ⟨i, hi, rfl⟩ := List.mem_map.1 hx
      obtain ⟨j, hj, rfl⟩ := List.mem_map.1 hy
      have := iota_mem.1 hi
      have := (Orb.ind (S := fun z => 0 ≤ z ∧ z / 2 = i) (fun z hz => ⟨by show 0 ≤ twin z; unfold twin; split <;> omega, by show twin z / 2 = i; rw [twin_half hz.1]; exact hz.2⟩) h ⟨by omega, by omega⟩).2
      omega
  · refine ⟨(iotaI m).map fun i => 2 * i, ⟨nodup_map_on (iota_nodup _) (fun x _ y _ e => by omega), fun x hx => ?_, fun x hx => ?_, fun x hx y hy h => ?_⟩, by rw [List.length_map, iota_len]⟩
    · obtain ⟨i, hi, rfl⟩ := List.mem_map.1 hx
      have := iota_mem.1 hi
      exact ⟨by omega, by omega⟩
    · have hx1 := hx.1
      have hx2 := hx.2
      refine ⟨2 * (x / 2), List.mem_map.2 ⟨x / 2, iota_mem.2 ⟨by omega, by omega⟩, rfl⟩, ?_⟩
      by_cases e : x % 2 = 0
      · rw [show 2 * (x / 2) = x by omega]; exact (Lk.eqv _ _ _).rfl x hx
      · have h1 : Lk (2 * (m : Int)) (fun x => x) twin x (twin x) := Lk.t hx
        have h2 : twin x = 2 * (x / 2) := by unfold twin; rw [if_neg e]; omega
        rwa [h2] at h1
    · obtain ⟨i, hi, rfl⟩ := List.mem_map.1 hx
      obtain ⟨j, hj, rfl⟩ := List.mem_map.1 hy
      have := h (fun u v => u / 2 = v / 2) ⟨fun _ _ => rfl, fun _ _ _ _ e => e.symm, fun _ _ _ _ _ _ e f => e.trans f⟩ (fun x _ => rfl) (fun x hx => (twin_half hx.1).symm)
      omega
theorem eul_ex {m : Nat} {r : Rot} (hn : r.flatten.Nodup) (hin : ∀ y ∈ r.flatten, In (2 * (m : Int)) y) :
    Pm (2 * (m : Int)) (cy r) ∧ ∃ d, Ec (2 * (m : Int)) twin (cy r) d ∧ -(m : Int) ≤ d ∧ (d + m) % 2 = 0 := by
  have e0 : cy (rmL r.flatten r) = fun x => x := funext fun x => cy_out fun hm => by
    obtain ⟨l, hl, hx⟩ := List.mem_flatten.1 hm
    unfold rmL at hl
    obtain ⟨l', hl', rfl⟩ := List.mem_map.1 hl
    obtain ⟨h1, h2⟩ := List.mem_filter.1 hx
    simp only [decide_eq_true_eq] at h2
    exact h2 (List.mem_flatten.2 ⟨l', hl', h1⟩)
  obtain ⟨b1, b2⟩ := ec_base m
  obtain ⟨h1, h2⟩ := cy_steps (twin_tw m) hn hin r.flatten (by rw [e0]; exact b1)
  obtain ⟨d, k1, k2, k3⟩ := h2 (-(m : Int)) (by rw [e0]; exact b2)
  exact ⟨h1, d, k1, k2, by omega⟩
theorem eul_le {m : Nat} {r : Rot} (hn : r.flatten.Nodup) (hin : ∀ y ∈ r.flatten, In (2 * (m : Int)) y) (L : List Int) {d d' : Int} (h : Ec (2 * (m : Int)) twin (cy (rmL L r)) d) (h' : Ec (2 * (m : Int)) twin (cy r) d') : d ≤ d' := by
  have hs := rmL_sub L r
  have hp := (eul_ex (hn.sublist hs) (fun y hy => hin y (hs.subset hy))).1
  obtain ⟨h1, h2⟩ := cy_steps (twin_tw m) hn hin L hp
  obtain ⟨d2, k1, k2, _⟩ := h2 d h
  rw [h'.uniq (twin_tw m) h1 k1]; exact k2
end TL
