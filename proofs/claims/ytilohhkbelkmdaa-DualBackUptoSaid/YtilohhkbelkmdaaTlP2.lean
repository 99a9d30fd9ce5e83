/- Plain texts of this claim, part 2. By an AI agent. -/
import Derived.Test.YtilohhkbelkmdaaTlP1
import Derived.Shelf.Spec.SlicesInsertGrow
/-
  TlEul: Euler's count of a rotation.
  By an AI agent.
-/
set_option linter.all false
namespace TL
/-- what stands behind a half-edge round its node; itself, if it stands nowhere -/
def cy (r : Rot) (x : Int) : Int := match r.find? (fun l => decide (x ∈ l)) with
  | some l => nxt l x
  | none => x
theorem flat_disj {F : Rot} (hn : F.flatten.Nodup) {f f' : List Int} (hf : f ∈ F) (hf' : f' ∈ F) {x : Int} (hx : x ∈ f) (hx' : x ∈ f') : f = f' := by
  obtain ⟨A, B, rfl⟩ := List.append_of_mem hf
  rw [List.flatten_append, List.flatten_cons] at hn
  have h1 := List.nodup_append.1 hn
  have h2 := List.nodup_append.1 h1.2.1
  rcases List.mem_append.1 hf' with h | h
  · exact absurd rfl (h1.2.2 x (List.mem_flatten.2 ⟨f', h, hx'⟩) x (List.mem_append.2 (.inl hx)))
  · rcases List.mem_cons.1 h with h | h
    · exact h.symm
    · exact absurd rfl (h2.2.2 x hx x (List.mem_flatten.2 ⟨f', h, hx'⟩))
theorem cy_mem {r : Rot} (hn : r.flatten.Nodup) {l : List Int} (hl : l ∈ r) {x : Int} (hx : x ∈ l) : cy r x = nxt l x := by
  unfold cy
  cases h : r.find? (fun l => decide (x ∈ l)) with
  | none =>
    have := List.find?_eq_none.1 h l hl
    simp [hx] at this
  | some l' =>
    have h1 := List.mem_of_find?_eq_some h
    have h2 := List.find?_some h
    simp only [decide_eq_true_eq] at h2
    simp only
    rw [flat_disj hn hl h1 hx h2]
theorem cy_out {r : Rot} {x : Int} (hx : x ∉ r.flatten) : cy r x = x := by
  unfold cy
  rw [List.find?_eq_none.2 (fun l hl => by
    simp only [decide_eq_true_eq]
    exact fun hm => hx (List.mem_flatten.2 ⟨l, hl, hm⟩))]
theorem nxt_ins {u w : List Int} {x : Int} (hn : (u ++ x :: w).Nodup) (hne : u ++ w ≠ []) : ∃ a ∈ u ++ w, nxt (u ++ x :: w) x = nxt (u ++ w) a ∧ nxt (u ++ x :: w) a = x ∧ ∀ y ∈ u ++ w, y ≠ a → nxt (u ++ x :: w) y = nxt (u ++ w) y := by
  have hne' : w ++ u ≠ [] := fun e => hne (by
    have := List.append_eq_nil_iff.1 e
    rw [this.1, this.2]; rfl)
  obtain ⟨z, a, hz⟩ : ∃ z a, w ++ u = z ++ [a] := ⟨(w ++ u).dropLast, (w ++ u).getLast hne', (List.dropLast_concat_getLast hne').symm⟩
  have hmem : ∀ y, y ∈ u ++ w ↔ y ∈ z ++ [a] := fun y => by rw [← hz, List.mem_append, List.mem_append]; exact Or.comm
  have hsub : List.Sublist (u ++ w) (u ++ x :: w) := List.Sublist.append_left (List.sublist_cons_self _ _) _
  have hn1 : (u ++ w).Nodup := hn.sublist hsub
  have hp : List.Perm (u ++ x :: w) (x :: (w ++ u)) := List.perm_append_comm
  have hn2 : (x :: (w ++ u)).Nodup := hp.nodup_iff.1 hn
  rw [hz] at hn2
  have hn3 := List.nodup_cons.1 hn2
  have hn4 := List.nodup_append.1 hn3.2
  have r1 : ∀ y, y ∈ u ++ x :: w → nxt (u ++ x :: w) y = nxt ((z ++ [a]) ++ [x]) y := fun y hy => by
    have h1 := nxt_rot hn hy
    have h2 : (x :: w) ++ u = [x] ++ (z ++ [a]) := by rw [← hz]; rfl
    rw [h1, h2]
    exact nxt_rot (by rw [← h2]; exact (List.perm_append_comm.nodup_iff).1 hn) (by rw [← h2]; exact List.perm_append_comm.mem_iff.1 hy)
  have r2 : ∀ y, y ∈ u ++ w → nxt (u ++ w) y = nxt (z ++ [a]) y := fun y hy => by rw [nxt_rot hn1 hy, hz]
  have hxz : x ∉ z ++ [a] := hn3.1
  have haz : a ∉ z := fun h => hn4.2.2 a h a (by simp) rfl
  have ha : a ∈ u ++ w := (hmem a).2 (by simp)
  refine ⟨a, ha, ?_, ?_, fun y hy hya => ?_⟩
  · rw [r1 x (by simp), r2 a ha]
    rw [show (z ++ [a]) ++ [x] = (z ++ [a]) ++ x :: [] from rfl, nxt_split hxz, show z ++ [a] = z ++ a :: [] from rfl, nxt_split haz]
    cases z <;> simp [gI]
  · rw [r1 a (hsub.subset ha), List.append_assoc, show z ++ ([a] ++ [x]) = z ++ a :: [x] from rfl, nxt_split haz]
    simp [gI]
  · rw [r1 y (hsub.subset hy), r2 y hy]
    have hyz : y ∈ z := by
      rcases List.mem_append.1 ((hmem y).1 hy) with h | h
      · exact h
      · exact absurd (List.mem_singleton.1 h) hya
    obtain ⟨z1, z2, rfl⟩ := List.append_of_mem hyz
    have hy1 : y ∉ z1 := fun h => (List.nodup_append.1 hn4.1).2.2 y h y (by simp) rfl
    rw [show (z1 ++ y :: z2) ++ [a] ++ [x] = z1 ++ y :: (z2 ++ [a] ++ [x]) by simp, nxt_split hy1, show (z1 ++ y :: z2) ++ [a] = z1 ++ y :: (z2 ++ [a]) by simp, nxt_split hy1]
    cases z2 <;> simp [gI]
theorem cy_rm {A B : Rot} {u w : List Int} {x : Int} (hn : (A ++ (u ++ x :: w) :: B).flatten.Nodup) :
    cy (A ++ (u ++ x :: w) :: B) = cy (A ++ (u ++ w) :: B) ∨ ∃ a, a ∈ u ++ w ∧ a ≠ x ∧ cy (A ++ (u ++ w) :: B) x = x ∧ cy (A ++ (u ++ x :: w) :: B) = sw (cy (A ++ (u ++ w) :: B)) x a := by
  have hsub : List.Sublist (A ++ (u ++ w) :: B).flatten (A ++ (u ++ x :: w) :: B).flatten := by
    rw [List.flatten_append, List.flatten_append, List.flatten_cons, List.flatten_cons]
    exact List.Sublist.append_left (List.Sublist.append_right (List.Sublist.append_left (List.sublist_cons_self _ _) _) _) _
  have hn' := hn.sublist hsub
  have hl : (u ++ x :: w) ∈ A ++ (u ++ x :: w) :: B := by simp
  have hl' : (u ++ w) ∈ A ++ (u ++ w) :: B := by simp
  have hrow := hn.sublist (sub_flat hl)
  have hxuw : x ∉ u ++ w := by
    have hp : List.Perm (u ++ x :: w) (x :: (u ++ w)) := List.perm_middle
    exact (List.nodup_cons.1 (hp.nodup_iff.1 hrow)).1
  have hx' : x ∉ (A ++ (u ++ w) :: B).flatten := by
    intro hm
    obtain ⟨f, hf, hxf⟩ := List.mem_flatten.1 hm
    rcases List.mem_append.1 hf with h | h
    · have := flat_disj hn (f := f) (f' := u ++ x :: w) (by simp [h]) hl hxf (by simp)
      rw [List.flatten_append] at hn
      exact (List.nodup_append.1 hn).2.2 x (List.mem_flatten.2 ⟨f, h, hxf⟩) x (by simp) rfl
    · rcases List.mem_cons.1 h with h | h
      · rw [h] at hxf; exact hxuw hxf
      · rw [List.flatten_append, List.flatten_cons] at hn
        exact (List.nodup_append.1 (List.nodup_append.1 hn).2.1).2.2 x (by simp) x (List.mem_flatten.2 ⟨f, h, hxf⟩) rfl
  -- everything but the one row
  have other : ∀ y, y ∉ u ++ x :: w → cy (A ++ (u ++ x :: w) :: B) y = cy (A ++ (u ++ w) :: B) y := by
    intro y hy
    by_cases hm : y ∈ (A ++ (u ++ x :: w) :: B).flatten
    · obtain ⟨f, hf, hyf⟩ := List.mem_flatten.1 hm
      have hf' : f ∈ A ++ (u ++ w) :: B := by
        rcases List.mem_append.1 hf with h | h
        · simp [h]
        · rcases List.mem_cons.1 h with h | h
          · rw [h] at hyf; exact absurd hyf hy
          · simp [h]
      rw [cy_mem hn hf hyf, cy_mem hn' hf' hyf]
    · rw [cy_out hm, cy_out fun h => hm (hsub.subset h)]
  by_cases he : u ++ w = []
  · refine .inl (funext fun y => ?_)
    by_cases hy : y ∈ u ++ x :: w
    · have hu := List.append_eq_nil_iff.1 he
      have hyx : y = x := by
        rw [hu.1, hu.2] at hy; simpa using hy
      rw [hyx, cy_out hx', cy_mem hn hl (by simp), hu.1, hu.2]
      simp [nxt, gI]
    · exact other y hy
  · obtain ⟨a, ha, k1, k2, k3⟩ := nxt_ins hrow he
    have hax : a ≠ x := fun e => hxuw (by rw [← e]; exact ha)
    have ha2 : a ∈ u ++ x :: w := (List.Sublist.append_left (List.sublist_cons_self _ _) _).subset ha
    refine .inr ⟨a, ha, hax, cy_out hx', funext fun y => ?_⟩
    by_cases hyx : y = x
    · rw [hyx, sw_a, cy_mem hn hl (by simp), cy_mem hn' hl' ha, k1]
    · by_cases hya : y = a
      · rw [hya, sw_b, cy_out hx', cy_mem hn hl ha2, k2]
      · rw [sw_o _ hyx hya]
        by_cases hy : y ∈ u ++ x :: w
        · have hy2 : y ∈ u ++ w := by
            rcases List.mem_append.1 hy with h | h
            · simp [h]
            · rcases List.mem_cons.1 h with h | h
              · exact absurd h hyx
              · simp [h]
          rw [cy_mem hn hl hy, cy_mem hn' hl' hy2, k3 y hy2 hya]
        · exact other y hy
def rm1 (x : Int) (r : Rot) : Rot := r.map fun l => l.filter fun y => decide (y ≠ x)
def rmL (L : List Int) (r : Rot) : Rot := r.map fun l => l.filter fun y => decide (y ∉ L)
theorem rmL_cons (x : Int) (L : List Int) (r : Rot) : rmL (x :: L) r = rm1 x (rmL L r) := by
  unfold rmL rm1
  rw [List.map_map]
  apply List.map_congr_left
  intro l _
  simp only [Function.comp]
  rw [List.filter_filter]
  apply List.filter_congr
  intro y _
  simp
theorem rmL_sub (L : List Int) (r : Rot) : List.Sublist (rmL L r).flatten r.flatten := by
  induction r with
  | nil => simp [rmL]
  | cons l r ih =>
    have : rmL L (l :: r) = (l.filter fun y => decide (y ∉ L)) :: rmL L r := rfl
    rw [this, List.flatten_cons, List.flatten_cons]
    exact List.Sublist.append List.filter_sublist ih
theorem rm1_no {x : Int} {A : Rot} (h : ∀ l ∈ A, x ∉ l) : rm1 x A = A := by
  unfold rm1
  conv => rhs; rw [← List.map_id A]
  apply List.map_congr_left
  intro l hl
  refine List.filter_eq_self.2 fun y hy => ?_
  simp only [decide_eq_true_eq]
  exact fun e => h l hl (by rw [← e]; exact hy)
theorem fil_no {x : Int} {A : List Int} (h : x ∉ A) : (A.filter fun y => decide (y ≠ x)) = A :=
  List.filter_eq_self.2 fun y hy => by
    simp only [decide_eq_true_eq]
    exact fun e => h (by rw [← e]; exact hy)
theorem cy_step {n : Int} {t : Int → Int} (ht : Tw n t) {r : Rot} {x : Int} (hn : r.flatten.Nodup) (hin : ∀ y ∈ r.flatten, In n y) (hp : Pm n (cy (rm1 x r))) :
    Pm n (cy r) ∧ ∀ d, Ec n t (cy (rm1 x r)) d → ∃ d', Ec n t (cy r) d' ∧ (d' = d ∨ d' = d + 2) := by
  by_cases hx : x ∈ r.flatten
  · obtain ⟨l, hl, hxl⟩ := List.mem_flatten.1 hx
    obtain ⟨A, B, rfl⟩ := List.append_of_mem hl
    obtain ⟨u, w, rfl⟩ := List.append_of_mem hxl
    have hn0 := hn
    rw [List.flatten_append, List.flatten_cons] at hn0
    have n1 := List.nodup_append.1 hn0
    have n2 := List.nodup_append.1 n1.2.1
    have hrow := n2.1
    have hxuw : x ∉ u ++ w := by
      have hp : List.Perm (u ++ x :: w) (x :: (u ++ w)) := List.perm_middle
      exact (List.nodup_cons.1 (hp.nodup_iff.1 hrow)).1
    have e1 : rm1 x (A ++ (u ++ x :: w) :: B) = A ++ (u ++ w) :: B := by
      have eA := rm1_no (x := x) (A := A) (fun l hl hm => n1.2.2 x (List.mem_flatten.2 ⟨l, hl, hm⟩) x (by simp) rfl)
      have eB := rm1_no (x := x) (A := B) (fun l hl hm => n2.2.2 x (by simp) x (List.mem_flatten.2 ⟨l, hl, hm⟩) rfl)
      unfold rm1 at eA eB ⊢
      rw [List.map_append, List.map_cons, eA, eB, List.filter_append, List.filter_cons, if_neg (by simp), fil_no (fun h => hxuw (by simp [h])), fil_no (fun h => hxuw (by simp [h]))]
    rw [e1] at hp ⊢
    have hxi := hin x hx
    rcases cy_rm hn with e | ⟨a, ha, hax, hxx, e⟩
    · rw [e]; exact ⟨hp, fun d hd => ⟨d, hd, .inl rfl⟩⟩
    · have hai : In n a := hin a (by
        rw [List.flatten_append, List.flatten_cons]
        rcases List.mem_append.1 ha with h | h <;> simp [h])
      rw [e]
      refine ⟨hp.sw hxi hai, fun d hd => hd.sw ht hp hxi hai fun ho => hax ?_⟩
      exact (Orb.ind (S := fun z => z = x) (fun z hz => by rw [hz]; exact hxx) ho rfl)
  · have e1 : rm1 x r = r := rm1_no fun l hl hm => hx (List.mem_flatten.2 ⟨l, hl, hm⟩)
    rw [e1] at hp ⊢
    exact ⟨hp, fun d hd => ⟨d, hd, .inl rfl⟩⟩
theorem cy_steps {n : Int} {t : Int → Int} (ht : Tw n t) {r : Rot} (hn : r.flatten.Nodup) (hin : ∀ y ∈ r.flatten, In n y) : ∀ L : List Int, Pm n (cy (rmL L r)) →
    Pm n (cy r) ∧ ∀ d, Ec n t (cy (rmL L r)) d → ∃ d', Ec n t (cy r) d' ∧ d ≤ d' ∧ (d' - d) % 2 = 0
  | [], hp => by
    have e : rmL [] r = r := by
      unfold rmL
      conv => rhs; rw [← List.map_id r]
      apply List.map_congr_left
      intro l _
      exact List.filter_eq_self.2 fun y _ => by simp
    rw [e] at hp ⊢
    exact ⟨hp, fun d hd => ⟨d, hd, Int.le_refl _, by omega⟩⟩
  | x :: L, hp => by
    rw [rmL_cons] at hp ⊢
    have hs := rmL_sub L r
    obtain ⟨h1, h2⟩ := cy_step ht (hn.sublist hs) (fun y hy => hin y (hs.subset hy)) hp
    obtain ⟨h3, h4⟩ := cy_steps ht hn hin L h1
    refine ⟨h3, fun d hd => ?_⟩
    obtain ⟨d1, k1, k2⟩ := h2 d hd
    obtain ⟨d2, k3, k4, k5⟩ := h4 d1 k1
    exact ⟨d2, k3, by omega, by omega⟩
theorem twin_tw (m : Nat) : Tw (2 * (m : Int)) twin :=
  ⟨fun x hx => twin_in hx.1 hx.2, fun x hx => twin_twin hx.1⟩
theorem twin_half {x : Int} (h : 0 ≤ x) : twin x / 2 = x / 2 := by
  unfold twin; split <;> omega
theorem ec_base (m : Nat) : Pm (2 * (m : Int)) (fun x => x) ∧ Ec (2 * (m : Int)) twin (fun x => x) (-(m : Int)) := by
  have hpid : Pm (2 * (m : Int)) (fun x => x) := ⟨fun x hx => hx, fun x y _ _ e => e⟩
  have ht := twin_tw m
  have hpt : Pm (2 * (m : Int)) (fun x => (fun x => x) (twin x)) := ht.comp hpid
  refine ⟨hpid, 2 * m, m, m, ⟨iotaI (2 * m), ⟨iota_nodup _, fun x hx => by have := iota_mem.1 hx; exact ⟨by omega, by omega⟩, fun x hx => ⟨x, iota_mem.2 ⟨hx.1, by have := hx.2; omega⟩, Orb.refl _ _⟩, fun x hx y hy h => ?_⟩, iota_len _⟩, ?_, ?_, by omega⟩
  · exact (Orb.ind (S := fun z => z = x) (fun z hz => hz) h rfl).symm
  · refine ⟨(iotaI m).map fun i => 2 * i, ⟨nodup_map_on (iota_nodup _) (fun x _ y _ e => by omega), fun x hx => ?_, fun x hx => ?_, fun x hx y hy h => ?_⟩, by rw [List.length_map, iota_len]⟩
    · obtain ⟨i, hi, rfl⟩ := List.mem_map.1 hx
      have := iota_mem.1 hi
      exact ⟨by omega, by omega⟩
    · have hx1 := hx.1
      have hx2 := hx.2
      refine ⟨2 * (x / 2), List.mem_map.2 ⟨x / 2, iota_mem.2 ⟨by omega, by omega⟩, rfl⟩, ?_⟩
      by_cases e : x % 2 = 0
      · rw [show 2 * (x / 2) = x by omega]; exact Orb.refl _ _
      · have h1 := Orb.step (fun x => (fun x => x) (twin x)) x
        have h2 : twin x = 2 * (x / 2) := by unfold twin; rw [if_neg e]; omega
        simp only at h1
        rwa [h2] at h1
    · obtain ⟨i, hi, rfl⟩ := List.mem_map.1 hx
      obtain ⟨j, hj, rfl⟩ := List.mem_map.1 hy
      have := iota_mem.1 hi
      have := (Orb.ind (S := fun z => 0 ≤ z ∧ z / 2 = i) (fun z hz => ⟨by show 0 ≤ twin z; unfold twin; split <;> omega, by show twin z / 2 = i; rw [twin_half hz.1]; exact hz.2⟩) h ⟨by omega, by omega⟩).2
      omega
  · refine ⟨(iotaI m).map fun i => 2 * i, ⟨nodup_map_on (iota_nodup _) (fun x _ y _ e => by omega), fun x hx => ?_, fun x hx => ?_, fun x hx y hy h => ?_⟩, by rw [List.length_map, iota_len]⟩
    · obtain ⟨i, hi, rfl⟩ := List.mem_map.1 hx
      have := iota_mem.1 hi
      exact ⟨by omega, by omega⟩
    · have hx1 := hx.1
      have hx2 := hx.2
      refine ⟨2 * (x / 2), List.mem_map.2 ⟨x / 2, iota_mem.2 ⟨by omega, by omega⟩, rfl⟩, ?_⟩
      by_cases e : x % 2 = 0
      · rw [show 2 * (x / 2) = x by omega]; exact (Lk.eqv _ _ _).rfl x hx
      · have h1 : Lk (2 * (m : Int)) (fun x => x) twin x (twin x) := Lk.t hx
        have h2 : twin x = 2 * (x / 2) := by unfold twin; rw [if_neg e]; omega
        rwa [h2] at h1
    · obtain ⟨i, hi, rfl⟩ := List.mem_map.1 hx
      obtain ⟨j, hj, rfl⟩ := List.mem_map.1 hy
      have := h (fun u v => u / 2 = v / 2) ⟨fun _ _ => rfl, fun _ _ _ _ e => e.symm, fun _ _ _ _ _ _ e f => e.trans f⟩ (fun x _ => rfl) (fun x hx => (twin_half hx.1).symm)
      omega
theorem eul_ex {m : Nat} {r : Rot} (hn : r.flatten.Nodup) (hin : ∀ y ∈ r.flatten, In (2 * (m : Int)) y) :
    Pm (2 * (m : Int)) (cy r) ∧ ∃ d, Ec (2 * (m : Int)) twin (cy r) d ∧ -(m : Int) ≤ d ∧ (d + m) % 2 = 0 := by
  have e0 : cy (rmL r.flatten r) = fun x => x := funext fun x => cy_out fun hm => by
    obtain ⟨l, hl, hx⟩ := List.mem_flatten.1 hm
    unfold rmL at hl
    obtain ⟨l', hl', rfl⟩ := List.mem_map.1 hl
    obtain ⟨h1, h2⟩ := List.mem_filter.1 hx
    simp only [decide_eq_true_eq] at h2
    exact h2 (List.mem_flatten.2 ⟨l', hl', h1⟩)
  obtain ⟨b1, b2⟩ := ec_base m
  obtain ⟨h1, h2⟩ := cy_steps (twin_tw m) hn hin r.flatten (by rw [e0]; exact b1)
  obtain ⟨d, k1, k2, k3⟩ := h2 (-(m : Int)) (by rw [e0]; exact b2)
  exact ⟨h1, d, k1, k2, by omega⟩
end TL
/-
  TlEul2: faces, each half-edge on one; the genus by Euler's count.
  By an AI agent.
-/
set_option linter.all false
namespace TL
theorem orbF_spec {nx : List Int} (hp : Pm nx.length (gI nx)) : ∀ (n : Nat) (seen : List Int) (k : Int), seen.Nodup → (∀ x ∈ seen, In nx.length x) → seen.length + n = nx.length → In nx.length k →
    (seen ++ orbF nx n seen k).Nodup ∧ (∀ x ∈ orbF nx n seen k, In nx.length x) ∧ k ∈ seen ++ orbF nx n seen k ∧ (∀ x ∈ orbF nx n seen k, Orb (gI nx) k x) ∧ (∀ x ∈ orbF nx n seen k, gI nx x ∈ seen ++ orbF nx n seen k) ∧
    (∀ i : Nat, i + 1 < (orbF nx n seen k).length → gI (orbF nx n seen k) ((i : Int) + 1) = gI nx (gI (orbF nx n seen k) (i : Int))) ∧ (orbF nx n seen k ≠ [] → gI (orbF nx n seen k) 0 = k)
  | 0, seen, k, hn, hin, hl, hk => by
    have hm := all_there hn (n := nx.length) hin (by omega) hk.1 hk.2
    simp [orbF, hn, hm]
  | n + 1, seen, k, hn, hin, hl, hk => by
    simp only [orbF]
    by_cases c : k ∈ seen
    · rw [if_pos c]; simp [hn, c]
    · rw [if_neg c]
      have hk' := hp.rng k hk
      obtain ⟨a1, a2, a3, a4, a5, a6, a7⟩ := orbF_spec hp n (seen ++ [k]) (gI nx k) (List.nodup_append.2 ⟨hn, by simp, fun a ha b hb e => by
        obtain rfl := List.mem_singleton.1 hb
        rw [e] at ha; exact c ha⟩) (fun x hx => by
        rcases List.mem_append.1 hx with h | h
        · exact hin x h
        · obtain rfl := List.mem_singleton.1 h; exact hk) (by simp; omega) hk'
      rw [List.append_assoc] at a1 a3 a5
      refine ⟨a1, fun x hx => ?_, by simp, fun x hx => ?_, fun x hx => ?_, fun i hi => ?_, fun _ => by simp [gI]⟩
      · rcases List.mem_cons.1 hx with rfl | hx
        · exact hk
        · exact a2 x hx
      · rcases List.mem_cons.1 hx with rfl | hx
        · exact Orb.refl _ _
        · exact (Orb.step (gI nx) k).trans (a4 x hx)
      · rcases List.mem_cons.1 hx with rfl | hx
        · exact a3
        · exact a5 x hx
      · have e0 : ∀ j : Nat, gI (k :: orbF nx n (seen ++ [k]) (gI nx k)) ((j : Int) + 1) = gI (orbF nx n (seen ++ [k]) (gI nx k)) (j : Int) := fun j => by
          unfold gI
          rw [show ((j : Int) + 1).toNat = j + 1 by omega]
          simp
        rw [e0]
        cases i with
        | zero =>
          have hne : orbF nx n (seen ++ [k]) (gI nx k) ≠ [] := fun e => by rw [e] at hi; simp at hi
          have := a7 hne
          simpa [gI] using this
        | succ i =>
          simp only [List.length_cons] at hi
          have := a6 i (by omega)
          rw [show (((i + 1 : Nat) : Int)) = (i : Int) + 1 by omega, this, e0]
/-- what faces are, of those half-edges l that are not on S -/
structure FcOk (nx S : List Int) (f : List Int) : Prop where
  ne : f ≠ []
  notS : ∀ x ∈ f, x ∉ S
  inn : ∀ x ∈ f, In nx.length x
  orb : ∀ x ∈ f, Orb (gI nx) (gI f 0) x
  cls : ∀ x ∈ f, gI nx x ∈ f
  chain : ∀ i : Nat, i + 1 < f.length → gI f ((i : Int) + 1) = gI nx (gI f (i : Int))
theorem orbS_ok {nx S : List Int} (hp : Pm nx.length (gI nx)) (hn : S.Nodup) (hin : ∀ x ∈ S, In nx.length x) (hc : ∀ x ∈ S, gI nx x ∈ S) {h : Int} (hh : In nx.length h) (hS : h ∉ S) :
    FcOk nx S (orbS nx S h) ∧ gI (orbS nx S h) 0 = h ∧ (S ++ orbS nx S h).Nodup ∧ h ∈ orbS nx S h := by
  have hlen := nodup_le (n := (nx.length : Int)) (by omega) hn hin
  obtain ⟨a1, a2, a3, a4, a5, a6, a7⟩ := orbF_spec hp (nx.length - S.length) S h hn hin (by omega) hh
  change (S ++ orbS nx S h).Nodup at a1
  change ∀ x ∈ orbS nx S h, In nx.length x at a2
  change h ∈ S ++ orbS nx S h at a3
  change ∀ x ∈ orbS nx S h, Orb (gI nx) h x at a4
  change ∀ x ∈ orbS nx S h, gI nx x ∈ S ++ orbS nx S h at a5
  change ∀ i : Nat, i + 1 < (orbS nx S h).length → gI (orbS nx S h) ((i : Int) + 1) = gI nx (gI (orbS nx S h) (i : Int)) at a6
  change orbS nx S h ≠ [] → gI (orbS nx S h) 0 = h at a7
  have hmem : h ∈ orbS nx S h := (List.mem_append.1 a3).resolve_left hS
  have hne : orbS nx S h ≠ [] := fun e => by rw [e] at hmem; cases hmem
  have h0 := a7 hne
  have hd : ∀ x ∈ orbS nx S h, x ∉ S := fun x hx hxS => (List.nodup_append.1 a1).2.2 x hxS x hx rfl
  refine ⟨⟨hne, hd, a2, fun x hx => by rw [h0]; exact a4 x hx, fun x hx => ?_, a6⟩, h0, a1, hmem⟩
  rcases List.mem_append.1 (a5 x hx) with hs | hs
  · have hb := hp.eqv.symm _ _ (a2 x hx) (hp.rng x (a2 x hx)) (Orb.step (gI nx) x)
    exact absurd (Orb.ind (S := fun z => z ∈ S) hc hb hs) (hd x hx)
  · exact hs
theorem facesL_spec {nx : List Int} (hp : Pm nx.length (gI nx)) : ∀ (l S : List Int), S.Nodup → (∀ x ∈ S, In nx.length x) → (∀ x ∈ S, gI nx x ∈ S) → (∀ x ∈ l, In nx.length x) →
    (∀ f ∈ facesL nx l S, FcOk nx S f ∧ gI f 0 ∈ l) ∧ (S ++ (facesL nx l S).flatten).Nodup ∧ ∀ h ∈ l, h ∈ S ++ (facesL nx l S).flatten
  | [], S, hn, _, _, _ => by simp [facesL, hn]
  | a :: l, S, hn, hin, hc, hl => by
    have ha := hl a (by simp)
    simp only [facesL]
    by_cases c : a ∈ S
    · rw [if_pos c]
      obtain ⟨h1, h2, h3⟩ := facesL_spec hp l S hn hin hc (fun x hx => hl x (by simp [hx]))
      refine ⟨fun f hf => ⟨(h1 f hf).1, by simp [(h1 f hf).2]⟩, h2, fun h hh => ?_⟩
      rcases List.mem_cons.1 hh with rfl | hh
      · simp [c]
      · exact h3 h hh
    · rw [if_neg c]
      obtain ⟨k1, k2, k3, k4⟩ := orbS_ok hp hn hin hc ha c
      obtain ⟨h1, h2, h3⟩ := facesL_spec hp l (S ++ orbS nx S a) k3 (fun x hx => by
        rcases List.mem_append.1 hx with h | h
        · exact hin x h
        · exact k1.inn x h) (fun x hx => by
        rcases List.mem_append.1 hx with h | h
        · simp [hc x h]
        · simp [k1.cls x h]) (fun x hx => hl x (by simp [hx]))
      rw [List.append_assoc] at h2 h3
      refine ⟨fun f hf => ?_, by rw [List.flatten_cons]; exact h2, fun h hh => ?_⟩
      · rcases List.mem_cons.1 hf with rfl | hf
        · exact ⟨k1, by rw [k2]; simp⟩
        · have := h1 f hf
          exact ⟨⟨this.1.ne, fun x hx hxS => this.1.notS x hx (by simp [hxS]), this.1.inn, this.1.orb, this.1.cls, this.1.chain⟩, by simp [this.2]⟩
      · rw [List.flatten_cons]
        rcases List.mem_cons.1 hh with rfl | hh
        · simp [k4]
        · exact h3 h hh
theorem head_mem {f : List Int} (h : f ≠ []) : gI f 0 ∈ f := by
  cases f with
  | nil => exact absurd rfl h
  | cons a l => simp [gI]
theorem heads_sub : ∀ (F : Rot), (∀ f ∈ F, f ≠ []) → List.Sublist (F.map fun f => gI f 0) F.flatten
  | [], _ => by simp
  | f :: F, h => by
    rw [List.map_cons, List.flatten_cons]
    have ih := heads_sub F (fun x hx => h x (by simp [hx]))
    cases f with
    | nil => exact absurd rfl (h [] (by simp))
    | cons a l =>
      have : gI (a :: l) 0 = a := by simp [gI]
      rw [this, List.cons_append]
      exact (ih.trans (List.sublist_append_right _ _)).cons₂ a
/-- all faces -/
theorem facesL_ok {nx : List Int} (hp : Pm nx.length (gI nx)) : (∀ f ∈ facesL nx (iotaI nx.length) [], FcOk nx [] f) ∧ (facesL nx (iotaI nx.length) []).flatten.Nodup ∧ (∀ h, In nx.length h → h ∈ (facesL nx (iotaI nx.length) []).flatten) ∧ Tr (In nx.length) (Orb (gI nx)) ((facesL nx (iotaI nx.length) []).map fun f => gI f 0) := by
  obtain ⟨h1, h2, h3⟩ := facesL_spec hp (iotaI nx.length) [] (by simp) (by simp) (by simp) (fun x hx => by have := iota_mem.1 hx; exact ⟨by omega, by omega⟩)
  rw [List.nil_append] at h2 h3
  have h3' : ∀ h, In nx.length h → h ∈ (facesL nx (iotaI nx.length) []).flatten := fun h hh => h3 h (iota_mem.2 ⟨hh.1, by have := hh.2; omega⟩)
  refine ⟨fun f hf => (h1 f hf).1, h2, h3', ⟨h2.sublist (heads_sub _ fun f hf => (h1 f hf).1.ne), fun x hx => ?_, fun x hx => ?_, fun x hx y hy hxy => ?_⟩⟩
  · obtain ⟨f, hf, rfl⟩ := List.mem_map.1 hx
    exact (h1 f hf).1.inn _ (head_mem (h1 f hf).1.ne)
  · obtain ⟨f, hf, hxf⟩ := List.mem_flatten.1 (h3' x hx)
    exact ⟨_, List.mem_map.2 ⟨f, hf, rfl⟩, hp.eqv.symm _ _ ((h1 f hf).1.inn _ (head_mem (h1 f hf).1.ne)) hx ((h1 f hf).1.orb x hxf)⟩
  · obtain ⟨f, hf, rfl⟩ := List.mem_map.1 hx
    obtain ⟨f', hf', rfl⟩ := List.mem_map.1 hy
    have hy' := Orb.ind (S := fun z => z ∈ f) (h1 f hf).1.cls hxy (head_mem (h1 f hf).1.ne)
    rw [flat_disj h2 hf hf' hy' (head_mem (h1 f' hf').1.ne)]
section
variable {g : Net} {r : Rot}
theorem rot_in (hr : RotP g r) : ∀ y ∈ r.flatten, In (2 * (g.2.length : Int)) y := fun y hy => by
  obtain ⟨l, hl, hyl⟩ := List.mem_flatten.1 hy
  obtain ⟨v, hv, e⟩ := List.mem_iff_getElem.1 hl
  have ev : gI r (v : Int) = l := by rw [← e]; simp [gI, hv]
  exact (hr.2.1 v hv y (by rw [ev]; exact hyl)).1
theorem cy_succ (hr : RotP g r) {x : Int} (hx : In (2 * (g.2.length : Int)) x) : cy r x = succS r x := by
  obtain ⟨v, hv, hh⟩ := rot_at hr hx.1 hx.2
  rw [succS_row hr hv hh, cy_mem hr.2.2.1 (gI_mem (xs := r) (i := (v : Int)) (by omega) hv) hh]
theorem rot_pm (hr : RotP g r) : Pm (2 * (g.2.length : Int)) (cy r) := (eul_ex hr.2.2.1 (rot_in hr)).1
theorem row_orb (hr : RotP g r) {v : Nat} (hv : (v : Int) < r.length) : ∀ i : Nat, (i : Int) < (gI r (v : Int)).length → Orb (cy r) (gI (gI r (v : Int)) 0) (gI (gI r (v : Int)) (i : Int))
  | 0, _ => Orb.refl _ _
  | i + 1, hi => by
    have hi' : (i : Int) < (gI r (v : Int)).length := by omega
    refine (row_orb hr hv i hi').trans ?_
    have hx := (hr.2.1 v (by omega) _ (gI_mem (xs := gI r (v : Int)) (i := (i : Int)) (by omega) hi')).1
    have h1 := Orb.step (cy r) (gI (gI r (v : Int)) (i : Int))
    rw [cy_succ hr hx, succS_at hr hv hi', Int.emod_eq_of_lt (by omega) (by omega)] at h1
    exact h1
theorem same_row (hr : RotP g r) {x y : Int} (hx : In (2 * (g.2.length : Int)) x) (hy : In (2 * (g.2.length : Int)) y) (h : fromS g x = fromS g y) : Orb (cy r) x y := by
  obtain ⟨v, i, hv, hi, rfl⟩ := rot_all hr hx.1 hx.2
  obtain ⟨w, j, hw, hj, rfl⟩ := rot_all hr hy.1 hy.2
  have e1 := (hr.2.1 v (by omega) _ (gI_mem (xs := gI r (v : Int)) (i := (i : Int)) (by omega) hi)).2
  have e2 := (hr.2.1 w (by omega) _ (gI_mem (xs := gI r (w : Int)) (i := (j : Int)) (by omega) hj)).2
  have e : v = w := by omega
  subst e
  have h0 := (hr.2.1 v (by omega) _ (gI_mem (xs := gI r (v : Int)) (i := 0) (by omega) (by omega))).1
  exact ((rot_pm hr).eqv.symm _ _ h0 hx (row_orb hr hv i hi)).trans (row_orb hr hv j hj)
theorem cy_from (hr : RotP g r) {x : Int} (hx : In (2 * (g.2.length : Int)) x) : fromS g (cy r x) = fromS g x := by
  obtain ⟨v, hv, hh⟩ := rot_at hr hx.1 hx.2
  rw [cy_mem hr.2.2.1 (gI_mem (xs := r) (i := (v : Int)) (by omega) hv) hh]
  have hlen : (0 : Int) < (gI r (v : Int)).length := by have := List.length_pos_of_mem hh; omega
  have hm := gI_mem (xs := gI r (v : Int)) (i := ((((gI r (v : Int)).idxOf x : Nat) : Int) + 1) % ((gI r (v : Int)).length : Int)) (Int.emod_nonneg _ (by omega)) (Int.emod_lt_of_pos _ hlen)
  rw [(hr.2.1 v (by omega) x hh).2]
  exact (hr.2.1 v (by omega) _ hm).2
theorem split_len {α : Type} (p : α → Bool) (l : List α) : (l.filter p).length + (l.filter fun x => !p x).length = l.length := by
  induction l with
  | nil => rfl
  | cons a l ih =>
    rw [List.filter_cons, List.filter_cons]
    by_cases h : p a
    · simp [h]; omega
    · simp [h]; omega
theorem empty_iota (r : Rot) (p : List Int → Bool) : (r.filter p).length = ((iotaI r.length).filter fun v => p (gI r v)).length := by
  conv => lhs; rw [← iota_map r]
  rw [List.filter_map, List.length_map]; rfl
/-- rounds of nodes -/
theorem rot_V (hr : RotP g r) : ∃ V : Nat, Num (In (2 * (g.2.length : Int))) (Orb (cy r)) V ∧ (V : Int) + ((r.filter fun l => decide (l.length = 0)).length : Nat) = g.1 := by
  have hrl := hr.1
  have hin : ∀ v, v ∈ (iotaI r.length).filter (fun v => !decide ((gI r v).length = 0)) ↔ (0 ≤ v ∧ v < r.length) ∧ (gI r v).length ≠ 0 := fun v => by
    rw [List.mem_filter, iota_mem]; simp
  refine ⟨_, Num.map (D := fun v => (0 ≤ v ∧ v < r.length) ∧ (gI r v).length ≠ 0) (R := fun a b => a = b) (fun v => gI (gI r v) 0) ⟨_, ⟨(iota_nodup r.length).filter _, fun x hx => (hin x).1 hx, fun x hx => ⟨x, (hin x).2 hx, rfl⟩, fun x _ y _ e => e⟩, rfl⟩ (rot_pm hr).eqv (fun v hv => ?_) (fun v w hv hw e => by rw [e]; exact Orb.refl _ _) (fun v w hv hw ho => ?_) (fun z hz => ?_), ?_⟩
  · have h1 := hr.2.1 v.toNat (by omega) (gI (gI r v) 0) (by rw [show ((v.toNat : Nat) : Int) = v by omega]; exact gI_mem (by omega) (by omega))
    exact h1.1
  · have key : ∀ v : Int, (0 ≤ v ∧ v < r.length) ∧ (gI r v).length ≠ 0 → In (2 * (g.2.length : Int)) (gI (gI r v) 0) ∧ fromS g (gI (gI r v) 0) = v := fun v hv => by
      have h1 := hr.2.1 v.toNat (by omega) (gI (gI r v) 0) (by rw [show ((v.toNat : Nat) : Int) = v by omega]; exact gI_mem (by omega) (by omega))
      exact ⟨h1.1, by rw [h1.2]; omega⟩
    obtain ⟨a1, a2⟩ := key v hv
    obtain ⟨b1, b2⟩ := key w hw
    have := (Orb.ind (S := fun z => In (2 * (g.2.length : Int)) z ∧ fromS g z = v) (fun z hz => ⟨(rot_pm hr).rng z hz.1, by rw [cy_from hr hz.1]; exact hz.2⟩) ho ⟨a1, a2⟩).2
    omega
  · obtain ⟨v, i, hv, hi, e⟩ := rot_all hr hz.1 hz.2
    have h0 := (hr.2.1 v (by omega) _ (gI_mem (xs := gI r (v : Int)) (i := 0) (by omega) (by omega))).1
    refine ⟨(v : Int), ⟨⟨by omega, hv⟩, by omega⟩, (rot_pm hr).eqv.symm _ _ h0 hz ?_⟩
    rw [← e]; exact row_orb hr hv i hi
  · have h1 := split_len (fun v => decide ((gI r v).length = 0)) (iotaI r.length)
    have h2 := empty_iota r (fun l => decide (l.length = 0))
    rw [iota_len] at h1
    omega
/-- what is joined -/
theorem rot_C (hm : MayP g) (hr : RotP g r) : ∃ C : Nat, Num (In (2 * (g.2.length : Int))) (Lk (2 * (g.2.length : Int)) (cy r) twin) C ∧ (C : Int) + ((r.filter fun l => decide (l.length = 0)).length : Nat) = (partsR g).2.1 := by
  obtain ⟨C, hC⟩ := Num.ex (Lk.eqv (2 * (g.2.length : Int)) (cy r) twin)
  refine ⟨C, hC, ?_⟩
  obtain ⟨k, ek, hk⟩ := parts_num hm
  rw [ek]
  obtain ⟨lC, hT, rfl⟩ := hC
  have hrl := hr.1
  have hcn := Cn.eqv g
  have hle := Lk.eqv (2 * (g.2.length : Int)) (cy r) twin
  have hpm := rot_pm hr
  have hfin : ∀ x, In (2 * (g.2.length : Int)) x → ndP g (fromS g x) := fun x hx => fromS_in hm hx.1 hx.2
  have hsame : ∀ x y, In (2 * (g.2.length : Int)) x → In (2 * (g.2.length : Int)) y → fromS g x = fromS g y → Lk (2 * (g.2.length : Int)) (cy r) twin x y := fun x y hx hy e => Lk.orb hpm hx (same_row hr hx hy e)
  have htw : ∀ x, In (2 * (g.2.length : Int)) x → fromS g (twin x) = toS g x := fun x hx => by
    unfold fromS toS
    rw [twin_half hx.1]
    congr 1
    unfold twin; split <;> omega
  have hup : ∀ x y, Lk (2 * (g.2.length : Int)) (cy r) twin x y → Cn g (fromS g x) (fromS g y) := fun x y h => h (fun x y => Cn g (fromS g x) (fromS g y)) ⟨fun x hx => hcn.rfl _ (hfin x hx), fun x y hx hy h => hcn.symm _ _ (hfin x hx) (hfin y hy) h, fun x y z hx hy hz h1 h2 => hcn.trans _ _ _ (hfin x hx) (hfin y hy) (hfin z hz) h1 h2⟩ (fun x hx => by rw [cy_from hr hx]; exact hcn.rfl _ (hfin x hx)) (fun x hx => by rw [htw x hx]; exact Cn.half hm hx.1 hx.2)
  have hdn : ∀ u v, ndP g u → ndP g v → Cn g u v → u = v ∨ ∃ x y, (In (2 * (g.2.length : Int)) x ∧ In (2 * (g.2.length : Int)) y) ∧ (fromS g x = u ∧ fromS g y = v) ∧ Lk (2 * (g.2.length : Int)) (cy r) twin x y := fun u v _ _ h => h (fun u v => u = v ∨ ∃ x y, (In (2 * (g.2.length : Int)) x ∧ In (2 * (g.2.length : Int)) y) ∧ (fromS g x = u ∧ fromS g y = v) ∧ Lk (2 * (g.2.length : Int)) (cy r) twin x y) ⟨fun u _ => .inl rfl, fun u v _ _ h => by
      rcases h with e | ⟨x, y, ⟨hx, hy⟩, ⟨ex, ey⟩, hl⟩
      · exact .inl e.symm
      · exact .inr ⟨y, x, ⟨hy, hx⟩, ⟨ey, ex⟩, hle.symm _ _ hx hy hl⟩, fun u v w _ _ _ h1 h2 => by
      rcases h1 with e | ⟨x, y, ⟨hx, hy⟩, ⟨ex, ey⟩, hl⟩
      · rw [e]; exact h2
      · rcases h2 with e | ⟨x', y', ⟨hx', hy'⟩, ⟨ex', ey'⟩, hl'⟩
        · rw [← e]; exact .inr ⟨x, y, ⟨hx, hy⟩, ⟨ex, ey⟩, hl⟩
        · exact .inr ⟨x, y', ⟨hx, hy'⟩, ⟨ex, ey'⟩, hle.trans _ _ _ hx hy hy' hl (hle.trans _ _ _ hy hx' hy' (hsame y x' hy hx' (by rw [ey, ex'])) hl')⟩⟩ (fun e he => by
      obtain ⟨i, hi, rfl⟩ := List.mem_iff_getElem.1 he
      have e0 : gI g.2 (i : Int) = g.2[i] := by simp [gI, hi]
      have h1 : In (2 * (g.2.length : Int)) (2 * (i : Int)) := ⟨by omega, by omega⟩
      have h2 := (twin_tw g.2.length).rng _ h1
      obtain ⟨a, b, c, d⟩ := out_of (g := g) (i := i) (by omega)
      refine .inr ⟨2 * (i : Int), twin (2 * (i : Int)), ⟨h1, h2⟩, ⟨by rw [(outS_in a).2, e0], by rw [htw _ h1, c, e0]⟩, Lk.t h1⟩)
  have hiso : ∀ v, v ∈ (iotaI r.length).filter (fun v => decide ((gI r v).length = 0)) ↔ (0 ≤ v ∧ v < r.length) ∧ (gI r v).length = 0 := fun v => by
    rw [List.mem_filter, iota_mem]; simp
  have hnoin : ∀ v, (gI r v).length = 0 → ∀ x, In (2 * (g.2.length : Int)) x → fromS g x ≠ v := fun v hv x hx e => by
    obtain ⟨w, hw, hh⟩ := rot_at hr hx.1 hx.2
    have := (hr.2.1 w (by omega) x hh).2
    rw [e] at this
    rw [this] at hv
    have := List.length_pos_of_mem hh
    omega
  have hTn : Tr (ndP g) (Cn g) (lC.map (fromS g) ++ (iotaI r.length).filter (fun v => decide ((gI r v).length = 0))) := by
    refine ⟨List.nodup_append.2 ⟨nodup_map_on hT.nd (fun x hx y hy e => hT.one x hx y hy (hsame x y (hT.dom x hx) (hT.dom y hy) e)), (iota_nodup _).filter _, fun a ha b hb e => ?_⟩, fun v hv => ?_, fun v hv => ?_, fun u hu v hv huv => ?_⟩
    · obtain ⟨x, hx, rfl⟩ := List.mem_map.1 ha
      exact hnoin b ((hiso b).1 hb).2 x (hT.dom x hx) e
    · rcases List.mem_append.1 hv with h | h
      · obtain ⟨x, hx, rfl⟩ := List.mem_map.1 h
        exact hfin x (hT.dom x hx)
      · have := ((hiso v).1 h).1
        exact ⟨this.1, by omega⟩
    · have hv1 := hv.1
      have hv2 := hv.2
      by_cases c : (gI r v).length = 0
      · exact ⟨v, List.mem_append.2 (.inr ((hiso v).2 ⟨⟨hv1, by omega⟩, c⟩)), hcn.rfl v hv⟩
      · have h1 := hr.2.1 v.toNat (by omega) (gI (gI r v) 0) (by rw [show ((v.toNat : Nat) : Int) = v by omega]; exact gI_mem (by omega) (by omega))
        obtain ⟨y, hy, hxy⟩ := hT.all _ h1.1
        refine ⟨fromS g y, List.mem_append.2 (.inl (List.mem_map.2 ⟨y, hy, rfl⟩)), ?_⟩
        have h2 := hup _ _ hxy
        rw [h1.2, show ((v.toNat : Nat) : Int) = v by omega] at h2
        exact h2
    · have hud : ∀ u ∈ lC.map (fromS g) ++ (iotaI r.length).filter (fun v => decide ((gI r v).length = 0)), ndP g u := fun u hu => by
        rcases List.mem_append.1 hu with h | h
        · obtain ⟨x, hx, rfl⟩ := List.mem_map.1 h
          exact hfin x (hT.dom x hx)
        · have := ((hiso u).1 h).1
          exact ⟨this.1, by omega⟩
      rcases hdn u v (hud u hu) (hud v hv) huv with e | ⟨x, y, ⟨hx, hy⟩, ⟨ex, ey⟩, hl⟩
      · exact e
      · rcases List.mem_append.1 hu with h | h
        · obtain ⟨x', hx', rfl⟩ := List.mem_map.1 h
          rcases List.mem_append.1 hv with h' | h'
          · obtain ⟨y', hy', rfl⟩ := List.mem_map.1 h'
            have hxd := hT.dom x' hx'
            have hyd := hT.dom y' hy'
            rw [hT.one x' hx' y' hy' (hle.trans _ _ _ hxd hx hyd (hsame _ _ hxd hx ex.symm) (hle.trans _ _ _ hx hy hyd hl (hsame _ _ hy hyd ey)))]
          · exact absurd ey (hnoin v ((hiso v).1 h').2 y hy)
        · exact absurd ex (hnoin u ((hiso u).1 h).2 x hx)
  have := Num.eq hcn ⟨_, hTn, rfl⟩ hk
  rw [List.length_append, List.length_map] at this
  have h2 := empty_iota r (fun l => decide (l.length = 0))
  omega
theorem next_pm (hr : RotP g r) : Pm (nextS g r).length (gI (nextS g r)) ∧ ∀ x, In (2 * (g.2.length : Int)) x → gI (nextS g r) x = cy r (twin x) := by
  have hl := nextS_len g r
  have h1 : ∀ x, In (2 * (g.2.length : Int)) x → gI (nextS g r) x = cy r (twin x) := fun x hx => by
    rw [nextS_gI hx.1 hx.2, cy_succ hr ((twin_tw g.2.length).rng x hx)]
  refine ⟨?_, h1⟩
  rw [hl]
  exact ((twin_tw g.2.length).comp (rot_pm hr)).congr fun x hx => (h1 x hx).symm
/-- rounds of faces -/
theorem rot_F (hr : RotP g r) : ∃ F : Nat, Num (In (2 * (g.2.length : Int))) (Orb fun x => cy r (twin x)) F ∧ F + (r.filter fun l => decide (l.length = 0)).length = (facesS (nextS g r) r).length := by
  obtain ⟨h1, h2⟩ := next_pm hr
  have h3 := (facesL_ok h1).2.2.2
  refine ⟨_, Num.iff ⟨_, by rw [nextS_len] at h3; exact h3, rfl⟩ (fun x y hx hy => Orb.iff (by rw [nextS_len] at h1; exact h1) h2 hx), ?_⟩
  unfold facesS
  rw [List.length_append, List.length_map, List.length_map]
end
end TL
/-
  TlDfs: components found by a stack: the document's way.
  By an AI agent.
-/
set_option linter.all false
namespace TL
/-- how many have no number yet -/
def cntN (c : List Int) : Nat := (c.filter fun x => decide (x < 0)).length
theorem cntN_set {c : List Int} {w n : Int} (h0 : 0 ≤ w) (h1 : w < c.length) (hc : gI c w < 0) (hn : 0 ≤ n) : cntN (c.set w.toNat n) + 1 = cntN c := by
  have hlt : w.toNat < c.length := by omega
  have e0 : gI c w = c[w.toNat] := by simp [gI, hlt]
  have e1 : c = c.take w.toNat ++ c[w.toNat] :: c.drop (w.toNat + 1) := by
    rw [← List.drop_eq_getElem_cons hlt, List.take_append_drop]
  have e2 : c.set w.toNat n = c.take w.toNat ++ n :: c.drop (w.toNat + 1) := List.set_eq_take_append_cons_drop.trans (if_pos hlt)
  rw [e2]
  conv => rhs; rw [e1]
  unfold cntN
  rw [List.filter_append, List.filter_append, List.filter_cons, List.filter_cons, if_neg (by simp; omega), if_pos (by rw [← e0]; simpa using hc)]
  simp
  omega
theorem cntN_le (c : List Int) : cntN c ≤ c.length := List.length_filter_le _ _
theorem first_gI {g : Net} {v : Int} (h0 : 0 ≤ v) (h1 : v < g.1) : gI (firstS g) v = outS g v := by
  unfold firstS gI
  have : v.toNat < g.1.toNat := by omega
  simp [List.getD_eq_getElem?_getD, this]
  congr 1
  omega
theorem first_len (g : Net) (h : 0 ≤ g.1) : ((firstS g).length : Int) = g.1 := by simp [firstS]; omega
/-- the walk from s under way: todo lies on the stack, x is being looked at -/
structure DfInv (g : Net) (c0 c todo x : List Int) (n s : Int) : Prop where
  len : (c.length : Int) = g.1
  n0 : 0 ≤ n
  sd : ndP g s
  pre : ∀ w, ndP g w → Cn g s w → gI c0 w < 0
  cmp : ∀ w, ndP g w → (Cn g s w ∧ gI c w = n) ∨ gI c w = gI c0 w
  nd : todo.Nodup
  tds : ∀ t ∈ todo, ndP g t ∧ Cn g s t ∧ gI c t = n
  clo : ∀ v, ndP g v → Cn g s v → gI c v = n → v ∉ todo → v ∉ x → ∀ h ∈ outS g v, 0 ≤ gI c (toS g h)
  src : gI c s = n
theorem DfInv.start {g : Net} (hm : MayP g) {c0 : List Int} {n : Int} {q : Nat} (hq : (q : Int) < g.1) (h : c0 = (partsK g q).1 ∧ n = (partsK g q).2) (c : ¬ 0 ≤ gI c0 (q : Int)) : DfInv g c0 (c0.set (q : Int).toNat n) [(q : Int)] [] n (q : Int) := by
  obtain ⟨l, hi⟩ := partsK_inv hm q (by omega)
  obtain ⟨rfl, rfl⟩ := h
  have hqd : ndP g (q : Int) := ⟨by omega, hq⟩
  have hn : 0 ≤ (partsK g q).2 := by rw [hi.num]; omega
  have hlen := hi.len
  have hcn := Cn.eqv g
  have hpre : ∀ w, ndP g w → Cn g (q : Int) w → gI (partsK g q).1 w < 0 := fun w hw hc => by
    refine Int.not_le.1 fun h0 => c ?_
    obtain ⟨y, hy, hwy⟩ := (hi.iff w hw).1 h0
    exact (hi.iff _ hqd).2 ⟨y, hy, hcn.trans _ _ _ hqd hw (hi.dom y hy) hc hwy⟩
  have hset : ∀ w, ndP g w → gI ((partsK g q).1.set (q : Int).toNat (partsK g q).2) w = if w = q then (partsK g q).2 else gI (partsK g q).1 w := fun w hw => gI_set (by omega) (by omega) hw.1
  refine ⟨by simpa using hlen, hn, hqd, hpre, fun w hw => ?_, by simp, fun t ht => ?_, fun v hv hc e hnt _ => ?_, ?_⟩
  · rw [hset w hw]
    by_cases e : w = q
    · subst e; exact .inl ⟨hcn.rfl _ hqd, if_pos rfl⟩
    · rw [if_neg e]; exact .inr rfl
  · obtain rfl := List.mem_singleton.1 ht
    exact ⟨hqd, hcn.rfl _ hqd, by rw [hset _ hqd, if_pos rfl]⟩
  · have hne : v ≠ q := fun e => hnt (by simp [e])
    rw [hset v hv, if_neg hne] at e
    have := hpre v hv hc
    omega
  · rw [hset _ hqd, if_pos rfl]
section
variable {g : Net} {c0 c todo x : List Int} {n s : Int}
theorem DfInv.bd (h : DfInv g c0 c todo x n s) : (todo.length : Int) ≤ g.1 := by
  have h1 := h.sd.1
  have h2 := h.sd.2
  exact nodup_le (by omega) h.nd (fun t ht => (h.tds t ht).1)
theorem DfInv.pop (h : DfInv g c0 c todo [] n s) (ht : 0 < todo.length) : DfInv g c0 c (todo.take (todo.length - 1)) [gI todo ((todo.length : Int) - 1)] n s ∧ ndP g (gI todo ((todo.length : Int) - 1)) ∧ Cn g s (gI todo ((todo.length : Int) - 1)) ∧ gI c (gI todo ((todo.length : Int) - 1)) = n := by
  have hm := gI_mem (xs := todo) (i := (todo.length : Int) - 1) (by omega) (by omega)
  have hs := take_succ_gI (xs := todo) (k := todo.length - 1) (by omega)
  rw [List.take_of_length_le (by omega), show ((todo.length - 1 : Nat) : Int) = (todo.length : Int) - 1 by omega] at hs
  refine ⟨⟨h.len, h.n0, h.sd, h.pre, h.cmp, h.nd.sublist (List.take_sublist _ _), fun t ht => h.tds t (List.mem_of_mem_take ht), fun v hv hc e hnt hnx => h.clo v hv hc e (fun hm => ?_) (by simp), h.src⟩, h.tds _ hm⟩
  rw [hs] at hm
  rcases List.mem_append.1 hm with hm | hm
  · exact hnt hm
  · exact hnx hm
theorem DfInv.push (hm : MayP g) (h : DfInv g c0 c todo x n s) {v : Int} (hv : ndP g v) (hc : Cn g s v) {hh : Int} (hh0 : hh ∈ outS g v) (hw : gI c (toS g hh) < 0) : DfInv g c0 (c.set (toS g hh).toNat n) (todo ++ [toS g hh]) x n s ∧ ∀ u, 0 ≤ u → 0 ≤ gI c u → 0 ≤ gI (c.set (toS g hh).toNat n) u := by
  obtain ⟨⟨a1, a2⟩, a3⟩ := outS_in hh0
  have hto := toS_in hm a1 a2
  have hlen := h.len
  have hn := h.n0
  have hcw : Cn g s (toS g hh) := (Cn.eqv g).trans _ _ _ h.sd hv hto hc (by have := Cn.half hm a1 a2; rwa [a3] at this)
  have hset : ∀ u, 0 ≤ u → gI (c.set (toS g hh).toNat n) u = if u = toS g hh then n else gI c u := fun u h0 => gI_set hto.1 (by omega) h0
  have hmono : ∀ u, 0 ≤ u → 0 ≤ gI c u → 0 ≤ gI (c.set (toS g hh).toNat n) u := fun u h0 h1 => by
    rw [hset u h0]; split <;> omega
  refine ⟨⟨by simpa using hlen, hn, h.sd, h.pre, fun w hwd => ?_, ?_, fun t ht => ?_, fun v' hv' hc' e hnt hnx h' hh' => ?_, ?_⟩, hmono⟩
  · rw [hset w hwd.1]
    by_cases e : w = toS g hh
    · subst e; exact .inl ⟨hcw, if_pos rfl⟩
    · rw [if_neg e]; exact h.cmp w hwd
  · rw [List.nodup_append]
    refine ⟨h.nd, by simp, fun a ha b hb e => ?_⟩
    obtain rfl := List.mem_singleton.1 hb
    have := (h.tds a ha).2.2
    rw [e] at this
    omega
  · rcases List.mem_append.1 ht with ht | ht
    · obtain ⟨b1, b2, b3⟩ := h.tds t ht
      refine ⟨b1, b2, ?_⟩
      rw [hset t b1.1]; split
      · rfl
      · exact b3
    · obtain rfl := List.mem_singleton.1 ht
      exact ⟨hto, hcw, by rw [hset _ hto.1, if_pos rfl]⟩
  · have hne : v' ≠ toS g hh := fun e => hnt (by simp [e])
    rw [hset v' hv'.1, if_neg hne] at e
    have b := outS_in hh'
    exact hmono _ (toS_in hm b.1.1 b.1.2).1 (h.clo v' hv' hc' e (fun hm => hnt (by simp [hm])) hnx h' hh')
  · rw [hset s h.sd.1]; split
    · rfl
    · exact h.src
/-- the row of v, k half-edges looked at -/
structure DfRow (g : Net) (c0 c todo : List Int) (n s v : Int) (k M : Nat) : Prop where
  inv : DfInv g c0 c todo [v] n s
  vd : ndP g v
  vc : Cn g s v
  row : ∀ i : Nat, i < k → (i : Int) < (outS g v).length → 0 ≤ gI c (toS g (gI (outS g v) (i : Int)))
  meas : todo.length + 2 * cntN c < M
theorem DfInv.row (h : DfInv g c0 c todo [] n s) (ht : 0 < todo.length) : DfRow g c0 c (todo.take (todo.length - 1)) n s (gI todo ((todo.length : Int) - 1)) 0 (todo.length + 2 * cntN c) := by
  obtain ⟨h1, h2, h3, h4⟩ := h.pop ht
  exact ⟨h1, h2, h3, fun i hi => by omega, by rw [List.length_take]; omega⟩
variable {v : Int} {k M : Nat}
theorem DfRow.skip (h : DfRow g c0 c todo n s v k M) (hk : 0 ≤ gI c (toS g (gI (outS g v) (k : Int)))) : DfRow g c0 c todo n s v (k + 1) M :=
  ⟨h.inv, h.vd, h.vc, fun i hi hl => by
    by_cases e : i = k
    · subst e; exact hk
    · exact h.row i (by omega) hl, h.meas⟩
theorem DfRow.push (hm : MayP g) (h : DfRow g c0 c todo n s v k M) (hl : (k : Int) < (outS g v).length) (hk : ¬ 0 ≤ gI c (toS g (gI (outS g v) (k : Int)))) : DfRow g c0 (c.set (toS g (gI (outS g v) (k : Int))).toNat n) (todo ++ [toS g (gI (outS g v) (k : Int))]) n s v (k + 1) M := by
  have hmem := gI_mem (xs := outS g v) (i := (k : Int)) (by omega) hl
  obtain ⟨h1, h2⟩ := h.inv.push hm h.vd h.vc hmem (by omega)
  have b := outS_in hmem
  have hto := toS_in hm b.1.1 b.1.2
  have hlen := h.inv.len
  have hn := h.inv.n0
  have hme := h.meas
  have hcn := cntN_set (c := c) (w := toS g (gI (outS g v) (k : Int))) (n := n) hto.1 (by omega) (by omega) hn
  refine ⟨h1, h.vd, h.vc, fun i hi hil => ?_, ?_⟩
  · by_cases e : i = k
    · subst e
      rw [gI_set hto.1 (by omega) hto.1, if_pos rfl]; exact hn
    · have bi := outS_in (gI_mem (xs := outS g v) (i := (i : Int)) (by omega) hil)
      exact h2 _ (toS_in hm bi.1.1 bi.1.2).1 (h.row i (by omega) hil)
  · rw [List.length_append, List.length_singleton]; omega
theorem DfRow.done (h : DfRow g c0 c todo n s v k M) (hl : ¬ (k : Int) < (outS g v).length) : DfInv g c0 c todo [] n s :=
  ⟨h.inv.len, h.inv.n0, h.inv.sd, h.inv.pre, h.inv.cmp, h.inv.nd, h.inv.tds, fun u hu hc e hnt _ hh hhu => by
    by_cases e2 : u = v
    · subst e2
      obtain ⟨i, hi, rfl⟩ := List.mem_iff_getElem.1 hhu
      have e3 : gI (outS g u) (i : Int) = (outS g u)[i] := by simp [gI, hi]
      rw [← e3]
      exact h.row i (by omega) (by omega)
    · exact h.inv.clo u hu hc e hnt (by simp [e2]) hh hhu, h.inv.src⟩
theorem DfInv.done (hm : MayP g) {q : Nat} (h : DfInv g c0 c todo [] n (q : Int)) (ht : ¬ 0 < todo.length) (h0 : c0 = (partsK g q).1 ∧ n = (partsK g q).2) (hc : ¬ 0 ≤ gI c0 (q : Int)) : c = (partsK g (q + 1)).1 ∧ n + 1 = (partsK g (q + 1)).2 := by
  have hnil : todo = [] := List.eq_nil_of_length_eq_zero (by omega)
  subst hnil
  obtain ⟨hb1, hb2⟩ := breadth_iff hm h.sd
  have hpl := parts_len g q
  have hall : ∀ w, Cn g (q : Int) w → gI c w = n := fun w hw =>
    (closed_Cn (S := fun w => (ndP g w ∧ Cn g (q : Int) w) ∧ gI c w = n) (fun x hh hx hhx => by
      have b := outS_in hhx
      have hto := toS_in hm b.1.1 b.1.2
      have hcx : Cn g (q : Int) (toS g hh) := (Cn.eqv g).trans _ _ _ h.sd hx.1.1 hto hx.1.2 (by have := Cn.half hm b.1.1 b.1.2; rwa [b.2] at this)
      have h1 := h.clo x hx.1.1 hx.1.2 hx.2 (by simp) (by simp) hh hhx
      refine ⟨⟨hto, hcx⟩, ?_⟩
      rcases h.cmp _ hto with e | e
      · exact e.2
      · have := h.pre _ hto hcx
        omega) hw ⟨⟨h.sd, (Cn.eqv g).rfl _ h.sd⟩, h.src⟩).2
  have h1 : partsK g (q + 1) = ((breadthS g (q : Int)).order.foldl (fun l w => l.set w.toNat (partsK g q).2) (partsK g q).1, (partsK g q).2 + 1) := by
    rw [partsK_succ]
    unfold partOne
    rw [if_neg (by rw [← h0.1]; exact hc)]
  have hlen := h.len
  have hsd := h.sd
  have hsd2 := hsd.2
  rw [h1]
  refine ⟨?_, by rw [h0.2]⟩
  simp only
  have hl2 : (((breadthS g (q : Int)).order.foldl (fun l w => l.set w.toNat (partsK g q).2) (partsK g q).1).length : Int) = g.1 := by rw [set_fold_len, hpl.1]; omega
  apply list_ext_gI
  · omega
  · intro w hw
    have hwd : ndP g (w : Int) := ⟨by omega, by omega⟩
    rw [gI_fold _ _ (w : Int) (by omega) (by rw [hpl.1]; omega) (fun x hx => by
      have := hb1 x hx
      rw [hpl.1]
      have h2 := this.1
      have h3 := this.2
      omega)]
    by_cases hc' : Cn g (q : Int) (w : Int)
    · rw [if_pos ((hb2 _).2 hc'), hall _ hc', h0.2]
    · rw [if_neg (fun hm => hc' ((hb2 _).1 hm)), ← h0.1]
      rcases h.cmp _ hwd with e | e
      · exact absurd e.1 hc'
      · exact e
end
end TL
/-
  TlFaces: faces: each half-edge on one, the least ahead, each right behind the twin of the one ahead; and the mirror's faces.
  By an AI agent.
-/
set_option linter.all false
namespace TL
theorem facesL_least {nx : List Int} (hp : Pm nx.length (gI nx)) : ∀ (l S : List Int), S.Nodup → (∀ x ∈ S, In nx.length x) → (∀ x ∈ S, gI nx x ∈ S) → (∀ x ∈ l, In nx.length x) → l.Pairwise (· < ·) → (∀ x, In nx.length x → x ∈ S ∨ x ∈ l) → ∀ f ∈ facesL nx l S, ∀ x ∈ f, gI f 0 ≤ x
  | [], S, _, _, _, _, _, _, f, hf => by simp [facesL] at hf
  | a :: l, S, hn, hin, hc, hl, hs, hall, f, hf => by
    simp only [facesL] at hf
    have hs' := List.pairwise_cons.1 hs
    by_cases c : a ∈ S
    · rw [if_pos c] at hf
      exact facesL_least hp l S hn hin hc (fun x hx => hl x (by simp [hx])) hs'.2 (fun x hx => by
        rcases hall x hx with h | h
        · exact .inl h
        · rcases List.mem_cons.1 h with h | h
          · rw [h]; exact .inl c
          · exact .inr h) f hf
    · rw [if_neg c] at hf
      obtain ⟨k1, k2, k3, k4⟩ := orbS_ok hp hn hin hc (hl a (by simp)) c
      rcases List.mem_cons.1 hf with rfl | hf
      · intro x hx
        rw [k2]
        have hxS := k1.notS x hx
        rcases hall x (k1.inn x hx) with h | h
        · exact absurd h hxS
        · rcases List.mem_cons.1 h with h | h
          · omega
          · have := hs'.1 x h; omega
      · refine facesL_least hp l _ k3 (fun x hx => ?_) (fun x hx => ?_) (fun x hx => hl x (by simp [hx])) hs'.2 (fun x hx => ?_) f hf
        · rcases List.mem_append.1 hx with h | h
          · exact hin x h
          · exact k1.inn x h
        · rcases List.mem_append.1 hx with h | h
          · exact List.mem_append.2 (.inl (hc x h))
          · exact List.mem_append.2 (.inr (k1.cls x h))
        · rcases hall x hx with h | h
          · exact .inl (by simp [h])
          · rcases List.mem_cons.1 h with h | h
            · rw [h]; exact .inl (by simp [k4])
            · exact .inr h
theorem iota_sorted (n : Nat) : (iotaI n).Pairwise (· < ·) := by
  unfold iotaI
  rw [List.pairwise_map]
  exact List.pairwise_lt_range.imp (fun h => by omega)
/-- round a face -/
theorem fc_round {nx S f : List Int} (hp : Pm nx.length (gI nx)) (h : FcOk nx S f) (hn : f.Nodup) {k : Nat} (hk : (k : Int) < f.length) : gI f (((k : Int) + 1) % (f.length : Int)) = gI nx (gI f (k : Int)) := by
  by_cases c : k + 1 < f.length
  · rw [Int.emod_eq_of_lt (by omega) (by omega)]; exact h.chain k c
  · have e : (k : Int) + 1 = f.length := by omega
    rw [e, Int.emod_self]
    have hx := gI_mem (xs := f) (i := (k : Int)) (by omega) hk
    obtain ⟨j, hj, ej⟩ := List.mem_iff_getElem.1 (h.cls _ hx)
    have ej' : gI f (j : Int) = gI nx (gI f (k : Int)) := by rw [← ej]; simp [gI, hj]
    cases j with
    | zero => exact ej'
    | succ j =>
      have h1 := h.chain j hj
      rw [show ((j + 1 : Nat) : Int) = (j : Int) + 1 by omega, h1] at ej'
      have h2 := hp.inj _ _ (h.inn _ (gI_mem (xs := f) (i := (j : Int)) (by omega) (by omega))) (h.inn _ hx) ej'
      have := gI_inj hn (i := (j : Int)) (j := (k : Int)) (by omega) (by omega) (by omega) hk h2
      omega
/-- what stands behind a number in a list, round -/
def behS (l : List Int) (x : Int) : Int := if x ∈ l then nxt l x else -1
theorem behS_yes {l : List Int} {x : Int} {i : Nat} (h : ∀ j : Nat, j < i → ¬ gI l (j : Int) = x) (hi : (i : Int) < l.length) (he : gI l (i : Int) = x) : gI l (((i : Int) + 1) % (l.length : Int)) = behS l x := by
  have hm : x ∈ l := by rw [← he]; exact gI_mem (by omega) hi
  have h1 := idxS_yes (s := l) (v := x) (i := i) (fun j hj e => h j hj e.symm) hi he.symm
  unfold idxS at h1
  rw [if_pos hm] at h1
  unfold behS nxt
  rw [if_pos hm, ← h1]
theorem behS_no {l : List Int} {x : Int} {i : Nat} (h : ∀ j : Nat, j < i → ¬ gI l (j : Int) = x) (hi : ¬ (i : Int) < l.length) : (-1 : Int) = behS l x := by
  unfold behS
  rw [if_neg]
  intro hm
  obtain ⟨j, hj, e⟩ := List.mem_iff_getElem.1 hm
  exact h j (by omega) (by simp [gI, hj, e])
theorem flat_empties (k : Nat) : (List.replicate k ([] : List Int)).flatten = [] := by
  induction k with
  | zero => rfl
  | succ k ih => rw [List.replicate_succ, List.flatten_cons, ih]; rfl
section
variable {g : Net} {r : Rot}
theorem faces_all (hr : RotP g r) : (facesS (nextS g r) r).flatten.Nodup ∧ ((facesS (nextS g r) r).flatten.length : Int) = 2 * (g.2.length : Int) ∧ ∀ f ∈ facesS (nextS g r) r, (∀ x ∈ f, gI f 0 ≤ x) ∧ f.Nodup ∧ ∀ k : Nat, (k : Int) < f.length → gI f (((k : Int) + 1) % (f.length : Int)) = gI (nextS g r) (gI f (k : Int)) := by
  obtain ⟨hp, _⟩ := next_pm hr
  obtain ⟨h1, h2, h3, _⟩ := facesL_ok hp
  have hl := nextS_len g r
  have e : (facesS (nextS g r) r).flatten = (facesL (nextS g r) (iotaI (nextS g r).length) []).flatten := by
    unfold facesS
    rw [empties, List.flatten_append, flat_empties, List.append_nil]
  have hperm : List.Perm (facesL (nextS g r) (iotaI (nextS g r).length) []).flatten (iotaI (nextS g r).length) := (List.perm_ext_iff_of_nodup h2 (iota_nodup _)).2 fun x => by
    rw [iota_mem]
    constructor
    · intro hx
      obtain ⟨f, hf, hxf⟩ := List.mem_flatten.1 hx
      exact (h1 f hf).inn x hxf
    · exact fun hx => h3 x hx
  rw [e, hperm.length_eq, iota_len, hl]
  refine ⟨h2, rfl, fun f hf => ?_⟩
  unfold facesS at hf
  rcases List.mem_append.1 hf with hf | hf
  · have hfn := h2.sublist (sub_flat hf)
    refine ⟨facesL_least hp _ _ (by simp) (by simp) (by simp) (fun x hx => by have := iota_mem.1 hx; exact ⟨by omega, by omega⟩) (iota_sorted _) (fun x hx => .inr (iota_mem.2 ⟨hx.1, by have := hx.2; omega⟩)) f hf, hfn, fun k hk => fc_round hp (h1 f hf) hfn hk⟩
  · obtain ⟨l, _, rfl⟩ := List.mem_map.1 hf
    exact ⟨by simp, by simp, fun k hk => by simp at hk; omega⟩
end
end TL
/-
  TlFacesW: what the loops over faces keep.
  By an AI agent.
-/
set_option linter.all false
namespace TL
section
variable {g : Net} {r L P : Rot} {seen : List Bool} {count : Int} {q k : Nat}
variable {lens : List Int} {n : Int} {p : Nat}
theorem facesR_may (h : (facesR g r).2 = 0) : rmayR g r = 0 := by
  unfold facesR at h
  by_cases c : rmayR g r = 0
  · exact c
  · rw [if_neg c] at h; exact h
end
end TL
/-
  TlLess: edges taken away never raise the genus.
  By an AI agent.
-/
set_option linter.all false
namespace TL
/-- classes of a part, and those behind it that stand alone -/
theorem Num.ext {D D' : Int → Prop} {R R' : Int → Int → Prop} {k : Nat} (f : Int → Int) (E : List Int) (h : Num D' R' k) (he : Eqv D R) (hd : ∀ x, D' x → D (f x)) (hr : ∀ x y, D' x → D' y → (R' x y ↔ R (f x) (f y))) (hEn : E.Nodup) (hE : ∀ e ∈ E, D e) (h1 : ∀ e ∈ E, ∀ x, D' x → ¬ R (f x) e) (h2 : ∀ a ∈ E, ∀ b ∈ E, R a b → a = b) (hs : ∀ z, D z → (∃ x, D' x ∧ R z (f x)) ∨ ∃ e ∈ E, R z e) : Num D R (k + E.length) := by
  obtain ⟨l, hl, rfl⟩ := h
  refine ⟨l.map f ++ E, ⟨List.nodup_append.2 ⟨nodup_map_on hl.nd (fun x hx y hy e => hl.one x hx y hy ((hr x y (hl.dom x hx) (hl.dom y hy)).2 (by rw [e]; exact he.rfl _ (hd y (hl.dom y hy))))), hEn, fun a ha b hb e => ?_⟩, fun x hx => ?_, fun z hz => ?_, fun a ha b hb hab => ?_⟩, by simp⟩
  · obtain ⟨x, hx, rfl⟩ := List.mem_map.1 ha
    exact h1 b hb x (hl.dom x hx) (by rw [e]; exact he.rfl b (hE b hb))
  · rcases List.mem_append.1 hx with h | h
    · obtain ⟨y, hy, rfl⟩ := List.mem_map.1 h; exact hd y (hl.dom y hy)
    · exact hE x h
  · rcases hs z hz with ⟨x, hx, hzx⟩ | ⟨e, he', hze⟩
    · obtain ⟨y, hy, hxy⟩ := hl.all x hx
      exact ⟨f y, by simp; exact .inl ⟨y, hy, rfl⟩, he.trans _ _ _ hz (hd x hx) (hd y (hl.dom y hy)) hzx ((hr x y hx (hl.dom y hy)).1 hxy)⟩
    · exact ⟨e, by simp [he'], hze⟩
  · rcases List.mem_append.1 ha with h | h
    · obtain ⟨x, hx, rfl⟩ := List.mem_map.1 h
      have hxd := hl.dom x hx
      rcases List.mem_append.1 hb with h' | h'
      · obtain ⟨y, hy, rfl⟩ := List.mem_map.1 h'
        rw [hl.one x hx y hy ((hr x y hxd (hl.dom y hy)).2 hab)]
      · exact absurd hab (h1 b h' x hxd)
    · rcases List.mem_append.1 hb with h' | h'
      · obtain ⟨y, hy, rfl⟩ := List.mem_map.1 h'
        exact absurd (he.symm _ _ (hE a h) (hd y (hl.dom y hy)) hab) (h1 a h y (hl.dom y hy))
      · exact h2 a h b h' hab
section
variable {m K : Nat} {f s s' : Int → Int} {E : List Int}
end
end TL
/-
  TlRef9: the document's own answer for rotations: what stands behind each half-edge, next ones.
  By an AI agent.
-/
set_option linter.all false
namespace TL
structure BhInv (l : List Int) (g : Net) (r : Rot) (k i : Nat) : Prop where
  len : (l.length : Int) = 2 * (g.2.length : Int)
  old : ∀ v j : Nat, v < k → (v : Int) < r.length → (j : Int) < (gI r (v : Int)).length → gI l (gI (gI r (v : Int)) (j : Int)) = succS r (gI (gI r (v : Int)) (j : Int))
  row : ∀ j : Nat, j < i → (j : Int) < (gI r (k : Int)).length → gI l (gI (gI r (k : Int)) (j : Int)) = succS r (gI (gI r (k : Int)) (j : Int))
theorem BhInv.start (g : Net) (r : Rot) : BhInv (List.replicate (2 * (g.2.length : Int)).toNat 0) g r 0 0 := ⟨by simp; omega, fun v j hv => by omega, fun j hj => by omega⟩
theorem BhInv.next {l : List Int} {g : Net} {r : Rot} {k i : Nat} (h : BhInv l g r k i) (hr : RotP g r) (hk : (k : Int) < r.length) (hi : (i : Int) < (gI r (k : Int)).length) :
    BhInv (l.set (gI (gI r (k : Int)) (i : Int)).toNat (gI (gI r (k : Int)) (((i : Int) + 1) % ((gI r (k : Int)).length : Int)))) g r k (i + 1) := by
  have hl := h.len
  have hin := (hr.2.1 k (by omega) _ (gI_mem (xs := gI r (k : Int)) (i := (i : Int)) (by omega) hi)).1
  have key : ∀ x : Int, 0 ≤ x → x < 2 * (g.2.length : Int) → gI l x = succS r x ∨ x = gI (gI r (k : Int)) (i : Int) → gI (l.set (gI (gI r (k : Int)) (i : Int)).toNat (gI (gI r (k : Int)) (((i : Int) + 1) % ((gI r (k : Int)).length : Int)))) x = succS r x := by
    intro x hx0 hx1 hx
    rw [gI_set hin.1 (by omega) hx0]
    by_cases e : x = gI (gI r (k : Int)) (i : Int)
    · rw [if_pos e, e, succS_at hr hk hi]
    · rw [if_neg e]
      exact hx.resolve_right e
  refine ⟨by simpa using hl, fun v j hv hvr hj => ?_, fun j hj hjr => ?_⟩
  · have hx := (hr.2.1 v (by omega) _ (gI_mem (xs := gI r (v : Int)) (i := (j : Int)) (by omega) hj)).1
    exact key _ hx.1 hx.2 (.inl (h.old v j hv hvr hj))
  · have hx := (hr.2.1 k (by omega) _ (gI_mem (xs := gI r (k : Int)) (i := (j : Int)) (by omega) hjr)).1
    refine key _ hx.1 hx.2 ?_
    by_cases e : j = i
    · subst e; exact .inr rfl
    · exact .inl (h.row j (by omega) hjr)
theorem BhInv.row_done {l : List Int} {g : Net} {r : Rot} {k i : Nat} (h : BhInv l g r k i) (hi : ¬ (i : Int) < (gI r (k : Int)).length) : BhInv l g r (k + 1) 0 := by
  refine ⟨h.len, fun v j hv hvr hj => ?_, fun j hj => by omega⟩
  by_cases e : v = k
  · subst e; exact h.row j (by omega) hj
  · exact h.old v j (by omega) hvr hj
theorem BhInv.done {l : List Int} {g : Net} {r : Rot} {k i : Nat} (h : BhInv l g r k i) (hr : RotP g r) (hk : ¬ (k : Int) < r.length) {x : Int} (h0 : 0 ≤ x) (h1 : x < 2 * (g.2.length : Int)) : gI l x = succS r x := by
  obtain ⟨v, j, hv, hj, e⟩ := rot_all hr h0 h1
  have := h.old v j (by omega) hv hj
  rw [e] at this
  exact this
/-- the next ones, h of them laid -/
def NeInv (l : List Int) (g : Net) (r : Rot) (h : Nat) : Prop := (l.length : Int) = 2 * (g.2.length : Int) ∧ ∀ j : Nat, j < h → (j : Int) < 2 * (g.2.length : Int) → gI l (j : Int) = succS r (twin (j : Int))
theorem NeInv.start {g : Net} {r : Rot} {n : Int} (h : n = 2 * (g.2.length : Int)) : NeInv (List.replicate n.toNat 0) g r 0 := ⟨by simp; omega, fun j hj => by omega⟩
theorem NeInv.next {l : List Int} {g : Net} {r : Rot} {h : Nat} {x : Int} (hi : NeInv l g r h) (hh : (h : Int) < 2 * (g.2.length : Int)) (hx : x = succS r (twin (h : Int))) : NeInv (l.set (Int.toNat (h : Int)) x) g r (h + 1) := by
  obtain ⟨h1, h2⟩ := hi
  refine ⟨by simpa using h1, fun j hj hjl => ?_⟩
  rw [gI_set (by omega) (by omega) (by omega)]
  by_cases e : j = h
  · subst e; rw [if_pos rfl, hx]
  · rw [if_neg (by omega)]; exact h2 j (by omega) hjl
theorem NeInv.done {l : List Int} {g : Net} {r : Rot} {h : Nat} (hi : NeInv l g r h) (hh : ¬ (h : Int) < l.length) : l = nextS g r := by
  obtain ⟨h1, h2⟩ := hi
  have hn := nextS_len g r
  apply list_ext_gI
  · omega
  · intro q hq
    rw [nextS_gI (by omega) (by omega)]
    exact h2 q (by omega) (by omega)
theorem FaInv.yes' {seen0 seen : List Bool} {l : List (List Int)} {nx S f : List Int} {q : Nat} {k : Int} (h : FaInv seen0 l nx S q) (ho : OrInv seen f nx S q k) (hs : gI seen k = true) (h0 : ¬ gI seen0 (q : Int) = true) (hq : (q : Int) < nx.length) : FaInv seen (l ++ [f]) nx (S ++ f) (q + 1) := by
  refine h.yes ho hs ?_ hq
  have e := ho.done hs
  have hq2 := h.rm.low (by omega) hq h0
  have hb := (h.rm.next (h := (q : Int)) (by omega) hq (Bool.eq_false_iff.2 h0)).bd
  simp only [List.length_append, List.length_cons, List.length_nil] at hb
  rw [orb_go hq2 (by omega)] at e
  rw [e]; simp
def genusS (g : Net) (r : Rot) : Int := Int.tdiv (2 * (partsR g).2.1 - g.1 + (g.2.length : Int) - ((facesS (nextS g r) r).length : Int)) 2
end TL
/-
  TlDual: faces as nodes: the dual, corners' faces, edges laid, taken and split, ways over faces, as plain functions.
  By an AI agent.
-/
set_option linter.all false
namespace TL
def endsS (of : List Int) (e : Int) : Int × Int := (gI of (2 * e), gI of (2 * e + 1))
/-- the dual: of each face a node, of each edge one between its half-edges' faces -/
def dualN (g : Net) (r : Rot) : Net := (((facesR g r).1.length : Int), (iotaI g.2.length).map (endsS (ofR g r).1))
def dualR (g : Net) (r : Rot) : Net × Rot × Int :=
  if (facesR g r).2 = 0 then if MayP (dualN g r) then (dualN g r, (canonR (dualN g r) (facesR g r).1).1, 0) else ((0, []), [], 3)
  else ((0, []), [], (facesR g r).2)
theorem ofS_len (g : Net) (r : Rot) : ((ofS g r).length : Int) = 2 * (g.2.length : Int) := by unfold ofS; rw [ofK_len]; omega
theorem ofR_yes {g : Net} {r : Rot} (h : rmayR g r = 0) : ofR g r = (ofS g r, 0) := if_pos h
theorem facesR_yes {g : Net} {r : Rot} (h : rmayR g r = 0) : facesR g r = (facesS (nextS g r) r, 0) := if_pos h
theorem facesR_len (g : Net) (r : Rot) (hm : MayP g) (hr : RotP g r) : (facesR g r).1.length ≤ 8000 := by
  rw [facesR_yes (rmay_yes hm hr)]
  have h1 := facesS_len (nextS g r) r
  have h2 := nextS_len g r
  obtain ⟨h3, h4, h5, _⟩ := hm
  have h6 := hr.1
  show (facesS (nextS g r) r).length ≤ 8000
  omega
/-- there is such a corner -/
def cornP (g : Net) (r : Rot) (c : Int × Int) : Prop := (0 ≤ c.1 ∧ c.1 < g.1) ∧ if ((gI r c.1).length : Int) = 0 then c.2 = -1 else c.2 ∈ gI r c.1
instance (g : Net) (r : Rot) (c : Int × Int) : Decidable (cornP g r c) := by unfold cornP; infer_instance
theorem corn_no {g : Net} {r : Rot} {c : Int × Int} (h : ¬ (0 ≤ c.1 ∧ c.1 < g.1)) : false = decide (cornP g r c) := (decide_eq_false fun hc => h hc.1).symm
theorem corn_empty {g : Net} {r : Rot} {c : Int × Int} (h : 0 ≤ c.1 ∧ c.1 < g.1) (h0 : ((gI r c.1).length : Int) = 0) : decide (c.2 = -1) = decide (cornP g r c) :=
  decide_eq_decide.2 (by unfold cornP; rw [if_pos h0]; exact ⟨fun x => ⟨h, x⟩, fun x => x.2⟩)
theorem corn_in {g : Net} {r : Rot} {c : Int × Int} (h : 0 ≤ c.1 ∧ c.1 < g.1) (h0 : ¬ ((gI r c.1).length : Int) = 0) : decide (c.2 ∈ gI r c.1) = decide (cornP g r c) :=
  decide_eq_decide.2 (by unfold cornP; rw [if_neg h0]; exact ⟨fun x => ⟨h, x⟩, fun x => x.2⟩)
theorem cont_idx {l : List Int} {x : Int} : decide (0 ≤ idxS l x) = decide (x ∈ l) := by
  unfold idxS
  by_cases h : x ∈ l
  · rw [if_pos h, decide_eq_true h, decide_eq_true (by omega)]
  · rw [if_neg h, decide_eq_false h]; rfl
theorem idx_in {l : List Int} {x : Int} (h : x ∈ l) : 0 ≤ idxS l x ∧ idxS l x < l.length ∧ gI l (idxS l x) = x := by
  unfold idxS
  rw [if_pos h]
  have h1 := List.idxOf_lt_length_iff.2 h
  refine ⟨by omega, by omega, ?_⟩
  simp [gI, h1]
theorem idx_bd (l : List Int) (x : Int) : -1 ≤ idxS l x ∧ idxS l x < l.length := by
  by_cases h : x ∈ l
  · have := idx_in h; omega
  · unfold idxS; rw [if_neg h]; omega
/-- lists without numbers ahead of place k -/
def empK (r : Rot) (k : Nat) : Int := (((r.take k).filter fun l => decide (l.length = 0)).length : Int)
theorem empK_yes {r : Rot} {k : Nat} (hk : (k : Int) < r.length) (h : ((gI r (k : Int)).length : Int) = 0) : empK r (k + 1) = empK r k + 1 := by
  unfold empK
  have h' : (gI r (k : Int)).length = 0 := by omega
  rw [take_succ_gI hk, List.filter_append]
  have : [gI r (k : Int)].filter (fun l => decide (l.length = 0)) = [gI r (k : Int)] := by
    rw [List.filter_cons, decide_eq_true h']; rfl
  rw [this]; simp
theorem empK_no {r : Rot} {k : Nat} (hk : (k : Int) < r.length) (h : ¬ ((gI r (k : Int)).length : Int) = 0) : empK r (k + 1) = empK r k := by
  unfold empK
  have h' : ¬ (gI r (k : Int)).length = 0 := by omega
  rw [take_succ_gI hk, List.filter_append]
  have : [gI r (k : Int)].filter (fun l => decide (l.length = 0)) = [] := by
    rw [List.filter_cons, decide_eq_false h']; rfl
  rw [this]; simp
theorem empK_le (r : Rot) (k : Nat) : 0 ≤ empK r k ∧ empK r k ≤ k := by
  unfold empK
  have h1 := List.length_filter_le (fun l : List Int => decide (l.length = 0)) (r.take k)
  have h2 := List.length_take_le k r
  omega
/-- a corner's face -/
def cfaceS (r : Rot) (of : List Int) (n : Int) (c : Int × Int) : Int :=
  if 0 < ((gI r c.1).length : Int) then gI of (gI (gI r c.1) ((idxS (gI r c.1) c.2 + 1) % ((gI r c.1).length : Int))) else n + empK r c.1.toNat
def filledS (F : Rot) : Int := ((F.filter fun l => decide (0 < (l.length : Int))).length : Int)
theorem filled_yes {F : Rot} {k : Nat} (hk : (k : Int) < F.length) (h : 0 < ((gI F (k : Int)).length : Int)) : filledS (F.take (k + 1)) = filledS (F.take k) + 1 := by
  unfold filledS
  rw [take_succ_gI hk, List.filter_append]
  have : [gI F (k : Int)].filter (fun l => decide (0 < (l.length : Int))) = [gI F (k : Int)] := by
    rw [List.filter_cons, decide_eq_true h]; rfl
  rw [this]; simp
theorem filled_no {F : Rot} {k : Nat} (hk : (k : Int) < F.length) (h : ¬ 0 < ((gI F (k : Int)).length : Int)) : filledS (F.take (k + 1)) = filledS (F.take k) := by
  unfold filledS
  rw [take_succ_gI hk, List.filter_append]
  have : [gI F (k : Int)].filter (fun l => decide (0 < (l.length : Int))) = [] := by
    rw [List.filter_cons, decide_eq_false h]; rfl
  rw [this]; simp
theorem filled_le (F : Rot) : 0 ≤ filledS F ∧ filledS F ≤ F.length := by
  unfold filledS
  have h1 := List.length_filter_le (fun l : List Int => decide (0 < (l.length : Int))) F
  omega
/-- half-edges put behind another one -/
def putS (r : Rot) (c : Int × Int) (hs : List Int) : Rot :=
  r.set c.1.toNat ((gI r c.1).take (idxS (gI r c.1) c.2 + 1).toNat ++ hs ++ (gI r c.1).drop (idxS (gI r c.1) c.2 + 1).toNat)
theorem putS_row {r : Rot} {c : Int × Int} {hs : List Int} (h0 : 0 ≤ c.1) (h1 : c.1 < r.length) {v : Int} (hv : 0 ≤ v) : ((gI (putS r c hs) v).length : Int) ≤ ((gI r v).length : Int) + hs.length := by
  unfold putS
  rw [gI_set h0 h1 hv]
  by_cases e : v = c.1
  · rw [if_pos e, e]; simp; omega
  · rw [if_neg e]; omega
def laidN (g : Net) (a b : Int × Int) : Net := (g.1, g.2 ++ [(a.1, b.1)])
def laidS (g : Net) (r : Rot) (a b : Int × Int) : Rot :=
  if a = b then putS r a [2 * (g.2.length : Int), 2 * (g.2.length : Int) + 1] else putS (putS r a [2 * (g.2.length : Int)]) b [2 * (g.2.length : Int) + 1]
def layR (g : Net) (r : Rot) (a b : Int × Int) : Net × Rot × Int :=
  if (facesR g r).2 = 0 then
    if cornP g r a ∧ cornP g r b then
      if 3072 ≤ (g.2.length : Int) then ((0, []), [], 3)
      else if gI (partsR g).1 a.1 = gI (partsR g).1 b.1 ∧ cfaceS r (ofR g r).1 (filledS (facesR g r).1) a ≠ cfaceS r (ofR g r).1 (filledS (facesR g r).1) b then ((0, []), [], 5)
      else (laidN g a b, (canonR (laidN g a b) (laidS g r a b)).1, 0)
    else ((0, []), [], 2)
  else ((0, []), [], (facesR g r).2)
def adjK (of : List Int) (F : Int) (k : Nat) : Rot :=
  (List.range k).foldl (fun (A : Rot) (e : Nat) =>
    (A.set (endsS of e).1.toNat (gI A (endsS of e).1 ++ [(endsS of e).2])).set (endsS of e).2.toNat (gI (A.set (endsS of e).1.toNat (gI A (endsS of e).1 ++ [(endsS of e).2])) (endsS of e).2 ++ [(endsS of e).1])) (List.replicate F.toNat [])
theorem adjK_succ (of : List Int) (F : Int) (k : Nat) : adjK of F (k + 1) =
    ((adjK of F k).set (endsS of k).1.toNat (gI (adjK of F k) (endsS of k).1 ++ [(endsS of k).2])).set (endsS of k).2.toNat (gI ((adjK of F k).set (endsS of k).1.toNat (gI (adjK of F k) (endsS of k).1 ++ [(endsS of k).2])) (endsS of k).2 ++ [(endsS of k).1]) := by
  unfold adjK
  rw [List.range_succ, List.foldl_append]
  rfl
theorem adjK_len (of : List Int) (F : Int) (k : Nat) : (adjK of F k).length = F.toNat := by
  induction k with
  | zero => simp [adjK]
  | succ k ih => rw [adjK_succ]; simpa using ih
/-- the faces' numbers are below F -/
def OfIn (of : List Int) (F : Int) (m : Nat) : Prop := (of.length : Int) = 2 * (m : Int) ∧ ∀ h, 0 ≤ h → h < 2 * (m : Int) → 0 ≤ gI of h ∧ gI of h < F
theorem OfIn.ends {of : List Int} {F : Int} {m : Nat} (h : OfIn of F m) {e : Nat} (he : (e : Int) < m) : (0 ≤ (endsS of e).1 ∧ (endsS of e).1 < F) ∧ 0 ≤ (endsS of e).2 ∧ (endsS of e).2 < F :=
  ⟨h.2 _ (by omega) (by omega), h.2 _ (by omega) (by omega)⟩
theorem set_row {A : Rot} {a b : Int} {x : Int} (ha : 0 ≤ a) (ha' : a < A.length) (hb : 0 ≤ b) : gI (A.set a.toNat (gI A a ++ [x])) b = if b = a then gI A a ++ [x] else gI A b := gI_set ha ha' hb
/-- who stands beside whom -/
theorem adj_mem {of : List Int} {F : Int} {m : Nat} (h : OfIn of F m) : ∀ k : Nat, k ≤ m → ∀ f, 0 ≤ f → f < F → ((gI (adjK of F k) f).length : Int) ≤ 2 * (k : Int) ∧ ∀ x, x ∈ gI (adjK of F k) f ↔ ∃ e : Nat, e < k ∧ (endsS of e = (f, x) ∨ endsS of e = (x, f)) := by
  intro k
  induction k with
  | zero =>
    intro _ f h0 h1
    have : gI (adjK of F 0) f = [] := gI_rep (n := F.toNat) (x := ([] : List Int)) h0 (by omega)
    rw [this]
    exact ⟨by simp, fun x => by simp⟩
  | succ k ih =>
    intro hk f h0 h1
    obtain ⟨he1, he2⟩ := h.ends (e := k) (by omega)
    have hl := adjK_len of F k
    have ihf := ih (by omega)
    rw [adjK_succ]
    obtain ⟨A, hA⟩ : ∃ A, A = adjK of F k := ⟨_, rfl⟩
    rw [← hA] at ihf hl ⊢
    obtain ⟨⟨a, b⟩, hab⟩ : ∃ p, p = endsS of (k : Int) := ⟨_, rfl⟩
    rw [← hab] at he1 he2 ⊢
    simp only at he1 he2 ⊢
    have hset : gI ((A.set a.toNat (gI A a ++ [b])).set b.toNat (gI (A.set a.toNat (gI A a ++ [b])) b ++ [a])) f = (gI A f ++ (if f = a then [b] else [])) ++ (if f = b then [a] else []) := by
      rw [set_row he2.1 (by simp; omega) h0, set_row he1.1 (by omega) h0, set_row he1.1 (by omega) he2.1]
      by_cases e1 : f = b
      · subst e1
        rw [if_pos rfl, if_pos rfl]
        by_cases e2 : f = a
        · subst e2; simp
        · simp [e2]
      · rw [if_neg e1, if_neg e1]
        by_cases e2 : f = a
        · subst e2; simp
        · simp [e2]
    rw [hset]
    obtain ⟨q1, q2⟩ := ihf f h0 h1
    refine ⟨?_, fun x => ?_⟩
    · have e1 : (if f = a then [b] else ([] : List Int)).length ≤ 1 := by split <;> simp
      have e2 : (if f = b then [a] else ([] : List Int)).length ≤ 1 := by split <;> simp
      simp only [List.length_append]; omega
    · simp only [List.mem_append, q2 x]
      constructor
      · rintro ((⟨e, he, hx⟩ | hx) | hx)
        · exact ⟨e, by omega, hx⟩
        · by_cases e2 : f = a
          · rw [if_pos e2] at hx
            obtain rfl := List.mem_singleton.1 hx
            exact ⟨k, by omega, .inl (by rw [← hab, e2])⟩
          · rw [if_neg e2] at hx; cases hx
        · by_cases e2 : f = b
          · rw [if_pos e2] at hx
            obtain rfl := List.mem_singleton.1 hx
            exact ⟨k, by omega, .inr (by rw [← hab, e2])⟩
          · rw [if_neg e2] at hx; cases hx
      · rintro ⟨e, he, hx⟩
        by_cases ek : e = k
        · subst ek
          rw [← hab] at hx
          rcases hx with hx | hx
          · cases hx; exact .inl (.inr (by simp))
          · cases hx; exact .inr (by simp)
        · exact .inl (.inl ⟨e, by omega, hx⟩)
theorem adj_len {of : List Int} {F : Int} {m : Nat} (h : OfIn of F m) {k : Nat} (hk : (k : Int) ≤ m) {f : Int} (h0 : 0 ≤ f) (h1 : f < F) : ((gI (adjK of F k) f).length : Int) ≤ 2 * (k : Int) := (adj_mem h k (by omega) f h0 h1).1
theorem adj_len2 {of : List Int} {F : Int} {m : Nat} (h : OfIn of F m) {k : Nat} (hk : (k : Int) < m) : ((gI ((adjK of F k).set (endsS of k).1.toNat (gI (adjK of F k) (endsS of k).1 ++ [(endsS of k).2])) (endsS of k).2).length : Int) ≤ 2 * (k : Int) + 1 := by
  obtain ⟨he1, he2⟩ := h.ends (e := k) hk
  have h1 := adj_len h (k := k) (by omega) he1.1 he1.2
  have h2 := adj_len h (k := k) (by omega) he2.1 he2.2
  have hl := adjK_len of F k
  rw [set_row he1.1 (by omega) he2.1]
  by_cases e : (endsS of (k : Int)).2 = (endsS of (k : Int)).1
  · rw [if_pos e]; simp; omega
  · rw [if_neg e]; omega
/-- one step of the search: far, queue -/
def fbOne (f : Int) (s : List Int × List Int) (k : Int) : List Int × List Int := if gI s.1 k < 0 then (s.1.set k.toNat (gI s.1 f + 1), s.2 ++ [k]) else s
def fbRow (A : Rot) (f : Int) (s : List Int × List Int) : List Int × List Int := (gI A f).foldl (fbOne f) s
def fbGo (A : Rot) : Nat → Nat → List Int × List Int → List Int × List Int
  | 0, _, s => s
  | n + 1, i, s => if (i : Int) < s.2.length then fbGo A n (i + 1) (fbRow A (gI s.2 i) s) else s
def far0 (F : Int) (to : List Int) : List Int := to.foldl (fun l f => l.set f.toNat 0) (List.replicate F.toNat (-1))
def farS (m : Nat) (of : List Int) (F : Int) (to : List Int) : List Int := (fbGo (adjK of F m) (F.toNat + to.length) 0 (far0 F to, to)).1
/-- what stays so in the search -/
structure FbOk (F : Int) (B : Nat) (s : List Int × List Int) : Prop where
  len : (s.1.length : Int) = F
  rng : ∀ x ∈ s.2, 0 ≤ x ∧ x < F
  cnt : s.2.length + cntN s.1 ≤ B
  pos : ∀ x ∈ s.2, 0 ≤ gI s.1 x
  le : ∀ x, 0 ≤ x → x < F → -1 ≤ gI s.1 x ∧ gI s.1 x < s.2.length
theorem far0_at {F : Int} (hF : 0 ≤ F) {to : List Int} (ht : ∀ x ∈ to, 0 ≤ x ∧ x < F) {v : Int} (h0 : 0 ≤ v) (h1 : v < F) : gI (far0 F to) v = if v ∈ to then 0 else -1 := by
  unfold far0
  have := gI_fold (n := 0) to (List.replicate F.toNat (-1)) v h0 (by simp; omega) (fun x hx => by have := ht x hx; simp; omega)
  rw [this, gI_rep h0 (by omega)]
theorem far0_len (F : Int) (to : List Int) : (far0 F to).length = F.toNat := by
  unfold far0
  rw [set_fold_len]; simp
theorem FbOk.start {F : Int} (hF : 0 ≤ F) {to : List Int} (ht : ∀ x ∈ to, 0 ≤ x ∧ x < F) : FbOk F (F.toNat + to.length) (far0 F to, to) := by
  have hl := far0_len F to
  refine ⟨by simp only; omega, ht, ?_, fun x hx => ?_, fun x h0 h1 => ?_⟩
  · have := cntN_le (far0 F to)
    simp only; omega
  · have := ht x hx
    show 0 ≤ gI (far0 F to) x
    rw [far0_at hF ht this.1 this.2, if_pos hx]; omega
  · show -1 ≤ gI (far0 F to) x ∧ gI (far0 F to) x < (to.length : Int)
    rw [far0_at hF ht h0 h1]
    split
    · rename_i h
      have := List.length_pos_of_mem h
      omega
    · omega
theorem FbOk.one {F : Int} {B : Nat} {s : List Int × List Int} (h : FbOk F B s) {f k : Int} (hf : f ∈ s.2) (h0 : 0 ≤ k) (h1 : k < F) : FbOk F B (fbOne f s k) ∧ (∃ t, (fbOne f s k).2 = s.2 ++ t) := by
  unfold fbOne
  by_cases c : gI s.1 k < 0
  · rw [if_pos c]
    have hl := h.len
    have hp := h.pos f hf
    have hfr := h.rng f hf
    have hfl := h.le f hfr.1 hfr.2
    refine ⟨⟨by simpa using hl, fun x hx => ?_, ?_, fun x hx => ?_, fun x x0 x1 => ?_⟩, [k], rfl⟩
    · rcases List.mem_append.1 hx with hx | hx
      · exact h.rng x hx
      · obtain rfl := List.mem_singleton.1 hx; exact ⟨h0, h1⟩
    · have h2 := cntN_set (n := gI s.1 f + 1) h0 (by omega) c (by omega)
      have h3 := h.cnt
      simp only [List.length_append, List.length_cons, List.length_nil]; omega
    · show 0 ≤ gI (s.1.set k.toNat (gI s.1 f + 1)) x
      have hx0 : 0 ≤ x := by
        rcases List.mem_append.1 hx with hx | hx
        · exact (h.rng x hx).1
        · obtain rfl := List.mem_singleton.1 hx; exact h0
      rw [gI_set h0 (by omega) hx0]
      by_cases e : x = k
      · rw [if_pos e]; omega
      · rw [if_neg e]
        rcases List.mem_append.1 hx with hx | hx
        · exact h.pos x hx
        · exact absurd (List.mem_singleton.1 hx) e
    · show -1 ≤ gI (s.1.set k.toNat (gI s.1 f + 1)) x ∧ gI (s.1.set k.toNat (gI s.1 f + 1)) x < ((s.2 ++ [k]).length : Int)
      have := h.le x x0 x1
      rw [gI_set h0 (by omega) x0]
      simp only [List.length_append, List.length_cons, List.length_nil]
      split <;> omega
  · rw [if_neg c]
    exact ⟨h, [], by simp⟩
/-- a face's neighbours, j of them looked at -/
structure FbRow (s s0 : List Int × List Int) (A : Rot) (F : Int) (B : Nat) (f : Int) (j : Nat) : Prop where
  eq : s = ((gI A f).take j).foldl (fbOne f) s0
  ok : FbOk F B s
  mem : f ∈ s.2
theorem FbRow.start {s : List Int × List Int} {A : Rot} {F : Int} {B : Nat} {f : Int} (h : FbOk F B s) (hf : f ∈ s.2) : FbRow s s A F B f 0 := ⟨rfl, h, hf⟩
theorem FbRow.next {s s0 : List Int × List Int} {A : Rot} {F : Int} {B : Nat} {f : Int} {j : Nat} (h : FbRow s s0 A F B f j) (hj : (j : Int) < (gI A f).length) (h0 : 0 ≤ gI (gI A f) (j : Int)) (h1 : gI (gI A f) (j : Int) < F) : FbRow (fbOne f s (gI (gI A f) (j : Int))) s0 A F B f (j + 1) := by
  obtain ⟨h2, t, ht⟩ := h.ok.one h.mem h0 h1
  refine ⟨?_, h2, by rw [ht]; exact List.mem_append_left _ h.mem⟩
  rw [take_succ_gI hj, List.foldl_append, ← h.eq]
  rfl
theorem FbRow.yes {a q : List Int} {s0 : List Int × List Int} {A : Rot} {F : Int} {B : Nat} {f : Int} {j : Nat} (h : FbRow (a, q) s0 A F B f j) (hj : (j : Int) < (gI A f).length) (h0 : 0 ≤ gI (gI A f) (j : Int)) (h1 : gI (gI A f) (j : Int) < F) (c : gI a (gI (gI A f) (j : Int)) < 0) :
    FbRow (a.set (gI (gI A f) (j : Int)).toNat (gI a f + 1), q ++ [gI (gI A f) (j : Int)]) s0 A F B f (j + 1) := by
  have := h.next hj h0 h1
  unfold fbOne at this
  rwa [if_pos c] at this
theorem FbRow.no {a q : List Int} {s0 : List Int × List Int} {A : Rot} {F : Int} {B : Nat} {f : Int} {j : Nat} (h : FbRow (a, q) s0 A F B f j) (hj : (j : Int) < (gI A f).length) (h0 : 0 ≤ gI (gI A f) (j : Int)) (h1 : gI (gI A f) (j : Int) < F) (c : ¬ gI a (gI (gI A f) (j : Int)) < 0) : FbRow (a, q) s0 A F B f (j + 1) := by
  have := h.next hj h0 h1
  unfold fbOne at this
  rwa [if_neg c] at this
theorem FbRow.facts {a q : List Int} {s0 : List Int × List Int} {A : Rot} {F : Int} {B : Nat} {f : Int} {j : Nat} (h : FbRow (a, q) s0 A F B f j) : (a.length : Int) = F ∧ (q.length : Int) ≤ B ∧ (0 ≤ f ∧ f < F) ∧ 0 ≤ gI a f ∧ gI a f ≤ q.length := by
  have h1 := h.ok.len
  have h2 := h.ok.cnt
  have h3 := h.ok.rng f h.mem
  have h4 := h.ok.le f h3.1 h3.2
  have h5 := h.ok.pos f h.mem
  simp only at h1 h2 h4 h5
  exact ⟨h1, by omega, h3, h5, by omega⟩
/-- the search, i faces done -/
structure FbGo (s sa : List Int × List Int) (A : Rot) (F : Int) (B i : Nat) : Prop where
  ok : FbOk F B s
  le : (i : Int) ≤ s.2.length
  eq : fbGo A (B - i) i s = fbGo A B 0 sa
theorem FbGo.start {s : List Int × List Int} {A : Rot} {F : Int} {B : Nat} (h : FbOk F B s) : FbGo s s A F B 0 := ⟨h, by omega, rfl⟩
theorem FbGo.facts {a q : List Int} {sa : List Int × List Int} {A : Rot} {F : Int} {B i : Nat} (h : FbGo (a, q) sa A F B i) : (a.length : Int) = F ∧ (q.length : Int) ≤ B ∧ (i : Int) ≤ q.length := by
  have h1 := h.ok.len
  have h2 := h.ok.cnt
  have h3 := h.le
  simp only at h1 h2 h3
  exact ⟨h1, by omega, h3⟩
theorem FbGo.node {a q : List Int} {sa : List Int × List Int} {A : Rot} {F : Int} {B i : Nat} (h : FbGo (a, q) sa A F B i) (hi : (i : Int) < q.length) : 0 ≤ gI q (i : Int) ∧ gI q (i : Int) < F := h.ok.rng _ (gI_mem (by omega) hi)
theorem FbGo.row {a q : List Int} {sa : List Int × List Int} {A : Rot} {F : Int} {B i : Nat} (h : FbGo (a, q) sa A F B i) (hi : (i : Int) < q.length) : FbRow (a, q) (a, q) A F B (gI q (i : Int)) 0 := FbRow.start h.ok (gI_mem (by omega) hi)
theorem fbFold_pre (f : Int) : ∀ (l : List Int) (s : List Int × List Int), ∃ t, (l.foldl (fbOne f) s).2 = s.2 ++ t
  | [], s => ⟨[], by simp⟩
  | k :: l, s => by
    obtain ⟨t, ht⟩ := fbFold_pre f l (fbOne f s k)
    simp only [List.foldl_cons]
    have : ∃ t', (fbOne f s k).2 = s.2 ++ t' := by
      unfold fbOne
      split
      · exact ⟨[k], rfl⟩
      · exact ⟨[], by simp⟩
    obtain ⟨t', ht'⟩ := this
    exact ⟨t' ++ t, by rw [ht, ht', List.append_assoc]⟩
theorem FbGo.next {s s' sa : List Int × List Int} {A : Rot} {F : Int} {B i j : Nat} (h : FbGo s sa A F B i) (hi : (i : Int) < s.2.length) (hr : FbRow s' s A F B (gI s.2 (i : Int)) j) (hj : ¬ (j : Int) < (gI A (gI s.2 (i : Int))).length) : FbGo s' sa A F B (i + 1) := by
  have e : s' = fbRow A (gI s.2 (i : Int)) s := by rw [hr.eq, List.take_of_length_le (by omega)]; rfl
  obtain ⟨t, ht⟩ := fbFold_pre (gI s.2 (i : Int)) (gI A (gI s.2 (i : Int))) s
  have e2 : s'.2 = s.2 ++ t := by rw [e]; exact ht
  refine ⟨hr.ok, by rw [e2]; simp; omega, ?_⟩
  have hc := h.ok.cnt
  rw [← h.eq, show B - i = (B - (i + 1)) + 1 by omega]
  simp only [fbGo]
  rw [if_pos hi, ← e]
theorem FbGo.done {s sa : List Int × List Int} {A : Rot} {F : Int} {B i : Nat} (h : FbGo s sa A F B i) (hi : ¬ (i : Int) < s.2.length) : s = fbGo A B 0 sa := by
  rw [← h.eq]
  cases hB : B - i with
  | zero => rfl
  | succ n => simp only [fbGo]; rw [if_neg hi]
end TL
namespace TL
theorem adj_rng {of : List Int} {F : Int} {m : Nat} (ho : OfIn of F m) {f : Int} (h0 : 0 ≤ f) (h1 : f < F) {k : Int} (hk : k ∈ gI (adjK of F m) f) : 0 ≤ k ∧ k < F := by
  obtain ⟨e, he, h⟩ := ((adj_mem ho m (Nat.le_refl _) f h0 h1).2 k).1 hk
  have := ho.ends (e := e) (by omega)
  rcases h with h | h
  · rw [h] at this; exact this.2
  · rw [h] at this; exact this.1
end TL
namespace TL
theorem rot_rows {g : Net} {r : Rot} (hm : MayP g) (hr : RotP g r) : ∀ l ∈ r, l.length ≤ 1000000 := fun l hl => by
  have := (sub_flat hl).length_le
  have h2 := hr.2.2.2
  have h3 := hm.2.2.1
  omega
end TL
namespace TL
theorem gI_take {α : Type} [Inhabited α] {xs : List α} {n k : Nat} (h : k < n) : gI (xs.take n) (k : Int) = gI xs (k : Int) := by
  unfold gI
  rw [List.getD_eq_getElem?_getD, List.getD_eq_getElem?_getD, Int.toNat_natCast, List.getElem?_take_of_lt h]
theorem partsR_len {g : Net} (hm : MayP g) : ((partsR g).1.length : Int) = g.1 := by
  have := parts_len g g.1.toNat
  have h0 := hm.1
  unfold partsR
  rw [if_pos hm]
  simp only
  omega
theorem corn_pre {g : Net} {r : Rot} (hm : MayP g) (hr : RotP g r) {c : Int × Int} (h : cornP g r c) : (0 ≤ c.1 ∧ c.1 < (r.length : Int)) ∧ (0 < ((gI r c.1).length : Int) → c.2 ∈ gI r c.1) ∧ (∀ h ∈ gI r c.1, 0 ≤ h ∧ h < 2 * (g.2.length : Int)) ∧ ((gI r c.1).length : Int) ≤ 2 * (g.2.length : Int) := by
  obtain ⟨h1, h2⟩ := h
  have hl := hr.1
  have hv : ((c.1.toNat : Nat) : Int) = c.1 := Int.toNat_of_nonneg h1.1
  refine ⟨⟨h1.1, by omega⟩, fun h0 => ?_, fun x hx => ?_, ?_⟩
  · rwa [if_neg (by omega)] at h2
  · have := (hr.2.1 c.1.toNat (by omega) x (by rw [hv]; exact hx)).1
    exact this
  · have := row_len hr (k := c.1.toNat) (by omega)
    rwa [hv] at this
section
variable {g : Net} {r : Rot} {a b : Int × Int}
theorem layR_no (h : ¬ (facesR g r).2 = 0) : layR g r a b = ((0, []), [], (facesR g r).2) := if_neg h
theorem layR_bd (h : (facesR g r).2 = 0) (hc : ¬ decide (cornP g r a) = true ∨ ¬ decide (cornP g r b) = true) : layR g r a b = ((0, []), [], 2) := by
  unfold layR
  rw [if_pos h, if_neg (fun c => by rw [decide_eq_true_eq, decide_eq_true_eq] at hc; exact hc.elim (fun n => n c.1) (fun n => n c.2))]
theorem layR_lim (h : (facesR g r).2 = 0) (ha : decide (cornP g r a) = true) (hb : decide (cornP g r b) = true) (hl : 3072 ≤ (g.2.length : Int)) : layR g r a b = ((0, []), [], 3) := by
  unfold layR
  rw [if_pos h, if_pos ⟨of_decide_eq_true ha, of_decide_eq_true hb⟩, if_pos hl]
theorem layR_gen (h : (facesR g r).2 = 0) (ha : decide (cornP g r a) = true) (hb : decide (cornP g r b) = true) (hl : ¬ 3072 ≤ (g.2.length : Int)) (hp : gI (partsR g).1 a.1 = gI (partsR g).1 b.1) (hf : ¬ cfaceS r (ofR g r).1 (filledS (facesR g r).1) a = cfaceS r (ofR g r).1 (filledS (facesR g r).1) b) : layR g r a b = ((0, []), [], 5) := by
  unfold layR
  rw [if_pos h, if_pos ⟨of_decide_eq_true ha, of_decide_eq_true hb⟩, if_neg hl, if_pos ⟨hp, hf⟩]
theorem layR_ok (h : (facesR g r).2 = 0) (ha : decide (cornP g r a) = true) (hb : decide (cornP g r b) = true) (hl : ¬ 3072 ≤ (g.2.length : Int)) (hp : ¬ gI (partsR g).1 a.1 = gI (partsR g).1 b.1 ∨ cfaceS r (ofR g r).1 (filledS (facesR g r).1) a = cfaceS r (ofR g r).1 (filledS (facesR g r).1) b) : layR g r a b = (laidN g a b, (canonR (laidN g a b) (laidS g r a b)).1, 0) := by
  unfold layR
  rw [if_pos h, if_pos ⟨of_decide_eq_true ha, of_decide_eq_true hb⟩, if_neg hl, if_neg (fun c => hp.elim (fun n => n c.1) (fun n => c.2 n))]
end
end TL
/-
  TlIns: the library's Insert into a list of numbers that the call owns.
  By an AI agent.
-/
set_option linter.all false
namespace TL
open Go Go.Proofs Go.Shelf
/-- cells set one by one -/
structure Scs (w w' : World) (b o : Nat) (vs : List Value) (c : Array Value) (e : TypeId) : Prop where
  os : w'.os = w.os
  tape : w'.tape = w.tape
  output : w'.output = w.output
  drawn : w'.drawn = w.drawn
  size : w'.heap.size = w.heap.size
  other : ∀ k, k ≠ b → w'.heap[k]? = w.heap[k]?
  at_ : ∃ c', w'.heap[b]? = some (.cells c' e (0, 0)) ∧ c'.size = c.size ∧ ∀ k, c'[k]? = if o ≤ k ∧ k < o + vs.length then vs[k - o]? else c[k]?
theorem scs (b : Nat) (e : TypeId) : ∀ (vs : List Value) (o : Nat) (w : World) (c : Array Value), w.heap[b]? = some (.cells c e (0, 0)) → o + vs.length ≤ c.size → Scs w (w.setCells b o vs) b o vs c e
  | [], o, w, c, h, _ => ⟨rfl, rfl, rfl, rfl, rfl, fun _ _ => rfl, c, h, rfl, fun k => by rw [if_neg (by rintro ⟨h1, h2⟩; simp at h2; omega)]⟩
  | v :: r, o, w, c, h, hl => by
    have hl' : o + 1 + r.length ≤ c.size := by simp at hl; omega
    simp only [List.length_cons] at hl
    have hb := heap_lt h
    have h1 : (w.setCell ⟨b, o, none⟩ v).heap[b]? = some (.cells (c.setIfInBounds o v) e (0, 0)) := by
      simp only [World.setCell, Array.getElem?_modify, if_true, h, Option.map_some]
      simp
    have ih := scs b e r (o + 1) (w.setCell ⟨b, o, none⟩ v) (c.setIfInBounds o v) h1 (by simpa using hl')
    obtain ⟨i1, i2, i3, i4, i5, i6, c', i7, i8, i9⟩ := ih
    refine ⟨i1, i2, i3, i4, by rw [World.setCells, i5]; simp [World.setCell], fun k hk => ?_, c', i7, by rw [i8]; simp, fun k => ?_⟩
    · rw [World.setCells, i6 k hk]
      simp [World.setCell, Array.getElem?_modify, Ne.symm hk]
    · rw [i9 k]
      simp only [List.length_cons]
      by_cases k1 : o + 1 ≤ k ∧ k < o + 1 + r.length
      · rw [if_pos k1, if_pos (by omega), show k - o = (k - (o + 1)) + 1 by omega]; simp
      · rw [if_neg k1]
        by_cases k2 : k = o
        · subst k2
          have hlt : k < c.size := by omega
          rw [if_pos (by omega), Nat.sub_self]
          simp [hlt]
        · rw [if_neg (by omega), Array.getElem?_setIfInBounds_ne (Ne.symm k2)]
theorem Scs.chg {γ : Cmap} {J : Col → Prop} {w w' : World} {b o : Nat} {vs : List Value} {c : Array Value} {e : TypeId} (h : Scs w w' b o vs c e) (hJ : J (γ b)) : Chg J γ w γ w' :=
  ⟨h.os, h.tape, h.output, by rw [h.size]; exact Nat.le_refl _, fun _ _ _ => rfl, fun k _ hn => h.other k (fun e => hn (by rw [e]; exact hJ)), by rw [h.drawn]; exact Nat.le_refl _⟩
def vI (xs : List Int) : List Value := xs.map fun x => .int .i64 x
/-- what stands in a block is a list -/
theorem ow_of {γ : Cmap} {J S : Col → Prop} {w : World} {b cap : Nat} {c : Array Value} {e : TypeId} {xs : List Int} (hb : w.heap[b]? = some (.cells c e (0, 0))) (hJ : J (γ b)) (hsz : c.size = cap) (hc : xs.length ≤ cap) (hl : xs.length ≤ 1099511627776) (hm : cap ≤ maxLen)
    (h : ∀ k, k < xs.length → c[k]? = (vI xs)[k]?) : Ow γ J S w (.slice (some ⟨b, 0, none⟩) xs.length cap) xs := by
  refine .inr ⟨b, cap, c, e, rfl, ⟨hc, hl⟩, hm, hJ, hb, by rw [hsz]; exact (Nat.mul_one cap).symm, fun k x hk => ⟨[.int .i64 x], fun j hj => ?_, rfl⟩⟩
  have hj0 : j = 0 := by have : j < 1 := hj; omega
  subst hj0
  have hk' := (List.getElem?_eq_some_iff.1 hk).1
  have := h k hk'
  rw [show k * Rp.sz Int + 0 = k from Nat.mul_one k, this]
  simp [vI, hk]
theorem ow_at_int {γ : Cmap} {J S : Col → Prop} {w : World} {v : Value} {xs : List Int} (h : Ow γ J S w v xs) (h0 : xs ≠ []) : ∃ b cap c e, v = .slice (some ⟨b, 0, none⟩) xs.length cap ∧ xs.length ≤ cap ∧ cap ≤ maxLen ∧ J (γ b) ∧ w.heap[b]? = some (.cells c e (0, 0)) ∧ c.size = cap ∧ ∀ k, k < xs.length → c[k]? = (vI xs)[k]? := by
  rcases h with ⟨_, h⟩ | ⟨b, cap, c, e, rfl, hc, hm, hJ, hb, hsz, hx⟩
  · exact absurd h h0
  · refine ⟨b, cap, c, e, rfl, hc.1, hm, hJ, hb, by rw [hsz]; exact Nat.mul_one cap, fun k hk => ?_⟩
    obtain ⟨cs, h1, h2⟩ := hx k xs[k] (by simp [hk])
    have h2 : cs = [.int .i64 xs[k]] := h2
    have h1 := h1 0 Nat.zero_lt_one
    rw [show k * Rp.sz Int + 0 = k from Nat.mul_one k] at h1
    rw [h1, h2]
    simp [vI, hk]
theorem vI_len (xs : List Int) : (vI xs).length = xs.length := by simp [vI]
theorem vI_one (xs : List Int) : ∀ v ∈ vI xs, v.oneCell' = true := by
  intro v hv
  obtain ⟨x, _, rfl⟩ := List.mem_map.1 hv
  rfl
theorem insL_get {α : Type} (X Y : List α) (i k : Nat) (hi : i ≤ X.length) : (X.take i ++ Y ++ X.drop i)[k]? = if k < i then X[k]? else if k < i + Y.length then Y[k - i]? else X[k - Y.length]? := by
  have hm : (X.take i).length = i := by simp; omega
  by_cases h1 : k < i
  · rw [if_pos h1, List.append_assoc, List.getElem?_append_left (by omega), List.getElem?_take_of_lt h1]
  · rw [if_neg h1]
    by_cases h2 : k < i + Y.length
    · rw [if_pos h2, List.getElem?_append_left (by simp; omega), List.getElem?_append_right (by omega), hm]
    · rw [if_neg h2, List.getElem?_append_right (by simp; omega), List.getElem?_drop]
      congr 1
      simp; omega
theorem zc_size (z : Array Value) (n : Nat) (hz : z.size = 1) : (Builtin.zeroCells z n).size = n := by simp [Builtin.zeroCells, hz]
set_option maxHeartbeats 1000000 in
theorem ins_calls {P : Program} {ρ : Ren} (L : Lays2.n21 P ρ) {γ : Cmap} {J K S S' : Col → Prop} (cJ : Col) (hcJ : J cJ) {w : World} {v u : Value} {xs ys : List Int} {i : Int} (hx : Ow γ J S w v xs) (hy : Ow γ K S' w u ys) (hJK : ∀ c, J c → ¬ K c) (h0 : 0 ≤ i) (hi : i ≤ xs.length) (hm : ys ≠ []) (hlen : xs.length + ys.length ≤ 1000000) :
    Calls P (ρ.f 21) #[v, .int .i64 i, u] w fun e w' => ∃ x : Cmap × Value, e = .returned x.2 ∧ (Chg J γ w x.1 w' ∧ Ow x.1 J S w' x.2 (xs.take i.toNat ++ ys ++ xs.drop i.toNat)) := by
  obtain ⟨vb, cap2, c2, e2, rfl, hc2, hm2, hK, hvb, hsz2, hat2⟩ := ow_at_int hy hm
  obtain ⟨i, rfl⟩ : ∃ k : Nat, i = (k : Int) := ⟨i.toNat, by omega⟩
  simp only [Int.toNat_natCast]
  have hm0 : 0 < ys.length := by
    cases ys with
    | nil => exact absurd rfl hm
    | cons _ _ => simp
  have hvs : ∀ j q, (vI ys)[j]? = some q → w.cell? ⟨vb, 0 + j, none⟩ = some q := fun j q hj => by
    have hj' : j < ys.length := by have := (List.getElem?_eq_some_iff.1 hj).1; rwa [vI_len] at this
    simp only [World.cell?, hvb, Nat.zero_add]
    rw [← hj]; simpa using hat2 j hj'
  have hXl : (xs.take i ++ ys ++ xs.drop i).length = xs.length + ys.length := by simp; omega
  have hvX : vI (xs.take i ++ ys ++ xs.drop i) = (vI xs).take i ++ vI ys ++ (vI xs).drop i := by simp [vI, List.map_take, List.map_drop]
  have hXg : ∀ k, (vI (xs.take i ++ ys ++ xs.drop i))[k]? = if k < i then (vI xs)[k]? else if k < i + ys.length then (vI ys)[k - i]? else (vI xs)[k - ys.length]? := fun k => by
    rw [hvX, insL_get _ _ _ _ (by rw [vI_len]; omega), vI_len]
  have hge := fun old => grownCap_ge w (xs.length + ys.length) old (ρ.t 3)
  have hle := fun old => grownCap_le_maxLen w (xs.length + ys.length) old (ρ.t 3) (by unfold maxLen; omega)
  -- a new row: the numbers, then more
  have endgrow : ∀ (old : Nat), i = xs.length → ∀ w', w' = w.drew.alloc (.cells ((vI xs ++ vI ys).toArray ++ Builtin.zeroCells (Value.int .i64 0).cells (grownCap w (xs.length + ys.length) old (ρ.t 3) - (xs.length + ys.length))) (ρ.t 3)) →
      Chg J γ w (cset γ w.heap.size cJ) w' ∧ Ow (cset γ w.heap.size cJ) J S w' (.slice (some ⟨w.heap.size, 0, none⟩) (xs.length + ys.length) (grownCap w (xs.length + ys.length) old (ρ.t 3))) (xs.take i ++ ys ++ xs.drop i) := by
    intro old hin w' hw'
    subst hw'
    have hge := hge old
    refine ⟨?_, ?_⟩
    · have h1 := (Chg.refl J γ w).drew
      have h2 : Chg no γ w.drew (cset γ w.drew.heap.size cJ) (w.drew.alloc _) := chg_alloc γ w.drew (.cells ((vI xs ++ vI ys).toArray ++ Builtin.zeroCells (Value.int .i64 0).cells (grownCap w (xs.length + ys.length) old (ρ.t 3) - (xs.length + ys.length))) (ρ.t 3)) cJ
      exact h1.trans h2 (fun b _ h => h.elim id (fun h => h.elim))
    · have hw : ∀ o, (w.drew.alloc o).heap[w.heap.size]? = some o := fun o => heap_alloc_new' w.drew o
      have := ow_of (xs := xs.take i ++ ys ++ xs.drop i) (J := J) (S := S) (γ := cset γ w.heap.size cJ) (cap := grownCap w (xs.length + ys.length) old (ρ.t 3)) (hw (.cells ((vI xs ++ vI ys).toArray ++ Builtin.zeroCells (Value.int .i64 0).cells (grownCap w (xs.length + ys.length) old (ρ.t 3) - (xs.length + ys.length))) (ρ.t 3))) (by simpa [cset] using hcJ) ?_ (by rw [hXl]; exact hge) (by rw [hXl]; omega) (hle old) (fun k hk => ?_)
      · rw [hXl] at this; exact this
      · rw [Array.size_append, zc_size _ _ rfl]
        simp only [List.size_toArray, List.length_append, vI_len]; omega
      · rw [hXl] at hk
        rw [hXg, Array.getElem?_append_left (by simp [vI_len]; omega), List.getElem?_toArray]
        subst hin
        by_cases h1 : k < xs.length
        · rw [if_pos h1, List.getElem?_append_left (by rw [vI_len]; exact h1)]
        · rw [if_neg h1, if_pos (by omega), List.getElem?_append_right (by rw [vI_len]; omega), vI_len]
  by_cases hxe : xs = []
  · -- nothing there
    subst hxe
    have hi0 : i = 0 := by simp at hi; omega
    subst hi0
    rcases hx with ⟨rfl, _⟩ | ⟨b, cap, c, e, rfl, hc, hmx, hJ, hb, hsz, _⟩
    · have key := Any2.slices_Insert_int_end_grow L none 0 0 vb 0 ys.length cap2 [] (vI ys) w hm0 (Nat.le_refl _) (by omega) (by simp at hlen; omega) rfl (vI_len ys) (fun _ => rfl) (fun a h => by cases h) hvs (vI_one ys)
      refine key.mono fun e w' ⟨h1, h2⟩ => ?_
      have := endgrow 0 rfl w' (by simpa [vI] using h2)
      simp only [List.length_nil, Nat.zero_add] at this h1
      exact ⟨(_, _), h1, this⟩
    · have hsz : c.size = cap := by rw [hsz]; exact Nat.mul_one cap
      by_cases hroom : 0 + ys.length ≤ cap
      · have key := Any2.slices_Insert_int_end_room L b 0 0 cap vb 0 ys.length cap2 (vI ys) w hm0 hroom (by unfold maxLen at hmx; omega) (vI_len ys)
          (fun j hj => by simp only [World.cell?, hb]; simp; omega) (fun j hj => by simp [World.frozen?, hb]) hvs (vI_one ys)
        refine key.mono fun e' w' ⟨h1, h2⟩ => ?_
        have hs := scs b e (vI ys) 0 w c hb (by rw [vI_len]; omega)
        simp only [Nat.add_zero, Nat.zero_add, Nat.zero_add] at h2 h1
        rw [← h2] at hs
        obtain ⟨c', q1, q2, q3⟩ := hs.at_
        refine ⟨(γ, _), h1, hs.chg hJ, ?_⟩
        have := ow_of (xs := ys) (J := J) (S := S) (γ := γ) (cap := cap) q1 hJ (by rw [q2, hsz]) (by omega) (by omega) hmx (fun k hk => by rw [q3, if_pos (by rw [vI_len]; omega)]; simp)
        simpa using this
      · have key := Any2.slices_Insert_int_end_grow L (some ⟨b, 0, none⟩) 0 cap vb 0 ys.length cap2 [] (vI ys) w hm0 (Nat.zero_le _) (by omega) (by simp at hlen; omega) rfl (vI_len ys) (fun h => by cases h) (fun a _ j q hq => by simp at hq) hvs (vI_one ys)
        refine key.mono fun e w' ⟨h1, h2⟩ => ?_
        have := endgrow cap rfl w' (by simpa [vI] using h2)
        simp only [List.length_nil, Nat.zero_add] at this h1
        exact ⟨(_, _), h1, this⟩
  · obtain ⟨b, cap, c, e, rfl, hc, hmx, hJ, hb, hsz, hat⟩ := ow_at_int hx hxe
    have hcs : ∀ j q, (vI xs)[j]? = some q → w.cell? ⟨b, 0 + j, none⟩ = some q := fun j q hj => by
      have hj' : j < xs.length := by have := (List.getElem?_eq_some_iff.1 hj).1; rwa [vI_len] at this
      simp only [World.cell?, hb, Nat.zero_add]
      rw [← hj]; simpa using hat j hj'
    have hne : vb ≠ b := fun h => by subst h; exact hJK _ hJ hK
    by_cases hin : i = xs.length
    · subst hin
      by_cases hroom : xs.length + ys.length ≤ cap
      · have key := Any2.slices_Insert_int_end_room L b 0 xs.length cap vb 0 ys.length cap2 (vI ys) w hm0 hroom (by unfold maxLen at hmx; omega) (vI_len ys)
          (fun j hj => by simp only [World.cell?, hb]; simp; omega) (fun j hj => by simp [World.frozen?, hb]) hvs (vI_one ys)
        refine key.mono fun e' w' ⟨h1, h2⟩ => ?_
        have hs := scs b e (vI ys) xs.length w c hb (by rw [vI_len]; omega)
        simp only [Nat.zero_add] at h2
        rw [← h2] at hs
        obtain ⟨c', q1, q2, q3⟩ := hs.at_
        refine ⟨(γ, _), h1, hs.chg hJ, ?_⟩
        have := ow_of (xs := xs.take xs.length ++ ys ++ xs.drop xs.length) (J := J) (S := S) (γ := γ) (cap := cap) q1 hJ (by rw [q2, hsz]) (by rw [hXl]; omega) (by rw [hXl]; omega) hmx (fun k hk => by
          rw [hXl] at hk
          rw [q3, hXg, vI_len]
          by_cases k1 : k < xs.length
          · rw [if_neg (by omega), if_pos k1]; exact hat k k1
          · rw [if_pos (by omega), if_neg k1, if_pos (by omega)])
        rw [hXl] at this
        exact this
      · have key := Any2.slices_Insert_int_end_grow L (some ⟨b, 0, none⟩) xs.length cap vb 0 ys.length cap2 (vI xs) (vI ys) w hm0 hc (by omega) (by omega) (vI_len xs) (vI_len ys) (fun h => by cases h) (fun a ha j q hq => by
          cases ha
          rw [Addr.add_lit]; exact hcs j q hq) hvs (vI_one ys)
        exact key.mono fun e w' ⟨h1, h2⟩ => ⟨(_, _), h1, endgrow cap rfl w' h2⟩
    · have hlt : i < xs.length := by omega
      by_cases hroom : xs.length + ys.length ≤ cap
      · have key := Any2.slices_Insert_int_shift L b 0 xs.length cap i vb 0 ys.length cap2 (vI xs) (vI ys) w hlt hm0 hroom (by unfold maxLen at hmx; omega) hne (vI_len xs) (vI_len ys) hcs
          (fun j hj => by simp only [World.cell?, hb]; simp; omega) (fun j hj => by simp [World.frozen?, hb]) hvs (vI_one xs) (vI_one ys) e2 e c2.size c.size (by simp [World.shape?, hvb]) (by simp [World.shape?, hb]) (by omega) (by simp [World.frozen?, hvb]) (by simp [World.frozen?, hvb])
        refine key.mono fun e' w' ⟨h1, h2⟩ => ?_
        simp only [Nat.zero_add] at h2
        have hd0 : w.drew.heap[b]? = some (.cells c e (0, 0)) := hb
        have hs := scs b e ((vI xs).drop i) (i + ys.length) w.drew c hd0 (by rw [List.length_drop, vI_len]; omega)
        obtain ⟨c', q1, q2, q3⟩ := hs.at_
        have ht := scs b e (vI ys) i _ c' q1 (by rw [vI_len]; omega)
        rw [← h2] at ht
        obtain ⟨c'', p1, p2, p3⟩ := ht.at_
        refine ⟨(γ, _), h1, ?_, ?_⟩
        · have g1 := (Chg.refl J γ w).drew
          exact (g1.trans (hs.chg hJ) (fun b _ h => h.elim id id)).trans (ht.chg hJ) (fun b _ h => h.elim id id)
        · have := ow_of (xs := xs.take i ++ ys ++ xs.drop i) (J := J) (S := S) (γ := γ) (cap := cap) p1 hJ (by rw [p2, q2, hsz]) (by rw [hXl]; omega) (by rw [hXl]; omega) hmx (fun k hk => by
            rw [hXl] at hk
            rw [p3, hXg, vI_len]
            by_cases k1 : k < i
            · rw [if_neg (by omega), if_pos k1, q3, if_neg (by omega)]; exact hat k (by omega)
            · by_cases k2 : k < i + ys.length
              · rw [if_pos (by omega), if_neg k1, if_pos k2]
              · rw [if_neg (by omega), if_neg k1, if_neg k2, q3, if_pos (by rw [List.length_drop, vI_len]; omega), List.getElem?_drop]
                congr 1; omega)
          rw [hXl] at this
          exact this
      · have key := Any2.slices_Insert_int_grow L b 0 xs.length cap i vb 0 ys.length cap2 (vI xs) (vI ys) w hlt hm0 hc (by omega) (by omega) (vI_len xs) (vI_len ys) hcs hvs (vI_one xs) (vI_one ys)
        refine key.mono fun e' w' ⟨h1, h2⟩ => ?_
        obtain ⟨G, hG⟩ : ∃ G, G = grownCap w (xs.length + ys.length) cap (ρ.t 3) := ⟨_, rfl⟩
        have hge := hge cap
        have hle := hle cap
        rw [← hG] at h1 h2 hge hle
        obtain ⟨A, hA⟩ : ∃ A, A = ((vI xs).take i).toArray ++ Builtin.zeroCells (Value.int .i64 0).cells (xs.length + ys.length - i) ++ Builtin.zeroCells (Value.int .i64 0).cells (G - (xs.length + ys.length)) := ⟨_, rfl⟩
        rw [← hA] at h2
        have hAs : A.size = G := by
          rw [hA, Array.size_append, Array.size_append, zc_size _ _ rfl, zc_size _ _ rfl]
          simp [vI_len]; omega
        have hAk : ∀ k, k < i → A[k]? = (vI xs)[k]? := fun k hk => by
          rw [hA, Array.getElem?_append_left (by rw [Array.size_append]; simp [vI_len]; omega), Array.getElem?_append_left (by simp [vI_len]; omega), List.getElem?_toArray, List.getElem?_take_of_lt hk]
        have hd0 : (w.alloc (.cells A (ρ.t 3))).drew.heap[w.heap.size]? = some (.cells A (ρ.t 3) (0, 0)) := heap_alloc_new' w _
        have hs := scs w.heap.size (ρ.t 3) (vI ys) i (w.alloc (.cells A (ρ.t 3))).drew A hd0 (by rw [vI_len]; omega)
        obtain ⟨c', q1, q2, q3⟩ := hs.at_
        have q1' : (((w.alloc (.cells A (ρ.t 3))).drew.setCells w.heap.size i (vI ys)).drew).heap[w.heap.size]? = some (.cells c' (ρ.t 3) (0, 0)) := q1
        have ht := scs w.heap.size (ρ.t 3) ((vI xs).drop i) (i + ys.length) _ c' q1' (by rw [List.length_drop, vI_len]; omega)
        rw [← h2] at ht
        obtain ⟨c'', p1, p2, p3⟩ := ht.at_
        have hJn : J (cset γ w.heap.size cJ w.heap.size) := by simpa [cset] using hcJ
        refine ⟨(cset γ w.heap.size cJ, _), h1, ?_, ?_⟩
        · have g0 : Chg J γ w (cset γ w.heap.size cJ) (w.alloc (.cells A (ρ.t 3))) := (chg_alloc γ w (.cells A (ρ.t 3)) cJ).trans (Chg.refl no _ _) (fun b _ h => (h.elim (fun h => h.elim) (fun h => h.elim)))
          have g1 : Chg J γ w (cset γ w.heap.size cJ) (w.alloc (.cells A (ρ.t 3))).drew := ⟨g0.os, g0.tape, g0.output, g0.size, g0.col, g0.keep, Nat.le_succ_of_le g0.drawn⟩
          have g2 := g1.trans (hs.chg (J := J) (γ := cset γ w.heap.size cJ) hJn) (J := J) (fun b hb h => by
            rcases h with h | h
            · exact h
            · simpa [cset, Nat.ne_of_lt hb] using h)
          have g3 : Chg J γ w (cset γ w.heap.size cJ) (((w.alloc (.cells A (ρ.t 3))).drew.setCells w.heap.size i (vI ys)).drew) := ⟨g2.os, g2.tape, g2.output, g2.size, g2.col, g2.keep, Nat.le_succ_of_le g2.drawn⟩
          exact g3.trans (ht.chg (J := J) (γ := cset γ w.heap.size cJ) hJn) (fun b hb h => by
            rcases h with h | h
            · exact h
            · simpa [cset, Nat.ne_of_lt hb] using h)
        · have := ow_of (xs := xs.take i ++ ys ++ xs.drop i) (J := J) (S := S) (γ := cset γ w.heap.size cJ) (cap := G) p1 hJn (by rw [p2, q2, hAs]) (by rw [hXl]; exact hge) (by rw [hXl]; omega) hle (fun k hk => by
            rw [hXl] at hk
            rw [p3, hXg, List.length_drop, vI_len]
            by_cases k1 : k < i
            · rw [if_neg (by omega), if_pos k1, q3, if_neg (by omega)]; exact hAk k k1
            · by_cases k2 : k < i + ys.length
              · rw [if_neg (by omega), if_neg k1, if_pos k2, q3, if_pos (by rw [vI_len]; omega)]
              · rw [if_pos (by omega), if_neg k1, if_neg k2, List.getElem?_drop]
                congr 1; omega)
          rw [hXl] at this
          exact this
end TL
/-
  TlOf: each half-edge's face: on which list of the faces it is.
  By an AI agent.
-/
set_option linter.all false
namespace TL
theorem ofK_at {F : Rot} {n : Int} (h0 : 0 ≤ n) (hn : F.flatten.Nodup) (hin : ∀ f ∈ F, ∀ h ∈ f, 0 ≤ h ∧ h < n) : ∀ k : Nat, k ≤ F.length → ∀ h, 0 ≤ h → h < n →
    (∀ q : Nat, q < k → h ∈ gI F (q : Int) → gI (ofK F n k) h = q) ∧ ((∀ q : Nat, q < k → h ∉ gI F (q : Int)) → gI (ofK F n k) h = 0) := by
  intro k
  induction k with
  | zero =>
    intro _ h a b
    have : gI (ofK F n 0) h = 0 := gI_rep (n := n.toNat) (x := (0 : Int)) a (by omega)
    exact ⟨fun q hq => by omega, fun _ => this⟩
  | succ k ih =>
    intro hk h a b
    have ihh := ih (by omega) h a b
    have hfm : gI F (k : Int) ∈ F := gI_mem (by omega) (by omega)
    have e : gI (ofK F n (k + 1)) h = if h ∈ gI F (k : Int) then (k : Int) else gI (ofK F n k) h := by
      have hl := ofK_len F n k
      rw [← ofKi_done F n k (gI F (k : Int)).length (by omega)]
      unfold ofKi
      rw [List.take_length, gI_fold (n := (k : Int)) _ _ _ a (by omega) (fun x hx => by have := hin _ hfm x hx; omega)]
    rw [e]
    constructor
    · intro q hq hm
      by_cases c : h ∈ gI F (k : Int)
      · rw [if_pos c]
        have hqm : gI F (q : Int) ∈ F := gI_mem (by omega) (by omega)
        by_cases e2 : q = k
        · omega
        · exfalso
          have hsub : List.Sublist (gI F (q : Int) ++ gI F (k : Int)) F.flatten := by
            have e1 : F.flatten = (F.take k).flatten ++ (F.drop k).flatten := by rw [← List.flatten_append, List.take_append_drop]
            rw [e1]
            refine List.Sublist.append (sub_flat ?_) ?_
            · exact List.mem_iff_getElem.2 ⟨q, by simp; omega, by simp [gI, show q < F.length by omega]⟩
            · refine sub_flat ?_
              exact List.mem_iff_getElem.2 ⟨0, by simp; omega, by simp [gI, show k < F.length by omega]⟩
          exact (List.nodup_append.1 (hn.sublist hsub)).2.2 h hm h c rfl
      · rw [if_neg c]
        have e2 : q ≠ k := fun e => by subst e; exact c hm
        exact ihh.1 q (by omega) hm
    · intro hno
      rw [if_neg (hno k (by omega))]
      exact ihh.2 fun q hq => hno q (by omega)
section
variable {g : Net} {r : Rot}
theorem of_at (hr : RotP g r) {q : Nat} (hq : (q : Int) < (facesS (nextS g r) r).length) {h : Int} (hh : h ∈ gI (facesS (nextS g r) r) (q : Int)) : gI (ofS g r) h = q := by
  have hb := facesS_in hr _ (gI_mem (xs := facesS (nextS g r) r) (i := (q : Int)) (by omega) hq) _ hh
  exact (ofK_at (n := 2 * (g.2.length : Int)) (by omega) (faces_all hr).1 (facesS_in hr) _ (Nat.le_refl _) h hb.1 hb.2).1 q (by omega) hh
/-- each half-edge is on the face that is told -/
theorem of_face (hr : RotP g r) {h : Int} (h0 : 0 ≤ h) (h1 : h < 2 * (g.2.length : Int)) : (0 ≤ gI (ofS g r) h ∧ gI (ofS g r) h < (facesS (nextS g r) r).length) ∧ h ∈ gI (facesS (nextS g r) r) (gI (ofS g r) h) := by
  obtain ⟨hp, _⟩ := next_pm hr
  obtain ⟨_, _, h3, _⟩ := facesL_ok hp
  have hl := nextS_len g r
  have hm := h3 h ⟨h0, by omega⟩
  obtain ⟨f, hf, hxf⟩ := List.mem_flatten.1 hm
  have hf2 : f ∈ facesS (nextS g r) r := by unfold facesS; exact List.mem_append_left _ hf
  obtain ⟨q, hq, e⟩ := List.mem_iff_getElem.1 hf2
  have e2 : gI (facesS (nextS g r) r) (q : Int) = f := by simp [gI, hq, e]
  have e3 := of_at hr (q := q) (by omega) (h := h) (by rw [e2]; exact hxf)
  rw [e3]
  exact ⟨⟨by omega, by omega⟩, by rw [e2]; exact hxf⟩
theorem of_iff (hr : RotP g r) {h : Int} (h0 : 0 ≤ h) (h1 : h < 2 * (g.2.length : Int)) {q : Int} (hq0 : 0 ≤ q) (hq : q < (facesS (nextS g r) r).length) : h ∈ gI (facesS (nextS g r) r) q ↔ gI (ofS g r) h = q := by
  constructor
  · intro hm
    have := of_at hr (q := q.toNat) (h := h) (by omega) (by rw [Int.toNat_of_nonneg hq0]; exact hm)
    omega
  · intro e; rw [← e]; exact (of_face hr h0 h1).2
end
end TL
/-
  TlDualF: how far faces are from one another, and ways over them.
  By an AI agent.
-/
set_option linter.all false
namespace TL
/-- what is true of the search, i faces of the queue done -/
structure FbI (A : Rot) (F : Int) (to : List Int) (s : List Int × List Int) (i : Nat) : Prop where
  len : (s.1.length : Int) = F
  rng : ∀ x ∈ s.2, 0 ≤ x ∧ x < F
  iff : ∀ x, 0 ≤ x → x < F → (0 ≤ gI s.1 x ↔ x ∈ s.2)
  src : ∀ x ∈ to, x ∈ s.2 ∧ gI s.1 x = 0
  zero : ∀ x ∈ s.2, gI s.1 x = 0 → x ∈ to
  par : ∀ x ∈ s.2, x ∉ to → ∃ k ∈ s.2, x ∈ gI A k ∧ gI s.1 x = gI s.1 k + 1
  mono : ∀ a b : Nat, a ≤ b → (b : Int) < s.2.length → gI s.1 (gI s.2 (a : Int)) ≤ gI s.1 (gI s.2 (b : Int))
  top : ∀ a b : Nat, i ≤ a → (a : Int) < s.2.length → (b : Int) < s.2.length → gI s.1 (gI s.2 (b : Int)) ≤ gI s.1 (gI s.2 (a : Int)) + 1
  done : ∀ a : Nat, a < i → (a : Int) < s.2.length → ∀ x ∈ gI A (gI s.2 (a : Int)), 0 ≤ gI s.1 x ∧ gI s.1 x ≤ gI s.1 (gI s.2 (a : Int)) + 1
section
variable {A : Rot} {F : Int} {to : List Int}
theorem gI_app_l {q t : List Int} {a : Nat} (h : (a : Int) < q.length) : gI (q ++ t) (a : Int) = gI q (a : Int) := by
  have : a < q.length := by omega
  unfold gI
  rw [List.getD_eq_getElem?_getD, List.getD_eq_getElem?_getD, Int.toNat_natCast, List.getElem?_append_left this]
theorem gI_app_m (q : List Int) (x : Int) : gI (q ++ [x]) (q.length : Int) = x := by simp [gI]
theorem gI_at {q : List Int} {x : Int} (h : x ∈ q) : ∃ a : Nat, (a : Int) < q.length ∧ gI q (a : Int) = x := by
  obtain ⟨a, ha, e⟩ := List.mem_iff_getElem.1 h
  exact ⟨a, by omega, by simp [gI, ha, e]⟩
/-- one neighbour looked at: the face done is number i, those ahead of it are done, l is what has been looked at -/
structure FbJ (A : Rot) (F : Int) (to : List Int) (s : List Int × List Int) (i : Nat) (l : List Int) : Prop where
  ok : FbI A F to s i
  hi : (i : Int) < s.2.length
  row : ∀ x ∈ l, 0 ≤ gI s.1 x ∧ gI s.1 x ≤ gI s.1 (gI s.2 (i : Int)) + 1
theorem FbJ.one {s : List Int × List Int} {i : Nat} {l : List Int} {k : Int} (h : FbJ A F to s i l) (hk : k ∈ gI A (gI s.2 (i : Int))) (h0 : 0 ≤ k) (h1 : k < F) :
    FbJ A F to (fbOne (gI s.2 (i : Int)) s k) i (l ++ [k]) ∧ gI (fbOne (gI s.2 (i : Int)) s k).2 (i : Int) = gI s.2 (i : Int) := by
  obtain ⟨f, hf⟩ : ∃ f, f = gI s.2 (i : Int) := ⟨_, rfl⟩
  have hi := h.hi
  have o := h.ok
  have hfm : f ∈ s.2 := by rw [hf]; exact gI_mem (by omega) hi
  have hfr := o.rng f hfm
  have hfp := (o.iff f hfr.1 hfr.2).2 hfm
  have hl := o.len
  rw [← hf] at hk ⊢
  unfold fbOne
  by_cases c : gI s.1 k < 0
  · rw [if_pos c]
    have hkq : k ∉ s.2 := fun hm => by have := (o.iff k h0 h1).2 hm; omega
    obtain ⟨b, hb⟩ : ∃ b, b = gI s.1 f + 1 := ⟨_, rfl⟩
    rw [← hb]
    have hold : ∀ x, x ∈ s.2 → gI (s.1.set k.toNat b) x = gI s.1 x := fun x hx => by
      rw [gI_set h0 (by omega) (o.rng x hx).1, if_neg (fun e => hkq (by rw [← e]; exact hx))]
    have hnew : gI (s.1.set k.toNat b) k = b := by rw [gI_set h0 (by omega) h0, if_pos rfl]
    have hqi : gI (s.2 ++ [k]) (i : Int) = f := by rw [gI_app_l hi, ← hf]
    have hql : ∀ a : Nat, (a : Int) < (s.2 ++ [k]).length → ¬ (a : Int) < s.2.length → a = s.2.length := fun a h1 h2 => by simp at h1; omega
    have hqm : gI (s.2 ++ [k]) ((s.2.length : Nat) : Int) = k := gI_app_m _ _
    have hqv : ∀ a : Nat, (a : Int) < s.2.length → gI (s.1.set k.toNat b) (gI (s.2 ++ [k]) (a : Int)) = gI s.1 (gI s.2 (a : Int)) := fun a ha => by
      rw [gI_app_l ha, hold _ (gI_mem (by omega) ha)]
    refine ⟨⟨⟨by simpa using hl, fun x hx => ?_, fun x x0 x1 => ?_, fun x hx => ?_, fun x hx e => ?_, fun x hx hn => ?_, fun a c hac hc => ?_, fun a c ha hal hcl => ?_, fun a ha hal x hx => ?_⟩, by simp; omega, fun x hx => ?_⟩, hqi⟩
    · rcases List.mem_append.1 hx with hx | hx
      · exact o.rng x hx
      · obtain rfl := List.mem_singleton.1 hx; exact ⟨h0, h1⟩
    · show 0 ≤ gI (s.1.set k.toNat b) x ↔ x ∈ s.2 ++ [k]
      rw [gI_set h0 (by omega) x0]
      by_cases e : x = k
      · rw [if_pos e, e]; simp; omega
      · rw [if_neg e, o.iff x x0 x1]; simp [e]
    · have := o.src x hx
      exact ⟨List.mem_append_left _ this.1, by show gI (s.1.set k.toNat b) x = 0; rw [hold x this.1]; exact this.2⟩
    · have e : gI (s.1.set k.toNat b) x = 0 := e
      rcases List.mem_append.1 hx with hx | hx
      · rw [hold x hx] at e; exact o.zero x hx e
      · obtain rfl := List.mem_singleton.1 hx
        rw [hnew] at e; omega
    · show ∃ k' ∈ s.2 ++ [k], x ∈ gI A k' ∧ gI (s.1.set k.toNat b) x = gI (s.1.set k.toNat b) k' + 1
      rcases List.mem_append.1 hx with hx | hx
      · obtain ⟨y, hy, h2, h3⟩ := o.par x hx hn
        exact ⟨y, List.mem_append_left _ hy, h2, by rw [hold x hx, hold y hy]; exact h3⟩
      · obtain rfl := List.mem_singleton.1 hx
        exact ⟨f, List.mem_append_left _ hfm, hk, by rw [hnew, hold f hfm]; exact hb⟩
    · show gI (s.1.set k.toNat b) (gI (s.2 ++ [k]) (a : Int)) ≤ gI (s.1.set k.toNat b) (gI (s.2 ++ [k]) (c : Int))
      by_cases hc2 : (c : Int) < s.2.length
      · rw [hqv a (by omega), hqv c hc2]; exact o.mono a c hac hc2
      · have := hql c hc hc2
        subst this
        rw [hqm, hnew]
        by_cases ha2 : (a : Int) < s.2.length
        · rw [hqv a ha2, hb, hf]
          exact o.top i a (Nat.le_refl _) hi ha2
        · have : a = s.2.length := by omega
          subst this
          rw [hqm, hnew]; omega
    · show gI (s.1.set k.toNat b) (gI (s.2 ++ [k]) (c : Int)) ≤ gI (s.1.set k.toNat b) (gI (s.2 ++ [k]) (a : Int)) + 1
      by_cases ha2 : (a : Int) < s.2.length
      · rw [hqv a ha2]
        have h5 := o.mono i a ha ha2
        by_cases hc2 : (c : Int) < s.2.length
        · rw [hqv c hc2]; exact o.top a c ha ha2 hc2
        · have := hql c hcl hc2
          subst this
          rw [hqm, hnew, hb, hf]; omega
      · have := hql a hal ha2
        subst this
        rw [hqm, hnew]
        by_cases hc2 : (c : Int) < s.2.length
        · rw [hqv c hc2]
          have := o.top i c (Nat.le_refl _) hi hc2
          rw [hb, hf]; omega
        · have := hql c hcl hc2
          subst this
          rw [hqm, hnew]; omega
    · show 0 ≤ gI (s.1.set k.toNat b) x ∧ gI (s.1.set k.toNat b) x ≤ gI (s.1.set k.toNat b) (gI (s.2 ++ [k]) (a : Int)) + 1
      have ha2 : (a : Int) < s.2.length := by omega
      rw [hqv a ha2]
      have hx' : x ∈ gI A (gI s.2 (a : Int)) := by rwa [show gI (s.2 ++ [k]) (a : Int) = gI s.2 (a : Int) from gI_app_l ha2] at hx
      have h6 := o.done a ha ha2 x hx'
      by_cases e : x = k
      · rw [e] at h6; omega
      · by_cases hx0 : 0 ≤ x
        · rw [gI_set h0 (by omega) hx0, if_neg e]; exact h6
        · have e1 : gI (s.1.set k.toNat b) x = gI (s.1.set k.toNat b) 0 := by unfold gI; rw [show x.toNat = 0 by omega]; rfl
          have e2 : gI s.1 x = gI s.1 0 := by unfold gI; rw [show x.toNat = 0 by omega]; rfl
          rw [e2] at h6
          rw [e1, gI_set h0 (by omega) (by omega)]
          by_cases e3 : (0 : Int) = k
          · rw [← e3] at c; omega
          · rw [if_neg e3]; exact h6
    · show 0 ≤ gI (s.1.set k.toNat b) x ∧ gI (s.1.set k.toNat b) x ≤ gI (s.1.set k.toNat b) (gI (s.2 ++ [k]) (i : Int)) + 1
      rw [hqi, hold f hfm]
      rcases List.mem_append.1 hx with hx | hx
      · have h6 := h.row x hx
        rw [← hf] at h6
        by_cases e : x = k
        · rw [e] at h6; omega
        · by_cases hx0 : 0 ≤ x
          · rw [gI_set h0 (by omega) hx0, if_neg e]; exact h6
          · have e1 : gI (s.1.set k.toNat b) x = gI (s.1.set k.toNat b) 0 := by unfold gI; rw [show x.toNat = 0 by omega]; rfl
            have e2 : gI s.1 x = gI s.1 0 := by unfold gI; rw [show x.toNat = 0 by omega]; rfl
            rw [e2] at h6
            rw [e1, gI_set h0 (by omega) (by omega)]
            by_cases e3 : (0 : Int) = k
            · rw [← e3] at c; omega
            · rw [if_neg e3]; exact h6
      · obtain rfl := List.mem_singleton.1 hx
        rw [hnew]; omega
  · rw [if_neg c]
    refine ⟨⟨o, hi, fun x hx => ?_⟩, hf.symm⟩
    rcases List.mem_append.1 hx with hx | hx
    · exact h.row x hx
    · obtain rfl := List.mem_singleton.1 hx
      have hm := (o.iff x h0 h1).1 (by omega)
      obtain ⟨a, ha, e⟩ := gI_at hm
      refine ⟨by omega, ?_⟩
      have := o.top i a (Nat.le_refl _) hi ha
      rw [e] at this; exact this
theorem fbFold_ok {i : Nat} {f : Int} (hA : ∀ k ∈ gI A f, 0 ≤ k ∧ k < F) : ∀ (m l : List Int) (s : List Int × List Int), gI s.2 (i : Int) = f → (∀ k ∈ m, k ∈ gI A f) → FbJ A F to s i l → FbJ A F to (m.foldl (fbOne f) s) i (l ++ m) ∧ gI (m.foldl (fbOne f) s).2 (i : Int) = f
  | [], l, s, hf, _, h => ⟨by simpa using h, hf⟩
  | k :: m, l, s, hf, hm, h => by
    have hk := hm k (by simp)
    have hb := hA k hk
    subst hf
    obtain ⟨h1, h2⟩ := h.one (k := k) hk hb.1 hb.2
    have := fbFold_ok (f := gI s.2 (i : Int)) hA m (l ++ [k]) (fbOne (gI s.2 (i : Int)) s k) h2 (fun x hx => hm x (by simp [hx])) h1
    simpa using this
theorem FbI.next {s : List Int × List Int} {i : Nat} (hA : ∀ f, 0 ≤ f → f < F → ∀ k ∈ gI A f, 0 ≤ k ∧ k < F) (h : FbI A F to s i) (hi : (i : Int) < s.2.length) : FbI A F to (fbRow A (gI s.2 (i : Int)) s) (i + 1) := by
  have hr := h.rng _ (gI_mem (by omega) hi)
  obtain ⟨h1, h2⟩ := fbFold_ok (A := A) (F := F) (to := to) (i := i) (hA _ hr.1 hr.2) (gI A (gI s.2 (i : Int))) [] s rfl (fun k hk => hk) ⟨h, hi, by simp⟩
  have o := h1.ok
  unfold fbRow
  refine ⟨o.len, o.rng, o.iff, o.src, o.zero, o.par, o.mono, fun a b ha hal hbl => o.top a b (by omega) hal hbl, fun a ha hal x hx => ?_⟩
  by_cases e : a = i
  · subst e
    rw [h2] at hx ⊢
    have := h1.row x (by simpa using hx)
    rwa [h2] at this
  · exact o.done a (by omega) hal x hx
theorem fbGo_ok (hA : ∀ f, 0 ≤ f → f < F → ∀ k ∈ gI A f, 0 ≤ k ∧ k < F) {B : Nat} : ∀ (n i : Nat) (s : List Int × List Int), FbI A F to s i → FbOk F B s → B ≤ n + i → ∃ j : Nat, FbI A F to (fbGo A n i s) j ∧ ¬ (j : Int) < (fbGo A n i s).2.length
  | 0, i, s, h, ho, hb => ⟨i, h, by have := ho.cnt; simp only [fbGo]; omega⟩
  | n + 1, i, s, h, ho, hb => by
    simp only [fbGo]
    by_cases c : (i : Int) < s.2.length
    · rw [if_pos c]
      refine fbGo_ok (B := B) hA n (i + 1) _ (h.next hA c) ?_ (by omega)
      have hfm : gI s.2 (i : Int) ∈ s.2 := gI_mem (by omega) c
      have hr := h.rng _ hfm
      have key : ∀ (m : List Int) (s : List Int × List Int), gI s.2 (i : Int) = gI s.2 (i : Int) → True := fun _ _ _ => trivial
      have : ∀ (f : Int) (m : List Int) (s : List Int × List Int), (∀ k ∈ m, 0 ≤ k ∧ k < F) → f ∈ s.2 → FbOk F B s → FbOk F B (m.foldl (fbOne f) s) := by
        intro f m
        induction m with
        | nil => intro s _ _ h; exact h
        | cons k m ih =>
          intro s hm hf ho
          obtain ⟨h1, t, ht⟩ := ho.one hf (hm k (by simp)).1 (hm k (by simp)).2
          exact ih _ (fun x hx => hm x (by simp [hx])) (by rw [ht]; exact List.mem_append_left _ hf) h1
      exact this _ _ s (hA _ hr.1 hr.2) hfm ho
    · rw [if_neg c]; exact ⟨i, h, c⟩
end
/-- what the numbers say: how far from some faces -/
structure FarP (m : Nat) (of : List Int) (F : Int) (to : List Int) (far : List Int) : Prop where
  len : (far.length : Int) = F
  low : ∀ x, 0 ≤ x → x < F → -1 ≤ gI far x
  src : ∀ x ∈ to, gI far x = 0
  zero : ∀ x, 0 ≤ x → x < F → gI far x = 0 → x ∈ to
  par : ∀ x, 0 ≤ x → x < F → 0 ≤ gI far x → x ∉ to → ∃ e : Nat, e < m ∧ ∃ k, (0 ≤ k ∧ k < F) ∧ (endsS of e = (k, x) ∨ endsS of e = (x, k)) ∧ gI far x = gI far k + 1
  adj : ∀ e : Nat, e < m → ∀ x y, endsS of e = (x, y) ∨ endsS of e = (y, x) → 0 ≤ gI far x → 0 ≤ gI far y ∧ gI far y ≤ gI far x + 1
theorem far_ok {m : Nat} {of : List Int} {F : Int} {to : List Int} (hF : 0 ≤ F) (ho : OfIn of F m) (ht : ∀ x ∈ to, 0 ≤ x ∧ x < F) : FarP m of F to (farS m of F to) := by
  have hA : ∀ f, 0 ≤ f → f < F → ∀ k ∈ gI (adjK of F m) f, 0 ≤ k ∧ k < F := fun f h0 h1 k hk => by
    obtain ⟨e, he, h⟩ := ((adj_mem ho m (Nat.le_refl _) f h0 h1).2 k).1 hk
    have := ho.ends (e := e) (by omega)
    rcases h with h | h
    · rw [h] at this; exact this.2
    · rw [h] at this; exact this.1
  have h0 : FbI (adjK of F m) F to (far0 F to, to) 0 := by
    have hfl := far0_len F to
    have hz : ∀ x ∈ to, gI (far0 F to) x = 0 := fun x hx => by
      have := ht x hx
      rw [far0_at hF ht this.1 this.2, if_pos hx]
    refine ⟨by simp only; omega, ht, fun x x0 x1 => ?_, fun x hx => ⟨hx, hz x hx⟩, fun x hx _ => hx, fun x hx hn => absurd hx hn, fun a b hab hb => ?_, fun a b _ ha hb => ?_, fun a ha => by omega⟩
    · show 0 ≤ gI (far0 F to) x ↔ x ∈ to
      rw [far0_at hF ht x0 x1]
      by_cases e : x ∈ to
      · rw [if_pos e]; simp [e]
      · rw [if_neg e]; simp [e]
    · simp only at hb ⊢
      rw [hz _ (gI_mem (by omega) (by omega)), hz _ (gI_mem (by omega) hb)]; exact Int.le_refl _
    · simp only at ha hb ⊢
      rw [hz _ (gI_mem (by omega) ha), hz _ (gI_mem (by omega) hb)]; omega
  obtain ⟨j, hj, hjl⟩ := fbGo_ok (to := to) hA (F.toNat + to.length) 0 _ h0 (FbOk.start hF ht) (by omega)
  unfold farS
  refine ⟨hj.len, fun x x0 x1 => ?_, fun x hx => (hj.src x hx).2, fun x x0 x1 e => hj.zero x ((hj.iff x x0 x1).1 (by omega)) e, fun x x0 x1 hx hn => ?_, fun e he x y hxy hx => ?_⟩
  · have : ∀ (n i : Nat) (s : List Int × List Int), (∀ x, -1 ≤ gI s.1 x) → ∀ x, -1 ≤ gI (fbGo (adjK of F m) n i s).1 x := by
      intro n
      induction n with
      | zero => intro i s h x; exact h x
      | succ n ih =>
        intro i s h x
        simp only [fbGo]
        split
        · refine ih _ _ ?_ x
          have : ∀ (f : Int) (l : List Int) (s : List Int × List Int), (∀ x, -1 ≤ gI s.1 x) → ∀ x, -1 ≤ gI (l.foldl (fbOne f) s).1 x := by
            intro f l
            induction l with
            | nil => intro s h; exact h
            | cons k l ihl =>
              intro s h
              refine ihl _ fun x => ?_
              unfold fbOne
              split
              · have hf := h f
                show -1 ≤ gI (s.1.set k.toNat (gI s.1 f + 1)) x
                unfold gI
                rw [List.getD_eq_getElem?_getD, List.getElem?_set]
                split
                · split
                  · simp only [Option.getD_some]
                    unfold gI at hf; omega
                  · simp [default]
                · exact h x
              · exact h x
          exact this _ _ s h
        · exact h x
    refine this _ _ _ (fun x => ?_) x
    show -1 ≤ gI (far0 F to) x
    by_cases hx0 : 0 ≤ x ∧ x < F
    · rw [far0_at hF ht hx0.1 hx0.2]; split <;> omega
    · by_cases hn : x < 0
      · by_cases hF0 : 0 < F
        · have e2 : gI (far0 F to) x = gI (far0 F to) 0 := by unfold gI; rw [show x.toNat = 0 by omega]; rfl
          rw [e2, far0_at hF ht (by omega) hF0]; split <;> omega
        · have : far0 F to = [] := List.eq_nil_of_length_eq_zero (by rw [far0_len]; omega)
          rw [this]; simp [gI, default]
      · have hl := far0_len F to
        have : gI (far0 F to) x = 0 := by
          unfold gI
          rw [List.getD_eq_getElem?_getD, List.getElem?_eq_none (by omega)]; rfl
        rw [this]; omega
  · obtain ⟨k, hk, h2, h3⟩ := hj.par x ((hj.iff x x0 x1).1 hx) hn
    have hkr := hj.rng k hk
    obtain ⟨e, he, h4⟩ := ((adj_mem ho m (Nat.le_refl _) k hkr.1 hkr.2).2 x).1 h2
    exact ⟨e, he, k, hkr, h4, h3⟩
  · have hb := ho.ends (e := e) (by omega)
    have hxr : 0 ≤ x ∧ x < F := by
      rcases hxy with h | h
      · rw [h] at hb; exact hb.1
      · rw [h] at hb; exact hb.2
    have hm := (hj.iff x hxr.1 hxr.2).1 hx
    obtain ⟨a, ha, e2⟩ := gI_at hm
    have := hj.done a (by omega) ha y (by
      rw [e2]
      exact ((adj_mem ho m (Nat.le_refl _) x hxr.1 hxr.2).2 y).2 ⟨e, he, hxy⟩)
    rwa [e2] at this
def othF (x : Int × Int) (f : Int) : Int := if x.2 = f then x.1 else x.2
def stepP (of far : List Int) (f e : Int) : Prop := ((endsS of e).2 = f ∨ (endsS of e).1 = f) ∧ gI far (othF (endsS of e) f) = gI far f - 1
instance (of far : List Int) (f e : Int) : Decidable (stepP of far f e) := by unfold stepP; infer_instance
def hopG (of far : List Int) (m : Nat) (to : Int) : Nat → Int → List Int
  | 0, _ => []
  | n + 1, f => if f = to then [] else match (iotaI m).find? fun e => decide (stepP of far f e) with
    | some e => e :: hopG of far m to n (othF (endsS of e) f)
    | none => []
/-- the least edge that comes nearer -/
theorem step_ex {m : Nat} {of : List Int} {F : Int} {to : Int} {far : List Int} (h : FarP m of F [to] far) {f : Int} (h0 : 0 ≤ f) (h1 : f < F) (hf : 0 ≤ gI far f) (hn : f ≠ to) : ∃ e : Nat, e < m ∧ stepP of far f e := by
  obtain ⟨e, he, k, _, h2, h3⟩ := h.par f h0 h1 hf (by simpa using hn)
  have hkf : k ≠ f := fun e => by subst e; omega
  refine ⟨e, he, ?_⟩
  unfold stepP othF
  rcases h2 with h2 | h2
  · rw [h2]
    exact ⟨.inl rfl, by rw [show (if (k, f).2 = f then (k, f).1 else (k, f).2) = k from if_pos rfl]; omega⟩
  · rw [h2]
    exact ⟨.inr rfl, by rw [show (if (f, k).2 = f then (f, k).1 else (f, k).2) = k from if_neg hkf]; omega⟩
theorem find_first {m : Nat} {p : Int → Bool} {e : Nat} (he : e < m) (hp : p (e : Int) = true) (hl : ∀ j : Nat, j < e → p (j : Int) = false) : (iotaI m).find? p = some (e : Int) := by
  refine List.find?_eq_some_iff_getElem.2 ⟨hp, e, by rw [iota_len]; exact he, by simp [iotaI], fun j hj => ?_⟩
  simp [iotaI, hl j hj]
theorem hopG_step {m : Nat} {of far : List Int} {to f : Int} {n e : Nat} (hf : f ≠ to) (he : e < m) (hp : stepP of far f e) (hl : ∀ j : Nat, j < e → ¬ stepP of far f j) : hopG of far m to (n + 1) f = (e : Int) :: hopG of far m to n (othF (endsS of e) f) := by
  simp only [hopG]
  rw [if_neg hf, find_first he (decide_eq_true hp) (fun j hj => decide_eq_false (hl j hj))]
theorem oth_in {of : List Int} {F : Int} {m : Nat} (ho : OfIn of F m) {e : Nat} (he : e < m) (f : Int) : 0 ≤ othF (endsS of e) f ∧ othF (endsS of e) f < F := by
  have := ho.ends (e := e) (by omega)
  unfold othF
  split
  · exact this.1
  · exact this.2
/-- the way, as far as it is gone -/
structure HopInv (l : List Int) (f : Int) (m : Nat) (of : List Int) (F : Int) (far : List Int) (from_ to : Int) : Prop where
  rng : 0 ≤ f ∧ f < F
  pos : 0 ≤ gI far f ∧ gI far f ≤ gI far from_
  eq : l ++ hopG of far m to (gI far f).toNat f = hopG of far m to (gI far from_).toNat from_
  len : (l.length : Int) + gI far f = gI far from_
theorem HopInv.start {m : Nat} {of : List Int} {F : Int} {far : List Int} {from_ to : Int} (h0 : 0 ≤ from_) (h1 : from_ < F) (h2 : ¬ gI far from_ < 0) : HopInv [] from_ m of F far from_ to := ⟨⟨h0, h1⟩, ⟨by omega, Int.le_refl _⟩, by simp, by simp⟩
theorem HopInv.next {l : List Int} {f : Int} {m : Nat} {of : List Int} {F : Int} {far : List Int} {from_ to : Int} (h : HopInv l f m of F far from_ to) (ho : OfIn of F m) (hP : FarP m of F [to] far) (hf : f ≠ to) {e : Nat} (he : (e : Int) < m) (hp : stepP of far f e) (hl : ∀ j : Nat, j < e → ¬ stepP of far f j) :
    HopInv (l ++ [(e : Int)]) (othF (endsS of e) f) m of F far from_ to ∧ gI far (othF (endsS of e) f) = gI far f - 1 := by
  have hr := oth_in ho (e := e) (by omega) f
  have hv := hp.2
  have hpos : 0 < gI far f := by
    have h1 := h.pos.1
    by_cases c : gI far f = 0
    · exact absurd (by simpa using hP.zero f h.rng.1 h.rng.2 c) hf
    · omega
  have h2 := h.pos
  refine ⟨⟨hr, by omega, ?_, ?_⟩, hv⟩
  · rw [← h.eq, show (gI far f).toNat = (gI far f - 1).toNat + 1 by omega, hopG_step hf (by omega) hp hl, hv]
    simp
  · have := h.len
    simp only [List.length_append, List.length_cons, List.length_nil]; omega
theorem HopInv.done {l : List Int} {m : Nat} {of : List Int} {F : Int} {far : List Int} {from_ to : Int} (h : HopInv l to m of F far from_ to) (hP : FarP m of F [to] far) : l = hopG of far m to (gI far from_).toNat from_ := by
  have h1 := h.eq
  rw [hP.src to (by simp)] at h1
  simpa [hopG] using h1
def hopR (g : Net) (r : Rot) (from_ to : Int) : List Int × Int :=
  if (facesR g r).2 = 0 then
    if from_ < 0 ∨ ((facesR g r).1.length : Int) ≤ from_ ∨ to < 0 ∨ ((facesR g r).1.length : Int) ≤ to then ([], 2)
    else if gI (farS g.2.length (ofR g r).1 ((facesR g r).1.length : Int) [to]) from_ < 0 then ([], 14)
    else (hopG (ofR g r).1 (farS g.2.length (ofR g r).1 ((facesR g r).1.length : Int) [to]) g.2.length to (gI (farS g.2.length (ofR g r).1 ((facesR g r).1.length : Int) [to]) from_).toNat from_, 0)
  else ([], (facesR g r).2)
end TL
namespace TL
theorem of_in {g : Net} {r : Rot} (hm : MayP g) (hr : RotP g r) : OfIn (ofR g r).1 ((facesR g r).1.length : Int) g.2.length := by
  rw [ofR_yes (rmay_yes hm hr), facesR_yes (rmay_yes hm hr)]
  exact ⟨ofS_len g r, fun h h0 h1 => (of_face hr h0 h1).1⟩
theorem FarP.lt {m : Nat} {of : List Int} {F : Int} {to : List Int} {far : List Int} (h : FarP m of F to far) {f : Int} (h0 : 0 ≤ f) (h1 : f < F) : gI far f < F := by
  have key : ∀ (n : Nat) (f : Int), 0 ≤ f → f < F → gI far f = n → ∃ l : List Int, l.Nodup ∧ (∀ x ∈ l, (0 ≤ x ∧ x < F) ∧ gI far x ≤ n) ∧ l.length = n + 1 := by
    intro n
    induction n with
    | zero => intro f f0 f1 e; exact ⟨[f], by simp, fun x hx => by obtain rfl := List.mem_singleton.1 hx; exact ⟨⟨f0, f1⟩, by omega⟩, rfl⟩
    | succ n ih =>
      intro f f0 f1 e
      have hn : f ∉ to := fun hm => by have := h.src f hm; omega
      obtain ⟨_, _, k, hk, _, h3⟩ := h.par f f0 f1 (by omega) hn
      obtain ⟨l, l1, l2, l3⟩ := ih k hk.1 hk.2 (by omega)
      refine ⟨f :: l, List.nodup_cons.2 ⟨fun hf => by have := (l2 f hf).2; omega, l1⟩, fun x hx => ?_, by simp [l3]⟩
      rcases List.mem_cons.1 hx with hx | hx
      · subst hx; exact ⟨⟨f0, f1⟩, by omega⟩
      · exact ⟨(l2 x hx).1, by have := (l2 x hx).2; omega⟩
  by_cases c : gI far f < 0
  · omega
  · obtain ⟨l, l1, l2, l3⟩ := key (gI far f).toNat f h0 h1 (by omega)
    have := nodup_le (n := F) (by omega) l1 (fun x hx => (l2 x hx).1)
    omega
theorem FarP.top {m : Nat} {of : List Int} {F : Int} {to : List Int} {far : List Int} (h : FarP m of F to far) (hF : F ≤ 100000) {f : Int} (h0 : 0 ≤ f) (h1 : f < F) : gI far f ≤ 1000000000 := by
  have := h.lt h0 h1; omega
section
variable {g : Net} {r : Rot} {a b : Int}
theorem hopR_no (h : ¬ (facesR g r).2 = 0) : hopR g r a b = ([], (facesR g r).2) := if_neg h
theorem hopR_bd (h : (facesR g r).2 = 0) (hb : a < 0 ∨ ((facesR g r).1.length : Int) ≤ a ∨ b < 0 ∨ ((facesR g r).1.length : Int) ≤ b) : hopR g r a b = ([], 2) := by
  unfold hopR; rw [if_pos h, if_pos hb]
theorem hopR_none (h : (facesR g r).2 = 0) (hb : ¬ (a < 0 ∨ ((facesR g r).1.length : Int) ≤ a ∨ b < 0 ∨ ((facesR g r).1.length : Int) ≤ b)) (hn : gI (farS g.2.length (ofR g r).1 ((facesR g r).1.length : Int) [b]) a < 0) : hopR g r a b = ([], 14) := by
  unfold hopR; rw [if_pos h, if_neg hb, if_pos hn]
theorem hopR_yes (h : (facesR g r).2 = 0) (hb : ¬ (a < 0 ∨ ((facesR g r).1.length : Int) ≤ a ∨ b < 0 ∨ ((facesR g r).1.length : Int) ≤ b)) (hn : ¬ gI (farS g.2.length (ofR g r).1 ((facesR g r).1.length : Int) [b]) a < 0) : hopR g r a b = (hopG (ofR g r).1 (farS g.2.length (ofR g r).1 ((facesR g r).1.length : Int) [b]) g.2.length b (gI (farS g.2.length (ofR g r).1 ((facesR g r).1.length : Int) [b]) a).toNat a, 0) := by
  unfold hopR; rw [if_pos h, if_neg hb, if_neg hn]
end
section
variable {l : List Int} {f : Int} {m : Nat} {of : List Int} {F : Int} {far : List Int} {from_ to : Int}
theorem stepL {e : Int} (h : (endsS of e).2 = f) (hv : gI far (endsS of e).1 = gI far f - 1) : stepP of far f e ∧ othF (endsS of e) f = (endsS of e).1 := by
  have : othF (endsS of e) f = (endsS of e).1 := if_pos h
  exact ⟨⟨.inl h, by rw [this]; exact hv⟩, this⟩
theorem stepR {e : Int} (hn : ¬ (endsS of e).2 = f) (h : (endsS of e).1 = f) (hv : gI far (endsS of e).2 = gI far f - 1) : stepP of far f e ∧ othF (endsS of e) f = (endsS of e).2 := by
  have : othF (endsS of e) f = (endsS of e).2 := if_neg hn
  exact ⟨⟨.inr h, by rw [this]; exact hv⟩, this⟩
theorem stepNL {e : Int} (h : (endsS of e).2 = f) (hv : ¬ gI far (endsS of e).1 = gI far f - 1) : ¬ stepP of far f e := fun hs => by
  have : othF (endsS of e) f = (endsS of e).1 := if_pos h
  have h2 := hs.2
  rw [this] at h2; exact hv h2
theorem stepNR {e : Int} (hn : ¬ (endsS of e).2 = f) (hv : ¬ gI far (endsS of e).2 = gI far f - 1) : ¬ stepP of far f e := fun hs => by
  have : othF (endsS of e) f = (endsS of e).2 := if_neg hn
  have h2 := hs.2
  rw [this] at h2; exact hv h2
theorem stepNN {e : Int} (hn : ¬ (endsS of e).2 = f) (h : ¬ (endsS of e).1 = f) : ¬ stepP of far f e := fun hs => hs.1.elim hn h
end
end TL
/-
  TlNil: a list that is none, compared.
  By an AI agent.
-/
set_option linter.all false
namespace TL
open Go
section
variable {P : Program} {w : World} {t t' : TypeId} {f : Fr} {x y : Operand} {dst : Option Tmp} {ty : TypeId} {pos : String} {after : Array Edge} {g : Option (Nat × Bool)}
theorem run_equal_nils {e : TypeId} (ht : P.underlying t = some (.slice e)) : (Op.equal t (.slice none 0 0) (.slice none 0 0)).run P w = .ok true w := by
  unfold Op.equal
  rw [show Op.maxDepth = 9999 + 1 from rfl]
  unfold Op.equalIn
  simp [run_underlying' ht]
theorem e_neq_nils {e : TypeId} (ht : P.underlying t = some (.slice e)) (hx : ev f x = .slice none 0 0) (hy : ev f y = .slice none 0 0) : (execOp (ev f) ⟨dst, .binOp .neq t x y t', ty, pos, after, g⟩).run P w = .ok (.value (.bool false)) w :=
  e_bin .neq hx hy (by simp [eqGuard]) (by simp [binOp, run_equal_nils ht])
end
/-- the first part of a list that the call owns, the rest given up -/
theorem ow_pre {α : Type} [Rp α] {γ : Cmap} {J S : Col → Prop} {w : World} {v : Value} {xs : List α} {hi : Nat} (h : Ow γ J S w v xs) (h2 : hi ≤ xs.length) : Ow γ J S w (subV v (Rp.sz α) 0 hi) (xs.take hi) := by
  rcases h with ⟨rfl, rfl⟩ | ⟨b, cap, c, e, rfl, hc, hm, hJ, hb, hcs, hx⟩
  · simp only [List.length_nil] at h2
    have : hi = 0 := by omega
    subst this
    exact .inl ⟨rfl, rfl⟩
  · have hl : (xs.take hi).length = hi := by simp; omega
    refine .inr ⟨b, cap, c, e, ?_, ⟨by omega, by omega⟩, hm, hJ, hb, hcs, fun i x hi' => hx i x ?_⟩
    · rw [subV_zero]
      simp only [hl]
    · rw [List.getElem?_take] at hi'
      split at hi'
      · exact hi'
      · cases hi'
end TL
/-
  TlTake2: labels of components; components, faces and the genus of a net with one edge less.
  By an AI agent.
-/
set_option linter.all false
namespace TL
section
variable {g : Net} {r : Rot}
/-- half-edges of one round are on one face -/
theorem of_orb (hr : RotP g r) {x y : Int} (hx : In (2 * (g.2.length : Int)) x) (hy : In (2 * (g.2.length : Int)) y) : Orb (fun z => cy r (twin z)) x y ↔ gI (ofS g r) x = gI (ofS g r) y := by
  obtain ⟨hp, hn⟩ := next_pm hr
  have hl := nextS_len g r
  obtain ⟨f1, f2, f3, _⟩ := facesL_ok hp
  have hpm := hp
  rw [hl] at hpm
  rw [← Orb.iff hpm hn hx]
  obtain ⟨⟨b0, b1⟩, b2⟩ := of_face hr hx.1 hx.2
  have hfm := gI_mem (xs := facesS (nextS g r) r) b0 b1
  have hfo : FcOk (nextS g r) [] (gI (facesS (nextS g r) r) (gI (ofS g r) x)) := by
    have h := hfm
    unfold facesS at h
    rcases List.mem_append.1 h with h | h
    · exact f1 _ h
    · obtain ⟨l, _, e⟩ := List.mem_map.1 h
      have b3 := b2
      unfold facesS at b3
      rw [← e] at b3; cases b3
  have h0 := hfo.orb x b2
  have hxn : In (nextS g r).length x := by rw [hl]; exact hx
  constructor
  · intro ho
    have : y ∈ gI (facesS (nextS g r) r) (gI (ofS g r) x) := Orb.ind (S := fun z => z ∈ gI (facesS (nextS g r) r) (gI (ofS g r) x)) (fun z hz => hfo.cls z hz) ho b2
    exact ((of_iff hr hy.1 hy.2 b0 b1).1 this).symm
  · intro e
    have hy2 : y ∈ gI (facesS (nextS g r) r) (gI (ofS g r) x) := (of_iff hr hy.1 hy.2 b0 b1).2 e.symm
    have h1 := hfo.orb y hy2
    have hin0 : In (nextS g r).length (gI (gI (facesS (nextS g r) r) (gI (ofS g r) x)) 0) := hfo.inn _ (gI_mem (by omega) (by
      have := List.length_pos_of_mem b2
      omega))
    exact (hp.eqv.symm _ _ hin0 hxn h0).trans h1
end
end TL
