/-
  TlEul2: faces, each half-edge on one; the genus by Euler's count.
  By an AI agent.
-/
import Derived.Test.YtgaefcjhggdkcaaTlEul
set_option linter.all false
namespace TL
theorem orbF_spec {nx : List Int} (hp : Pm nx.length (gI nx)) : ∀ (n : Nat) (seen : List Int) (k : Int), seen.Nodup → (∀ x ∈ seen, In nx.length x) → seen.length + n = nx.length → In nx.length k →
    (seen ++ orbF nx n seen k).Nodup ∧ (∀ x ∈ orbF nx n seen k, In nx.length x) ∧ k ∈ seen ++ orbF nx n seen k ∧ (∀ x ∈ orbF nx n seen k, Orb (gI nx) k x) ∧ (∀ x ∈ orbF nx n seen k, gI nx x ∈ seen ++ orbF nx n seen k) ∧
    (∀ i : Nat, i + 1 < (orbF nx n seen k).length → gI (orbF nx n seen k) ((i : Int) + 1) = gI nx (gI (orbF nx n seen k) (i : Int))) ∧ (orbF nx n seen k ≠ [] → gI (orbF nx n seen k) 0 = k)
  | 0, seen, k, hn, hin, hl, hk => by
    have hm := all_there hn (n := nx.length) hin (by omega) hk.1 hk.2
    simp [orbF, hn, hm]
  | n + 1, seen, k, hn, hin, hl, hk => by
    simp only [orbF]
    by_cases c : k ∈ seen
    · rw [if_pos c]; simp [hn, c]
    · rw [if_neg c]
      have hk' := hp.rng k hk
      obtain ⟨a1, a2, a3, a4, a5, a6, a7⟩ := orbF_spec hp n (seen ++ [k]) (gI nx k) (List.nodup_append.2 ⟨hn, by simp, fun a ha b hb e => by
        obtain rfl := List.mem_singleton.1 hb
        rw [e] at ha; exact c ha⟩) (fun x hx => by
        rcases List.mem_append.1 hx with h | h
        · exact hin x h
        · obtain rfl := List.mem_singleton.1 h; exact hk) (by simp; omega) hk'
      rw [List.append_assoc] at a1 a3 a5
      refine ⟨a1, fun x hx => ?_, by simp, fun x hx => ?_, fun x hx => ?_, fun i hi => ?_, fun _ => by simp [gI]⟩
      · rcases List.mem_cons.1 hx with rfl | hx
        · exact hk
        · exact a2 x hx
      · rcases List.mem_cons.1 hx with rfl | hx
        · exact Orb.refl _ _
        · exact (Orb.step (gI nx) k).trans (a4 x hx)
      · rcases List.mem_cons.1 hx with rfl | hx
        · exact a3
        · exact a5 x hx
      · have e0 : ∀ j : Nat, gI (k :: orbF nx n (seen ++ [k]) (gI nx k)) ((j : Int) + 1) = gI (orbF nx n (seen ++ [k]) (gI nx k)) (j : Int) := fun j => by
          unfold gI
          rw [show ((j : Int) + 1).toNat = j + 1 by omega]
          simp
        rw [e0]
        cases i with
        | zero =>
          have hne : orbF nx n (seen ++ [k]) (gI nx k) ≠ [] := fun e => by rw [e] at hi; simp at hi
          have := a7 hne
          simpa [gI] using this
        | succ i =>
          simp only [List.length_cons] at hi
          have := a6 i (by omega)
          rw [show (((i + 1 : Nat) : Int)) = (i : Int) + 1 by omega, this, e0]
/-- what faces are, of those half-edges l that are not on S -/
structure FcOk (nx S : List Int) (f : List Int) : Prop where
  ne : f ≠ []
  notS : ∀ x ∈ f, x ∉ S
  inn : ∀ x ∈ f, In nx.length x
  orb : ∀ x ∈ f, Orb (gI nx) (gI f 0) x
  cls : ∀ x ∈ f, gI nx x ∈ f
  chain : ∀ i : Nat, i + 1 < f.length → gI f ((i : Int) + 1) = gI nx (gI f (i : Int))
theorem orbS_ok {nx S : List Int} (hp : Pm nx.length (gI nx)) (hn : S.Nodup) (hin : ∀ x ∈ S, In nx.length x) (hc : ∀ x ∈ S, gI nx x ∈ S) {h : Int} (hh : In nx.length h) (hS : h ∉ S) :
    FcOk nx S (orbS nx S h) ∧ gI (orbS nx S h) 0 = h ∧ (S ++ orbS nx S h).Nodup ∧ h ∈ orbS nx S h := by
  have hlen := nodup_le (n := (nx.length : Int)) (by omega) hn hin
  obtain ⟨a1, a2, a3, a4, a5, a6, a7⟩ := orbF_spec hp (nx.length - S.length) S h hn hin (by omega) hh
  change (S ++ orbS nx S h).Nodup at a1
  change ∀ x ∈ orbS nx S h, In nx.length x at a2
  change h ∈ S ++ orbS nx S h at a3
  change ∀ x ∈ orbS nx S h, Orb (gI nx) h x at a4
  change ∀ x ∈ orbS nx S h, gI nx x ∈ S ++ orbS nx S h at a5
  change ∀ i : Nat, i + 1 < (orbS nx S h).length → gI (orbS nx S h) ((i : Int) + 1) = gI nx (gI (orbS nx S h) (i : Int)) at a6
  change orbS nx S h ≠ [] → gI (orbS nx S h) 0 = h at a7
  have hmem : h ∈ orbS nx S h := (List.mem_append.1 a3).resolve_left hS
  have hne : orbS nx S h ≠ [] := fun e => by rw [e] at hmem; cases hmem
  have h0 := a7 hne
  have hd : ∀ x ∈ orbS nx S h, x ∉ S := fun x hx hxS => (List.nodup_append.1 a1).2.2 x hxS x hx rfl
  refine ⟨⟨hne, hd, a2, fun x hx => by rw [h0]; exact a4 x hx, fun x hx => ?_, a6⟩, h0, a1, hmem⟩
  rcases List.mem_append.1 (a5 x hx) with hs | hs
  · have hb := hp.eqv.symm _ _ (a2 x hx) (hp.rng x (a2 x hx)) (Orb.step (gI nx) x)
    exact absurd (Orb.ind (S := fun z => z ∈ S) hc hb hs) (hd x hx)
  · exact hs
theorem facesL_spec {nx : List Int} (hp : Pm nx.length (gI nx)) : ∀ (l S : List Int), S.Nodup → (∀ x ∈ S, In nx.length x) → (∀ x ∈ S, gI nx x ∈ S) → (∀ x ∈ l, In nx.length x) →
    (∀ f ∈ facesL nx l S, FcOk nx S f ∧ gI f 0 ∈ l) ∧ (S ++ (facesL nx l S).flatten).Nodup ∧ ∀ h ∈ l, h ∈ S ++ (facesL nx l S).flatten
  | [], S, hn, _, _, _ => by simp [facesL, hn]
  | a :: l, S, hn, hin, hc, hl => by
    have ha := hl a (by simp)
    simp only [facesL]
    by_cases c : a ∈ S
    · rw [if_pos c]
      obtain ⟨h1, h2, h3⟩ := facesL_spec hp l S hn hin hc (fun x hx => hl x (by simp [hx]))
      refine ⟨fun f hf => ⟨(h1 f hf).1, by simp [(h1 f hf).2]⟩, h2, fun h hh => ?_⟩
      rcases List.mem_cons.1 hh with rfl | hh
      · simp [c]
      · exact h3 h hh
    · rw [if_neg c]
      obtain ⟨k1, k2, k3, k4⟩ := orbS_ok hp hn hin hc ha c
      obtain ⟨h1, h2, h3⟩ := facesL_spec hp l (S ++ orbS nx S a) k3 (fun x hx => by
        rcases List.mem_append.1 hx with h | h
        · exact hin x h
        · exact k1.inn x h) (fun x hx => by
        rcases List.mem_append.1 hx with h | h
        · simp [hc x h]
        · simp [k1.cls x h]) (fun x hx => hl x (by simp [hx]))
      rw [List.append_assoc] at h2 h3
      refine ⟨fun f hf => ?_, by rw [List.flatten_cons]; exact h2, fun h hh => ?_⟩
      · rcases List.mem_cons.1 hf with rfl | hf
        · exact ⟨k1, by rw [k2]; simp⟩
        · have := h1 f hf
          exact ⟨⟨this.1.ne, fun x hx hxS => this.1.notS x hx (by simp [hxS]), this.1.inn, this.1.orb, this.1.cls, this.1.chain⟩, by simp [this.2]⟩
      · rw [List.flatten_cons]
        rcases List.mem_cons.1 hh with rfl | hh
        · simp [k4]
        · exact h3 h hh
theorem head_mem {f : List Int} (h : f ≠ []) : gI f 0 ∈ f := by
  cases f with
  | nil => exact absurd rfl h
  | cons a l => simp [gI]
theorem heads_sub : ∀ (F : Rot), (∀ f ∈ F, f ≠ []) → List.Sublist (F.map fun f => gI f 0) F.flatten
  | [], _ => by simp
  | f :: F, h => by
    rw [List.map_cons, List.flatten_cons]
    have ih := heads_sub F (fun x hx => h x (by simp [hx]))
    cases f with
    | nil => exact absurd rfl (h [] (by simp))
    | cons a l =>
      have : gI (a :: l) 0 = a := by simp [gI]
      rw [this, List.cons_append]
      exact (ih.trans (List.sublist_append_right _ _)).cons₂ a
/-- all faces -/
theorem facesL_ok {nx : List Int} (hp : Pm nx.length (gI nx)) : (∀ f ∈ facesL nx (iotaI nx.length) [], FcOk nx [] f) ∧ (facesL nx (iotaI nx.length) []).flatten.Nodup ∧ (∀ h, In nx.length h → h ∈ (facesL nx (iotaI nx.length) []).flatten) ∧ Tr (In nx.length) (Orb (gI nx)) ((facesL nx (iotaI nx.length) []).map fun f => gI f 0) := by
  obtain ⟨h1, h2, h3⟩ := facesL_spec hp (iotaI nx.length) [] (by simp) (by simp) (by simp) (fun x hx => by have := iota_mem.1 hx; exact ⟨by omega, by omega⟩)
  rw [List.nil_append] at h2 h3
  have h3' : ∀ h, In nx.length h → h ∈ (facesL nx (iotaI nx.length) []).flatten := fun h hh => h3 h (iota_mem.2 ⟨hh.1, by have := hh.2; omega⟩)
  refine ⟨fun f hf => (h1 f hf).1, h2, h3', ⟨h2.sublist (heads_sub _ fun f hf => (h1 f hf).1.ne), fun x hx => ?_, fun x hx => ?_, fun x hx y hy hxy => ?_⟩⟩
  · obtain ⟨f, hf, rfl⟩ := List.mem_map.1 hx
    exact (h1 f hf).1.inn _ (head_mem (h1 f hf).1.ne)
  · obtain ⟨f, hf, hxf⟩ := List.mem_flatten.1 (h3' x hx)
    exact ⟨_, List.mem_map.2 ⟨f, hf, rfl⟩, hp.eqv.symm _ _ ((h1 f hf).1.inn _ (head_mem (h1 f hf).1.ne)) hx ((h1 f hf).1.orb x hxf)⟩
  · obtain ⟨f, hf, rfl⟩ := List.mem_map.1 hx
    obtain ⟨f', hf', rfl⟩ := List.mem_map.1 hy
    have hy' := Orb.ind (S := fun z => z ∈ f) (h1 f hf).1.cls hxy (head_mem (h1 f hf).1.ne)
    rw [flat_disj h2 hf hf' hy' (head_mem (h1 f' hf').1.ne)]
/-! a rotation's numbers -/
section
variable {g : Net} {r : Rot}
theorem rot_in (hr : RotP g r) : ∀ y ∈ r.flatten, In (2 * (g.2.length : Int)) y := fun y hy => by
  obtain ⟨l, hl, hyl⟩ := List.mem_flatten.1 hy
  obtain ⟨v, hv, e⟩ := List.mem_iff_getElem.1 hl
  have ev : gI r (v : Int) = l := by rw [← e]; simp [gI, hv]
  exact (hr.2.1 v hv y (by rw [ev]; exact hyl)).1
theorem cy_succ (hr : RotP g r) {x : Int} (hx : In (2 * (g.2.length : Int)) x) : cy r x = succS r x := by
  obtain ⟨v, hv, hh⟩ := rot_at hr hx.1 hx.2
  rw [succS_row hr hv hh, cy_mem hr.2.2.1 (gI_mem (xs := r) (i := (v : Int)) (by omega) hv) hh]
theorem rot_pm (hr : RotP g r) : Pm (2 * (g.2.length : Int)) (cy r) := (eul_ex hr.2.2.1 (rot_in hr)).1
theorem row_orb (hr : RotP g r) {v : Nat} (hv : (v : Int) < r.length) : ∀ i : Nat, (i : Int) < (gI r (v : Int)).length → Orb (cy r) (gI (gI r (v : Int)) 0) (gI (gI r (v : Int)) (i : Int))
  | 0, _ => Orb.refl _ _
  | i + 1, hi => by
    have hi' : (i : Int) < (gI r (v : Int)).length := by omega
    refine (row_orb hr hv i hi').trans ?_
    have hx := (hr.2.1 v (by omega) _ (gI_mem (xs := gI r (v : Int)) (i := (i : Int)) (by omega) hi')).1
    have h1 := Orb.step (cy r) (gI (gI r (v : Int)) (i : Int))
    rw [cy_succ hr hx, succS_at hr hv hi', Int.emod_eq_of_lt (by omega) (by omega)] at h1
    exact h1
theorem same_row (hr : RotP g r) {x y : Int} (hx : In (2 * (g.2.length : Int)) x) (hy : In (2 * (g.2.length : Int)) y) (h : fromS g x = fromS g y) : Orb (cy r) x y := by
  obtain ⟨v, i, hv, hi, rfl⟩ := rot_all hr hx.1 hx.2
  obtain ⟨w, j, hw, hj, rfl⟩ := rot_all hr hy.1 hy.2
  have e1 := (hr.2.1 v (by omega) _ (gI_mem (xs := gI r (v : Int)) (i := (i : Int)) (by omega) hi)).2
  have e2 := (hr.2.1 w (by omega) _ (gI_mem (xs := gI r (w : Int)) (i := (j : Int)) (by omega) hj)).2
  have e : v = w := by omega
  subst e
  have h0 := (hr.2.1 v (by omega) _ (gI_mem (xs := gI r (v : Int)) (i := 0) (by omega) (by omega))).1
  exact ((rot_pm hr).eqv.symm _ _ h0 hx (row_orb hr hv i hi)).trans (row_orb hr hv j hj)
theorem cy_from (hr : RotP g r) {x : Int} (hx : In (2 * (g.2.length : Int)) x) : fromS g (cy r x) = fromS g x := by
  obtain ⟨v, hv, hh⟩ := rot_at hr hx.1 hx.2
  rw [cy_mem hr.2.2.1 (gI_mem (xs := r) (i := (v : Int)) (by omega) hv) hh]
  have hlen : (0 : Int) < (gI r (v : Int)).length := by have := List.length_pos_of_mem hh; omega
  have hm := gI_mem (xs := gI r (v : Int)) (i := ((((gI r (v : Int)).idxOf x : Nat) : Int) + 1) % ((gI r (v : Int)).length : Int)) (Int.emod_nonneg _ (by omega)) (Int.emod_lt_of_pos _ hlen)
  rw [(hr.2.1 v (by omega) x hh).2]
  exact (hr.2.1 v (by omega) _ hm).2
theorem split_len {α : Type} (p : α → Bool) (l : List α) : (l.filter p).length + (l.filter fun x => !p x).length = l.length := by
  induction l with
  | nil => rfl
  | cons a l ih =>
    rw [List.filter_cons, List.filter_cons]
    by_cases h : p a
    · simp [h]; omega
    · simp [h]; omega
theorem empty_iota (r : Rot) (p : List Int → Bool) : (r.filter p).length = ((iotaI r.length).filter fun v => p (gI r v)).length := by
  conv => lhs; rw [← iota_map r]
  rw [List.filter_map, List.length_map]; rfl
/-- rounds of nodes -/
theorem rot_V (hr : RotP g r) : ∃ V : Nat, Num (In (2 * (g.2.length : Int))) (Orb (cy r)) V ∧ (V : Int) + ((r.filter fun l => decide (l.length = 0)).length : Nat) = g.1 := by
  have hrl := hr.1
  have hin : ∀ v, v ∈ (iotaI r.length).filter (fun v => !decide ((gI r v).length = 0)) ↔ (0 ≤ v ∧ v < r.length) ∧ (gI r v).length ≠ 0 := fun v => by
    rw [List.mem_filter, iota_mem]; simp
  refine ⟨_, Num.map (D := fun v => (0 ≤ v ∧ v < r.length) ∧ (gI r v).length ≠ 0) (R := fun a b => a = b) (fun v => gI (gI r v) 0) ⟨_, ⟨(iota_nodup r.length).filter _, fun x hx => (hin x).1 hx, fun x hx => ⟨x, (hin x).2 hx, rfl⟩, fun x _ y _ e => e⟩, rfl⟩ (rot_pm hr).eqv (fun v hv => ?_) (fun v w hv hw e => by rw [e]; exact Orb.refl _ _) (fun v w hv hw ho => ?_) (fun z hz => ?_), ?_⟩
  · have h1 := hr.2.1 v.toNat (by omega) (gI (gI r v) 0) (by rw [show ((v.toNat : Nat) : Int) = v by omega]; exact gI_mem (by omega) (by omega))
    exact h1.1
  · have key : ∀ v : Int, (0 ≤ v ∧ v < r.length) ∧ (gI r v).length ≠ 0 → In (2 * (g.2.length : Int)) (gI (gI r v) 0) ∧ fromS g (gI (gI r v) 0) = v := fun v hv => by
      have h1 := hr.2.1 v.toNat (by omega) (gI (gI r v) 0) (by rw [show ((v.toNat : Nat) : Int) = v by omega]; exact gI_mem (by omega) (by omega))
      exact ⟨h1.1, by rw [h1.2]; omega⟩
    obtain ⟨a1, a2⟩ := key v hv
    obtain ⟨b1, b2⟩ := key w hw
    have := (Orb.ind (S := fun z => In (2 * (g.2.length : Int)) z ∧ fromS g z = v) (fun z hz => ⟨(rot_pm hr).rng z hz.1, by rw [cy_from hr hz.1]; exact hz.2⟩) ho ⟨a1, a2⟩).2
    omega
  · obtain ⟨v, i, hv, hi, e⟩ := rot_all hr hz.1 hz.2
    have h0 := (hr.2.1 v (by omega) _ (gI_mem (xs := gI r (v : Int)) (i := 0) (by omega) (by omega))).1
    refine ⟨(v : Int), ⟨⟨by omega, hv⟩, by omega⟩, (rot_pm hr).eqv.symm _ _ h0 hz ?_⟩
    rw [← e]; exact row_orb hr hv i hi
  · have h1 := split_len (fun v => decide ((gI r v).length = 0)) (iotaI r.length)
    have h2 := empty_iota r (fun l => decide (l.length = 0))
    rw [iota_len] at h1
    omega
/-- what is joined -/
theorem rot_C (hm : MayP g) (hr : RotP g r) : ∃ C : Nat, Num (In (2 * (g.2.length : Int))) (Lk (2 * (g.2.length : Int)) (cy r) twin) C ∧ (C : Int) + ((r.filter fun l => decide (l.length = 0)).length : Nat) = (partsR g).2.1 := by
  obtain ⟨C, hC⟩ := Num.ex (Lk.eqv (2 * (g.2.length : Int)) (cy r) twin)
  refine ⟨C, hC, ?_⟩
  obtain ⟨k, ek, hk⟩ := parts_num hm
  rw [ek]
  obtain ⟨lC, hT, rfl⟩ := hC
  have hrl := hr.1
  have hcn := Cn.eqv g
  have hle := Lk.eqv (2 * (g.2.length : Int)) (cy r) twin
  have hpm := rot_pm hr
  have hfin : ∀ x, In (2 * (g.2.length : Int)) x → ndP g (fromS g x) := fun x hx => fromS_in hm hx.1 hx.2
  have hsame : ∀ x y, In (2 * (g.2.length : Int)) x → In (2 * (g.2.length : Int)) y → fromS g x = fromS g y → Lk (2 * (g.2.length : Int)) (cy r) twin x y := fun x y hx hy e => Lk.orb hpm hx (same_row hr hx hy e)
  have htw : ∀ x, In (2 * (g.2.length : Int)) x → fromS g (twin x) = toS g x := fun x hx => by
    unfold fromS toS
    rw [twin_half hx.1]
    congr 1
    unfold twin; split <;> omega
  have hup : ∀ x y, Lk (2 * (g.2.length : Int)) (cy r) twin x y → Cn g (fromS g x) (fromS g y) := fun x y h => h (fun x y => Cn g (fromS g x) (fromS g y)) ⟨fun x hx => hcn.rfl _ (hfin x hx), fun x y hx hy h => hcn.symm _ _ (hfin x hx) (hfin y hy) h, fun x y z hx hy hz h1 h2 => hcn.trans _ _ _ (hfin x hx) (hfin y hy) (hfin z hz) h1 h2⟩ (fun x hx => by rw [cy_from hr hx]; exact hcn.rfl _ (hfin x hx)) (fun x hx => by rw [htw x hx]; exact Cn.half hm hx.1 hx.2)
  have hdn : ∀ u v, ndP g u → ndP g v → Cn g u v → u = v ∨ ∃ x y, (In (2 * (g.2.length : Int)) x ∧ In (2 * (g.2.length : Int)) y) ∧ (fromS g x = u ∧ fromS g y = v) ∧ Lk (2 * (g.2.length : Int)) (cy r) twin x y := fun u v _ _ h => h (fun u v => u = v ∨ ∃ x y, (In (2 * (g.2.length : Int)) x ∧ In (2 * (g.2.length : Int)) y) ∧ (fromS g x = u ∧ fromS g y = v) ∧ Lk (2 * (g.2.length : Int)) (cy r) twin x y) ⟨fun u _ => .inl rfl, fun u v _ _ h => by
      rcases h with e | ⟨x, y, ⟨hx, hy⟩, ⟨ex, ey⟩, hl⟩
      · exact .inl e.symm
      · exact .inr ⟨y, x, ⟨hy, hx⟩, ⟨ey, ex⟩, hle.symm _ _ hx hy hl⟩, fun u v w _ _ _ h1 h2 => by
      rcases h1 with e | ⟨x, y, ⟨hx, hy⟩, ⟨ex, ey⟩, hl⟩
      · rw [e]; exact h2
      · rcases h2 with e | ⟨x', y', ⟨hx', hy'⟩, ⟨ex', ey'⟩, hl'⟩
        · rw [← e]; exact .inr ⟨x, y, ⟨hx, hy⟩, ⟨ex, ey⟩, hl⟩
        · exact .inr ⟨x, y', ⟨hx, hy'⟩, ⟨ex, ey'⟩, hle.trans _ _ _ hx hy hy' hl (hle.trans _ _ _ hy hx' hy' (hsame y x' hy hx' (by rw [ey, ex'])) hl')⟩⟩ (fun e he => by
      obtain ⟨i, hi, rfl⟩ := List.mem_iff_getElem.1 he
      have e0 : gI g.2 (i : Int) = g.2[i] := by simp [gI, hi]
      have h1 : In (2 * (g.2.length : Int)) (2 * (i : Int)) := ⟨by omega, by omega⟩
      have h2 := (twin_tw g.2.length).rng _ h1
      obtain ⟨a, b, c, d⟩ := out_of (g := g) (i := i) (by omega)
      refine .inr ⟨2 * (i : Int), twin (2 * (i : Int)), ⟨h1, h2⟩, ⟨by rw [(outS_in a).2, e0], by rw [htw _ h1, c, e0]⟩, Lk.t h1⟩)
  have hiso : ∀ v, v ∈ (iotaI r.length).filter (fun v => decide ((gI r v).length = 0)) ↔ (0 ≤ v ∧ v < r.length) ∧ (gI r v).length = 0 := fun v => by
    rw [List.mem_filter, iota_mem]; simp
  have hnoin : ∀ v, (gI r v).length = 0 → ∀ x, In (2 * (g.2.length : Int)) x → fromS g x ≠ v := fun v hv x hx e => by
    obtain ⟨w, hw, hh⟩ := rot_at hr hx.1 hx.2
    have := (hr.2.1 w (by omega) x hh).2
    rw [e] at this
    rw [this] at hv
    have := List.length_pos_of_mem hh
    omega
  have hTn : Tr (ndP g) (Cn g) (lC.map (fromS g) ++ (iotaI r.length).filter (fun v => decide ((gI r v).length = 0))) := by
    refine ⟨List.nodup_append.2 ⟨nodup_map_on hT.nd (fun x hx y hy e => hT.one x hx y hy (hsame x y (hT.dom x hx) (hT.dom y hy) e)), (iota_nodup _).filter _, fun a ha b hb e => ?_⟩, fun v hv => ?_, fun v hv => ?_, fun u hu v hv huv => ?_⟩
    · obtain ⟨x, hx, rfl⟩ := List.mem_map.1 ha
      exact hnoin b ((hiso b).1 hb).2 x (hT.dom x hx) e
    · rcases List.mem_append.1 hv with h | h
      · obtain ⟨x, hx, rfl⟩ := List.mem_map.1 h
        exact hfin x (hT.dom x hx)
      · have := ((hiso v).1 h).1
        exact ⟨this.1, by omega⟩
    · have hv1 := hv.1
      have hv2 := hv.2
      by_cases c : (gI r v).length = 0
      · exact ⟨v, List.mem_append.2 (.inr ((hiso v).2 ⟨⟨hv1, by omega⟩, c⟩)), hcn.rfl v hv⟩
      · have h1 := hr.2.1 v.toNat (by omega) (gI (gI r v) 0) (by rw [show ((v.toNat : Nat) : Int) = v by omega]; exact gI_mem (by omega) (by omega))
        obtain ⟨y, hy, hxy⟩ := hT.all _ h1.1
        refine ⟨fromS g y, List.mem_append.2 (.inl (List.mem_map.2 ⟨y, hy, rfl⟩)), ?_⟩
        have h2 := hup _ _ hxy
        rw [h1.2, show ((v.toNat : Nat) : Int) = v by omega] at h2
        exact h2
    · have hud : ∀ u ∈ lC.map (fromS g) ++ (iotaI r.length).filter (fun v => decide ((gI r v).length = 0)), ndP g u := fun u hu => by
        rcases List.mem_append.1 hu with h | h
        · obtain ⟨x, hx, rfl⟩ := List.mem_map.1 h
          exact hfin x (hT.dom x hx)
        · have := ((hiso u).1 h).1
          exact ⟨this.1, by omega⟩
      rcases hdn u v (hud u hu) (hud v hv) huv with e | ⟨x, y, ⟨hx, hy⟩, ⟨ex, ey⟩, hl⟩
      · exact e
      · rcases List.mem_append.1 hu with h | h
        · obtain ⟨x', hx', rfl⟩ := List.mem_map.1 h
          rcases List.mem_append.1 hv with h' | h'
          · obtain ⟨y', hy', rfl⟩ := List.mem_map.1 h'
            have hxd := hT.dom x' hx'
            have hyd := hT.dom y' hy'
            rw [hT.one x' hx' y' hy' (hle.trans _ _ _ hxd hx hyd (hsame _ _ hxd hx ex.symm) (hle.trans _ _ _ hx hy hyd hl (hsame _ _ hy hyd ey)))]
          · exact absurd ey (hnoin v ((hiso v).1 h').2 y hy)
        · exact absurd ex (hnoin u ((hiso u).1 h).2 x hx)
  have := Num.eq hcn ⟨_, hTn, rfl⟩ hk
  rw [List.length_append, List.length_map] at this
  have h2 := empty_iota r (fun l => decide (l.length = 0))
  omega
theorem next_pm (hr : RotP g r) : Pm (nextS g r).length (gI (nextS g r)) ∧ ∀ x, In (2 * (g.2.length : Int)) x → gI (nextS g r) x = cy r (twin x) := by
  have hl := nextS_len g r
  have h1 : ∀ x, In (2 * (g.2.length : Int)) x → gI (nextS g r) x = cy r (twin x) := fun x hx => by
    rw [nextS_gI hx.1 hx.2, cy_succ hr ((twin_tw g.2.length).rng x hx)]
  refine ⟨?_, h1⟩
  rw [hl]
  exact ((twin_tw g.2.length).comp (rot_pm hr)).congr fun x hx => (h1 x hx).symm
/-- rounds of faces -/
theorem rot_F (hr : RotP g r) : ∃ F : Nat, Num (In (2 * (g.2.length : Int))) (Orb fun x => cy r (twin x)) F ∧ F + (r.filter fun l => decide (l.length = 0)).length = (facesS (nextS g r) r).length := by
  obtain ⟨h1, h2⟩ := next_pm hr
  have h3 := (facesL_ok h1).2.2.2
  refine ⟨_, Num.iff ⟨_, by rw [nextS_len] at h3; exact h3, rfl⟩ (fun x y hx hy => Orb.iff (by rw [nextS_len] at h1; exact h1) h2 hx), ?_⟩
  unfold facesS
  rw [List.length_append, List.length_map, List.length_map]
/-- Euler's count -/
theorem genus_ec (hm : MayP g) (hr : RotP g r) : Ec (2 * (g.2.length : Int)) twin (cy r) (2 * (partsR g).2.1 - g.1 - ((facesS (nextS g r) r).length : Int)) := by
  obtain ⟨V, hV, eV⟩ := rot_V hr
  obtain ⟨C, hC, eC⟩ := rot_C hm hr
  obtain ⟨F, hF, eF⟩ := rot_F hr
  refine ⟨V, F, C, hV, hF, hC, ?_⟩
  omega
/-- the genus is a whole number, and not negative -/
theorem genus_ok (hm : MayP g) (hr : RotP g r) : 0 ≤ 2 * (partsR g).2.1 - g.1 + (g.2.length : Int) - ((facesS (nextS g r) r).length : Int) ∧ (2 * (partsR g).2.1 - g.1 + (g.2.length : Int) - ((facesS (nextS g r) r).length : Int)) % 2 = 0 := by
  obtain ⟨hp, d, h1, h2, h3⟩ := eul_ex hr.2.2.1 (rot_in hr)
  have := h1.uniq (twin_tw g.2.length) hp (genus_ec hm hr)
  omega
end
end TL
