/-
  TlNetChg: degrees behind a split and a merge; a bare net is simple, and bare again the same.
  By an AI agent.
-/
import Derived.Test.YtgaefcjhggdkcaaTlNet3
set_option linter.all false
namespace TL
/-- how many ends are v -/
def dgL (l : List (Int × Int)) (v : Int) : Nat := l.countP (fun e => decide (e.1 = v)) + l.countP (fun e => decide (e.2 = v))
theorem dgL_nil (v : Int) : dgL [] v = 0 := rfl
theorem dgL_append (l m : List (Int × Int)) (v : Int) : dgL (l ++ m) v = dgL l v + dgL m v := by
  simp only [dgL, List.countP_append]; omega
theorem dgL_cons (e : Int × Int) (l : List (Int × Int)) (v : Int) : dgL (e :: l) v = (if e.1 = v then 1 else 0) + (if e.2 = v then 1 else 0) + dgL l v := by
  simp only [dgL, List.countP_cons]
  by_cases h1 : e.1 = v <;> by_cases h2 : e.2 = v <;> simp [h1, h2] <;> omega
theorem out_dgL (g : Net) (v : Int) : (outS g v).length = dgL g.2 v := by
  have key : ∀ k : Nat, k ≤ g.2.length → (outSk g v k).length = dgL (g.2.take k) v := by
    intro k
    induction k with
    | zero => intro _; simp [outSk, dgL]
    | succ k ih =>
      intro hk
      have h1 := outSk_len_succ g v k
      have h2 := ih (by omega)
      rw [take_succ_gI (by omega), dgL_append, dgL_cons, dgL_nil]
      have h3 : ∀ p : Prop, [Decidable p] → ((if p then (1 : Int) else 0)) = ((if p then (1 : Nat) else 0 : Nat) : Int) := fun p _ => by by_cases h : p <;> simp [h]
      rw [h3, h3] at h1
      omega
  have := key g.2.length (Nat.le_refl _)
  rwa [List.take_length] at this
theorem deg_dgL {g : Net} {v : Int} (h0 : 0 ≤ v) (h1 : v < g.1) : gI (degS g) v = (dgL g.2 v : Int) := by rw [deg_gI h0 h1, out_dgL]
theorem set_parts {α : Type} [Inhabited α] {l : List α} {i : Int} (h0 : 0 ≤ i) (h1 : i < l.length) (x : α) : l.set i.toNat x = l.take i.toNat ++ x :: l.drop (i.toNat + 1) ∧ l = l.take i.toNat ++ gI l i :: l.drop (i.toNat + 1) := by
  have hi : i.toNat < l.length := by omega
  refine ⟨List.set_eq_take_append_cons_drop .. ▸ by simp [hi], ?_⟩
  have e : gI l i = l[i.toNat] := by simp [gI, hi]
  rw [e, ← List.drop_eq_getElem_cons hi, List.take_append_drop]
theorem dgL_far {l : List (Int × Int)} {n : Int} (h : ∀ e ∈ l, okE n e) : dgL l n = 0 := by
  induction l with
  | nil => rfl
  | cons e l ih =>
    have := h e (by simp)
    unfold okE at this
    rw [dgL_cons, ih (fun e he => h e (by simp [he])), if_neg (by omega), if_neg (by omega)]
theorem splitR_ok {g : Net} {e : Int} (h : (splitR g e).2 = 0) : MayP g ∧ (0 ≤ e ∧ e < (g.2.length : Int)) ∧ (g.1 < 1024 ∧ g.2.length < 3072) ∧ splitR g e = ((g.1 + 1, g.2.set e.toNat ((gI g.2 e).1, g.1) ++ [(g.1, (gI g.2 e).2)]), 0) := by
  unfold splitR at h ⊢
  by_cases h1 : MayP g
  · by_cases h2 : 0 ≤ e ∧ e < (g.2.length : Int)
    · by_cases h3 : g.1 < 1024 ∧ g.2.length < 3072
      · rw [if_pos h1, if_pos h2, if_pos h3]; exact ⟨h1, h2, h3, rfl⟩
      · rw [if_pos h1, if_pos h2, if_neg h3] at h; simp at h
    · rw [if_pos h1, if_neg h2] at h; simp at h
  · rw [if_neg h1] at h; simp at h
theorem split_dg {g : Net} {e : Int} (h : (splitR g e).2 = 0) (v : Int) : dgL (splitR g e).1.2 v = if v = g.1 then 2 else dgL g.2 v := by
  obtain ⟨hm, he, hs, h4⟩ := splitR_ok h
  obtain ⟨m1, m2, m3, m4⟩ := hm
  obtain ⟨s1, s2⟩ := set_parts he.1 he.2 ((gI g.2 e).1, g.1)
  have hok := m4 _ (gI_mem (xs := g.2) he.1 he.2)
  unfold okE at hok
  have hfar := dgL_far m4
  rw [h4]
  show dgL (g.2.set e.toNat ((gI g.2 e).1, g.1) ++ [(g.1, (gI g.2 e).2)]) v = _
  rw [s1]
  have hg : dgL g.2 v = dgL (g.2.take e.toNat) v + ((if (gI g.2 e).1 = v then 1 else 0) + (if (gI g.2 e).2 = v then 1 else 0) + dgL (g.2.drop (e.toNat + 1)) v) := by
    conv => lhs; rw [s2]
    rw [dgL_append, dgL_cons]
  have hg' := hg
  simp only [dgL_append, dgL_cons, dgL_nil]
  by_cases hv : v = g.1
  · subst hv
    rw [if_pos rfl]
    rw [hfar] at hg
    have i1 : ¬ (gI g.2 e).1 = g.1 := by omega
    have i2 : ¬ (gI g.2 e).2 = g.1 := by omega
    rw [if_neg i1, if_neg i2] at hg
    rw [if_neg i1, if_neg i2]
    simp
    omega
  · rw [if_neg hv, hg]
    rw [if_neg (show ¬ g.1 = v from fun h => hv h.symm)]
    omega
theorem split_may {g : Net} {e : Int} (h : (splitR g e).2 = 0) : MayP (splitR g e).1 := by
  obtain ⟨hm, he, hs, h4⟩ := splitR_ok h
  obtain ⟨m1, m2, m3, m4⟩ := hm
  rw [h4]
  refine ⟨by show 0 ≤ g.1 + 1; omega, by show g.1 + 1 ≤ 1024; omega, by simp; omega, fun d hd => ?_⟩
  have hok := m4 _ (gI_mem (xs := g.2) he.1 he.2)
  unfold okE at hok
  show okE (g.1 + 1) d
  rcases List.mem_append.1 hd with hd | hd
  · rcases List.mem_or_eq_of_mem_set hd with hd | rfl
    · have := m4 d hd
      unfold okE at this ⊢; omega
    · unfold okE; simp only; omega
  · obtain rfl := List.mem_singleton.1 hd
    unfold okE; simp only; omega
end TL
namespace TL
theorem mergeR_ok {g : Net} {u v : Int} (h : (mergeR g u v).2.2 = 0) : MayP g ∧ ((0 ≤ u ∧ u < g.1) ∧ 0 ≤ v ∧ v < g.1) ∧ (¬ u = v) ∧ mergeR g u v = (renR g (mergeTo g.1 u v) (g.1 - 1), mergeTo g.1 u v, 0) := by
  unfold mergeR at h ⊢
  by_cases h1 : MayP g
  · by_cases h2 : (0 ≤ u ∧ u < g.1) ∧ 0 ≤ v ∧ v < g.1
    · by_cases h3 : u = v
      · rw [if_pos h1, if_pos h2, if_pos h3] at h; simp at h
      · rw [if_pos h1, if_pos h2, if_neg h3]; exact ⟨h1, h2, h3, rfl⟩
    · rw [if_pos h1, if_neg h2] at h; simp at h
  · rw [if_neg h1] at h; simp at h
theorem mergeTo_gI {n u v w : Int} (h0 : 0 ≤ w) (h1 : w < n) : gI (mergeTo n u v) w = mergeN u v w := by
  unfold mergeTo
  rw [gI_map _ h0 (by rw [iota_len]; omega), iota_gI h0 (by omega)]
theorem mergeN_in {n u v w : Int} (hu : 0 ≤ u ∧ u < n) (hv : 0 ≤ v ∧ v < n) (hne : ¬ u = v) (hw : 0 ≤ w ∧ w < n) : 0 ≤ mergeN u v w ∧ mergeN u v w < n - 1 := by
  unfold mergeN
  repeat' split
  all_goals omega
theorem mergeN_uv {u v : Int} (hne : ¬ u = v) : mergeN u v u = mergeN u v v := by
  unfold mergeN
  repeat' split
  all_goals omega
theorem mergeN_u {u v a : Int} (hne : ¬ u = v) : mergeN u v a = mergeN u v u ↔ a = u ∨ a = v := by
  unfold mergeN
  repeat' split
  all_goals omega
theorem mergeN_w {u v w a : Int} (hne : ¬ u = v) (hu : ¬ w = u) (hv : ¬ w = v) : mergeN u v a = mergeN u v w ↔ a = w := by
  unfold mergeN
  repeat' split
  all_goals omega
theorem if_or_add {p q : Prop} [Decidable p] [Decidable q] [Decidable (p ∨ q)] (h : p → ¬ q) : (if p ∨ q then (1 : Nat) else 0) = (if p then 1 else 0) + (if q then 1 else 0) := by
  by_cases h1 : p
  · have := h h1; simp [h1, this]
  · by_cases h2 : q <;> simp [h1, h2]
theorem merge_dgu {n u v : Int} (hne : ¬ u = v) {l : List (Int × Int)} (h : ∀ e ∈ l, okE n e) : dgL (l.map (renS (mergeTo n u v))) (mergeN u v u) = dgL l u + dgL l v := by
  induction l with
  | nil => rfl
  | cons e l ih =>
    have he := h e (by simp)
    unfold okE at he
    rw [List.map_cons, dgL_cons, ih (fun e he => h e (by simp [he])), dgL_cons, dgL_cons]
    unfold renS
    rw [mergeTo_gI he.1.1 he.1.2, mergeTo_gI he.2.1 he.2.2]
    simp only [mergeN_u hne]
    rw [if_or_add (fun h1 h2 => hne (h1.symm.trans h2)), if_or_add (fun h1 h2 => hne (h1.symm.trans h2))]
    omega
theorem merge_dgw {n u v w : Int} (hne : ¬ u = v) (hu : ¬ w = u) (hv : ¬ w = v) {l : List (Int × Int)} (h : ∀ e ∈ l, okE n e) : dgL (l.map (renS (mergeTo n u v))) (mergeN u v w) = dgL l w := by
  induction l with
  | nil => rfl
  | cons e l ih =>
    have he := h e (by simp)
    unfold okE at he
    rw [List.map_cons, dgL_cons, ih (fun e he => h e (by simp [he])), dgL_cons]
    unfold renS
    rw [mergeTo_gI he.1.1 he.1.2, mergeTo_gI he.2.1 he.2.2]
    simp only [mergeN_w hne hu hv]
theorem merge_may {g : Net} {u v : Int} (h : (mergeR g u v).2.2 = 0) : MayP (mergeR g u v).1 := by
  obtain ⟨⟨m1, m2, m3, m4⟩, ⟨hu, hv⟩, hne, e⟩ := mergeR_ok h
  rw [e]
  refine ⟨by show 0 ≤ g.1 - 1; omega, by show g.1 - 1 ≤ 1024; omega, by simpa [renR] using m3, fun d hd => ?_⟩
  obtain ⟨c, hc, rfl⟩ := List.mem_map.1 hd
  have hc' := m4 c hc
  unfold okE at hc' ⊢
  unfold renS
  rw [mergeTo_gI hc'.1.1 hc'.1.2, mergeTo_gI hc'.2.1 hc'.2.2]
  exact ⟨mergeN_in hu hv hne hc'.1, mergeN_in hu hv hne hc'.2⟩
theorem merge_to {g : Net} {u v w : Int} (h : (mergeR g u v).2.2 = 0) (h0 : 0 ≤ w) (h1 : w < g.1) : gI (mergeR g u v).2.1 w = mergeN u v w ∧ 0 ≤ mergeN u v w ∧ mergeN u v w < (mergeR g u v).1.1 := by
  obtain ⟨_, ⟨hu, hv⟩, hne, e⟩ := mergeR_ok h
  rw [e]
  exact ⟨mergeTo_gI h0 h1, mergeN_in hu hv hne ⟨h0, h1⟩⟩
theorem merge_deg_u {g : Net} {u v : Int} (h : (mergeR g u v).2.2 = 0) : gI (degS (mergeR g u v).1) (gI (mergeR g u v).2.1 u) = gI (degS g) u + gI (degS g) v := by
  obtain ⟨⟨m1, m2, m3, m4⟩, ⟨hu, hv⟩, hne, e⟩ := mergeR_ok h
  obtain ⟨t1, t2, t3⟩ := merge_to h hu.1 hu.2
  rw [t1, deg_dgL t2 t3, deg_dgL hu.1 hu.2, deg_dgL hv.1 hv.2, e]
  simp only [renR]
  rw [merge_dgu hne m4]; omega
theorem merge_deg_w {g : Net} {u v w : Int} (h : (mergeR g u v).2.2 = 0) (hw : 0 ≤ w ∧ w < g.1) (h1 : ¬ w = u) (h2 : ¬ w = v) : gI (degS (mergeR g u v).1) (gI (mergeR g u v).2.1 w) = gI (degS g) w := by
  obtain ⟨⟨m1, m2, m3, m4⟩, ⟨hu, hv⟩, hne, e⟩ := mergeR_ok h
  obtain ⟨t1, t2, t3⟩ := merge_to h hw.1 hw.2
  rw [t1, deg_dgL t2 t3, deg_dgL hw.1 hw.2, e]
  simp only [renR]
  rw [merge_dgw hne h1 h2 m4]
theorem merge_to_uv {g : Net} {u v : Int} (h : (mergeR g u v).2.2 = 0) : gI (mergeR g u v).2.1 u = gI (mergeR g u v).2.1 v := by
  obtain ⟨_, ⟨hu, hv⟩, hne, e⟩ := mergeR_ok h
  rw [(merge_to h hu.1 hu.2).1, (merge_to h hv.1 hv.2).1, mergeN_uv hne]
/-- what a bare net's edges are -/
theorem bare_facts (g : Net) : ∀ k : Nat, (k : Int) ≤ g.2.length → (((bareK g k).map (gI g.2)).map lvl).Nodup ∧ (∀ q ∈ ((bareK g k).map (gI g.2)).map lvl, q ∈ (g.2.map lvl).take k) ∧ (∀ d ∈ (bareK g k).map (gI g.2), d ∈ g.2 ∧ ¬ d.1 = d.2) := by
  intro k
  induction k with
  | zero => intro _; simp [bareK, iotaI]
  | succ k ih =>
    intro hk
    obtain ⟨a, b, c⟩ := ih (by omega)
    rw [bareK_succ, map_take_succ (by omega)]
    by_cases hp : bareP g (k : Int) = true
    · rw [if_pos hp]
      have hp' := hp
      unfold bareP at hp'
      simp only [Int.toNat_natCast, Bool.and_eq_true, decide_eq_true_eq] at hp'
      simp only [List.map_append, List.map_cons, List.map_nil]
      refine ⟨?_, fun q hq => ?_, fun d hd => ?_⟩
      · rw [List.nodup_append]
        refine ⟨a, by simp, fun x hx y hy => ?_⟩
        obtain rfl := List.mem_singleton.1 hy
        intro e
        exact hp'.2 (e ▸ b x hx)
      · rcases List.mem_append.1 hq with h | h
        · exact List.mem_append.2 (.inl (b q h))
        · exact List.mem_append.2 (.inr h)
      · rcases List.mem_append.1 hd with h | h
        · exact c d h
        · obtain rfl := List.mem_singleton.1 h
          exact ⟨gI_mem (by omega) (by omega), hp'.1⟩
    · rw [if_neg hp]
      exact ⟨a, fun q hq => List.mem_append.2 (.inl (b q hq)), c⟩
theorem bareR_eq {g : Net} (hm : MayP g) : bareR g = ((g.1, (bareK g g.2.length).map (gI g.2)), bareK g g.2.length, 0) := by unfold bareR; rw [if_pos hm]
theorem bare_may {g : Net} (hm : MayP g) : MayP (bareR g).1 := by
  obtain ⟨m1, m2, m3, m4⟩ := hm
  rw [bareR_eq ⟨m1, m2, m3, m4⟩]
  refine ⟨m1, m2, ?_, fun d hd => m4 d ((bare_facts g _ (Int.le_refl _)).2.2 d hd).1⟩
  have := bareK_len g g.2.length
  simp only [List.length_map]; omega
theorem bare_not {g : Net} (hm : MayP g) : ∀ i : Nat, i < (bareR g).1.2.length → ¬ (gI (bareR g).1.2 (i : Int)).1 = (gI (bareR g).1.2 (i : Int)).2 ∧ ¬ lvl (gI (bareR g).1.2 (i : Int)) ∈ ((bareR g).1.2.map lvl).take i := by
  obtain ⟨a, b, c⟩ := bare_facts g g.2.length (Int.le_refl _)
  rw [bareR_eq hm]
  intro i hi
  simp only at hi ⊢
  refine ⟨(c _ (gI_mem (by omega) (by omega))).2, fun hmem => ?_⟩
  generalize (bareK g g.2.length).map (gI g.2) = L at a hi hmem
  have hs : (L.map lvl).take (i + 1) = (L.map lvl).take i ++ [lvl (gI L (i : Int))] := by
    rw [take_succ_gI (xs := L.map lvl) (by simp; omega), gI_map lvl (by omega) (by omega)]
  have hn := a.sublist (List.take_sublist (i + 1) (L.map lvl))
  rw [hs, List.nodup_append] at hn
  exact hn.2.2 _ hmem _ (by simp) rfl
theorem bare_bare {g : Net} (hm : MayP g) : bareR (bareR g).1 = ((bareR g).1, iotaI (bareR g).1.2.length, 0) := by
  have hb := bare_not hm
  rw [bareR_eq (bare_may hm)]
  generalize (bareR g).1 = b at hb
  have hK : bareK b b.2.length = iotaI b.2.length := by
    unfold bareK
    rw [List.filter_eq_self]
    intro i hi
    have hi' := iota_mem.1 hi
    have := hb i.toNat (by omega)
    rw [show (i.toNat : Int) = i by omega] at this
    unfold bareP
    simp only [Bool.and_eq_true, decide_eq_true_eq]
    exact this
  rw [hK, iota_map]
theorem bare_len {g : Net} (hm : MayP g) : (bareR (bareR g).1).2.1.length = (bareR g).2.1.length := by
  rw [bare_bare hm]
  show (iotaI (bareR g).1.2.length).length = _
  rw [iota_len, bareR_eq hm]
  simp
theorem bare_loops {g : Net} (hm : MayP g) : loopsK (bareR g).1 (bareR g).1.2.length = 0 := by
  have hb := bare_not hm
  generalize (bareR g).1 = b at hb
  unfold loopsK
  rw [List.take_length]
  have : List.countP (fun e => decide (e.1 = e.2)) b.2 = 0 := by
    rw [List.countP_eq_zero]
    intro d hd
    obtain ⟨i, hi, rfl⟩ := List.mem_iff_getElem.1 hd
    have := (hb i hi).1
    rw [show gI b.2 (i : Int) = b.2[i] by simp [gI, hi]] at this
    simpa using this
  rw [this]; rfl
theorem bare_par {g : Net} (hm : MayP g) : parK (bareR g).1 (bareR g).1.2.length = 0 := by
  have hb := bare_not hm
  generalize (bareR g).1 = b at hb
  unfold parK
  have : List.countP (fun (i : Nat) => decide (lvl (gI b.2 (i : Int)) ∈ (b.2.map lvl).take i)) (List.range b.2.length) = 0 := by
    rw [List.countP_eq_zero]
    intro i hi
    have := (hb i (List.mem_range.1 hi)).2
    simpa using this
  rw [this]; rfl
theorem bare_simple {g : Net} (hm : MayP g) : (lookR (bareR g).1).1.2.2.2.2 = true := by
  unfold lookR
  rw [if_pos (bare_may hm), bare_loops hm, bare_par hm]
  rfl
theorem split_take {g : Net} {e : Int} (h : (splitR g e).2 = 0) : (degS (splitR g e).1).take g.1.toNat = degS g ∧ gI (degS (splitR g e).1) g.1 = 2 ∧ ((degS (splitR g e).1).length : Int) = g.1 + 1 := by
  obtain ⟨hm, he, hs, h4⟩ := splitR_ok h
  have h5 : (splitR g e).1.1 = g.1 + 1 := by rw [h4]
  have hm1 := hm.1
  have hl := deg_len (g := (splitR g e).1) (by omega)
  have hl0 := deg_len (g := g) hm1
  refine ⟨?_, ?_, by omega⟩
  · apply list_ext_gI
    · rw [List.length_take]; omega
    · intro i hi
      rw [List.length_take] at hi
      have e1 : gI ((degS (splitR g e).1).take g.1.toNat) (i : Int) = gI (degS (splitR g e).1) (i : Int) := by
        simp [gI, List.getElem?_take, show i < g.1.toNat by omega]
      rw [e1, deg_dgL (by omega) (by omega), deg_dgL (by omega) (by omega), split_dg h, if_neg (by omega)]
  · rw [deg_dgL (by omega) (by omega), split_dg h, if_pos rfl]; rfl
end TL
namespace TL
theorem deg_bd {g : Net} {v : Int} (h0 : 0 ≤ v) (h1 : v < g.1) : 0 ≤ gI (degR g).1 v ∧ gI (degR g).1 v ≤ 2 * (g.2.length : Int) := by
  unfold degR
  split
  · show 0 ≤ gI (degS g) v ∧ gI (degS g) v ≤ _
    rw [deg_gI h0 h1]
    have := outSk_len g v g.2.length
    unfold outS
    omega
  · show 0 ≤ gI ([] : List Int) v ∧ gI ([] : List Int) v ≤ _
    have : gI ([] : List Int) v = 0 := by simp [gI]
    rw [this]; omega
theorem degR_eq {g : Net} (hm : MayP g) : (degR g).1 = degS g := by unfold degR; rw [if_pos hm]
theorem degR_len {g : Net} (hm : MayP g) : (((degR g).1).length : Int) = g.1 := by rw [degR_eq hm]; exact deg_len hm.1
end TL
