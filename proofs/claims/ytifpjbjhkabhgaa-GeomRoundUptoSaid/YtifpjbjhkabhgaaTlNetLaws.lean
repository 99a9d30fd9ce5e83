/-
  TlNetLaws: what follows of nets: parts of parts, subs of subs.
  By an AI agent.
-/
import Derived.Test.YtifpjbjhkabhgaaTlNet
set_option linter.all false
namespace TL
theorem chosenF_zero {n : Int} : ∀ (l seen : List Int), (∀ i ∈ l, 0 ≤ i ∧ i < n) → l.Nodup → (∀ i ∈ l, i ∉ seen) → chosenF n l seen = 0
  | [], _, _, _, _ => rfl
  | i :: r, seen, h1, h2, h3 => by
    have h4 := h1 i (by simp)
    obtain ⟨h5, h6⟩ := List.nodup_cons.1 h2
    simp only [chosenF]
    rw [if_neg (by omega), if_neg (h3 i (by simp))]
    refine chosenF_zero r _ (fun j hj => h1 j (by simp [hj])) h6 (fun j hj hs => ?_)
    rcases List.mem_append.1 hs with h | h
    · exact h3 j (by simp [hj]) h
    · obtain rfl := List.mem_singleton.1 h
      exact h5 hj
theorem chosenS_zero {n : Int} {l : List Int} (h1 : ∀ i ∈ l, 0 ≤ i ∧ i < n) (h2 : l.Nodup) : chosenS l n = 0 := chosenF_zero l [] h1 h2 (by simp)
theorem chosenS_iff {n : Int} {l : List Int} : chosenS l n = 0 ↔ (∀ i ∈ l, 0 ≤ i ∧ i < n) ∧ l.Nodup := ⟨chosenS_ok, fun h => chosenS_zero h.1 h.2⟩

theorem subR_ok {g : Net} {keep : List Int} (h : (subR g keep).2 = 0) : MayP g ∧ chosenS keep g.2.length = 0 ∧ subR g keep = ((g.1, keep.map (gI g.2)), 0) := by
  unfold subR at h ⊢
  by_cases hm : MayP g
  · by_cases hc : chosenS keep g.2.length = 0
    · simp [hm, hc]
    · simp [hm, hc] at h
  · simp [hm] at h
theorem subR_bad {g : Net} {keep : List Int} (h : ¬ (subR g keep).2 = 0) : (subR g keep).1.1 = 0 := by
  unfold subR at h ⊢
  by_cases hm : MayP g
  · by_cases hc : chosenS keep g.2.length = 0
    · simp [hm, hc] at h
    · simp [hm, hc]
  · simp [hm]
theorem gI_map {α β : Type} [Inhabited α] [Inhabited β] (f : α → β) {l : List α} {i : Int} (h0 : 0 ≤ i) (h1 : i < l.length) : gI (l.map f) i = f (gI l i) := by
  have : i.toNat < l.length := by omega
  simp [gI, this]
theorem gI_inj {l : List Int} (h : l.Nodup) {i j : Int} (hi0 : 0 ≤ i) (hi : i < l.length) (hj0 : 0 ≤ j) (hj : j < l.length) (he : gI l i = gI l j) : i = j := by
  have h1 : i.toNat < l.length := by omega
  have h2 : j.toNat < l.length := by omega
  simp [gI, h1, h2] at he
  have := (List.getElem_inj h).1 he
  omega
theorem nodup_map_gI {l m : List Int} (hl : l.Nodup) (hm : m.Nodup) (hr : ∀ i ∈ m, 0 ≤ i ∧ i < (l.length : Int)) : (m.map (gI l)).Nodup := by
  induction m with
  | nil => simp
  | cons a m ih =>
    obtain ⟨h1, h2⟩ := List.nodup_cons.1 hm
    rw [List.map_cons, List.nodup_cons]
    refine ⟨fun h => ?_, ih h2 (fun i hi => hr i (by simp [hi]))⟩
    obtain ⟨b, hb, he⟩ := List.mem_map.1 h
    have ha := hr a (by simp)
    have hb' := hr b (by simp [hb])
    have := gI_inj hl hb'.1 hb'.2 ha.1 ha.2 he
    subst this
    exact h1 hb
theorem subsub {g : Net} {keep less : List Int} (h1 : (subR g keep).2 = 0) (h2 : (subR (subR g keep).1 less).2 = 0) : subR g (less.map (gI keep)) = ((subR (subR g keep).1 less).1, 0) := by
  obtain ⟨hm, hk, e1⟩ := subR_ok h1
  obtain ⟨hm2, hk2, e2⟩ := subR_ok h2
  rw [e2]
  rw [e1] at hk2 ⊢
  simp only [List.length_map] at hk2
  obtain ⟨hr1, hn1⟩ := chosenS_ok hk
  obtain ⟨hr2, hn2⟩ := chosenS_ok hk2
  have hc : chosenS (less.map (gI keep)) g.2.length = 0 := chosenS_zero (fun i hi => by
    obtain ⟨j, hj, rfl⟩ := List.mem_map.1 hi
    have := hr2 j hj
    exact hr1 _ (gI_mem this.1 this.2)) (nodup_map_gI hn1 hn2 hr2)
  simp only [subR, if_pos hm, if_pos hc]
  simp only [List.map_map]
  congr 2
  apply List.map_congr_left
  intro j hj
  have := hr2 j hj
  simp only [Function.comp]
  rw [gI_map _ this.1 this.2]
theorem sub_bounds {g : Net} {keep less : List Int} (h1 : (subR g keep).2 = 0) (h2 : (subR (subR g keep).1 less).2 = 0) : ∀ i ∈ less, 0 ≤ i ∧ i < (keep.length : Int) := by
  obtain ⟨_, _, e1⟩ := subR_ok h1
  obtain ⟨_, hk2, _⟩ := subR_ok h2
  rw [e1] at hk2
  simp only [List.length_map] at hk2
  exact (chosenS_ok hk2).1

theorem partR_ok {g : Net} {nodes : List Int} (h : (partR g nodes).2.2 = 0) : MayP g ∧ chosenS nodes g.1 = 0 ∧
    partR g nodes = (((nodes.length : Int), (partW g nodes).map fun i => (posS nodes (gI g.2 i).1 - 1, posS nodes (gI g.2 i).2 - 1)), partW g nodes, 0) := by
  unfold partR at h ⊢
  by_cases hm : MayP g
  · by_cases hc : chosenS nodes g.1 = 0
    · simp [hm, hc]
    · simp [hm, hc] at h
  · simp [hm] at h
theorem partR_bad {g : Net} {nodes : List Int} (h : ¬ (partR g nodes).2.2 = 0) : (partR g nodes).1.1 = 0 := by
  unfold partR at h ⊢
  by_cases hm : MayP g
  · by_cases hc : chosenS nodes g.1 = 0
    · simp [hm, hc] at h
    · simp [hm, hc]
  · simp [hm]
theorem map_gI_filter (l : List Int) (p : Int → Bool) : (((List.range l.length).map (fun (i : Nat) => (i : Int))).filter fun j => p (gI l j)).map (gI l) = l.filter p := by
  have h0 : l = ((List.range l.length).map (fun (i : Nat) => (i : Int))).map (gI l) := by
    apply List.ext_getElem
    · simp
    · intro i h1 h2; simp [gI, h1]
  have h2 : ∀ L : List Int, (L.map (gI l)).filter p = (L.filter fun j => p (gI l j)).map (gI l) := fun L => by
    rw [List.filter_map]; rfl
  rw [← h2, ← h0]
theorem gI_posS {l : List Int} {v : Int} (h : v ∈ l) : gI l (posS l v - 1) = v := by
  have h1 := List.idxOf_lt_length_iff.2 h
  unfold posS gI
  rw [if_pos h]
  have : ((l.idxOf v : Int) + 1 - 1).toNat = l.idxOf v := by omega
  rw [this]
  simp [h1]
theorem posS_gI {l : List Int} (hn : l.Nodup) {i : Int} (h0 : 0 ≤ i) (h1 : i < l.length) : posS l (gI l i) = i + 1 := by
  have hm := gI_mem (xs := l) h0 h1
  have h2 := gI_posS hm
  have h3 := posS_pos.2 hm
  have h4 := posS_le l (gI l i)
  have := gI_inj hn (i := posS l (gI l i) - 1) (j := i) (by omega) (by omega) h0 h1 h2
  omega
theorem mem_both {nodes more : List Int} (hn : nodes.Nodup) (hr : ∀ i ∈ more, 0 ≤ i ∧ i < (nodes.length : Int)) {v : Int} (hv : v ∈ nodes) : v ∈ more.map (gI nodes) ↔ posS nodes v - 1 ∈ more := by
  constructor
  · intro h
    obtain ⟨j, hj, rfl⟩ := List.mem_map.1 h
    have := hr j hj
    rw [posS_gI hn this.1 this.2]
    simpa using hj
  · intro h
    exact List.mem_map.2 ⟨_, h, gI_posS hv⟩
theorem posS_both {nodes more : List Int} (hn : nodes.Nodup) (hm : more.Nodup) (hr : ∀ i ∈ more, 0 ≤ i ∧ i < (nodes.length : Int)) {v : Int} (hv : v ∈ more.map (gI nodes)) : posS (more.map (gI nodes)) v = posS more (posS nodes v - 1) := by
  obtain ⟨j, hj, rfl⟩ := List.mem_map.1 hv
  have hj' := hr j hj
  have h1 := posS_pos.2 hj
  have h2 := posS_le more j
  have h3 := gI_posS hj
  rw [posS_gI hn hj'.1 hj'.2]
  have e : gI nodes j = gI (more.map (gI nodes)) (posS more j - 1) := by
    rw [gI_map _ (by omega) (by omega), h3]
  have e2 : j + 1 - 1 = j := by omega
  rw [e, posS_gI (nodup_map_gI hn hm hr) (by omega) (by simp; omega), e2]
  omega
theorem partW_mem {g : Net} {nodes : List Int} {i : Int} (h : i ∈ partW g nodes) : (0 ≤ i ∧ i < (g.2.length : Int)) ∧ (gI g.2 i).1 ∈ nodes ∧ (gI g.2 i).2 ∈ nodes := by
  unfold partW at h
  obtain ⟨h1, h2⟩ := List.mem_filter.1 h
  obtain ⟨k, hk, rfl⟩ := List.mem_map.1 h1
  have := List.mem_range.1 hk
  simp only [Bool.and_eq_true, decide_eq_true_eq] at h2
  exact ⟨by omega, h2⟩
theorem partpart {g : Net} {nodes more : List Int} (h1 : (partR g nodes).2.2 = 0) (h2 : (partR (partR g nodes).1 more).2.2 = 0) :
    partR g (more.map (gI nodes)) = ((partR (partR g nodes).1 more).1, (partR (partR g nodes).1 more).2.1.map (gI (partR g nodes).2.1), 0) ∧
      (∀ i ∈ more, 0 ≤ i ∧ i < (nodes.length : Int)) ∧ ∀ i ∈ (partR (partR g nodes).1 more).2.1, 0 ≤ i ∧ i < ((partR g nodes).2.1.length : Int) := by
  obtain ⟨hm, hk, e1⟩ := partR_ok h1
  obtain ⟨hm2, hk2, e2⟩ := partR_ok h2
  obtain ⟨hr1, hn1⟩ := chosenS_ok hk
  rw [e1] at hk2
  obtain ⟨hr2, hn2⟩ := chosenS_ok hk2
  simp only at hr2
  have hc : chosenS (more.map (gI nodes)) g.1 = 0 := chosenS_zero (fun i hi => by
    obtain ⟨j, hj, rfl⟩ := List.mem_map.1 hi
    have := hr2 j hj
    exact hr1 _ (gI_mem this.1 this.2)) (nodup_map_gI hn1 hn2 hr2)
  have hmem : ∀ v ∈ nodes, (v ∈ more.map (gI nodes) ↔ posS nodes v - 1 ∈ more) := fun v hv => mem_both hn1 hr2 hv
  -- the kept edges
  have hW : (partW (partR g nodes).1 more).map (gI (partW g nodes)) = partW g (more.map (gI nodes)) := by
    have hlen : (partR g nodes).1.2.length = (partW g nodes).length := by rw [e1]; simp
    have ha : partW (partR g nodes).1 more = ((List.range (partW g nodes).length).map (fun (i : Nat) => (i : Int))).filter fun j => (decide (posS nodes (gI g.2 (gI (partW g nodes) j)).1 - 1 ∈ more) && decide (posS nodes (gI g.2 (gI (partW g nodes) j)).2 - 1 ∈ more)) := by
      unfold partW
      rw [show (partR g nodes).1.2.length = (partW g nodes).length from hlen]
      unfold partW
      apply List.filter_congr
      intro j hj
      obtain ⟨k, hk, rfl⟩ := List.mem_map.1 hj
      have hkl := List.mem_range.1 hk
      have : gI (partR g nodes).1.2 (k : Int) = (posS nodes (gI g.2 (gI (partW g nodes) k)).1 - 1, posS nodes (gI g.2 (gI (partW g nodes) k)).2 - 1) := by
        rw [e1]
        exact gI_map (fun i => (posS nodes (gI g.2 i).1 - 1, posS nodes (gI g.2 i).2 - 1)) (by omega) (by unfold partW; omega)
      rw [this]
      rfl
    rw [ha]
    have hf := map_gI_filter (partW g nodes) (fun i => (decide (posS nodes (gI g.2 i).1 - 1 ∈ more) && decide (posS nodes (gI g.2 i).2 - 1 ∈ more)))
    rw [hf]
    unfold partW
    rw [List.filter_filter]
    apply List.filter_congr
    intro i _
    by_cases a1 : (gI g.2 i).1 ∈ nodes
    · by_cases a2 : (gI g.2 i).2 ∈ nodes
      · simp only [a1, a2, decide_true, Bool.and_true, hmem _ a1, hmem _ a2]
      · have : (gI g.2 i).2 ∉ more.map (gI nodes) := fun h => by
          obtain ⟨j, hj, he⟩ := List.mem_map.1 h
          exact a2 (he ▸ gI_mem (hr2 j hj).1 (hr2 j hj).2)
        simp only [a2, this, decide_false, Bool.and_false]
    · have : (gI g.2 i).1 ∉ more.map (gI nodes) := fun h => by
        obtain ⟨j, hj, he⟩ := List.mem_map.1 h
        exact a1 (he ▸ gI_mem (hr2 j hj).1 (hr2 j hj).2)
      simp only [a1, this, decide_false, Bool.false_and, Bool.and_false]
  have hWm : ∀ i ∈ partW (partR g nodes).1 more, 0 ≤ i ∧ i < ((partW g nodes).length : Int) := fun i hi => by
    have := (partW_mem hi).1
    rw [e1] at this
    simpa using this
  refine ⟨?_, hr2, ?_⟩
  · rw [show partR g (more.map (gI nodes)) = ((((more.map (gI nodes)).length : Int), (partW g (more.map (gI nodes))).map fun i => (posS (more.map (gI nodes)) (gI g.2 i).1 - 1, posS (more.map (gI nodes)) (gI g.2 i).2 - 1)), partW g (more.map (gI nodes)), 0) by
      unfold partR; rw [if_pos hm, if_pos hc]]
    rw [e2]
    simp only
    rw [show (partR g nodes).2.1 = partW g nodes by rw [e1]]
    rw [hW]
    congr 2
    · simp
    · rw [← hW, List.map_map]
      apply List.map_congr_left
      intro j hj
      have hj' := hWm j hj
      obtain ⟨hi, m1, m2⟩ := partW_mem (gI_mem hj'.1 hj'.2)
      have hjj := (partW_mem hj).2
      have hedge : gI (partR g nodes).1.2 j = (posS nodes (gI g.2 (gI (partW g nodes) j)).1 - 1, posS nodes (gI g.2 (gI (partW g nodes) j)).2 - 1) := by
        rw [e1]
        exact gI_map (fun i => (posS nodes (gI g.2 i).1 - 1, posS nodes (gI g.2 i).2 - 1)) hj'.1 hj'.2
      rw [hedge] at hjj ⊢
      simp only [Function.comp]
      rw [posS_both hn1 hn2 hr2 ((hmem _ m1).2 hjj.1), posS_both hn1 hn2 hr2 ((hmem _ m2).2 hjj.2)]
  · rw [e2, show (partR g nodes).2.1 = partW g nodes by rw [e1]]
    exact hWm
end TL
