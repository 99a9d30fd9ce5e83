/-
  TlSort: the library's sort by a function, met in this frame.
  By an AI agent.
-/
import Derived.Test.YtifpjbjhkabhgaaTlHeap
import Derived.Shelf.SlSortCmp.Whole1
set_option linter.all false
namespace TL
open Go Go.Proofs Go.Shelf Go.Sort Go.Lib

theorem Bel.grown {w w' : World} (h : Bel w.heap.size w w') : ∃ q os, w' = grow (w.drewN q) os := by
  obtain ⟨h1, h2, h3, h4, h5, h6⟩ := h
  refine ⟨w'.drawn - w.drawn, w'.heap.extract w.heap.size w'.heap.size, ?_⟩
  have hh : w'.heap = w.heap ++ w'.heap.extract w.heap.size w'.heap.size := by
    apply Array.ext_getElem?
    intro k
    rw [Array.getElem?_append]
    by_cases hk : k < w.heap.size
    · rw [if_pos hk]; exact h5 k hk
    · rw [if_neg hk, Array.getElem?_extract]
      split
      · rw [show w.heap.size + (k - w.heap.size) = k by omega]
      · exact Array.getElem?_eq_none (by omega)
  have hd : w'.drawn = w.drawn + (w'.drawn - w.drawn) := by omega
  cases w with
  | mk a b c d e =>
    cases w' with
    | mk a' b' c' d' e' =>
      simp only [grow, World.drewN] at *
      subst h1 h2 h3
      simp only [World.mk.injEq, true_and, and_true]
      exact ⟨hh, hd⟩

section
variable {α : Type} [Inhabited α] {γ : Cmap} {w : World} {j b : Nat}
theorem chg_sort (enc : α → Value) (hb : is j (γ b)) (m : Nat) (d : Array α) (os : Array Obj) : Chg (is j) γ w γ (sortWorld enc w b 0 m d os) := by
  refine ⟨rfl, rfl, rfl, ?_, fun _ _ _ => rfl, fun k hk hn => ?_, ?_⟩
  · unfold sortWorld; rw [size_grow, Go.Sort.size_putRow]; simp only [heap_ahead]; omega
  · unfold sortWorld
    rw [heap_grow_old _ _ (by rw [Go.Sort.size_putRow]; exact hk)]
    have : b ≠ k := fun e => hn (by subst e; exact hb)
    simp [putRow, mapBlock, Array.getElem?_modify, this]
  · show w.drawn ≤ w.drawn + m
    omega
theorem heap_sort (enc : α → Value) {c : Array Value} {e : TypeId} {fr : Nat × Nat} (h : w.heap[b]? = some (.cells c e fr)) (m : Nat) (d : Array α) (os : Array Obj) : (sortWorld enc w b 0 m d os).heap[b]? = some (.cells (putCells enc 0 d c) e fr) := by
  unfold sortWorld
  rw [heap_grow_old _ _ (by rw [Go.Sort.size_putRow]; exact heap_lt h)]
  simp [putRow, mapBlock, Array.getElem?_modify, h, onCells]
theorem putCells_lt (enc : α → Value) {d : Array α} {c : Array Value} {k : Nat} (h : k < d.size) (hc : k < c.size) : (putCells enc 0 d c)[k]? = some (enc d[k]!) := by
  simp [putCells, h, hc]
end

theorem sort_ints {P : Program} {ρ : Ren} (L : SlLaysF.n6 P ρ) {α : Type} [Inhabited α] (fe : α → Int) (cf : α → α → Int) (hO : SWO (ltOf cf)) (g : Nat) (cb : Array Value) (eg : ∀ args w, (callFunc g args).run P w = .ok (.enter g args) w)
    {γ : Cmap} {w : World} {j : Nat} {v : Value} {ds : List α} (hne : ds ≠ []) (hl : Ow γ (is j) (is j) w v (ds.map fe))
    (hc : ∀ W, Chg (is j) γ w γ W → ∀ x y, Calls P g (#[.int .i64 (fe x), .int .i64 (fe y)] ++ cb) W fun e w' => e = .returned (.int .i64 (cf x y)) ∧ Bel W.heap.size W w') :
    Calls P (ρ.f 6) #[v, .func (.func g) #[] cb] w fun e w' => e = .returned (.tuple #[]) ∧ ∃ ds' : List α, ds'.Perm ds ∧ ds'.Pairwise (fun x y => ltOf cf y x = false) ∧ Chg (is j) γ w γ w' ∧ Ow γ (is j) (is j) w' v (ds'.map fe) := by
  rcases hl with ⟨_, h⟩ | ⟨b, cap, c, e, rfl, hcap, hm, hJ, hb, hcs, hx⟩
  · simp at h; exact absurd h hne
  · simp only [List.length_map] at hcap
    have hsz1 : Rp.sz Int = 1 := rfl
    rw [hsz1, Nat.mul_one] at hcs
    have hbs := heap_lt hb
    have hlen : (ds.map fe).length = ds.toArray.size := by simp
    have hget : ∀ i, i < ds.length → c[i]? = some (Value.int .i64 (fe ds.toArray[i]!)) := fun i hi => by
      obtain ⟨cs, h1, h2⟩ := hx i (fe ds[i]) (by simp [hi])
      have h2 : cs = [Value.int .i64 (fe ds[i])] := h2
      have h1 := h1 0 (by decide)
      rw [h2] at h1
      simp only [hsz1, Nat.mul_one, Nat.add_zero] at h1
      rw [h1]
      simp [hi]
    have hH : Holds (fun x : α => Value.int .i64 (fe x)) w b 0 ds.toArray := fun i hi => by
      have hi : i < ds.length := by simpa using hi
      constructor
      · have := hget i hi
        simp only [World.cell?, hb, Nat.zero_add]
        exact this
      · simp [World.frozen?, hb]
    have hcmp : CmpLays1 P g cb (fun x : α => Value.int .i64 (fe x)) cf b 0 ds.toArray.size w := fun m os dk hs x y =>
      (hc _ (chg_sort _ hJ m dk os) x y).mono fun e w' ⟨h1, h2⟩ => ⟨h1, h2.grown⟩
    have key := Any.slices_SortFunc L (fun x : α => Value.int .i64 (fe x)) (fun _ => rfl) cf hO g cb b 0 cap ds.toArray w eg hcmp hH hbs (by simp; omega)
    rw [hlen]
    refine key.mono fun e' w' ⟨h1, d', n, os, hp, hs, hw⟩ => ⟨h1, d'.toList, ?_, ?_, ?_, ?_⟩
    · obtain ⟨q1, _, q3⟩ := hp
      rw [← q1] at q3
      have e1 : (d'.extract 0 d'.size) = d' := by simp
      rw [e1, q1] at q3
      have e2 : (ds.toArray.extract 0 ds.toArray.size) = ds.toArray := Array.extract_size
      rw [e2] at q3
      simpa using q3
    · rw [List.pairwise_iff_getElem]
      intro i k hi hk hik
      have hi : i < d'.size := by simpa using hi
      have hk : k < d'.size := by simpa using hk
      have := hs i k (Nat.zero_le _) hik (by rw [← hp.1]; exact hk)
      rw [getElem!_pos d' k hk, getElem!_pos d' i hi] at this
      simpa using this
    · rw [hw]; exact chg_sort _ hJ n d' os
    · have hs' : d'.size = ds.length := by rw [hp.1]; simp
      have hd : d'.toList.length = ds.length := by simpa using hs'
      refine .inr ⟨b, cap, _, e, by rw [List.length_map, hd]; simp, by rw [List.length_map, hd]; exact hcap, hm, hJ, by rw [hw]; exact heap_sort _ hb n d' os, by rw [hsz1, Nat.mul_one]; simpa [putCells] using hcs, fun i x hi => ?_⟩
      have hi' : i < d'.size := by
        have := (List.getElem?_eq_some_iff.1 hi).1
        simpa using this
      refine ⟨[Value.int .i64 x], fun q hq => ?_, rfl⟩
      have : q = 0 := by have : q < 1 := hq; omega
      subst this
      rw [hsz1, Nat.mul_one, Nat.add_zero, putCells_lt _ hi' (by rw [hcs]; omega), getElem!_pos d' _ hi']
      simp [hi'] at hi
      simp [hi]
end TL
