/-
  TlWalk: going through a net breadth first, and its components, as the program does.
  By an AI agent.
-/
import Derived.Test.YtgaefcjhggdkcaaTlFace
set_option linter.all false
namespace TL
/-- the node that a half-edge comes to -/
def toS (g : Net) (h : Int) : Int := pI (gI g.2 (h / 2)) (1 - h % 2)
theorem toS_in {g : Net} (hm : MayP g) {h : Int} (h0 : 0 ≤ h) (h1 : h < 2 * (g.2.length : Int)) : 0 ≤ toS g h ∧ toS g h < g.1 := by
  have hok := hm.2.2.2 _ (gI_mem (xs := g.2) (i := h / 2) (by omega) (by omega))
  unfold okE at hok
  unfold toS pI
  split <;> omega
structure Bf where
  order : List Int
  by_ : List Int
  far : List Int
def bfOne (g : Net) (v : Int) (s : Bf) (h : Int) : Bf :=
  if gI s.far (toS g h) < 0 then ⟨s.order ++ [toS g h], s.by_.set (toS g h).toNat h, s.far.set (toS g h).toNat (gI s.far v + 1)⟩ else s
def bfRow (g : Net) (v : Int) (s : Bf) : Bf := (outS g v).foldl (bfOne g v) s
def bfGo (g : Net) : Nat → Nat → Bf → Bf
  | 0, _, s => s
  | n + 1, i, s => if i < s.order.length then bfGo g n (i + 1) (bfRow g (gI s.order (i : Int)) s) else s
def bfStart (g : Net) (s0 : Int) : Bf := ⟨[s0], List.replicate g.1.toNat (-1), (List.replicate g.1.toNat (-1)).set s0.toNat 0⟩
def breadthS (g : Net) (s0 : Int) : Bf := bfGo g g.1.toNat 0 (bfStart g s0)
structure BfOk (g : Net) (s : Bf) : Prop where
  far : (s.far.length : Int) = g.1
  by_ : (s.by_.length : Int) = g.1
  nodup : s.order.Nodup
  rng : ∀ x ∈ s.order, 0 ≤ x ∧ x < g.1
  iff : ∀ w, 0 ≤ w → w < g.1 → (gI s.far w < 0 ↔ w ∉ s.order)
  le : ∀ w, 0 ≤ w → w < g.1 → gI s.far w ≤ s.order.length
theorem BfOk.start {g : Net} {s0 : Int} (h0 : 0 ≤ s0) (h1 : s0 < g.1) : BfOk g (bfStart g s0) := by
  refine ⟨by simp [bfStart]; omega, by simp [bfStart]; omega, by simp [bfStart], by simp [bfStart]; omega, fun w hw0 hw1 => ?_, fun w hw0 hw1 => ?_⟩
  · simp only [bfStart]
    rw [gI_set h0 (by simp; omega) hw0]
    by_cases e : w = s0
    · subst e; simp
    · rw [if_neg e, gI_rep hw0 (by omega)]; simp [e]
  · simp only [bfStart]
    rw [gI_set h0 (by simp; omega) hw0]
    by_cases e : w = s0
    · subst e; simp
    · rw [if_neg e, gI_rep hw0 (by omega)]; simp
theorem BfOk.len {g : Net} {s : Bf} (h : BfOk g s) (hg : 0 ≤ g.1) : (s.order.length : Int) ≤ g.1 := nodup_le hg h.nodup h.rng
theorem BfOk.one {g : Net} {s : Bf} {v h : Int} (hs : BfOk g s) (hv : v ∈ s.order) (h0 : 0 ≤ toS g h) (h1 : toS g h < g.1) : BfOk g (bfOne g v s h) := by
  obtain ⟨hv0, hv1⟩ := hs.rng v hv
  unfold bfOne
  by_cases c : gI s.far (toS g h) < 0
  · rw [if_pos c]
    have hn := (hs.iff _ h0 h1).1 c
    have hf := hs.far
    have hlv := hs.le v hv0 hv1
    refine ⟨by simpa using hs.far, by simpa using hs.by_, ?_, fun x hx => ?_, fun w hw0 hw1 => ?_, fun w hw0 hw1 => ?_⟩
    · rw [List.nodup_append]
      refine ⟨hs.nodup, by simp, fun a ha b hb => ?_⟩
      obtain rfl := List.mem_singleton.1 hb
      intro e; subst e; exact hn ha
    · rcases List.mem_append.1 hx with hx | hx
      · exact hs.rng x hx
      · obtain rfl := List.mem_singleton.1 hx; exact ⟨h0, h1⟩
    · simp only
      rw [gI_set h0 (by omega) hw0]
      by_cases e : w = toS g h
      · subst e
        rw [if_pos rfl]
        have hx : ¬ gI s.far v < 0 := fun hh => (hs.iff v hv0 hv1).1 hh hv
        constructor
        · intro hh; omega
        · intro hh; simp at hh
      · rw [if_neg e, hs.iff w hw0 hw1]; simp [e]
    · simp only
      rw [gI_set h0 (by omega) hw0]
      by_cases e : w = toS g h
      · subst e; rw [if_pos rfl]; simp; omega
      · rw [if_neg e]
        have := hs.le w hw0 hw1
        simp; omega
  · rw [if_neg c]; exact hs
end TL
namespace TL
theorem outS_in {g : Net} {v h : Int} (hh : h ∈ outS g v) : (0 ≤ h ∧ h < 2 * (g.2.length : Int)) ∧ fromS g h = v := by
  unfold outS outSk at hh
  obtain ⟨h1, h2⟩ := List.mem_filter.1 hh
  obtain ⟨k, hk, rfl⟩ := List.mem_map.1 h1
  have := List.mem_range.1 hk
  exact ⟨by omega, by simpa using h2⟩
theorem bfOne_pre (g : Net) (v : Int) (s : Bf) (h : Int) : ∃ t, (bfOne g v s h).order = s.order ++ t := by
  unfold bfOne
  split
  · exact ⟨_, rfl⟩
  · exact ⟨[], by simp⟩
/-- a node's half-edges gone through, j of them -/
structure RowInv (s : Bf) (g : Net) (s0 : Bf) (v : Int) (j : Nat) : Prop where
  eq : s = ((outS g v).take j).foldl (bfOne g v) s0
  ok : BfOk g s
  mem : v ∈ s.order
  pre : ∃ t, s.order = s0.order ++ t
theorem RowInv.start {g : Net} {s0 : Bf} {v : Int} (h : BfOk g s0) (hv : v ∈ s0.order) : RowInv s0 g s0 v 0 := ⟨rfl, h, hv, [], by simp⟩
theorem RowInv.next {s s0 : Bf} {g : Net} {v : Int} {j : Nat} (h : RowInv s g s0 v j) (hm : MayP g) (hj : (j : Int) < (outS g v).length) : RowInv (bfOne g v s (gI (outS g v) (j : Int))) g s0 v (j + 1) := by
  have hin := (outS_in (gI_mem (xs := outS g v) (i := (j : Int)) (by omega) hj)).1
  have ht := toS_in hm hin.1 hin.2
  obtain ⟨t, ht2⟩ := h.pre
  obtain ⟨t', ht3⟩ := bfOne_pre g v s (gI (outS g v) (j : Int))
  refine ⟨by rw [take_succ_gI hj, List.foldl_append, ← h.eq]; rfl, h.ok.one h.mem ht.1 ht.2, by rw [ht3]; simp [h.mem], t ++ t', by rw [ht3, ht2, List.append_assoc]⟩
theorem RowInv.done {s s0 : Bf} {g : Net} {v : Int} {j : Nat} (h : RowInv s g s0 v j) (hj : ¬ (j : Int) < (outS g v).length) : s = bfRow g v s0 := by
  rw [h.eq, List.take_of_length_le (by omega)]; rfl
/-- going out breadth first, i nodes done -/
structure GoInv (s : Bf) (g : Net) (s0 : Int) (i : Nat) : Prop where
  ok : BfOk g s
  le : (i : Int) ≤ s.order.length
  eq : bfGo g (g.1.toNat - i) i s = breadthS g s0
theorem GoInv.start {g : Net} {s0 : Int} (h0 : 0 ≤ s0) (h1 : s0 < g.1) : GoInv (bfStart g s0) g s0 0 := ⟨BfOk.start h0 h1, by omega, rfl⟩
theorem GoInv.next {s s' : Bf} {g : Net} {s0 : Int} {i j : Nat} (h : GoInv s g s0 i) (hg : 0 ≤ g.1) (hi : (i : Int) < s.order.length) (hr : RowInv s' g s (gI s.order (i : Int)) j) (hj : ¬ (j : Int) < (outS g (gI s.order (i : Int))).length) : GoInv s' g s0 (i + 1) := by
  obtain ⟨t, ht⟩ := hr.pre
  have hl := h.ok.len hg
  refine ⟨hr.ok, by rw [ht]; simp; omega, ?_⟩
  rw [← h.eq, show g.1.toNat - i = (g.1.toNat - (i + 1)) + 1 by omega]
  simp only [bfGo]
  rw [if_pos (by omega), hr.done hj]
theorem GoInv.done {s : Bf} {g : Net} {s0 : Int} {i : Nat} (h : GoInv s g s0 i) (hi : ¬ (i : Int) < s.order.length) : s = breadthS g s0 := by
  rw [← h.eq]
  cases g.1.toNat - i with
  | zero => rfl
  | succ n => simp only [bfGo]; rw [if_neg (by omega)]
/-! components -/
def partOne (g : Net) (p : List Int × Int) (v : Int) : List Int × Int :=
  if 0 ≤ gI p.1 v then p else ((breadthS g v).order.foldl (fun l w => l.set w.toNat p.2) p.1, p.2 + 1)
def partsK (g : Net) (k : Nat) : List Int × Int := (iotaI k).foldl (partOne g) (List.replicate g.1.toNat (-1), 0)
def partsR (g : Net) : List Int × Int × Int := if MayP g then ((partsK g g.1.toNat).1, (partsK g g.1.toNat).2, 0) else ([], 0, 1)
theorem partsK_succ (g : Net) (k : Nat) : partsK g (k + 1) = partOne g (partsK g k) (k : Int) := by
  unfold partsK
  rw [iota_succ, List.foldl_append]; rfl
theorem parts_len (g : Net) : ∀ k : Nat, (partsK g k).1.length = g.1.toNat ∧ 0 ≤ (partsK g k).2 ∧ (partsK g k).2 ≤ k := by
  intro k
  induction k with
  | zero => simp [partsK, iotaI]
  | succ k ih =>
    rw [partsK_succ]
    unfold partOne
    have key : ∀ (l : List Int) (p : List Int) (x : Int), (l.foldl (fun l w => l.set w.toNat x) p).length = p.length := by
      intro l
      induction l with
      | nil => intro p x; rfl
      | cons a l ih => intro p x; rw [List.foldl_cons, ih]; simp
    split
    · exact ⟨ih.1, ih.2.1, by omega⟩
    · simp only
      rw [key]
      exact ⟨ih.1, by omega, by omega⟩
theorem set_fold_succ {l p : List Int} {x : Int} {k : Nat} (hk : (k : Int) < l.length) : (l.take (k + 1)).foldl (fun l w => l.set w.toNat x) p = ((l.take k).foldl (fun l w => l.set w.toNat x) p).set (gI l (k : Int)).toNat x := by
  rw [take_succ_gI hk, List.foldl_append]; rfl
theorem set_fold_len (x : Int) : ∀ (l p : List Int), (l.foldl (fun l w => l.set w.toNat x) p).length = p.length
  | [], p => rfl
  | a :: l, p => by rw [List.foldl_cons, set_fold_len x l]; simp
/-- genus -/
def genusR (g : Net) (r : Rot) : Int × Int :=
  if rmayR g r = 0 then (Int.tdiv (2 * (partsR g).2.1 - g.1 + (g.2.length : Int) - ((facesS (nextS g r) r).length : Int)) 2, 0) else (0, rmayR g r)
def facesR (g : Net) (r : Rot) : List (List Int) × Int := if rmayR g r = 0 then (facesS (nextS g r) r, 0) else ([], rmayR g r)
def mirrorR (g : Net) (r : Rot) : Rot × Int := if rmayR g r = 0 then (mirrorS r, 0) else ([], rmayR g r)
def canonR (g : Net) (r : Rot) : Rot × Int := if rmayR g r = 0 then (canonS r, 0) else ([], rmayR g r)
end TL
namespace TL
theorem fill_next {k n : Nat} {x : Int} (hk : k < n) : (List.replicate k x ++ List.replicate (n - k) 0).set (k : Int).toNat x = List.replicate (k + 1) x ++ List.replicate (n - (k + 1)) (0 : Int) := by
  have e : n - k = (n - (k + 1)) + 1 := by omega
  rw [e, List.replicate_succ]
  simp only [Int.toNat_natCast]
  rw [List.set_append_right _ _ (by simp)]
  simp only [List.length_replicate, Nat.sub_self, List.set_cons_zero]
  rw [List.replicate_succ']
  simp
theorem OutInv.rl {out : List (List Int)} {g : Net} {k : Nat} (h : OutInv out g k) {v : Int} (h0 : 0 ≤ v) (h1 : v < g.1) : ((gI out v).length : Int) ≤ 2 * (k : Int) := by
  rw [h.at_ v h0 h1]
  have := outSk_len g v k
  omega
theorem OutInv.rl2 {out : List (List Int)} {g : Net} {k : Nat} (h : OutInv out g k) {u v : Int} (h2 : 0 ≤ u) (h3 : u < g.1) (h0 : 0 ≤ v) (h1 : v < g.1) (a : Int) : ((gI (out.set u.toNat (gI out u ++ [a])) v).length : Int) ≤ 2 * (k : Int) + 1 := by
  have hl := h.len
  rw [gI_set h2 (by omega) h0]
  split
  · have := h.rl h2 h3; simp; omega
  · have := h.rl h0 h1; omega
theorem OutInv.done {out : List (List Int)} {g : Net} {k : Nat} (h : OutInv out g k) (hk : k = g.2.length) : ∀ v, 0 ≤ v → v < g.1 → gI out v = outS g v := fun v h0 h1 => by
  subst hk; exact h.at_ v h0 h1
theorem RowInv.yes {O B F : List Int} {s0 : Bf} {g : Net} {v h : Int} {j : Nat} (hr : RowInv ⟨O, B, F⟩ g s0 v j) (hm : MayP g) (hj : (j : Int) < (outS g v).length) (hh : h = gI (outS g v) (j : Int)) (c : gI F (toS g h) < 0) : RowInv ⟨O ++ [toS g h], B.set (toS g h).toNat h, F.set (toS g h).toNat (gI F v + 1)⟩ g s0 v (j + 1) := by
  have h1 := hr.next hm hj
  rw [← hh] at h1
  unfold bfOne at h1
  rw [if_pos (show gI (Bf.mk O B F).far (toS g h) < 0 from c)] at h1
  exact h1
theorem RowInv.no {O B F : List Int} {s0 : Bf} {g : Net} {v h : Int} {j : Nat} (hr : RowInv ⟨O, B, F⟩ g s0 v j) (hm : MayP g) (hj : (j : Int) < (outS g v).length) (hh : h = gI (outS g v) (j : Int)) (c : ¬ gI F (toS g h) < 0) : RowInv ⟨O, B, F⟩ g s0 v (j + 1) := by
  have h1 := hr.next hm hj
  rw [← hh] at h1
  unfold bfOne at h1
  rw [if_neg (show ¬ gI (Bf.mk O B F).far (toS g h) < 0 from c)] at h1
  exact h1
theorem RowInv.facts {O B F : List Int} {s0 : Bf} {g : Net} {v : Int} {j : Nat} (hr : RowInv ⟨O, B, F⟩ g s0 v j) (hg : 0 ≤ g.1) : (F.length : Int) = g.1 ∧ (B.length : Int) = g.1 ∧ (O.length : Int) ≤ g.1 ∧ (0 ≤ v ∧ v < g.1) ∧ gI F v ≤ O.length ∧ ¬ gI F v < 0 := by
  have h1 := hr.ok
  have hv := h1.rng v hr.mem
  exact ⟨h1.far, h1.by_, h1.len hg, hv, h1.le v hv.1 hv.2, fun hh => (h1.iff v hv.1 hv.2).1 hh hr.mem⟩
theorem GoInv.facts {O B F : List Int} {g : Net} {s0 : Int} {i : Nat} (hr : GoInv ⟨O, B, F⟩ g s0 i) (hg : 0 ≤ g.1) : (F.length : Int) = g.1 ∧ (B.length : Int) = g.1 ∧ (O.length : Int) ≤ g.1 ∧ (i : Int) ≤ O.length := ⟨hr.ok.far, hr.ok.by_, hr.ok.len hg, hr.le⟩
theorem GoInv.node {O B F : List Int} {g : Net} {s0 : Int} {i : Nat} (hr : GoInv ⟨O, B, F⟩ g s0 i) (hi : (i : Int) < O.length) : 0 ≤ gI O (i : Int) ∧ gI O (i : Int) < g.1 := hr.ok.rng _ (gI_mem (by omega) hi)
theorem GoInv.row {O B F : List Int} {g : Net} {s0 : Int} {i : Nat} (hr : GoInv ⟨O, B, F⟩ g s0 i) (hi : (i : Int) < O.length) : RowInv ⟨O, B, F⟩ g ⟨O, B, F⟩ (gI O (i : Int)) 0 := RowInv.start hr.ok (gI_mem (by omega) hi)
theorem breadth_ok {g : Net} {s0 : Int} {O B F : List Int} {i : Nat} (h : GoInv ⟨O, B, F⟩ g s0 i) (hi : ¬ (i : Int) < O.length) : O = (breadthS g s0).order ∧ ∀ x ∈ O, 0 ≤ x ∧ x < g.1 := ⟨congrArg Bf.order (h.done hi), h.ok.rng⟩
end TL
namespace TL
theorem parts_skip {g : Net} {part : List Int} {n : Int} {q : Nat} (h : part = (partsK g q).1 ∧ n = (partsK g q).2) (c : 0 ≤ gI part (q : Int)) : part = (partsK g (q + 1)).1 ∧ n = (partsK g (q + 1)).2 := by
  have h1 : partsK g (q + 1) = partsK g q := by
    rw [partsK_succ]
    unfold partOne
    rw [if_pos (by rw [← h.1]; exact c)]
  rw [h1]; exact h
theorem parts_do {g : Net} {part part2 O : List Int} {n : Int} {q j : Nat} (h : part = (partsK g q).1 ∧ n = (partsK g q).2) (c : ¬ 0 ≤ gI part (q : Int)) (hO : O = (breadthS g (q : Int)).order) (hp : part2 = (O.take j).foldl (fun l w => l.set w.toNat n) part) (hj : ¬ (j : Int) < O.length) : part2 = (partsK g (q + 1)).1 ∧ n + 1 = (partsK g (q + 1)).2 := by
  rw [List.take_of_length_le (by omega)] at hp
  have h1 : partsK g (q + 1) = ((breadthS g (q : Int)).order.foldl (fun l w => l.set w.toNat (partsK g q).2) (partsK g q).1, (partsK g q).2 + 1) := by
    rw [partsK_succ]
    unfold partOne
    rw [if_neg (by rw [← h.1]; exact c)]
  rw [h1]
  exact ⟨by rw [hp, hO, h.1, h.2], by rw [h.2]⟩
theorem partsR_yes {g : Net} (hm : MayP g) {q : Nat} (hq : (q : Int) = g.1) {part : List Int} {n : Int} (h : part = (partsK g q).1 ∧ n = (partsK g q).2) : part = (partsR g).1 ∧ n = (partsR g).2.1 ∧ 0 = (partsR g).2.2 := by
  have e : q = g.1.toNat := by omega
  subst e
  unfold partsR
  rw [if_pos hm]
  exact ⟨h.1, h.2, rfl⟩
theorem partsR_bd (g : Net) (hm : MayP g) : 0 ≤ (partsR g).2.1 ∧ (partsR g).2.1 ≤ g.1 := by
  unfold partsR
  rw [if_pos hm]
  have := parts_len g g.1.toNat
  have h2 := hm.1
  exact ⟨this.2.1, by show (partsK g g.1.toNat).2 ≤ g.1; omega⟩
theorem facesL_len (nx : List Int) : ∀ (l S : List Int), (facesL nx l S).length ≤ l.length
  | [], S => by simp [facesL]
  | h :: l, S => by
    simp only [facesL]
    split
    · have := facesL_len nx l S; simp; omega
    · have := facesL_len nx l (S ++ orbS nx S h); simp; omega
theorem facesS_len (nx : List Int) (r : Rot) : (facesS nx r).length ≤ nx.length + r.length := by
  unfold facesS
  have h1 := facesL_len nx (iotaI nx.length) []
  rw [iota_len] at h1
  have h2 := List.length_filter_le (fun l : List Int => decide (l.length = 0)) r
  rw [List.length_append, List.length_map]
  omega
end TL
namespace TL
def threeS : Net := (2, [(0, 1), (0, 1), (0, 1)])
end TL
