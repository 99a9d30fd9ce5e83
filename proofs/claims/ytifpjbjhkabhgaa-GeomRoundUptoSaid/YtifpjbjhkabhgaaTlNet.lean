/-
  TlNet: nets, and what layer 3 says of them, as plain functions.
  By an AI agent.
-/
import Derived.Test.YtifpjbjhkabhgaaTlOps
set_option linter.all false
namespace TL
abbrev Net := Int × List (Int × Int)
def okE (n : Int) (e : Int × Int) : Prop := (0 ≤ e.1 ∧ e.1 < n) ∧ 0 ≤ e.2 ∧ e.2 < n
instance (n : Int) (e : Int × Int) : Decidable (okE n e) := by unfold okE; infer_instance
def MayP (g : Net) : Prop := 0 ≤ g.1 ∧ g.1 ≤ 1024 ∧ g.2.length ≤ 3072 ∧ ∀ e ∈ g.2, okE g.1 e
instance (g : Net) : Decidable (MayP g) := by unfold MayP; infer_instance
def mayB (g : Net) : Bool := decide (MayP g)
theorem mayB_true {g : Net} (h : MayP g) : mayB g = true := decide_eq_true h
theorem mayB_false {g : Net} (h : ¬ MayP g) : mayB g = false := decide_eq_false h
end TL
namespace TL
/-- the first fault of a list of numbers below n -/
def chosenF (n : Int) : List Int → List Int → Int
  | [], _ => 0
  | i :: r, seen => if i < 0 ∨ n ≤ i then 2 else if i ∈ seen then 18 else chosenF n r (seen ++ [i])
def chosenS (l : List Int) (n : Int) : Int := chosenF n l []
structure SeenInv (seen : List Bool) (l : List Int) (n : Int) (k : Nat) : Prop where
  len : (seen.length : Int) = n
  seen : ∀ i, 0 ≤ i → i < n → gI seen i = decide (i ∈ l.take k)
  rest : chosenF n (l.drop k) (l.take k) = chosenS l n
  all : ∀ i ∈ l.take k, 0 ≤ i ∧ i < n
theorem gI_nat {α : Type} [Inhabited α] (xs : List α) (k : Nat) : gI xs (k : Int) = xs.getD k default := by simp [gI]
theorem drop_gI {α : Type} [Inhabited α] {xs : List α} {k : Nat} (h : (k : Int) < xs.length) : xs.drop k = gI xs k :: xs.drop (k + 1) := by
  have h' : k < xs.length := by omega
  rw [List.drop_eq_getElem_cons h']
  simp [gI, h']
theorem gI_set {α : Type} [Inhabited α] {xs : List α} {i j : Int} {y : α} (hi : 0 ≤ i) (hi' : i < xs.length) (hj : 0 ≤ j) : gI (xs.set i.toNat y) j = if j = i then y else gI xs j := by
  unfold gI
  by_cases h : j = i
  · subst h
    have : j.toNat < xs.length := by omega
    simp [this]
  · have : i.toNat ≠ j.toNat := by omega
    simp [h, List.getElem?_set_ne this]
theorem gI_rep {α : Type} [Inhabited α] {n : Nat} {x : α} {i : Int} (h0 : 0 ≤ i) (h1 : i < n) : gI (List.replicate n x) i = x := by
  have : i.toNat < n := by omega
  simp [gI, this]
theorem SeenInv.start (l : List Int) (n : Int) (hn : 0 ≤ n) : SeenInv (List.replicate n.toNat false) l n 0 :=
  ⟨by simp; omega, fun i h0 h1 => by rw [gI_rep h0 (by omega)]; simp, by simp [chosenS], by simp⟩
theorem SeenInv.next {seen : List Bool} {l : List Int} {n : Int} {k : Nat} (h : SeenInv seen l n k) (hk : (k : Int) < l.length) (h0 : 0 ≤ gI l k) (h1 : gI l k < n) (hs : gI seen (gI l k) = false) : SeenInv (seen.set (gI l k).toNat true) l n (k + 1) := by
  have ht := take_succ_gI hk
  have hd := drop_gI hk
  have hl := h.len
  have hni : gI l k ∉ l.take k := by
    have := h.seen _ h0 h1
    rw [hs] at this
    simpa using this.symm
  refine ⟨by simpa using h.len, fun i h2 h3 => ?_, ?_, fun i hi => ?_⟩
  · rw [gI_set h0 (by omega) h2, ht]
    by_cases he : i = gI l k
    · subst he; simp
    · rw [if_neg he, h.seen i h2 h3]
      simp [he]
  · rw [← h.rest, hd, ht]
    simp only [chosenF]
    rw [if_neg (by omega), if_neg hni]
  · rw [ht] at hi
    rcases List.mem_append.1 hi with h' | h'
    · exact h.all i h'
    · obtain rfl := List.mem_singleton.1 h'
      exact ⟨h0, h1⟩
theorem SeenInv.bad {seen : List Bool} {l : List Int} {n : Int} {k : Nat} (h : SeenInv seen l n k) (hk : (k : Int) < l.length) (h0 : gI l k < 0 ∨ n ≤ gI l k) : (2 : Int) = chosenS l n := by
  rw [← h.rest, drop_gI hk]; simp only [chosenF]; rw [if_pos h0]
theorem SeenInv.twice {seen : List Bool} {l : List Int} {n : Int} {k : Nat} (h : SeenInv seen l n k) (hk : (k : Int) < l.length) (h0 : 0 ≤ gI l k) (h1 : gI l k < n) (hs : gI seen (gI l k) = true) : (18 : Int) = chosenS l n := by
  have hni : gI l k ∈ l.take k := by
    have := h.seen _ h0 h1
    rw [hs] at this
    simpa using this.symm
  rw [← h.rest, drop_gI hk]; simp only [chosenF]; rw [if_neg (by omega), if_pos hni]
theorem SeenInv.done {seen : List Bool} {l : List Int} {n : Int} {k : Nat} (h : SeenInv seen l n k) (hk : ¬ (k : Int) < l.length) : (0 : Int) = chosenS l n := by
  rw [← h.rest, List.drop_of_length_le (by omega)]; rfl
theorem chosenF_ok {n : Int} : ∀ (l seen : List Int), chosenF n l seen = 0 → (∀ i ∈ l, 0 ≤ i ∧ i < n) ∧ l.Nodup ∧ ∀ i ∈ l, i ∉ seen
  | [], seen, _ => by simp
  | i :: r, seen, h => by
    simp only [chosenF] at h
    split at h
    · cases h
    · split at h
      · cases h
      · rename_i h1 h2
        obtain ⟨a, b, c⟩ := chosenF_ok r (seen ++ [i]) h
        refine ⟨fun j hj => ?_, List.nodup_cons.2 ⟨fun hi => c i hi (by simp), b⟩, fun j hj => ?_⟩
        · rcases List.mem_cons.1 hj with rfl | hj
          · omega
          · exact a j hj
        · rcases List.mem_cons.1 hj with rfl | hj
          · exact h2
          · exact fun hs => c j hj (by simp [hs])
theorem chosenS_ok {n : Int} {l : List Int} (h : chosenS l n = 0) : (∀ i ∈ l, 0 ≤ i ∧ i < n) ∧ l.Nodup := ⟨(chosenF_ok l [] h).1, (chosenF_ok l [] h).2.1⟩
def subR (g : Net) (keep : List Int) : Net × Int :=
  if MayP g then
    if chosenS keep g.2.length = 0 then ((g.1, keep.map (gI g.2)), 0) else ((0, []), chosenS keep g.2.length)
  else ((0, []), 1)
def posS (nodes : List Int) (v : Int) : Int := if v ∈ nodes then (nodes.idxOf v : Int) + 1 else 0
def partW (g : Net) (nodes : List Int) : List Int := ((List.range g.2.length).map (fun (i : Nat) => (i : Int))).filter fun i => decide ((gI g.2 i).1 ∈ nodes) && decide ((gI g.2 i).2 ∈ nodes)
def partR (g : Net) (nodes : List Int) : Net × List Int × Int :=
  if MayP g then
    if chosenS nodes g.1 = 0 then (((nodes.length : Int), (partW g nodes).map fun i => (posS nodes (gI g.2 i).1 - 1, posS nodes (gI g.2 i).2 - 1)), partW g nodes, 0) else ((0, []), [], chosenS nodes g.1)
  else ((0, []), [], 1)
end TL
namespace TL
structure PosInv (T : List Int) (nodes : List Int) (n : Int) (k : Nat) : Prop where
  len : (T.length : Int) = n
  pos : ∀ v, 0 ≤ v → v < n → gI T v = posS (nodes.take k) v
theorem PosInv.start (nodes : List Int) (n : Int) (hn : 0 ≤ n) : PosInv (List.replicate n.toNat 0) nodes n 0 :=
  ⟨by simp; omega, fun v h0 h1 => by rw [gI_rep h0 (by omega)]; simp [posS]⟩
theorem posS_snoc {l : List Int} {x v : Int} (hx : x ∉ l) : posS (l ++ [x]) v = if v = x then (l.length : Int) + 1 else posS l v := by
  unfold posS
  by_cases h : v = x
  · subst h
    simp [List.idxOf_append, hx]
  · by_cases hv : v ∈ l
    · simp [h, hv, List.idxOf_append]
    · simp [h, hv]
theorem PosInv.next {T nodes : List Int} {n : Int} {k : Nat} (h : PosInv T nodes n k) (hk : (k : Int) < nodes.length) (h0 : 0 ≤ gI nodes k) (h1 : gI nodes k < n) (hd : nodes.Nodup) : PosInv (T.set (gI nodes k).toNat ((k : Int) + 1)) nodes n (k + 1) := by
  have ht := take_succ_gI hk
  have hl := h.len
  have hn : gI nodes k ∉ nodes.take k := by
    have h2 : (nodes.take (k + 1)).Nodup := hd.sublist (List.take_sublist _ _)
    rw [ht] at h2
    have := List.nodup_append.1 h2
    intro hm
    exact this.2.2 _ hm _ (by simp) rfl
  have hlk : (nodes.take k).length = k := by simp; omega
  refine ⟨by simpa using h.len, fun v h2 h3 => ?_⟩
  rw [gI_set h0 (by omega) h2, ht, posS_snoc hn, h.pos v h2 h3, hlk]
def partWk (g : Net) (nodes : List Int) (k : Nat) : List Int := ((List.range k).map (fun (i : Nat) => (i : Int))).filter fun i => decide ((gI g.2 i).1 ∈ nodes) && decide ((gI g.2 i).2 ∈ nodes)
theorem partWk_succ (g : Net) (nodes : List Int) (k : Nat) : partWk g nodes (k + 1) = if (gI g.2 k).1 ∈ nodes ∧ (gI g.2 k).2 ∈ nodes then partWk g nodes k ++ [(k : Int)] else partWk g nodes k := by
  unfold partWk
  rw [List.range_succ, List.map_append, List.filter_append]
  by_cases h : (gI g.2 k).1 ∈ nodes ∧ (gI g.2 k).2 ∈ nodes
  · rw [if_pos h]; simp [h.1, h.2]
  · rw [if_neg h]
    have : ¬ ((gI g.2 (k : Int)).1 ∈ nodes ∧ (gI g.2 (k : Int)).2 ∈ nodes) := h
    by_cases h1 : (gI g.2 (k : Int)).1 ∈ nodes
    · have h2 : (gI g.2 (k : Int)).2 ∉ nodes := fun h2 => h ⟨h1, h2⟩
      simp [h1, h2]
    · simp [h1]
theorem partWk_len (g : Net) (nodes : List Int) (k : Nat) : (partWk g nodes k).length ≤ k := by
  unfold partWk
  have := List.length_filter_le (fun i => decide ((gI g.2 i).1 ∈ nodes) && decide ((gI g.2 i).2 ∈ nodes)) ((List.range k).map (fun (i : Nat) => (i : Int)))
  simpa using this
theorem posS_pos {l : List Int} {v : Int} : 0 < posS l v ↔ v ∈ l := by
  unfold posS
  by_cases h : v ∈ l
  · simp [h]
  · simp [h]
theorem posS_nonneg (l : List Int) (v : Int) : 0 ≤ posS l v := by
  unfold posS; split <;> omega
theorem posS_le (l : List Int) (v : Int) : posS l v ≤ l.length := by
  unfold posS
  split
  · rename_i h
    have := List.idxOf_lt_length_iff.2 h
    omega
  · omega
end TL
namespace TL
theorem partWk_yes {g : Net} {nodes : List Int} {k : Nat} (h1 : 0 < posS nodes (gI g.2 k).1) (h2 : 0 < posS nodes (gI g.2 k).2) : partWk g nodes (k + 1) = partWk g nodes k ++ [(k : Int)] := by
  rw [partWk_succ, if_pos ⟨posS_pos.1 h1, posS_pos.1 h2⟩]
theorem partWk_no1 {g : Net} {nodes : List Int} {k : Nat} (h1 : ¬ 0 < posS nodes (gI g.2 k).1) : partWk g nodes (k + 1) = partWk g nodes k := by
  rw [partWk_succ, if_neg fun h => h1 (posS_pos.2 h.1)]
theorem partWk_no2 {g : Net} {nodes : List Int} {k : Nat} (h1 : ¬ 0 < posS nodes (gI g.2 k).2) : partWk g nodes (k + 1) = partWk g nodes k := by
  rw [partWk_succ, if_neg fun h => h1 (posS_pos.2 h.2)]
end TL
namespace TL
/-- the node that a half-edge leaves -/
def fromS (g : Net) (h : Int) : Int := pI (gI g.2 (h / 2)) (h % 2)
def outSk (g : Net) (v : Int) (k : Nat) : List Int := ((List.range (2 * k)).map (fun (i : Nat) => (i : Int))).filter fun h => decide (fromS g h = v)
def outS (g : Net) (v : Int) : List Int := outSk g v g.2.length
def outR (g : Net) (v : Int) : List Int × Int := if MayP g then if 0 ≤ v ∧ v < g.1 then (outS g v, 0) else ([], 2) else ([], 1)
theorem fromS_even (g : Net) (k : Nat) : fromS g (2 * (k : Int)) = (gI g.2 k).1 := by
  unfold fromS
  have h1 : 2 * (k : Int) / 2 = k := by omega
  have h2 : 2 * (k : Int) % 2 = 0 := by omega
  rw [h1, h2]; rfl
theorem fromS_odd (g : Net) (k : Nat) : fromS g (2 * (k : Int) + 1) = (gI g.2 k).2 := by
  unfold fromS
  have h1 : (2 * (k : Int) + 1) / 2 = k := by omega
  have h2 : (2 * (k : Int) + 1) % 2 = 1 := by omega
  rw [h1, h2]; rfl
theorem outSk_succ (g : Net) (v : Int) (k : Nat) : outSk g v (k + 1) = outSk g v k ++ ((if (gI g.2 k).1 = v then [2 * (k : Int)] else []) ++ (if (gI g.2 k).2 = v then [2 * (k : Int) + 1] else [])) := by
  unfold outSk
  rw [show 2 * (k + 1) = 2 * k + 1 + 1 by omega, List.range_succ, List.range_succ]
  simp only [List.map_append, List.filter_append, List.map_cons, List.map_nil, List.append_assoc]
  congr 1
  have e1 : ((2 * k : Nat) : Int) = 2 * (k : Int) := by omega
  have e2 : ((2 * k + 1 : Nat) : Int) = 2 * (k : Int) + 1 := by omega
  rw [e1, e2]
  congr 1
  · by_cases h : (gI g.2 (k : Int)).1 = v
    · simp [fromS_even, h]
    · simp [fromS_even, h]
  · by_cases h : (gI g.2 (k : Int)).2 = v
    · simp [fromS_odd, h]
    · simp [fromS_odd, h]
theorem outSk_len (g : Net) (v : Int) (k : Nat) : (outSk g v k).length ≤ 2 * k := by
  unfold outSk
  have := List.length_filter_le (fun h => decide (fromS g h = v)) ((List.range (2 * k)).map (fun (i : Nat) => (i : Int)))
  simpa using this
structure DegInv (l : List Int) (g : Net) (k : Nat) : Prop where
  len : (l.length : Int) = g.1
  deg : ∀ v, 0 ≤ v → v < g.1 → gI l v = ((outSk g v k).length : Int)
def degS (g : Net) : List Int := (List.range g.1.toNat).map fun (v : Nat) => ((outS g v).length : Int)
def degR (g : Net) : List Int × Int := if MayP g then (degS g, 0) else ([], 1)
theorem DegInv.start (g : Net) (h : 0 ≤ g.1) : DegInv (List.replicate g.1.toNat 0) g 0 :=
  ⟨by simp; omega, fun v h0 h1 => by rw [gI_rep h0 (by omega)]; simp [outSk]⟩
end TL
namespace TL
theorem outSk_len_succ (g : Net) (v : Int) (k : Nat) : ((outSk g v (k + 1)).length : Int) = (outSk g v k).length + ((if (gI g.2 k).1 = v then 1 else 0) + (if (gI g.2 k).2 = v then 1 else 0)) := by
  rw [outSk_succ, List.length_append, List.length_append]
  split <;> split <;> simp
theorem DegInv.next {l : List Int} {g : Net} {k : Nat} (h : DegInv l g k) (h1 : 0 ≤ (gI g.2 k).1) (h2 : (gI g.2 k).1 < g.1) (h3 : 0 ≤ (gI g.2 k).2) (h4 : (gI g.2 k).2 < g.1) :
    DegInv ((l.set (gI g.2 k).1.toNat (gI l (gI g.2 k).1 + 1)).set (gI g.2 k).2.toNat (gI (l.set (gI g.2 k).1.toNat (gI l (gI g.2 k).1 + 1)) (gI g.2 k).2 + 1)) g (k + 1) := by
  have hl := h.len
  refine ⟨by simpa using hl, fun v h5 h6 => ?_⟩
  rw [gI_set h3 (by simp; omega) h5, gI_set h1 (by omega) h3, gI_set h1 (by omega) h5, outSk_len_succ, h.deg _ h1 h2, h.deg _ h3 h4, h.deg v h5 h6]
  by_cases e2 : v = (gI g.2 (k : Int)).2
  · by_cases e1 : v = (gI g.2 (k : Int)).1
    · rw [← e1, ← e2]; simp; omega
    · have e3 : ¬ (gI g.2 (k : Int)).2 = (gI g.2 (k : Int)).1 := fun h => e1 (e2.trans h)
      have e4 : ¬ (gI g.2 (k : Int)).1 = v := fun h => e1 h.symm
      have e6 : ¬ (gI g.2 (k : Int)).1 = (gI g.2 (k : Int)).2 := fun h => e3 h.symm
      simp [e2, e3, e6]
  · have e4 : ¬ (gI g.2 (k : Int)).2 = v := fun h => e2 h.symm
    by_cases e1 : v = (gI g.2 (k : Int)).1
    · rw [if_neg e2, if_pos e1, if_neg e4, if_pos e1.symm, ← e1]; simp
    · have e5 : ¬ (gI g.2 (k : Int)).1 = v := fun h => e1 h.symm
      rw [if_neg e2, if_neg e1, if_neg e4, if_neg e5]; simp
theorem list_ext_gI {α : Type} [Inhabited α] {l l' : List α} (hl : l.length = l'.length) (h : ∀ i : Nat, i < l.length → gI l i = gI l' i) : l = l' := by
  apply List.ext_getElem hl
  intro i h1 h2
  have := h i h1
  simpa [gI, h1, h2] using this
theorem DegInv.done {l : List Int} {g : Net} {k : Nat} (h : DegInv l g k) (hk : k = g.2.length) : l = degS g := by
  subst hk
  have hl := h.len
  apply list_ext_gI
  · simp [degS]; omega
  · intro i hi
    rw [h.deg i (by omega) (by omega)]
    have : i < g.1.toNat := by omega
    simp [degS, gI, this, outS]
end TL
namespace TL
def minK (x : List Int) (i : Nat) : Int := ((x.take i).drop 1).foldl min (gI x 0)
def maxK (x : List Int) (i : Nat) : Int := ((x.take i).drop 1).foldl max (gI x 0)
def minL (x : List Int) : Int := minK x x.length
def maxL (x : List Int) : Int := maxK x x.length
theorem take_drop_succ {x : List Int} {i : Nat} (h1 : 1 ≤ i) (hi : (i : Int) < x.length) : (x.take (i + 1)).drop 1 = (x.take i).drop 1 ++ [gI x i] := by
  rw [take_succ_gI hi, List.drop_append_of_le_length (by simp; omega)]
theorem minK_succ {x : List Int} {i : Nat} (h1 : 1 ≤ i) (hi : (i : Int) < x.length) : minK x (i + 1) = min (minK x i) (gI x i) := by
  unfold minK; rw [take_drop_succ h1 hi]; simp
theorem maxK_succ {x : List Int} {i : Nat} (h1 : 1 ≤ i) (hi : (i : Int) < x.length) : maxK x (i + 1) = max (maxK x i) (gI x i) := by
  unfold maxK; rw [take_drop_succ h1 hi]; simp
def lvl (e : Int × Int) : Int × Int := (min e.1 e.2, max e.1 e.2)
def loopsK (g : Net) (k : Nat) : Int := ((g.2.take k).countP fun e => decide (e.1 = e.2) : Nat)
def parK (g : Net) (k : Nat) : Int := ((List.range k).countP fun i => decide (lvl (gI g.2 i) ∈ (g.2.map lvl).take i) : Nat)
theorem loopsK_le (g : Net) (k : Nat) : 0 ≤ loopsK g k ∧ loopsK g k ≤ k := by
  unfold loopsK
  have h1 := List.countP_le_length (p := fun e : Int × Int => decide (e.1 = e.2)) (l := g.2.take k)
  have h2 : (g.2.take k).length ≤ k := List.length_take_le _ _
  omega
theorem parK_le (g : Net) (k : Nat) : 0 ≤ parK g k ∧ parK g k ≤ k := by
  unfold parK
  have h1 := List.countP_le_length (p := fun i : Nat => decide (lvl (gI g.2 i) ∈ (g.2.map lvl).take i)) (l := List.range k)
  simp only [List.length_range] at h1
  omega
theorem loopsK_succ {g : Net} {k : Nat} (hk : (k : Int) < g.2.length) : loopsK g (k + 1) = loopsK g k + if (gI g.2 k).1 = (gI g.2 k).2 then 1 else 0 := by
  unfold loopsK
  rw [take_succ_gI hk, List.countP_append]
  by_cases h : (gI g.2 (k : Int)).1 = (gI g.2 (k : Int)).2 <;> simp [h]
theorem parK_succ (g : Net) (k : Nat) : parK g (k + 1) = parK g k + if lvl (gI g.2 k) ∈ (g.2.map lvl).take k then 1 else 0 := by
  unfold parK
  rw [List.range_succ, List.countP_append]
  by_cases h : lvl (gI g.2 (k : Int)) ∈ (g.2.map lvl).take k
  · simp [h]
  · simp [h]
def lookR (g : Net) : (Int × Int × Int × Int × Bool) × Int :=
  if MayP g then
    ((loopsK g g.2.length, parK g g.2.length, if 0 < g.1 then minL (degS g) else 0, if 0 < g.1 then maxL (degS g) else 0, decide (loopsK g g.2.length = 0 ∧ parK g g.2.length = 0)), 0)
  else ((0, 0, 0, 0, false), 1)
def sampleS : Net := (3, [(0, 1), (1, 0), (2, 2), (1, 2)])
end TL
namespace TL
structure LookInv (l0 l1 : Int) (F : Int × Int → Int) (g : Net) (k : Nat) : Prop where
  loops : l0 = loopsK g k
  par : l1 = parK g k
  seen : ∀ q, F q = (((g.2.map lvl).take k).count q : Nat)
theorem LookInv.start (g : Net) : LookInv 0 0 (fun _ => 0) g 0 := ⟨rfl, rfl, fun q => by simp⟩
theorem map_take_succ {g : Net} {k : Nat} (hk : (k : Int) < g.2.length) : (g.2.map lvl).take (k + 1) = (g.2.map lvl).take k ++ [lvl (gI g.2 k)] := by
  rw [take_succ_gI (by simpa using hk)]
  have h' : k < g.2.length := by omega
  simp [gI, h']
theorem LookInv.next {l0 l1 : Int} {F : Int × Int → Int} {g : Net} {k : Nat} (h : LookInv l0 l1 F g k) (hk : (k : Int) < g.2.length) :
    LookInv (l0 + if (gI g.2 k).1 = (gI g.2 k).2 then 1 else 0) (l1 + if 0 < F (lvl (gI g.2 k)) then 1 else 0) (fun q => if q = lvl (gI g.2 k) then F (lvl (gI g.2 k)) + 1 else F q) g (k + 1) := by
  refine ⟨by rw [loopsK_succ hk, h.loops], ?_, fun q => ?_⟩
  · rw [parK_succ, h.par, h.seen]
    congr 1
    have h1 : (0 : Int) < (((g.2.map lvl).take k).count (lvl (gI g.2 k)) : Nat) ↔ lvl (gI g.2 k) ∈ (g.2.map lvl).take k := by
      rw [← List.count_pos_iff]; omega
    by_cases h2 : lvl (gI g.2 (k : Int)) ∈ (g.2.map lvl).take k
    · rw [if_pos h2, if_pos (h1.2 h2)]
    · rw [if_neg h2, if_neg (fun h3 => h2 (h1.1 h3))]
  · rw [map_take_succ hk, List.count_append, h.seen, h.seen]
    by_cases h2 : q = lvl (gI g.2 (k : Int))
    · subst h2; simp
    · have h3 : ¬ lvl (gI g.2 (k : Int)) = q := fun h => h2 h.symm
      simp [h2, h3]
theorem LookInv.bd {l0 l1 : Int} {F : Int × Int → Int} {g : Net} {k : Nat} (h : LookInv l0 l1 F g k) : (0 ≤ l0 ∧ l0 ≤ k) ∧ (0 ≤ l1 ∧ l1 ≤ k) ∧ ∀ q, 0 ≤ F q ∧ F q ≤ k := by
  refine ⟨by rw [h.loops]; exact loopsK_le g k, by rw [h.par]; exact parK_le g k, fun q => ?_⟩
  rw [h.seen]
  have h1 := List.count_le_length (a := q) (l := (g.2.map lvl).take k)
  have h2 : ((g.2.map lvl).take k).length ≤ k := List.length_take_le _ _
  omega
end TL
namespace TL
section
variable {l0 l1 : Int} {F : Int × Int → Int} {g : Net} {k : Nat}
theorem LookInv.tt (h : LookInv l0 l1 F g k) (hk : (k : Int) < g.2.length) (c1 : (gI g.2 k).1 = (gI g.2 k).2) (c2 : 0 < F (min (gI g.2 k).1 (gI g.2 k).2, max (gI g.2 k).1 (gI g.2 k).2)) :
    LookInv (l0 + 1) (l1 + 1) (fun q => if q = (min (gI g.2 k).1 (gI g.2 k).2, max (gI g.2 k).1 (gI g.2 k).2) then F (min (gI g.2 k).1 (gI g.2 k).2, max (gI g.2 k).1 (gI g.2 k).2) + 1 else F q) g (k + 1) := by
  have hn := h.next hk
  rw [if_pos c1, if_pos (show 0 < F (lvl _) from c2)] at hn; exact hn
theorem LookInv.tf (h : LookInv l0 l1 F g k) (hk : (k : Int) < g.2.length) (c1 : (gI g.2 k).1 = (gI g.2 k).2) (c2 : ¬ 0 < F (min (gI g.2 k).1 (gI g.2 k).2, max (gI g.2 k).1 (gI g.2 k).2)) :
    LookInv (l0 + 1) l1 (fun q => if q = (min (gI g.2 k).1 (gI g.2 k).2, max (gI g.2 k).1 (gI g.2 k).2) then F (min (gI g.2 k).1 (gI g.2 k).2, max (gI g.2 k).1 (gI g.2 k).2) + 1 else F q) g (k + 1) := by
  have hn := h.next hk
  rw [if_pos c1, if_neg (show ¬ 0 < F (lvl _) from c2), Int.add_zero] at hn; exact hn
theorem LookInv.ft (h : LookInv l0 l1 F g k) (hk : (k : Int) < g.2.length) (c1 : ¬ (gI g.2 k).1 = (gI g.2 k).2) (c2 : 0 < F (min (gI g.2 k).1 (gI g.2 k).2, max (gI g.2 k).1 (gI g.2 k).2)) :
    LookInv l0 (l1 + 1) (fun q => if q = (min (gI g.2 k).1 (gI g.2 k).2, max (gI g.2 k).1 (gI g.2 k).2) then F (min (gI g.2 k).1 (gI g.2 k).2, max (gI g.2 k).1 (gI g.2 k).2) + 1 else F q) g (k + 1) := by
  have hn := h.next hk
  rw [if_neg c1, if_pos (show 0 < F (lvl _) from c2), Int.add_zero] at hn; exact hn
theorem LookInv.ff (h : LookInv l0 l1 F g k) (hk : (k : Int) < g.2.length) (c1 : ¬ (gI g.2 k).1 = (gI g.2 k).2) (c2 : ¬ 0 < F (min (gI g.2 k).1 (gI g.2 k).2, max (gI g.2 k).1 (gI g.2 k).2)) :
    LookInv l0 l1 (fun q => if q = (min (gI g.2 k).1 (gI g.2 k).2, max (gI g.2 k).1 (gI g.2 k).2) then F (min (gI g.2 k).1 (gI g.2 k).2, max (gI g.2 k).1 (gI g.2 k).2) + 1 else F q) g (k + 1) := by
  have hn := h.next hk
  rw [if_neg c1, if_neg (show ¬ 0 < F (lvl _) from c2), Int.add_zero, Int.add_zero] at hn; exact hn
end
end TL
