/-
  TlRot2: rotations: faces of half-edges, first ones, parts, moved ones.
  By an AI agent.
-/
import Derived.Test.YtgaefcjhggdkcaaTlRotSame
import Derived.Test.YtgaefcjhggdkcaaTlInts
set_option linter.all false
namespace TL
/-- each half-edge's face, k faces and i half-edges of the next one laid -/
def ofK (F : List (List Int)) (n : Int) (k : Nat) : List Int := (List.range k).foldl (fun l (q : Nat) => (gI F (q : Int)).foldl (fun l h => l.set h.toNat (q : Int)) l) (List.replicate n.toNat 0)
def ofKi (F : List (List Int)) (n : Int) (k i : Nat) : List Int := ((gI F (k : Int)).take i).foldl (fun l h => l.set h.toNat (k : Int)) (ofK F n k)
theorem ofK_len (F : List (List Int)) (n : Int) : ∀ k : Nat, (ofK F n k).length = n.toNat := by
  intro k
  induction k with
  | zero => simp [ofK]
  | succ k ih =>
    unfold ofK at ih ⊢
    rw [List.range_succ, List.foldl_append]
    simp only [List.foldl_cons, List.foldl_nil]
    rw [set_fold_len]; exact ih
theorem ofKi_len (F : List (List Int)) (n : Int) (k i : Nat) : (ofKi F n k i).length = n.toNat := by
  unfold ofKi
  rw [set_fold_len, ofK_len]
theorem ofKi_zero (F : List (List Int)) (n : Int) (k : Nat) : ofKi F n k 0 = ofK F n k := by simp [ofKi]
theorem ofKi_succ (F : List (List Int)) (n : Int) (k i : Nat) (hi : (i : Int) < (gI F (k : Int)).length) : ofKi F n k (i + 1) = (ofKi F n k i).set (gI (gI F (k : Int)) (i : Int)).toNat (k : Int) := set_fold_succ hi
theorem ofKi_done (F : List (List Int)) (n : Int) (k i : Nat) (hi : ¬ (i : Int) < (gI F (k : Int)).length) : ofKi F n k i = ofK F n (k + 1) := by
  unfold ofKi
  rw [List.take_of_length_le (by omega)]
  conv => rhs; unfold ofK
  rw [List.range_succ, List.foldl_append]
  rfl
def ofS (g : Net) (r : Rot) : List Int := ofK (facesS (nextS g r) r) (2 * (g.2.length : Int)) (facesS (nextS g r) r).length
def ofR (g : Net) (r : Rot) : List Int × Int := if rmayR g r = 0 then (ofS g r, 0) else ([], rmayR g r)
/-- all half-edges on faces are half-edges -/
theorem orbF_in {nx : List Int} (hn : ∀ k : Int, 0 ≤ k → k < nx.length → 0 ≤ gI nx k ∧ gI nx k < nx.length) : ∀ (n : Nat) (seen : List Int) (k : Int), 0 ≤ k → k < nx.length → ∀ h ∈ orbF nx n seen k, 0 ≤ h ∧ h < nx.length
  | 0, seen, k, _, _, h, hh => by simp [orbF] at hh
  | n + 1, seen, k, h0, h1, h, hh => by
    simp only [orbF] at hh
    split at hh
    · cases hh
    · rcases List.mem_cons.1 hh with rfl | hh
      · exact ⟨h0, h1⟩
      · have := hn k h0 h1
        exact orbF_in hn n _ _ this.1 this.2 h hh
theorem facesL_in {nx : List Int} (hn : ∀ k : Int, 0 ≤ k → k < nx.length → 0 ≤ gI nx k ∧ gI nx k < nx.length) : ∀ (l S : List Int), (∀ h ∈ l, 0 ≤ h ∧ h < nx.length) → ∀ f ∈ facesL nx l S, ∀ h ∈ f, 0 ≤ h ∧ h < nx.length
  | [], S, _, f, hf => by simp [facesL] at hf
  | a :: l, S, hl, f, hf => by
    simp only [facesL] at hf
    split at hf
    · exact facesL_in hn l S (fun h hh => hl h (by simp [hh])) f hf
    · rcases List.mem_cons.1 hf with rfl | hf
      · have := hl a (by simp)
        exact orbF_in hn _ _ _ this.1 this.2
      · exact facesL_in hn l _ (fun h hh => hl h (by simp [hh])) f hf
theorem facesS_in {g : Net} {r : Rot} (hr : RotP g r) : ∀ f ∈ facesS (nextS g r) r, ∀ h ∈ f, 0 ≤ h ∧ h < 2 * (g.2.length : Int) := by
  intro f hf h hh
  have hl := nextS_len g r
  unfold facesS at hf
  rcases List.mem_append.1 hf with hf | hf
  · have := facesL_in (nx := nextS g r) (fun k h0 h1 => by
      have := nextS_in hr h0 (by omega)
      omega) _ [] (fun h hh => by
      have := iota_mem.1 hh
      omega) f hf h hh
    omega
  · obtain ⟨l, _, rfl⟩ := List.mem_map.1 hf
    cases hh
theorem face_in {g : Net} {r : Rot} (hr : RotP g r) {k i : Nat} (hk : (k : Int) < (facesS (nextS g r) r).length) (hi : (i : Int) < (gI (facesS (nextS g r) r) (k : Int)).length) : 0 ≤ gI (gI (facesS (nextS g r) r) (k : Int)) (i : Int) ∧ gI (gI (facesS (nextS g r) r) (k : Int)) (i : Int) < 2 * (g.2.length : Int) :=
  facesS_in hr _ (gI_mem (by omega) hk) _ (gI_mem (by omega) hi)
/-- P9.2: the first rotation -/
def firstS (g : Net) : Rot := (List.range g.1.toNat).map fun (v : Nat) => outS g (v : Int)
def firstR (g : Net) : Rot × Int := if MayP g then (firstS g, 0) else ([], 1)
theorem OutInv.first {out : Rot} {g : Net} {k : Nat} (h : OutInv out g k) (hk : k = g.2.length) : out = firstS g := by
  have hl := h.len
  apply list_ext_gI
  · simp [firstS]; omega
  · intro i hi
    rw [h.done hk _ (by omega) (by omega)]
    have : i < g.1.toNat := by omega
    simp [firstS, gI, this]
/-- the half-edges of all nodes, h half-edges laid: the document's way -/
structure OutsInv (out : Rot) (g : Net) (h : Nat) : Prop where
  len : (out.length : Int) = g.1
  at_ : ∀ v, 0 ≤ v → v < g.1 → gI out v = outH g v h
theorem OutsInv.start {g : Net} (h : 0 ≤ g.1) : OutsInv (List.replicate g.1.toNat []) g 0 := ⟨by simp; omega, fun v h0 h1 => by rw [gI_rep h0 (by omega)]; simp [outH]⟩
theorem OutsInv.next {out : Rot} {g : Net} {h : Nat} (hi : OutsInv out g h) (h0 : 0 ≤ fromS g h) (h1 : fromS g h < g.1) : OutsInv (out.set (fromS g h).toNat (gI out (fromS g h) ++ [(h : Int)])) g (h + 1) := by
  have hl := hi.len
  refine ⟨by simpa using hl, fun v h2 h3 => ?_⟩
  rw [gI_set h0 (by omega) h2, outH_succ]
  by_cases e : v = fromS g (h : Int)
  · rw [if_pos e, if_pos e.symm, hi.at_ _ h0 h1, ← e]
  · rw [if_neg e, if_neg (fun h => e h.symm), hi.at_ v h2 h3]
theorem OutsInv.bd {out : Rot} {g : Net} {h : Nat} (hi : OutsInv out g h) {v : Int} (h0 : 0 ≤ v) (h1 : v < g.1) : (gI out v).length ≤ h := by
  rw [hi.at_ v h0 h1]; exact outH_len g v h
theorem OutsInv.done {out : Rot} {g : Net} {h : Nat} (hi : OutsInv out g h) (hh : h = 2 * g.2.length) : out = firstS g := by
  have hl := hi.len
  apply list_ext_gI
  · simp [firstS]; omega
  · intro i hlt
    rw [hi.at_ _ (by omega) (by omega), outH_all g _ hh]
    have : i < g.1.toNat := by omega
    simp [firstS, gI, this]
/-- a list with some half-edges kept, under new numbers -/
def keepRow (keep : List Int) (l : List Int) : List Int := (l.filter fun h => decide (0 < posS keep (h / 2))).map fun h => 2 * (posS keep (h / 2) - 1) + h % 2
theorem keepRow_yes {keep l : List Int} {i : Nat} (hi : (i : Int) < l.length) (h : 0 < posS keep (gI l (i : Int) / 2)) : keepRow keep (l.take (i + 1)) = keepRow keep (l.take i) ++ [2 * (posS keep (gI l (i : Int) / 2) - 1) + gI l (i : Int) % 2] := by
  unfold keepRow
  rw [take_succ_gI hi, List.filter_append, List.map_append]
  simp [h]
theorem keepRow_no {keep l : List Int} {i : Nat} (hi : (i : Int) < l.length) (h : ¬ 0 < posS keep (gI l (i : Int) / 2)) : keepRow keep (l.take (i + 1)) = keepRow keep (l.take i) := by
  unfold keepRow
  rw [take_succ_gI hi, List.filter_append, List.map_append]
  simp [h]
theorem keepRow_len (keep l : List Int) : (keepRow keep l).length ≤ l.length := by
  unfold keepRow
  rw [List.length_map]
  exact List.length_filter_le _ _
/-- a rotation's part, k lists done and i half-edges of the next one -/
structure SubInv (out : Rot) (keep : List Int) (r : Rot) (k i : Nat) : Prop where
  len : out.length = r.length
  old : ∀ v : Nat, v < k → v < r.length → gI out (v : Int) = keepRow keep (gI r (v : Int))
  row : k < r.length → gI out (k : Int) = keepRow keep ((gI r (k : Int)).take i)
  new : ∀ v : Nat, k < v → v < r.length → gI out (v : Int) = []
theorem SubInv.start (keep : List Int) (r : Rot) : SubInv (List.replicate r.length []) keep r 0 0 :=
  ⟨by simp, fun v hv => by omega, fun h => by rw [gI_rep (by omega) (by omega)]; simp [keepRow], fun v h1 h2 => by rw [gI_rep (by omega) (by omega)]⟩
theorem SubInv.yes {out : Rot} {keep : List Int} {r : Rot} {k i : Nat} (h : SubInv out keep r k i) (hk : (k : Int) < r.length) (hi : (i : Int) < (gI r (k : Int)).length) (c : 0 < posS keep (gI (gI r (k : Int)) (i : Int) / 2)) :
    SubInv (out.set (k : Int).toNat (gI out (k : Int) ++ [2 * (posS keep (gI (gI r (k : Int)) (i : Int) / 2) - 1) + gI (gI r (k : Int)) (i : Int) % 2])) keep r k (i + 1) := by
  have hl := h.len
  simp only [Int.toNat_natCast]
  refine ⟨by simpa using hl, fun v h1 h2 => by rw [gI_set_other (by omega)]; exact h.old v h1 h2, fun h1 => ?_, fun v h1 h2 => by rw [gI_set_other (by omega)]; exact h.new v h1 h2⟩
  rw [gI_set_same (by omega), h.row h1, keepRow_yes hi c]
theorem SubInv.no {out : Rot} {keep : List Int} {r : Rot} {k i : Nat} (h : SubInv out keep r k i) (hi : (i : Int) < (gI r (k : Int)).length) (c : ¬ 0 < posS keep (gI (gI r (k : Int)) (i : Int) / 2)) : SubInv out keep r k (i + 1) :=
  ⟨h.len, h.old, fun h1 => by rw [h.row h1, keepRow_no hi c], h.new⟩
theorem SubInv.row_done {out : Rot} {keep : List Int} {r : Rot} {k i : Nat} (h : SubInv out keep r k i) (hk : (k : Int) < r.length) (hi : ¬ (i : Int) < (gI r (k : Int)).length) : SubInv out keep r (k + 1) 0 := by
  have h1 := h.row (by omega)
  rw [List.take_of_length_le (by omega)] at h1
  refine ⟨h.len, fun v h2 h3 => ?_, fun h2 => ?_, fun v h2 h3 => h.new v (by omega) h3⟩
  · by_cases e : v = k
    · subst e; exact h1
    · exact h.old v (by omega) h3
  · rw [h.new (k + 1) (by omega) h2]; simp [keepRow]
theorem SubInv.bd {out : Rot} {keep : List Int} {r : Rot} {k i : Nat} (h : SubInv out keep r k i) (hk : (k : Int) < r.length) : (gI out (k : Int)).length ≤ i := by
  rw [h.row (by omega)]
  have h1 := keepRow_len keep ((gI r (k : Int)).take i)
  have h2 := List.length_take_le i (gI r (k : Int))
  omega
theorem SubInv.done {out : Rot} {keep : List Int} {r : Rot} {k : Nat} (h : SubInv out keep r k 0) (hk : ¬ (k : Int) < r.length) : out = r.map (keepRow keep) := by
  have hl := h.len
  apply list_ext_gI
  · simpa using hl
  · intro v hv
    rw [h.old v (by omega) (by omega), gI_map _ (by omega) (by omega)]
def rsubR (g : Net) (r : Rot) (keep : List Int) : Net × Rot × Int :=
  if rmayR g r = 0 then if (subR g keep).2 = 0 then ((subR g keep).1, canonS (r.map (keepRow keep)), 0) else ((0, []), [], (subR g keep).2) else ((0, []), [], rmayR g r)
/-- a rotation whose nodes have changed places, k of them laid -/
structure MovInv (out : Rot) (r : Rot) (to : List Int) (n : Int) (k : Nat) : Prop where
  len : (out.length : Int) = n
  at_ : ∀ v : Nat, v < k → gI out (gI to (v : Int)) = gI r (v : Int)
def rmovedS (r : Rot) (to : List Int) (n : Int) : Rot := (iotaI n.toNat).map fun u => gI r ((to.idxOf u : Nat) : Int)
theorem MovInv.start (r : Rot) (to : List Int) {n : Int} (hn : 0 ≤ n) : MovInv (List.replicate n.toNat []) r to n 0 := ⟨by simp; omega, fun v hv => by omega⟩
theorem MovInv.next {out r : Rot} {to : List Int} {n : Int} {k : Nat} (h : MovInv out r to n k) (hn : to.Nodup) (hr : ∀ x ∈ to, 0 ≤ x ∧ x < n) (hk : (k : Int) < to.length) : MovInv (out.set (gI to (k : Int)).toNat (gI r (k : Int))) r to n (k + 1) := by
  have hl := h.len
  have hk' := hr _ (gI_mem (xs := to) (i := (k : Int)) (by omega) hk)
  refine ⟨by simpa using hl, fun v hv => ?_⟩
  have hv' := hr _ (gI_mem (xs := to) (i := (v : Int)) (by omega) (by omega))
  rw [gI_set hk'.1 (by omega) hv'.1]
  by_cases e : gI to (v : Int) = gI to (k : Int)
  · have := gI_inj hn (i := (v : Int)) (j := (k : Int)) (by omega) (by omega) (by omega) hk e
    have : v = k := by omega
    subst this
    rw [if_pos rfl]
  · rw [if_neg e]
    have : v ≠ k := fun h => e (by rw [h])
    exact h.at_ v (by omega)
theorem MovInv.done {out r : Rot} {to : List Int} {n : Int} {k : Nat} (h : MovInv out r to n k) (hn : to.Nodup) (hr : ∀ x ∈ to, 0 ≤ x ∧ x < n) (hl : (to.length : Int) = n) (hk : k = to.length) : out = rmovedS r to n := by
  have hlen := h.len
  apply list_ext_gI
  · simp [rmovedS, iota_len]; omega
  · intro u hu
    have hm := all_there hn (n := n.toNat) (fun x hx => by have := hr x hx; omega) (by omega) (u := (u : Int)) (by omega) (by omega)
    have hlt := List.idxOf_lt_length_iff.2 hm
    have e : gI to ((to.idxOf (u : Int) : Nat) : Int) = u := by simp [gI, hlt]
    have := h.at_ (to.idxOf (u : Int)) (by omega)
    rw [e] at this
    rw [this]
    unfold rmovedS
    rw [gI_map _ (by omega) (by rw [iota_len]; omega), iota_gI (by omega) (by omega)]
def rmovedR (g : Net) (r : Rot) (to : List Int) : Net × Rot × Int :=
  if rmayR g r = 0 then if (movedR g to).2 = 0 then ((movedR g to).1, canonS (rmovedS r to g.1), 0) else ((0, []), [], (movedR g to).2) else ((0, []), [], rmayR g r)
end TL
