/-
  TlFace: half-edges' next ones, faces.
  By an AI agent.
-/
import Derived.Test.YtgaefcjhggdkcaaTlRot
set_option linter.all false
namespace TL
/-- the one behind h in its list -/
def succS (r : Rot) (h : Int) : Int :=
  match r.find? (fun l => decide (h ∈ l)) with
  | some l => gI l ((((l.idxOf h : Nat) : Int) + 1) % (l.length : Int))
  | none => 0
def nextS (g : Net) (r : Rot) : List Int := (iotaI (2 * g.2.length)).map fun k => succS r (twin k)
theorem twin_twin {h : Int} (h0 : 0 ≤ h) : twin (twin h) = h := by
  unfold twin
  by_cases e : h % 2 = 0
  · rw [if_pos e, if_neg (by omega)]; omega
  · rw [if_neg e, if_pos (by omega)]; omega
theorem twin_in {n h : Int} (h0 : 0 ≤ h) (h1 : h < 2 * n) : 0 ≤ twin h ∧ twin h < 2 * n := by
  unfold twin
  split <;> omega
theorem twin_ne {a b : Int} (ha : 0 ≤ a) (hb : 0 ≤ b) (h : twin a = twin b) : a = b := by
  have := congrArg twin h
  rwa [twin_twin ha, twin_twin hb] at this
theorem rot_row {g : Net} {r : Rot} (hr : RotP g r) {v : Nat} (hv : (v : Int) < r.length) {h : Int} (hh : h ∈ gI r (v : Int)) : r.find? (fun l => decide (h ∈ l)) = some (gI r (v : Int)) := by
  have hlt : v < r.length := by omega
  have e : gI r (v : Int) = r[v] := by simp [gI, hlt]
  rw [e] at hh ⊢
  refine List.find?_eq_some_iff_getElem.2 ⟨by simpa using hh, v, hlt, rfl, fun j hj => ?_⟩
  have hj' : j < r.length := by omega
  have h1 := (hr.2.1 v hlt h (by rw [e]; exact hh)).2
  simp only [Bool.not_eq_true', decide_eq_false_iff_not]
  intro hm
  have ej : gI r (j : Int) = r[j] := by simp [gI, hj']
  have h2 := (hr.2.1 j hj' h (by rw [ej]; exact hm)).2
  omega
theorem sub_flat : ∀ {r : Rot} {l : List Int}, l ∈ r → List.Sublist l r.flatten
  | a :: r, l, h => by
    rcases List.mem_cons.1 h with rfl | h
    · rw [List.flatten_cons]; exact List.sublist_append_left _ _
    · rw [List.flatten_cons]; exact (sub_flat h).trans (List.sublist_append_right _ _)
theorem row_nodup {g : Net} {r : Rot} (hr : RotP g r) {v : Nat} (hv : (v : Int) < r.length) : (gI r (v : Int)).Nodup := by
  have hm := gI_mem (xs := r) (i := (v : Int)) (by omega) hv
  exact hr.2.2.1.sublist (sub_flat hm)
theorem idxOf_gI {l : List Int} (hn : l.Nodup) {i : Nat} (hi : (i : Int) < l.length) : l.idxOf (gI l (i : Int)) = i := by
  have hlt : i < l.length := by omega
  have e : gI l (i : Int) = l[i] := by simp [gI, hlt]
  rw [e]
  exact hn.idxOf_getElem i hlt
theorem succS_at {g : Net} {r : Rot} (hr : RotP g r) {v i : Nat} (hv : (v : Int) < r.length) (hi : (i : Int) < (gI r (v : Int)).length) : succS r (gI (gI r (v : Int)) (i : Int)) = gI (gI r (v : Int)) (((i : Int) + 1) % ((gI r (v : Int)).length : Int)) := by
  unfold succS
  rw [rot_row hr hv (gI_mem (by omega) hi)]
  simp only
  rw [idxOf_gI (row_nodup hr hv) hi]
theorem rot_all {g : Net} {r : Rot} (hr : RotP g r) {h : Int} (h0 : 0 ≤ h) (h1 : h < 2 * (g.2.length : Int)) : ∃ v i : Nat, (v : Int) < r.length ∧ (i : Int) < (gI r (v : Int)).length ∧ gI (gI r (v : Int)) (i : Int) = h := by
  obtain ⟨a, b, c, d⟩ := hr
  have hm := all_there c (n := 2 * g.2.length) (fun x hx => by
    obtain ⟨l, hl, hxl⟩ := List.mem_flatten.1 hx
    obtain ⟨v, hv, e⟩ := List.mem_iff_getElem.1 hl
    have ev : gI r (v : Int) = l := by rw [← e]; simp [gI, hv]
    have := (b v hv x (by rw [ev]; exact hxl)).1
    omega) (by omega) h0 (by omega)
  obtain ⟨l, hl, hxl⟩ := List.mem_flatten.1 hm
  obtain ⟨v, hv, e⟩ := List.mem_iff_getElem.1 hl
  have ev : gI r (v : Int) = l := by rw [← e]; simp [gI, hv]
  obtain ⟨i, hi, e2⟩ := List.mem_iff_getElem.1 hxl
  exact ⟨v, i, by omega, by rw [ev]; omega, by rw [ev]; simp [gI, hi, e2]⟩
theorem succ_in {g : Net} {r : Rot} (hr : RotP g r) {h : Int} (h0 : 0 ≤ h) (h1 : h < 2 * (g.2.length : Int)) : 0 ≤ succS r h ∧ succS r h < 2 * (g.2.length : Int) := by
  obtain ⟨v, i, hv, hi, rfl⟩ := rot_all hr h0 h1
  rw [succS_at hr hv hi]
  have hm : 0 ≤ ((i : Int) + 1) % ((gI r (v : Int)).length : Int) ∧ ((i : Int) + 1) % ((gI r (v : Int)).length : Int) < ((gI r (v : Int)).length : Int) := ⟨Int.emod_nonneg _ (by omega), Int.emod_lt_of_pos _ (by omega)⟩
  exact (hr.2.1 v (by omega) _ (gI_mem hm.1 hm.2)).1
theorem nextS_len (g : Net) (r : Rot) : ((nextS g r).length : Int) = 2 * (g.2.length : Int) := by simp [nextS, iota_len]
theorem nextS_gI {g : Net} {r : Rot} {k : Int} (h0 : 0 ≤ k) (h1 : k < 2 * (g.2.length : Int)) : gI (nextS g r) k = succS r (twin k) := by
  unfold nextS
  rw [gI_map _ h0 (by rw [iota_len]; omega), iota_gI h0 (by omega)]
theorem nextS_in {g : Net} {r : Rot} (hr : RotP g r) {k : Int} (h0 : 0 ≤ k) (h1 : k < 2 * (g.2.length : Int)) : 0 ≤ gI (nextS g r) k ∧ gI (nextS g r) k < 2 * (g.2.length : Int) := by
  rw [nextS_gI h0 h1]
  have := twin_in h0 h1
  exact succ_in hr this.1 this.2
/-- the next ones, as far as they are laid: k lists, i of the next one -/
structure NxInv (l : List Int) (g : Net) (r : Rot) (k i : Nat) : Prop where
  len : (l.length : Int) = 2 * (g.2.length : Int)
  old : ∀ v j : Nat, v < k → (v : Int) < r.length → (j : Int) < (gI r (v : Int)).length → gI l (twin (gI (gI r (v : Int)) (j : Int))) = succS r (gI (gI r (v : Int)) (j : Int))
  row : ∀ j : Nat, j < i → (j : Int) < (gI r (k : Int)).length → gI l (twin (gI (gI r (k : Int)) (j : Int))) = succS r (gI (gI r (k : Int)) (j : Int))
theorem NxInv.start (g : Net) (r : Rot) : NxInv (List.replicate (2 * (g.2.length : Int)).toNat 0) g r 0 0 := ⟨by simp; omega, fun v j hv => by omega, fun j hj => by omega⟩
theorem NxInv.next {l : List Int} {g : Net} {r : Rot} {k i : Nat} (h : NxInv l g r k i) (hr : RotP g r) (hk : (k : Int) < r.length) (hi : (i : Int) < (gI r (k : Int)).length) :
    NxInv (l.set (twin (gI (gI r (k : Int)) (i : Int))).toNat (gI (gI r (k : Int)) (((i : Int) + 1) % ((gI r (k : Int)).length : Int)))) g r k (i + 1) := by
  have hl := h.len
  have hin := (hr.2.1 k (by omega) _ (gI_mem (xs := gI r (k : Int)) (i := (i : Int)) (by omega) hi)).1
  have ht := twin_in hin.1 hin.2
  have key : ∀ x : Int, 0 ≤ x → x < 2 * (g.2.length : Int) → gI l (twin x) = succS r x ∨ x = gI (gI r (k : Int)) (i : Int) → gI (l.set (twin (gI (gI r (k : Int)) (i : Int))).toNat (gI (gI r (k : Int)) (((i : Int) + 1) % ((gI r (k : Int)).length : Int)))) (twin x) = succS r x := by
    intro x hx0 hx1 hx
    have htx := twin_in hx0 hx1
    rw [gI_set ht.1 (by omega) htx.1]
    by_cases e : x = gI (gI r (k : Int)) (i : Int)
    · rw [if_pos (by rw [e]), e, succS_at hr hk hi]
    · rw [if_neg fun h => e (twin_ne hx0 hin.1 h)]
      exact hx.resolve_right e
  refine ⟨by simpa using hl, fun v j hv hvr hj => ?_, fun j hj hjr => ?_⟩
  · have hx := (hr.2.1 v (by omega) _ (gI_mem (xs := gI r (v : Int)) (i := (j : Int)) (by omega) hj)).1
    exact key _ hx.1 hx.2 (.inl (h.old v j hv hvr hj))
  · have hx := (hr.2.1 k (by omega) _ (gI_mem (xs := gI r (k : Int)) (i := (j : Int)) (by omega) hjr)).1
    refine key _ hx.1 hx.2 ?_
    by_cases e : j = i
    · subst e; exact .inr rfl
    · exact .inl (h.row j (by omega) hjr)
theorem NxInv.row_done {l : List Int} {g : Net} {r : Rot} {k i : Nat} (h : NxInv l g r k i) (hi : ¬ (i : Int) < (gI r (k : Int)).length) : NxInv l g r (k + 1) 0 := by
  refine ⟨h.len, fun v j hv hvr hj => ?_, fun j hj => by omega⟩
  by_cases e : v = k
  · subst e; exact h.row j (by omega) hj
  · exact h.old v j (by omega) hvr hj
theorem NxInv.done {l : List Int} {g : Net} {r : Rot} {k i : Nat} (h : NxInv l g r k i) (hr : RotP g r) (hk : ¬ (k : Int) < r.length) : l = nextS g r := by
  have hl := h.len
  have hn := nextS_len g r
  apply list_ext_gI
  · omega
  · intro q hq
    have hq1 : (q : Int) < 2 * (g.2.length : Int) := by omega
    rw [nextS_gI (by omega) hq1]
    have ht := twin_in (n := (g.2.length : Int)) (h := (q : Int)) (by omega) hq1
    obtain ⟨v, j, hv, hj, e⟩ := rot_all hr ht.1 ht.2
    have := h.old v j (by omega) hv hj
    rw [e, twin_twin (by omega)] at this
    exact this
/-! faces -/
def orbF (nx : List Int) : Nat → List Int → Int → List Int
  | 0, _, _ => []
  | n + 1, seen, k => if k ∈ seen then [] else k :: orbF nx n (seen ++ [k]) (gI nx k)
def orbS (nx : List Int) (seen : List Int) (k : Int) : List Int := orbF nx (nx.length - seen.length) seen k
def facesL (nx : List Int) : List Int → List Int → List (List Int)
  | [], _ => []
  | h :: hs, seen => if h ∈ seen then facesL nx hs seen else orbS nx seen h :: facesL nx hs (seen ++ orbS nx seen h)
def facesS (nx : List Int) (r : Rot) : List (List Int) := facesL nx (iotaI nx.length) [] ++ (r.filter fun l => decide (l.length = 0)).map fun _ => []
theorem orb_stop {nx seen : List Int} {k : Int} (h : k ∈ seen) : orbS nx seen k = [] := by
  unfold orbS
  cases nx.length - seen.length with
  | zero => rfl
  | succ n => simp [orbF, h]
theorem orb_go {nx seen : List Int} {k : Int} (h : k ∉ seen) (hl : seen.length < nx.length) : orbS nx seen k = k :: orbS nx (seen ++ [k]) (gI nx k) := by
  unfold orbS
  rw [show nx.length - seen.length = (nx.length - (seen ++ [k]).length) + 1 by simp; omega]
  simp [orbF, h]
end TL
namespace TL
theorem RMInv.low {seen : List Bool} {P : List Int} {n h : Int} (hi : RMInv seen P n) (h0 : 0 ≤ h) (h1 : h < n) (hs : ¬ gI seen h = true) : h ∉ P := by
  have := hi.seen h h0 h1
  intro hm
  rw [this] at hs
  simp [hm] at hs
/-- faces, q half-edges looked at -/
structure FaInv (seen : List Bool) (l : List (List Int)) (nx : List Int) (S : List Int) (q : Nat) : Prop where
  rm : RMInv seen S nx.length
  eq : l ++ facesL nx ((iotaI nx.length).drop q) S = facesL nx (iotaI nx.length) []
  le : l.length ≤ q
theorem FaInv.start (nx : List Int) : FaInv (List.replicate nx.length false) [] nx [] 0 := by
  refine ⟨by simpa using RMInv.start (n := (nx.length : Int)) (by omega), by simp, by simp⟩
theorem iota_drop {n q : Nat} (h : (q : Int) < n) : (iotaI n).drop q = (q : Int) :: (iotaI n).drop (q + 1) := by
  have := drop_gI (xs := iotaI n) (k := q) (by rw [iota_len]; exact h)
  rw [iota_gI (by omega) h] at this
  exact this
/-- one face, as far as it is gone along -/
structure OrInv (seen : List Bool) (f : List Int) (nx : List Int) (S : List Int) (q : Nat) (k : Int) : Prop where
  rm : RMInv seen (S ++ f) nx.length
  eq : f ++ orbS nx (S ++ f) k = orbS nx S (q : Int)
  k0 : 0 ≤ k
  k1 : k < nx.length
theorem OrInv.start {seen : List Bool} {l : List (List Int)} {nx S : List Int} {q : Nat} (h : FaInv seen l nx S q) (hq : (q : Int) < nx.length) : OrInv seen [] nx S q (q : Int) :=
  ⟨by simpa using h.rm, by simp, by omega, hq⟩
theorem OrInv.next {seen : List Bool} {f nx S : List Int} {q : Nat} {k : Int} (h : OrInv seen f nx S q k) (hs : ¬ gI seen k = true) (hin : 0 ≤ gI nx k ∧ gI nx k < nx.length) : OrInv (seen.set k.toNat true) (f ++ [k]) nx S q (gI nx k) ∧ f.length < nx.length := by
  have hk := h.rm.low h.k0 h.k1 hs
  have h1 := h.rm.next h.k0 h.k1 (Bool.eq_false_iff.2 hs)
  have h2 := h1.bd
  simp only [List.length_append, List.length_cons, List.length_nil] at h2
  refine ⟨⟨by rw [← List.append_assoc]; exact h1, ?_, hin.1, hin.2⟩, by omega⟩
  have h3 := h.eq
  rw [orb_go hk (by simp only [List.length_append]; omega)] at h3
  rw [← h3]
  simp [List.append_assoc]
theorem OrInv.done {seen : List Bool} {f nx S : List Int} {q : Nat} {k : Int} (h : OrInv seen f nx S q k) (hs : gI seen k = true) : f = orbS nx S (q : Int) := by
  have hk := h.rm.mem h.k0 h.k1 hs
  have h3 := h.eq
  rw [orb_stop hk, List.append_nil] at h3
  exact h3
theorem FaInv.yes {seen0 seen : List Bool} {l : List (List Int)} {nx S f : List Int} {q : Nat} {k : Int} (h : FaInv seen0 l nx S q) (ho : OrInv seen f nx S q k) (hs : gI seen k = true) (hf : 0 < (f.length : Int)) (hq : (q : Int) < nx.length) : FaInv seen (l ++ [f]) nx (S ++ f) (q + 1) := by
  have e := ho.done hs
  have hq2 : (q : Int) ∉ S := fun hm => by rw [orb_stop hm] at e; subst e; simp at hf
  refine ⟨ho.rm, ?_, by have := h.le; simp; omega⟩
  rw [← h.eq, iota_drop hq]
  simp only [facesL]
  rw [if_neg hq2, ← e]
  simp [List.append_assoc]
theorem FaInv.no {seen0 seen : List Bool} {l : List (List Int)} {nx S f : List Int} {q : Nat} {k : Int} (h : FaInv seen0 l nx S q) (ho : OrInv seen f nx S q k) (hs : gI seen k = true) (hf : ¬ 0 < (f.length : Int)) (hq : (q : Int) < nx.length) : FaInv seen l nx S (q + 1) := by
  have e := ho.done hs
  have hf0 : f = [] := List.eq_nil_of_length_eq_zero (by omega)
  subst hf0
  have hq2 : (q : Int) ∈ S := by
    by_cases hm : (q : Int) ∈ S
    · exact hm
    · have hb := h.rm
      have h1 := hb.next (h := (q : Int)) (by omega) hq (by
        have := hb.seen (q : Int) (by omega) hq
        rw [this]; simpa using hm)
      have h2 := h1.bd
      simp only [List.length_append, List.length_cons, List.length_nil] at h2
      rw [orb_go hm (by omega)] at e
      cases e
  refine ⟨by simpa using ho.rm, ?_, by have := h.le; omega⟩
  rw [← h.eq, iota_drop hq]
  simp only [facesL]
  rw [if_pos hq2]
theorem FaInv.done {seen : List Bool} {l : List (List Int)} {nx S : List Int} {q : Nat} (h : FaInv seen l nx S q) (hq : ¬ (q : Int) < nx.length) : l = facesL nx (iotaI nx.length) [] := by
  have := h.eq
  rw [List.drop_of_length_le (by rw [iota_len]; omega)] at this
  simpa [facesL] using this
/-- the empty lists' faces, p nodes looked at -/
theorem empty_yes {r : Rot} {p : Nat} {l L0 : List (List Int)} (hp : (p : Int) < r.length) (h : l = L0 ++ ((r.take p).filter fun l => decide (l.length = 0)).map fun _ => []) (he : ((gI r (p : Int)).length : Int) = 0) : l ++ [[]] = L0 ++ ((r.take (p + 1)).filter fun l => decide (l.length = 0)).map fun _ => [] := by
  have he' : gI r (p : Int) = [] := List.eq_nil_of_length_eq_zero (by omega)
  rw [take_succ_gI hp, List.filter_append, h, he']
  simp
theorem empty_no {r : Rot} {p : Nat} {l L0 : List (List Int)} (hp : (p : Int) < r.length) (h : l = L0 ++ ((r.take p).filter fun l => decide (l.length = 0)).map fun _ => []) (he : ¬ ((gI r (p : Int)).length : Int) = 0) : l = L0 ++ ((r.take (p + 1)).filter fun l => decide (l.length = 0)).map fun _ => [] := by
  have he' : ¬ gI r (p : Int) = [] := fun e => he (by rw [e]; rfl)
  rw [take_succ_gI hp, List.filter_append, h]
  simp [he']
theorem empty_len {r : Rot} {p : Nat} {l L0 : List (List Int)} (h : l = L0 ++ ((r.take p).filter fun l => decide (l.length = 0)).map fun _ => []) : l.length ≤ L0.length + p := by
  rw [h, List.length_append, List.length_map]
  have h1 := List.length_filter_le (fun l : List Int => decide (l.length = 0)) (r.take p)
  have h2 := List.length_take_le p r
  omega
/-- a list turned about in place, i of each side done -/
structure RevInv (s s0 : List Int) (i : Nat) (j : Int) : Prop where
  len : s.length = s0.length
  jj : j = (s0.length : Int) - 1 - i
  out : ∀ q : Nat, q < s0.length → (q < i ∨ j < q) → gI s (q : Int) = gI s0 ((s0.length : Int) - 1 - q)
  mid : ∀ q : Nat, i ≤ q → (q : Int) ≤ j → gI s (q : Int) = gI s0 (q : Int)
theorem RevInv.start (s0 : List Int) : RevInv s0 s0 0 ((s0.length : Int) - 1) := ⟨rfl, by omega, fun q hq h => by omega, fun q _ _ => rfl⟩
theorem RevInv.next {s s0 : List Int} {i : Nat} {j : Int} (h : RevInv s s0 i j) (hij : (i : Int) < j) : RevInv ((s.set (i : Int).toNat (gI s j)).set j.toNat (gI s (i : Int))) s0 (i + 1) (j - 1) := by
  have hl := h.len
  have hj := h.jj
  have e1 := h.mid i (Nat.le_refl _) (by omega)
  have e2 := h.mid j.toNat (by omega) (by omega)
  rw [show ((j.toNat : Nat) : Int) = j by omega] at e2
  refine ⟨by simpa using hl, by omega, fun q hq hh => ?_, fun q h1 h2 => ?_⟩
  · rw [gI_set (by omega) (by simp; omega) (by omega), gI_set (by omega) (by omega) (by omega)]
    by_cases c1 : (q : Int) = j
    · rw [if_pos c1, e1]; congr 1; omega
    · by_cases c2 : (q : Int) = i
      · rw [if_neg c1, if_pos c2, e2]; congr 1; omega
      · rw [if_neg c1, if_neg c2]; exact h.out q hq (by omega)
  · rw [gI_set (by omega) (by simp; omega) (by omega), gI_set (by omega) (by omega) (by omega), if_neg (by omega), if_neg (by omega)]
    exact h.mid q (by omega) (by omega)
theorem RevInv.done {s s0 : List Int} {i : Nat} {j : Int} (h : RevInv s s0 i j) (hij : ¬ (i : Int) < j) : s = s0.reverse := by
  have hl := h.len
  have hj := h.jj
  apply list_ext_gI
  · simpa using hl
  · intro q hq
    have hr : gI s0.reverse (q : Int) = gI s0 ((s0.length : Int) - 1 - q) := by
      have hq' : q < s0.length := by omega
      have e : ((s0.length : Int) - 1 - q).toNat = s0.length - 1 - q := by omega
      have e2 : s0.length - 1 - q < s0.length := by omega
      simp [gI, hq', e, e2, List.getElem?_reverse hq']
    rw [hr]
    by_cases c : q < i ∨ j < (q : Int)
    · exact h.out q (by omega) c
    · rw [h.mid q (by omega) (by omega)]; congr 1; omega
/-- the half-edges of all nodes, k edges laid -/
structure OutInv (out : List (List Int)) (g : Net) (k : Nat) : Prop where
  len : (out.length : Int) = g.1
  at_ : ∀ v, 0 ≤ v → v < g.1 → gI out v = outSk g v k
theorem OutInv.start {g : Net} (h : 0 ≤ g.1) : OutInv (List.replicate g.1.toNat []) g 0 := ⟨by simp; omega, fun v h0 h1 => by rw [gI_rep h0 (by omega)]; simp [outSk]⟩
theorem OutInv.next {out : List (List Int)} {g : Net} {k : Nat} (h : OutInv out g k) (h1 : 0 ≤ (gI g.2 k).1) (h2 : (gI g.2 k).1 < g.1) (h3 : 0 ≤ (gI g.2 k).2) (h4 : (gI g.2 k).2 < g.1) {a b : Int} (ha : a = 2 * (k : Int)) (hb : b = 2 * (k : Int) + 1) :
    OutInv ((out.set (gI g.2 k).1.toNat (gI out (gI g.2 k).1 ++ [a])).set (gI g.2 k).2.toNat (gI (out.set (gI g.2 k).1.toNat (gI out (gI g.2 k).1 ++ [a])) (gI g.2 k).2 ++ [b])) g (k + 1) := by
  have hl := h.len
  refine ⟨by simpa using hl, fun v h5 h6 => ?_⟩
  rw [gI_set h3 (by simp; omega) h5, gI_set h1 (by omega) h3, gI_set h1 (by omega) h5, outSk_succ, h.at_ _ h1 h2, h.at_ _ h3 h4, h.at_ v h5 h6, ha, hb]
  by_cases e2 : v = (gI g.2 (k : Int)).2
  · by_cases e1 : v = (gI g.2 (k : Int)).1
    · rw [← e1, ← e2]; simp
    · have e3 : ¬ (gI g.2 (k : Int)).2 = (gI g.2 (k : Int)).1 := fun h => e1 (e2.trans h)
      have e6 : ¬ (gI g.2 (k : Int)).1 = (gI g.2 (k : Int)).2 := fun h => e3 h.symm
      simp [e2, e3, e6]
  · have e4 : ¬ (gI g.2 (k : Int)).2 = v := fun h => e2 h.symm
    by_cases e1 : v = (gI g.2 (k : Int)).1
    · rw [if_neg e2, if_pos e1, if_neg e4, if_pos e1.symm, ← e1]; simp
    · have e5 : ¬ (gI g.2 (k : Int)).1 = v := fun h => e1 h.symm
      rw [if_neg e2, if_neg e1, if_neg e4, if_neg e5]; simp
end TL
namespace TL
theorem set_gI {α : Type} [Inhabited α] {l : List α} {i : Int} (h0 : 0 ≤ i) (h1 : i < l.length) : l.set i.toNat (gI l i) = l := by
  have : i.toNat < l.length := by omega
  simp [gI, this]
theorem row_len {g : Net} {r : Rot} (hr : RotP g r) {k : Nat} (hk : (k : Int) < r.length) : ((gI r (k : Int)).length : Int) ≤ 2 * (g.2.length : Int) := by
  have := (sub_flat (gI_mem (xs := r) (i := (k : Int)) (by omega) hk)).length_le
  have h2 := hr.2.2.2
  omega
end TL
