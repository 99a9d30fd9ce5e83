/-
  TlInts: lists that are kept, written full, and read again.
  By an AI agent.
-/
import Derived.Test.YtgaefcjhggdkcaaTlRef3
set_option linter.all false
namespace TL
/-- what is known of the lists kept: few numbers together -/
def KInv (K : List (List Int)) (s : Int) : Prop := (K.length : Int) ≤ s ∧ s ≤ 1048576 ∧ ∀ l ∈ K, l.length ≤ 1048576
theorem KInv.nil : KInv [] 0 := ⟨by simp, by omega, by simp⟩
theorem KInv.add {K : List (List Int)} {s n : Int} {l : List Int} (h : KInv K s) (h0 : 0 < n) (h1 : s + n ≤ 1048576) (hl : (l.length : Int) ≤ n) : KInv (K ++ [l]) (s + n) := by
  obtain ⟨a, b, c⟩ := h
  refine ⟨by simp; omega, h1, fun x hx => ?_⟩
  rcases List.mem_append.1 hx with hx | hx
  · exact c x hx
  · obtain rfl := List.mem_singleton.1 hx
    omega
theorem KInv.len {K : List (List Int)} {s : Int} (h : KInv K s) : (K.length : Int) ≤ s ∧ s ≤ 1048576 ∧ 0 ≤ s := by
  obtain ⟨a, b, c⟩ := h
  omega
/-- the lists below i are written full -/
structure ApInv (L : List (List Int)) (i : Nat) : Prop where
  le : (i : Int) ≤ L.length
  few : L.length ≤ 1048576
  done : ∀ r : Nat, r < i → ∀ q : Nat, q < (gI L r).length → gI (gI L (r : Int)) (q : Int) = -1000 - (r : Int)
  rest : ∀ r : Nat, i ≤ r → r < L.length → (gI L (r : Int)).length ≤ 1048576
theorem KInv.ap {K : List (List Int)} {s : Int} (h : KInv K s) : ApInv K 0 := by
  obtain ⟨a, b, c⟩ := h
  refine ⟨by simp, by omega, fun r hr => by omega, fun r _ hr => c _ (gI_mem (by omega) (by omega))⟩
/-- list i grows -/
structure GrInv (L1 L : List (List Int)) (i : Nat) (n : Int) : Prop where
  len : L1.length = L.length
  le : ((gI L1 i).length : Int) ≤ 1050577
  other : ∀ r : Nat, r ≠ i → gI L1 (r : Int) = gI L (r : Int)
theorem GrInv.start {L : List (List Int)} {i : Nat} {n : Int} (h : ApInv L i) (hi : (i : Int) < L.length) : GrInv L L i n := ⟨rfl, by have := h.rest i (Nat.le_refl _) (by omega); omega, fun r _ => rfl⟩
theorem gI_set_other {α : Type} [Inhabited α] {L : List α} {i r : Nat} {x : α} (h : r ≠ i) : gI (L.set i x) (r : Int) = gI L (r : Int) := by
  simp [gI, List.getElem?_set_ne (Ne.symm h)]
theorem gI_set_same {α : Type} [Inhabited α] {L : List α} {i : Nat} {x : α} (h : (i : Int) < L.length) : gI (L.set i x) (i : Int) = x := by
  simp [gI, show i < L.length by omega]
theorem GrInv.next {L1 L : List (List Int)} {i : Nat} {n : Int} (h : GrInv L1 L i n) (hi : (i : Int) < L.length) (hn : ((gI L1 i).length : Int) < n) (hb : n ≤ 1050577) : GrInv (L1.set (i : Int).toNat (gI L1 i ++ [0])) L i n := by
  have hl := h.len
  refine ⟨by simpa using hl, ?_, fun r hr => ?_⟩
  · simp only [Int.toNat_natCast]
    rw [gI_set_same (by omega)]; simp; omega
  · simp only [Int.toNat_natCast]
    rw [gI_set_other hr, h.other r hr]
theorem GrInv.meas {L1 L : List (List Int)} {i : Nat} {n : Int} (h : GrInv L1 L i n) (hi : (i : Int) < L.length) : ((gI (L1.set (i : Int).toNat (gI L1 i ++ [0])) i).length : Int) = (gI L1 i).length + 1 := by
  have hl := h.len
  simp only [Int.toNat_natCast]
  rw [gI_set_same (by omega)]; simp
/-- list i is written, its first k numbers so far -/
structure WrInv (L2 L : List (List Int)) (i : Nat) (k : Nat) : Prop where
  len : L2.length = L.length
  le : (k : Int) ≤ (gI L2 (i : Int)).length
  few : ((gI L2 i).length : Int) ≤ 1050577
  done : ∀ q : Nat, q < k → gI (gI L2 (i : Int)) (q : Int) = -1000 - (i : Int)
  other : ∀ r : Nat, r ≠ i → gI L2 (r : Int) = gI L (r : Int)
theorem GrInv.wr {L1 L : List (List Int)} {i : Nat} {n : Int} (h : GrInv L1 L i n) : WrInv L1 L i 0 := ⟨h.len, by simp, h.le, fun q hq => by omega, h.other⟩
theorem WrInv.next {L2 L : List (List Int)} {i k : Nat} (h : WrInv L2 L i k) (hi : (i : Int) < L.length) (hk : (k : Int) < (gI L2 i).length) : WrInv (L2.set (i : Int).toNat ((gI L2 i).set (k : Int).toNat (-1000 - (i : Int)))) L i (k + 1) ∧ (gI (L2.set (i : Int).toNat ((gI L2 i).set (k : Int).toNat (-1000 - (i : Int)))) (i : Int)).length = (gI L2 (i : Int)).length := by
  have hl := h.len
  simp only [Int.toNat_natCast]
  have e : gI (L2.set i ((gI L2 (i : Int)).set k (-1000 - (i : Int)))) (i : Int) = (gI L2 (i : Int)).set k (-1000 - (i : Int)) := gI_set_same (by omega)
  refine ⟨⟨by simpa using hl, by rw [e]; simp; omega, by rw [e]; simpa using h.few, fun q hq => ?_, fun r hr => by rw [gI_set_other hr, h.other r hr]⟩, by rw [e]; simp⟩
  rw [e]
  by_cases hq2 : q = k
  · subst hq2; exact gI_set_same hk
  · rw [gI_set_other hq2]; exact h.done q (by omega)
theorem WrInv.fin {L2 L : List (List Int)} {i k : Nat} (h : WrInv L2 L i k) (ha : ApInv L i) (hi : (i : Int) < L.length) (hk : ¬ (k : Int) < (gI L2 i).length) : ApInv L2 (i + 1) := by
  have hl := h.len
  have hle := h.le
  refine ⟨by omega, by have := ha.few; omega, fun r hr q hq => ?_, fun r h1 h2 => ?_⟩
  · by_cases e : r = i
    · subst e; exact h.done q (by omega)
    · rw [h.other r e] at hq ⊢; exact ha.done r (by omega) q hq
  · rw [h.other r (by omega)]; exact ha.rest r (by omega) (by omega)
theorem ApInv.read {L : List (List Int)} {m i k : Nat} (h : ApInv L m) (hm : (m : Int) = L.length) (hi : (i : Int) < L.length) (hk : (k : Int) < (gI L i).length) : gI (gI L (i : Int)) (k : Int) = -1000 - (i : Int) := h.done i (by omega) k (by omega)
end TL
namespace TL
theorem split_few {g : Net} {e : Int} (h : g.2.length ≤ 5000) : ((splitR g e).1.2.length : Int) ≤ 10000 := by
  unfold splitR
  repeat' split
  all_goals simp
  all_goals omega
theorem bare_few {g : Net} (h : g.2.length ≤ 5000) : ((bareR g).1.2.length : Int) ≤ 10000 := by
  unfold bareR
  have := bareK_len g g.2.length
  split
  · simp; omega
  · simp
theorem sub_few {g : Net} {keep : List Int} (h : keep.length ≤ 5000) : ((subR g keep).1.2.length : Int) ≤ 10000 := by
  unfold subR
  repeat' split
  all_goals simp
  all_goals omega
theorem part_few {g : Net} {nodes : List Int} (h : g.2.length ≤ 5000) : ((partR g nodes).1.2.length : Int) ≤ 10000 := by
  unfold partR
  have : (partW g nodes).length ≤ g.2.length := partWk_len g nodes g.2.length
  repeat' split
  all_goals simp
  all_goals omega
theorem merge_few {g : Net} {u v : Int} (h : g.2.length ≤ 5000) : ((mergeR g u v).1.2.length : Int) ≤ 10000 := by
  unfold mergeR
  repeat' split
  all_goals simp [renR]
  all_goals omega
end TL
namespace TL
theorem out_c1 {g : Net} {v : Int} (hm : MayP g) (h0 : 0 ≤ v) : decide (v < g.1) = decide ((outR g v).2 = 0) := by
  unfold outR
  rw [if_pos hm]
  by_cases h : v < g.1
  · rw [if_pos ⟨h0, h⟩]; simp [h]
  · rw [if_neg fun hh => h hh.2]; simp [h]
theorem out_c2 {g : Net} {v : Int} (hm : MayP g) (h0 : ¬ 0 ≤ v) : false = decide ((outR g v).2 = 0) := by
  unfold outR
  rw [if_pos hm, if_neg fun hh => h0 hh.1]; simp
theorem out_c3 {g : Net} {v : Int} (hm : MayP g) (h : ¬ (0 ≤ v ∧ v < g.1)) : outR g v = ([], 2) := by
  unfold outR
  rw [if_pos hm, if_neg h]
theorem out_c4 {g : Net} {v : Int} (hm : MayP g) (h0 : 0 ≤ v) (h1 : v < g.1) : outR g v = (outS g v, 0) := by
  unfold outR
  rw [if_pos hm, if_pos ⟨h0, h1⟩]
theorem degR_yes {g : Net} (hm : MayP g) : degR g = (degS g, 0) := by unfold degR; rw [if_pos hm]
theorem lookR_yes {g : Net} (hm : MayP g) : (lookR g).2 = 0 := by unfold lookR; rw [if_pos hm]
theorem bareR_yes {g : Net} (hm : MayP g) : (bareR g).2.2 = 0 := by unfold bareR; rw [if_pos hm]
theorem outR_no {g : Net} {v : Int} (hm : ¬ MayP g) : outR g v = ([], 1) := by unfold outR; rw [if_neg hm]
theorem degR_no {g : Net} (hm : ¬ MayP g) : degR g = ([], 1) := by unfold degR; rw [if_neg hm]
theorem lookR_no {g : Net} (hm : ¬ MayP g) : lookR g = ((0, 0, 0, 0, false), 1) := by unfold lookR; rw [if_neg hm]
theorem splitR_no {g : Net} {e : Int} (hm : ¬ MayP g) : splitR g e = ((0, []), 1) := by unfold splitR; rw [if_neg hm]
theorem bareR_no {g : Net} (hm : ¬ MayP g) : bareR g = ((0, []), [], 1) := by unfold bareR; rw [if_neg hm]
theorem subR_no {g : Net} {l : List Int} (hm : ¬ MayP g) : subR g l = ((0, []), 1) := by unfold subR; rw [if_neg hm]
theorem partR_no {g : Net} {l : List Int} (hm : ¬ MayP g) : partR g l = ((0, []), [], 1) := by unfold partR; rw [if_neg hm]
theorem mergeR_no {g : Net} {u v : Int} (hm : ¬ MayP g) : mergeR g u v = ((0, []), [], 1) := by unfold mergeR; rw [if_neg hm]
end TL
