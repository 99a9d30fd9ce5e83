/-
  TlRef3: what the document's own answer of layer 3 goes through.
  By an AI agent.
-/
import Derived.Test.YtgaefcjhggdkcaaTlNetChg
set_option linter.all false
namespace TL
def outH (g : Net) (v : Int) (h : Nat) : List Int := ((List.range h).map (fun (i : Nat) => (i : Int))).filter fun h => decide (fromS g h = v)
theorem outH_succ (g : Net) (v : Int) (h : Nat) : outH g v (h + 1) = if fromS g h = v then outH g v h ++ [(h : Int)] else outH g v h := by
  unfold outH
  rw [List.range_succ, List.map_append, List.filter_append]
  by_cases e : fromS g (h : Int) = v
  · rw [if_pos e]; simp [e]
  · rw [if_neg e]; simp [e]
theorem outH_len (g : Net) (v : Int) (h : Nat) : (outH g v h).length ≤ h := by
  unfold outH
  have := List.length_filter_le (fun h => decide (fromS g h = v)) ((List.range h).map (fun (i : Nat) => (i : Int)))
  simpa using this
theorem outH_all (g : Net) (v : Int) {h : Nat} (hh : h = 2 * g.2.length) : outH g v h = outS g v := by subst hh; rfl
theorem fromS_in {g : Net} (hm : MayP g) {h : Int} (h0 : 0 ≤ h) (h1 : h < 2 * (g.2.length : Int)) : 0 ≤ fromS g h ∧ fromS g h < g.1 := by
  have hok := hm.2.2.2 _ (gI_mem (xs := g.2) (i := h / 2) (by omega) (by omega))
  unfold okE at hok
  unfold fromS pI
  split <;> omega
structure DegH (l : List Int) (g : Net) (h : Nat) : Prop where
  len : (l.length : Int) = g.1
  deg : ∀ v, 0 ≤ v → v < g.1 → gI l v = ((outH g v h).length : Int)
theorem DegH.start (g : Net) (h : 0 ≤ g.1) : DegH (List.replicate g.1.toNat 0) g 0 :=
  ⟨by simp; omega, fun v h0 h1 => by rw [gI_rep h0 (by omega)]; simp [outH]⟩
theorem DegH.next {l : List Int} {g : Net} {h : Nat} (hd : DegH l g h) (h0 : 0 ≤ fromS g h) (h1 : fromS g h < g.1) : DegH (l.set (fromS g h).toNat (gI l (fromS g h) + 1)) g (h + 1) := by
  have hl := hd.len
  refine ⟨by simpa using hl, fun v h2 h3 => ?_⟩
  rw [gI_set h0 (by omega) h2, outH_succ]
  by_cases e : v = fromS g (h : Int)
  · rw [if_pos e, if_pos e.symm, hd.deg _ h0 h1, ← e]; simp
  · have e' : ¬ fromS g (h : Int) = v := fun h => e h.symm
    rw [if_neg e, if_neg e', hd.deg v h2 h3]
theorem DegH.done {l : List Int} {g : Net} {h : Nat} (hd : DegH l g h) (hh : h = 2 * g.2.length) : l = degS g := by
  have hl := hd.len
  apply list_ext_gI
  · simp [degS]; omega
  · intro i hi
    rw [hd.deg i (by omega) (by omega), outH_all g _ hh]
    have : i < g.1.toNat := by omega
    simp [degS, gI, this]
theorem DegH.bd {l : List Int} {g : Net} {h : Nat} (hd : DegH l g h) {v : Int} (h0 : 0 ≤ v) (h1 : v < g.1) : 0 ≤ gI l v ∧ gI l v ≤ h := by
  rw [hd.deg v h0 h1]
  have := outH_len g v h
  omega
theorem par_not {g : Net} {e : Int} {i : Nat} (h : ∀ j : Nat, j < i → ¬ lvl (gI g.2 j) = lvl (gI g.2 e)) (he : e ≤ g.2.length) (hi : ¬ (i : Int) < e) : ¬ lvl (gI g.2 e) ∈ (g.2.map lvl).take e.toNat := by
  intro hm
  obtain ⟨j, hj, e1⟩ := List.mem_take_iff_getElem.1 hm
  simp only [List.length_map] at hj
  rw [List.getElem_map] at e1
  refine h j (by omega) ?_
  rw [← e1]
  congr 1
  simp [gI, show j < g.2.length by omega]
theorem par_yes {g : Net} {e : Int} {i : Nat} (he : e < g.2.length) (hi : (i : Int) < e) (h : lvl (gI g.2 i) = lvl (gI g.2 e)) : lvl (gI g.2 e) ∈ (g.2.map lvl).take e.toNat := by
  rw [← h]
  refine List.mem_take_iff_getElem.2 ⟨i, by simp; omega, ?_⟩
  rw [List.getElem_map]
  simp [gI, show i < g.2.length by omega]
theorem lvl_swap {e : Int × Int} (h : e.2 < e.1) : (e.2, e.1) = lvl e := by unfold lvl; rw [Int.min_eq_right (by omega), Int.max_eq_left (by omega)]
theorem lvl_same {e : Int × Int} (h : ¬ e.2 < e.1) : e = lvl e := by unfold lvl; rw [Int.min_eq_left (by omega), Int.max_eq_right (by omega)]
/-- the document's Look, as far as loops and parallels are counted -/
theorem look_t {g : Net} {k : Nat} {l : Int} (hk : (k : Int) < g.2.length) (hl : l = loopsK g k) (h : (gI g.2 k).1 = (gI g.2 k).2) : l + 1 = loopsK g (k + 1) := by rw [loopsK_succ hk, if_pos h, hl]
theorem look_f {g : Net} {k : Nat} {l : Int} (hk : (k : Int) < g.2.length) (hl : l = loopsK g k) (h : ¬ (gI g.2 k).1 = (gI g.2 k).2) : l = loopsK g (k + 1) := by rw [loopsK_succ hk, if_neg h, hl, Int.add_zero]
theorem par_t {g : Net} {k : Nat} {l : Int} (hl : l = parK g k) (h : decide (lvl (gI g.2 k) ∈ (g.2.map lvl).take (k : Int).toNat) = true) : l + 1 = parK g (k + 1) := by
  have h' := of_decide_eq_true h
  simp only [Int.toNat_natCast] at h'
  rw [parK_succ, if_pos h', hl]
theorem par_f {g : Net} {k : Nat} {l : Int} (hl : l = parK g k) (h : ¬ decide (lvl (gI g.2 k) ∈ (g.2.map lvl).take (k : Int).toNat) = true) : l = parK g (k + 1) := by
  have h' : ¬ lvl (gI g.2 (k : Int)) ∈ (g.2.map lvl).take (k : Int).toNat := fun h2 => h (decide_eq_true h2)
  simp only [Int.toNat_natCast] at h'
  rw [parK_succ, if_neg h', hl, Int.add_zero]
/-- least and greatest, as far as they are looked for -/
structure MinMax (a b : Int) (d : List Int) (v : Nat) : Prop where
  a : a = if v = 0 then 0 else minK d v
  b : b = if v = 0 then 0 else maxK d v
theorem MinMax.start (d : List Int) : MinMax 0 0 d 0 := ⟨rfl, rfl⟩
theorem MinMax.next {a b : Int} {d : List Int} {v : Nat} (h : MinMax a b d v) (hv : (v : Int) < d.length) (h0 : ∀ x ∈ d, 0 ≤ x) {a' : Int} (ha : a' = if v = 0 ∨ gI d v < a then gI d v else a) : MinMax a' (max b (gI d v)) d (v + 1) := by
  have hp : 0 ≤ gI d (v : Int) := h0 _ (gI_mem (by omega) hv)
  cases v with
  | zero =>
    have hb := h.b
    simp only [if_true] at hb
    subst hb
    refine ⟨?_, ?_⟩
    · rw [ha, if_pos (.inl rfl)]; simp [minK]
    · rw [Int.max_eq_right hp]; simp [maxK]
  | succ n =>
    have h1 := h.a
    have h2 := h.b
    rw [if_neg (by omega)] at h1 h2
    refine ⟨?_, ?_⟩
    · rw [if_neg (by omega), minK_succ (by omega) hv, ← h1, ha]
      by_cases e : gI d ((n + 1 : Nat) : Int) < a
      · rw [if_pos (.inr e), Int.min_eq_right (by omega)]
      · rw [if_neg (by omega), Int.min_eq_left (by omega)]
    · rw [if_neg (by omega), maxK_succ (by omega) hv, ← h2]
theorem MinMax.done {a b : Int} {d : List Int} {v : Nat} (h : MinMax a b d v) (hv : v = d.length) : a = (if 0 < (d.length : Int) then minL d else 0) ∧ b = (if 0 < (d.length : Int) then maxL d else 0) := by
  subst hv
  have h1 := h.a
  have h2 := h.b
  by_cases e : d.length = 0
  · rw [if_pos e] at h1 h2
    rw [if_neg (by omega), if_neg (by omega)]; exact ⟨h1, h2⟩
  · rw [if_neg e] at h1 h2
    rw [if_pos (by omega), if_pos (by omega)]; exact ⟨h1, h2⟩
theorem lookR_of {g : Net} (hm : MayP g) {l p a b : Int} (hl : l = loopsK g g.2.length) (hp : p = parK g g.2.length) (ha : a = if 0 < ((degS g).length : Int) then minL (degS g) else 0) (hb : b = if 0 < ((degS g).length : Int) then maxL (degS g) else 0) {q : Bool} (hq : q = decide (l = 0 ∧ p = 0)) : (l, p, a, b, q) = (lookR g).1 := by
  have hd := deg_len (g := g) hm.1
  rw [hd] at ha hb
  unfold lookR
  rw [if_pos hm, hl.symm, hp.symm, ha.symm, hb.symm, hq]
theorem splitR_eq {g : Net} (hm : MayP g) {e : Int} (he : 0 ≤ e ∧ e < (g.2.length : Int)) : MayP (g.1 + 1, g.2.set e.toNat ((gI g.2 e).1, g.1) ++ [(g.1, (gI g.2 e).2)]) ↔ g.1 < 1024 ∧ g.2.length < 3072 := by
  constructor
  · rintro ⟨h1, h2, h3, h4⟩
    simp only [List.length_append, List.length_set, List.length_cons, List.length_nil] at h2 h3
    omega
  · intro hs
    have h : (splitR g e).2 = 0 := by unfold splitR; rw [if_pos hm, if_pos he, if_pos hs]
    have := split_may h
    unfold splitR at this
    rwa [if_pos hm, if_pos he, if_pos hs] at this
structure MrgR (at_ : List Int) (n u v : Int) (k : Nat) : Prop where
  len : (at_.length : Int) = n
  at_ : ∀ w : Int, 0 ≤ w → w < k → gI at_ w = mergeN u v w
theorem MrgR.start {n u v : Int} (h : 0 ≤ n) : MrgR (List.replicate n.toNat 0) n u v 0 := ⟨by simp; omega, fun w h0 h1 => by omega⟩
theorem MrgR.next {T : List Int} {n u v x : Int} {k : Nat} (h : MrgR T n u v k) (hk : (k : Int) < n) (hx : x = mergeN u v k) : MrgR (T.set ((k : Int)).toNat x) n u v (k + 1) := by
  have hl := h.len
  refine ⟨by simpa using hl, fun w h0 h1 => ?_⟩
  rw [gI_set (by omega) (by omega) h0]
  by_cases e : w = k
  · subst e; rw [if_pos rfl, hx]
  · rw [if_neg e]; exact h.at_ w h0 (by omega)
theorem MrgR.done {T : List Int} {n u v : Int} {k : Nat} (h : MrgR T n u v k) (hk : (k : Int) = n) (hn : 0 ≤ n) : T = mergeTo n u v := by
  have hl := h.len
  apply list_ext_gI
  · simp [mergeTo, iota_len]; omega
  · intro i hi
    rw [h.at_ _ (by omega) (by omega), mergeTo_gI (by omega) (by omega)]
theorem bareK_chosen (g : Net) : chosenS (bareK g g.2.length) g.2.length = 0 := by
  refine chosenS_zero (fun i hi => ?_) ?_
  · unfold bareK at hi
    have := iota_mem.1 (List.mem_filter.1 hi).1
    omega
  · unfold bareK
    exact (iota_nodup _).sublist (List.filter_sublist)
theorem bareP_iff {g : Net} {i : Nat} (hi : (i : Int) < g.2.length) : bareP g i = true ↔ (¬ (gI g.2 i).1 = (gI g.2 i).2) ∧ ¬ lvl (gI g.2 i) ∈ (g.2.map lvl).take i := by
  unfold bareP
  simp only [Int.toNat_natCast, Bool.and_eq_true, decide_eq_true_eq]
end TL
