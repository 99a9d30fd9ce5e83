/-
  TlOpen: arguments opened: what a law's reader says of a slice is what a walk wants of it.
  By an AI agent.
-/
import Derived.Test.YtifpjbjhkabhgaaTlHeap
import Derived.Lib.SmallJoins
import Derived.Deep.Slices
import Derived.Carry
namespace TL
open Go Go.Proofs Go.ChangeShapes Go.WideShapes Go.Joins Go.Deep

structure BulkOk {H : Type} (f : DataW H → Nat) : Prop where
  slice : ∀ l s : List (DataW H), l.length ≤ f (.slice l s)
  elem : ∀ l s : List (DataW H), ∀ d ∈ l, f d ≤ f (.slice l s)
  part : ∀ l : List (DataW H), ∀ d ∈ l, f d ≤ f (.agg l)

/-- cells that hold no pointer -/
def OpnF (α : Type) [Rp α] (P : Program) (t : TypeId) : Prop :=
  ∀ {H : Type} (enc : TypeId × Value → H) (w : World) (fuel : Nat) (cs : List Value) (x : DataW H × List MemPlace), DataW.trod enc P w 0 (fun _ => true) true fuel t cs = some x → ∃ y : α, Rp.rep c0 any w cs y

theorem opn_int {P : Program} {t : TypeId} (ht : P.underlying t = some (.int .i64)) : OpnF Int P t := by
  intro H enc w fuel cs x h
  obtain ⟨n, rfl, _, _⟩ := DataW.trod_int ht h
  exact ⟨n, rfl⟩

theorem trod_array2 {H : Type} {enc : TypeId × Value → H} {P : Program} {w : World} {base : Nat} {spare : Nat → Bool} {held : Bool} {t e : TypeId} {fuel : Nat} {cs : List Value} {x : DataW H × List MemPlace} (ht : P.underlying t = some (.array 2 e)) (hce : P.cellsOf e = 1) (hct : P.cellsOf t = 2)
    (h : DataW.trod enc P w base spare held fuel t cs = some x) :
    ∃ v0 v1 y0 y1 n, cs = [v0, v1] ∧ x = (.agg [y0.1, y1.1], y0.2 ++ y1.2) ∧ DataW.trod enc P w base spare held n e [v0] = some y0 ∧ DataW.trod enc P w base spare held n e [v1] = some y1 := by
  cases fuel with
  | zero => simp [DataW.trod] at h
  | succ n =>
    unfold DataW.trod at h
    rw [ht] at h
    have r2 : List.range 2 = [0, 1] := rfl
    simp only [hct] at h
    by_cases hl : cs.length = 2
    · rw [if_pos hl] at h
      match cs, hl with
      | [v0, v1], _ =>
        simp [r2, hce] at h
        cases h0 : DataW.trod enc P w base spare held n e [v0] with
        | none => simp [h0] at h
        | some y0 =>
          cases h1 : DataW.trod enc P w base spare held n e [v1] with
          | none => simp [h0, h1] at h
          | some y1 =>
            simp [h0, h1] at h
            exact ⟨v0, v1, y0, y1, n, rfl, h.symm, h0, h1⟩
    · rw [if_neg hl] at h; cases h

theorem opn_two {P : Program} {t e : TypeId} (ht : P.underlying t = some (.array 2 e)) (he : P.underlying e = some (.int .i64)) (hce : P.cellsOf e = 1) (hct : P.cellsOf t = 2) : OpnF (Int × Int) P t := by
  intro H enc w fuel cs x h
  obtain ⟨v0, v1, y0, y1, n, rfl, _, h0, h1⟩ := trod_array2 ht hce hct h
  obtain ⟨a, ha⟩ := opn_int he enc w n [v0] y0 h0
  obtain ⟨b, hb⟩ := opn_int he enc w n [v1] y1 h1
  exact ⟨(a, b), [v0], [v1], rfl, ha, hb⟩

/-- a slice of such cells -/
theorem opn_slice {α : Type} [Rp α] [Inhabited α] {P : Program} {t e : TypeId} (ht : P.underlying t = some (.slice e)) (hc : P.cellsOf e = Rp.sz α) (hz : 0 < Rp.sz α) (he : OpnF α P e)
    {H : Type} {enc : TypeId × Value → H} {w : World} {f : DataW H → Nat} (hf : BulkOk f) {fuel : Nat} {v : Value} {x : DataW H × List MemPlace}
    (hs : ∀ a len cap, v = .slice (some a) len cap → a.spot = none) (h : DataW.trod enc P w 0 (fun _ => true) true fuel t [v] = some x) (hb : f x.1 ≤ 1048576) : ∃ xs : List α, Ro w v xs := by
  rcases Deep.open_slice ht h with ⟨h0, _⟩ | ⟨a, len, cap, m, n, D, Pl, h0, _, hlc, _, hm, rfl, hx⟩
  · obtain rfl : v = .slice none 0 0 := by simpa using h0
    exact ⟨[], .inl ⟨⟨_, rfl⟩, rfl⟩⟩
  · obtain rfl : v = .slice (some a) len cap := by simpa using h0
    have hsp := hs a len cap rfl
    obtain ⟨b, off, spot⟩ := a
    obtain rfl : spot = none := hsp
    simp only [if_true] at hm
    subst hm
    obtain ⟨Y, hY⟩ := Deep.choose_lt (α := α) (n := len) (p := fun i y => ∃ cs, (∀ j, j < Rp.sz α → w.cell? ⟨b, off + i * Rp.sz α + j, none⟩ = cs[j]?) ∧ Rp.rep c0 any w cs y) (fun i hi => by
      obtain ⟨cs', h1, h2⟩ := hx i (by omega)
      obtain ⟨y, hy⟩ := he enc w n cs' _ h2
      refine ⟨y, cs', fun j hj => ?_, hy⟩
      obtain ⟨_, hl, hcell⟩ := World.cells?_some h1
      have := hcell j (by omega)
      rw [Deep.add_add, hc] at this
      rw [← this]
      unfold Addr.add
      by_cases hij : i * Rp.sz α + j = 0
      · rw [if_pos hij, Nat.add_assoc, hij]; rfl
      · rw [if_neg hij, Nat.add_assoc])
    have hlen : ((List.range len).map Y).length = len := by simp
    have hbound := Nat.le_trans (hf.slice _ _) hb
    refine ⟨(List.range len).map Y, .inr ⟨b, off, m, by rw [hlen], ⟨by omega, by simp at hbound; omega⟩, fun i y hi => ?_⟩⟩
    have hil : i < len := by
      have := (List.getElem?_eq_some_iff.1 hi).1
      omega
    obtain rfl : Y i = y := by simpa [hil] using hi
    obtain ⟨cs, h1, h2⟩ := hY i hil
    refine ⟨?_, trivial, cs, h1, h2⟩
    have h3 := h1 0 hz
    have h4 := Rp.len h2
    have h5 : 0 < cs.length := by omega
    rw [List.getElem?_eq_getElem h5] at h3
    by_cases hbl : b < w.heap.size
    · exact hbl
    · have : w.heap[b]? = none := Array.getElem?_eq_none (by omega)
      simp [World.cell?, this] at h3

theorem spot_of_cell {P : Program} {w : World} {base : Nat} {t e : TypeId} {v : Value} (ht : P.underlying t = some (.slice e)) (h : Cell.okWide P w .any base t v) : ∀ a len cap, v = .slice (some a) len cap → a.spot = none := by
  rintro a len cap rfl
  simp only [Cell.okWide, Cell.ok, ht] at h
  exact h.2.2.2.1

/-- an argument that is a slice -/
theorem top_slice {α : Type} [Rp α] [Inhabited α] {P : Program} {t e : TypeId} (ht : P.underlying t = some (.slice e)) (hc : P.cellsOf e = Rp.sz α) (hz : 0 < Rp.sz α) (he : OpnF α P e)
    {H : Type} {enc : TypeId × Value → H} {w : World} {f : DataW H → Nat} (hf : BulkOk f) {base : Nat} {v : Value} {d : DataW H} {p : List MemPlace}
    (hval : Value.okWide P w .any base t v) (h : DataW.Trod enc P w 0 (fun _ => true) true t v d p) (hb : f d ≤ 1048576) : ∃ xs : List α, Ro w v xs := by
  obtain ⟨a, len, cap, rfl⟩ := okWide_slice ht hval
  obtain ⟨fuel, hfu⟩ := h
  refine opn_slice ht hc hz he hf (spot_of_cell (w := w) (base := base) ht ?_) (x := (d, p)) hfu hb
  simpa [Value.okWide, ht] using hval

/-- an argument that is an int and a slice -/
theorem top_net {α : Type} [Rp α] [Inhabited α] {P : Program} {t t0 t1 e : TypeId} {f0 f1 : Field} (hs : P.underlying t = some (.struct #[f0, f1])) (hone : oneCellFields P #[f0, f1] = true) (hC : P.cellsOf t = 2) (hts : P.cellTypes P.depth t = some [t0, t1])
    (h0 : f0.type = t0) (h1 : f1.type = t1) (hi : P.underlying t0 = some (.int .i64)) (ht : P.underlying t1 = some (.slice e)) (hc : P.cellsOf e = Rp.sz α) (hz : 0 < Rp.sz α) (he : OpnF α P e)
    {H : Type} {enc : TypeId × Value → H} {w : World} {f : DataW H → Nat} (hf : BulkOk f) {base : Nat} {v : Value} {d : DataW H} {p : List MemPlace}
    (hval : Value.okWide P w .any base t v) (h : DataW.Trod enc P w 0 (fun _ => true) true t v d p) (hb : f d ≤ 1048576) : ∃ (n : Int) (u : Value) (xs : List α), v = .agg #[.int .i64 n, u] ∧ Ro w u xs := by
  obtain ⟨v0, v1, y0, y1, n, rfl, rfl, rfl, r0, r1⟩ := open_agg2 hs hone hC hval h
  subst h0 h1
  obtain ⟨k, hk, _, _⟩ := DataW.trod_int hi r0
  obtain rfl : v0 = .int .i64 k := by simpa using hk
  have hcell : Cell.okWide P w .any base f1.type v1 := by
    simp only [Value.okWide, hs] at hval
    obtain ⟨cs, hcs, _, ts, h3, _, h4⟩ := hval
    rw [hts] at h3
    obtain rfl := Option.some.inj h3
    obtain rfl : #[Value.int .i64 k, v1] = cs := by simpa using hcs
    obtain ⟨u, hu, hk⟩ := h4 1 v1 rfl
    simp at hu
    subst hu
    exact hk
  obtain ⟨xs, hx⟩ := opn_slice ht hc hz he hf (spot_of_cell ht hcell) (x := y1) r1 (Nat.le_trans (hf.part _ _ (by simp)) hb)
  exact ⟨k, v1, xs, rfl, hx⟩
/-- a slice of ints within another slice -/
theorem opn_inner {P : Program} {e q : TypeId} (he : P.underlying e = some (.slice q)) (hq : P.underlying q = some (.int .i64)) (hcq : P.cellsOf q = 1)
    {H : Type} {enc : TypeId × Value → H} {w : World} {f : DataW H → Nat} (hf : BulkOk f) {fuel : Nat} {u : Value} {x : DataW H × List MemPlace}
    (h : DataW.trod enc P w 0 (fun _ => true) true fuel e [u] = some x) (hb : f x.1 ≤ 1048576) : ∃ xs : List Int, Ro w u xs ∧ xs.length ≤ 1048576 := by
  have h' := h
  rcases Deep.open_slice he h with ⟨h0, _⟩ | ⟨a, len, cap, m, n, D, Pl, h0, _, hlc, _, hm, rfl, hx⟩
  · obtain rfl : u = .slice none 0 0 := by simpa using h0
    exact ⟨[], .inl ⟨⟨_, rfl⟩, rfl⟩, by simp⟩
  · obtain rfl : u = .slice (some a) len cap := by simpa using h0
    simp only [if_true] at hm
    subst hm
    by_cases hc : m = 0
    · have hl : len = 0 := by omega
      subst hl hc
      exact ⟨[], .inl ⟨⟨_, rfl⟩, rfl⟩, by simp⟩
    · obtain ⟨cs', h1, h2⟩ := hx 0 (by omega)
      obtain ⟨_, hl, hcell⟩ := World.cells?_some h1
      have h3 := hcell 0 (by rw [hcq]; omega)
      have h4 : 0 < cs'.length := by rw [hl, hcq]; omega
      rw [List.getElem?_eq_getElem h4] at h3
      have hs : a.spot = none := by
        have := World.cell?_spot h3
        simpa [Addr.add] using this
      obtain ⟨xs, hxs⟩ := opn_slice he (α := Int) (by rw [hcq]; rfl) (by decide) (opn_int hq) hf (by rintro a' len' cap' e'; cases e'; exact hs) h' hb
      have hform := hxs.form
      have hlen : xs.length = len := by
        cases hform; rfl
      have hbound := Nat.le_trans (hf.slice _ _) hb
      exact ⟨xs, hxs, by simp at hbound; omega⟩
/-- an argument that is a slice of slices of ints -/
theorem top_rot {P : Program} {t e q : TypeId} (ht : P.underlying t = some (.slice e)) (he : P.underlying e = some (.slice q)) (hq : P.underlying q = some (.int .i64)) (hce : P.cellsOf e = 1) (hcq : P.cellsOf q = 1)
    {H : Type} {enc : TypeId × Value → H} {w : World} {f : DataW H → Nat} (hf : BulkOk f) {base : Nat} {v : Value} {d : DataW H} {p : List MemPlace}
    (hval : Value.okWide P w .any base t v) (h : DataW.Trod enc P w 0 (fun _ => true) true t v d p) (hb : f d ≤ 1048576) : ∃ xss : List (List Int), Ro w v xss ∧ (xss.length : Int) ≤ 1048576 ∧ ∀ l ∈ xss, l.length ≤ 1048576 := by
  obtain ⟨a, len, cap, rfl⟩ := okWide_slice ht hval
  have hs := spot_of_cell (w := w) (base := base) (v := .slice a len cap) ht (by simpa [Value.okWide, ht] using hval)
  obtain ⟨fuel, hfu⟩ := h
  rcases Deep.open_slice ht hfu with ⟨h0, _⟩ | ⟨a', len', cap', m, n, D, Pl, h0, _, hlc, _, hm, hd, hx⟩
  · have h0' : (Value.slice a len cap) = .slice none 0 0 := by simpa [Value.cells] using h0
    rw [h0']
    exact ⟨[], .inl ⟨⟨_, rfl⟩, rfl⟩, by simp, by simp⟩
  · have h0' : (Value.slice a len cap) = .slice (some a') len' cap' := by simpa [Value.cells] using h0
    cases h0'
    have hsp := hs a' len cap rfl
    obtain ⟨b, off, spot⟩ := a'
    obtain rfl : spot = none := hsp
    simp only [if_true] at hm
    subst hm
    obtain ⟨rfl, _⟩ : d = _ ∧ p = _ := by simpa using hd
    have hbound := Nat.le_trans (hf.slice _ _) hb
    obtain ⟨Y, hY⟩ := Deep.choose_lt (α := List Int) (n := len) (p := fun i y => (∃ cs, (∀ j, j < Rp.sz (List Int) → w.cell? ⟨b, off + i * Rp.sz (List Int) + j, none⟩ = cs[j]?) ∧ Rp.rep c0 any w cs y) ∧ y.length ≤ 1048576) (fun i hi => by
      obtain ⟨cs', h1, h2⟩ := hx i (by omega)
      obtain ⟨_, hl, hcell⟩ := World.cells?_some h1
      rw [hce] at hl
      obtain ⟨u, rfl⟩ : ∃ u, cs' = [u] := by
        match cs', hl with
        | [u], _ => exact ⟨u, rfl⟩
      obtain ⟨y, hy, hyl⟩ := opn_inner he hq hcq hf h2 (Nat.le_trans (hf.elem _ _ _ (by simp; exact ⟨i, hi, rfl⟩)) hb)
      refine ⟨y, ⟨[u], fun j hj => ?_, u, rfl, hy⟩, hyl⟩
      have hj0 : j < 1 := hj
      have := hcell j (by rw [hce]; exact hj0)
      rw [Deep.add_add, hce] at this
      rw [← this]
      show w.cell? ⟨b, off + i * 1 + j, none⟩ = _
      unfold Addr.add
      by_cases hij : i * 1 + j = 0
      · rw [if_pos hij, Nat.add_assoc, hij]; rfl
      · rw [if_neg hij, Nat.add_assoc])
    have hlen : ((List.range len).map Y).length = len := by simp
    have hll : len ≤ 1048576 := by simp at hbound; omega
    refine ⟨(List.range len).map Y, .inr ⟨b, off, m, by rw [hlen], ⟨by omega, by omega⟩, fun i y hi => ?_⟩, by simp; omega, fun l hl => ?_⟩
    · have hil : i < len := by
        have := (List.getElem?_eq_some_iff.1 hi).1
        omega
      obtain rfl : Y i = y := by simpa [hil] using hi
      obtain ⟨⟨cs, h1, h2⟩, _⟩ := hY i hil
      refine ⟨?_, trivial, cs, h1, h2⟩
      have h3 := h1 0 (by decide)
      have h4 := Rp.len h2
      have h5 : 0 < cs.length := by rw [h4]; decide
      rw [List.getElem?_eq_getElem h5] at h3
      by_cases hbl : b < w.heap.size
      · exact hbl
      · have : w.heap[b]? = none := Array.getElem?_eq_none (by omega)
        simp [World.cell?, this] at h3
    · obtain ⟨i, hi, rfl⟩ := List.mem_map.1 hl
      exact (hY i (List.mem_range.1 hi)).2
end TL
