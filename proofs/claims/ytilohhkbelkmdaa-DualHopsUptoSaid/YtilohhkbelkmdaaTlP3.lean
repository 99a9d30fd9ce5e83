/- Plain texts of this claim, part 3. By an AI agent. -/
import Derived.Test.YtilohhkbelkmdaaTlP2
import Derived.Carry
import Derived.Deep.Slices
import Derived.Lib.SmallJoins
import Derived.RowKit
/-
  TlDualH: what a way over faces is, and that ways to neighbours are as long but one.
  By an AI agent.
-/
set_option linter.all false
namespace TL
/-- where a way comes to -/
def goF (of : List Int) (l : List Int) (f : Int) : Int := l.foldl (fun f e => othF (endsS of e) f) f
theorem goF_next {of l : List Int} {f : Int} {i : Nat} (h : (i : Int) < l.length) : goF of (l.take (i + 1)) f = othF (endsS of (gI l (i : Int))) (goF of (l.take i) f) := by
  unfold goF
  rw [take_succ_gI h, List.foldl_append]; rfl
theorem gI_cons_s {x : Int} {l : List Int} {i : Nat} : gI (x :: l) ((i + 1 : Nat) : Int) = gI l (i : Int) := by simp [gI]
theorem hopG_way {m : Nat} {of : List Int} {F : Int} {far : List Int} {to : Int} (ho : OfIn of F m) (hP : FarP m of F [to] far) : ∀ (n : Nat) (f : Int), 0 ≤ f → f < F → gI far f = n →
    (hopG of far m to n f).length = n ∧ goF of (hopG of far m to n f) f = to ∧ ∀ i : Nat, i < n → (0 ≤ gI (hopG of far m to n f) (i : Int) ∧ gI (hopG of far m to n f) (i : Int) < m) ∧ stepP of far (goF of ((hopG of far m to n f).take i) f) (gI (hopG of far m to n f) (i : Int)) := by
  intro n
  induction n with
  | zero =>
    intro f f0 f1 e
    have := hP.zero f f0 f1 (by omega)
    have : f = to := by simpa using this
    exact ⟨rfl, this, fun i hi => by omega⟩
  | succ n ih =>
    intro f f0 f1 e
    have hn : f ≠ to := fun h => by
      have := hP.src to (by simp)
      rw [h] at e; omega
    obtain ⟨e0, he0, hs0⟩ := step_ex hP f0 f1 (by omega) hn
    simp only [hopG]
    rw [if_neg hn]
    cases hf : (iotaI m).find? (fun e => decide (stepP of far f e)) with
    | none =>
      have := List.find?_eq_none.1 hf (e0 : Int) (iota_mem.2 (by omega))
      simp [hs0] at this
    | some e1 =>
      have h1 : stepP of far f e1 := by simpa using List.find?_some hf
      have h2 := iota_mem.1 (List.mem_of_find?_eq_some hf)
      have hr := oth_in ho (e := e1.toNat) (by omega) f
      rw [Int.toNat_of_nonneg h2.1] at hr
      have h3 := h1.2
      obtain ⟨i1, i2, i3⟩ := ih (othF (endsS of e1) f) hr.1 hr.2 (by omega)
      refine ⟨by simp [i1], by simpa [goF] using i2, fun i hi => ?_⟩
      cases i with
      | zero => exact ⟨by simpa [gI] using h2, by simpa [gI, goF] using h1⟩
      | succ i =>
        have := i3 i (by omega)
        rw [gI_cons_s]
        exact ⟨this.1, by simpa [goF] using this.2⟩
theorem far_near {m : Nat} {of : List Int} {F : Int} {a b : Int} {far far' : List Int} (hP : FarP m of F [a] far) (hQ : FarP m of F [b] far') {e : Nat} (he : e < m) (hab : endsS of e = (a, b) ∨ endsS of e = (b, a)) : ∀ (n : Nat) (x : Int), 0 ≤ x → x < F → gI far x = n → 0 ≤ gI far' x ∧ gI far' x ≤ n + 1 := by
  intro n
  induction n with
  | zero =>
    intro x x0 x1 e0
    have hx : x = a := by simpa using hP.zero x x0 x1 (by omega)
    subst hx
    have hb := hQ.src b (by simp)
    have := hQ.adj e he b x hab.symm (by omega)
    omega
  | succ n ih =>
    intro x x0 x1 e0
    have hx : x ∉ [a] := fun h => by have := hP.src x h; omega
    obtain ⟨e', he', k, hk, h2, h3⟩ := hP.par x x0 x1 (by omega) hx
    have h4 := ih k hk.1 hk.2 (by omega)
    have := hQ.adj e' he' k x h2 h4.1
    omega
section
variable {g : Net} {r : Rot} {a b : Int}
theorem hopR_ok (h : (hopR g r a b).2 = 0) : (facesR g r).2 = 0 ∧ ¬ (a < 0 ∨ ((facesR g r).1.length : Int) ≤ a ∨ b < 0 ∨ ((facesR g r).1.length : Int) ≤ b) ∧ ¬ gI (farS g.2.length (ofR g r).1 ((facesR g r).1.length : Int) [b]) a < 0 := by
  unfold hopR at h
  by_cases c : (facesR g r).2 = 0
  · rw [if_pos c] at h
    by_cases c2 : a < 0 ∨ ((facesR g r).1.length : Int) ≤ a ∨ b < 0 ∨ ((facesR g r).1.length : Int) ≤ b
    · rw [if_pos c2] at h; cases h
    · rw [if_neg c2] at h
      by_cases c3 : gI (farS g.2.length (ofR g r).1 ((facesR g r).1.length : Int) [b]) a < 0
      · rw [if_pos c3] at h; cases h
      · exact ⟨c, c2, c3⟩
  · rw [if_neg c] at h; exact absurd h c
theorem hopR_bad (h : ¬ (hopR g r a b).2 = 0) : (hopR g r a b).1 = [] := by
  unfold hopR at h ⊢
  split
  · rename_i c
    rw [if_pos c] at h
    split
    · rfl
    · rename_i c2
      rw [if_neg c2] at h
      split
      · rfl
      · rename_i c3
        rw [if_neg c3] at h; exact absurd rfl h
  · rfl
/-- what a way that is told is -/
structure HopL (g : Net) (r : Rot) (a b : Int) : Prop where
  may : MayP g
  rot : RotP g r
  ofl : ((ofS g r).length : Int) = 2 * (g.2.length : Int)
  step : ∀ i : Nat, (i : Int) < ((hopR g r a b).1.length : Int) → (0 ≤ gI (hopR g r a b).1 (i : Int) ∧ gI (hopR g r a b).1 (i : Int) < (g.2.length : Int)) ∧ ((endsS (ofS g r) (gI (hopR g r a b).1 (i : Int))).2 = goF (ofS g r) ((hopR g r a b).1.take i) a ∨ (endsS (ofS g r) (gI (hopR g r a b).1 (i : Int))).1 = goF (ofS g r) ((hopR g r a b).1.take i) a)
  fin : goF (ofS g r) (hopR g r a b).1 a = b
  near : ∀ h, 0 ≤ h → h < 2 * (g.2.length : Int) → gI (ofS g r) h = b → (hopR g r a (gI (ofS g r) (twin h))).2 = 0 ∧ ¬ ((hopR g r a b).1.length : Int) + 1 < ((hopR g r a (gI (ofS g r) (twin h))).1.length : Int) ∧ ¬ ((hopR g r a (gI (ofS g r) (twin h))).1.length : Int) + 1 < ((hopR g r a b).1.length : Int)
theorem hop_law (h : (hopR g r a b).2 = 0) : HopL g r a b := by
  obtain ⟨h1, h2, h3⟩ := hopR_ok h
  obtain ⟨hm, hrp⟩ := rmay_ok (facesR_may h1)
  have ho := of_in hm hrp
  have eo : (ofR g r).1 = ofS g r := by rw [ofR_yes (rmay_yes hm hrp)]
  have key : ∀ c : Int, 0 ≤ c → c < ((facesR g r).1.length : Int) → ¬ gI (farS g.2.length (ofR g r).1 ((facesR g r).1.length : Int) [c]) a < 0 →
      hopR g r a c = (hopG (ofR g r).1 (farS g.2.length (ofR g r).1 ((facesR g r).1.length : Int) [c]) g.2.length c (gI (farS g.2.length (ofR g r).1 ((facesR g r).1.length : Int) [c]) a).toNat a, 0) ∧
      ((hopR g r a c).1.length : Int) = gI (farS g.2.length (ofR g r).1 ((facesR g r).1.length : Int) [c]) a := by
    intro c c0 c1 c2
    have e := hopR_yes (g := g) (r := r) (a := a) (b := c) h1 (by omega) c2
    have hP := far_ok (m := g.2.length) (of := (ofR g r).1) (F := ((facesR g r).1.length : Int)) (to := [c]) (by omega) ho (by simpa using ⟨c0, c1⟩)
    obtain ⟨w1, _⟩ := hopG_way ho hP (gI (farS g.2.length (ofR g r).1 ((facesR g r).1.length : Int) [c]) a).toNat a (by omega) (by omega) (by omega)
    refine ⟨e, ?_⟩
    rw [e]
    simp only [w1]; omega
  obtain ⟨e1, e2⟩ := key b (by omega) (by omega) h3
  have hP := far_ok (m := g.2.length) (of := (ofR g r).1) (F := ((facesR g r).1.length : Int)) (to := [b]) (by omega) ho (by simpa using ⟨by omega, by omega⟩)
  obtain ⟨w1, w2, w3⟩ := hopG_way ho hP (gI (farS g.2.length (ofR g r).1 ((facesR g r).1.length : Int) [b]) a).toNat a (by omega) (by omega) (by omega)
  refine ⟨hm, hrp, ofS_len g r, fun i hi => ?_, ?_, fun x x0 x1 hx => ?_⟩
  · rw [e2] at hi
    have := w3 i (by omega)
    rw [e1, ← eo]
    exact ⟨this.1, this.2.1⟩
  · rw [e1, ← eo]; exact w2
  · have hxh : x / 2 = ((x / 2).toNat : Nat) := by omega
    have hb : ∃ e : Nat, e < g.2.length ∧ (endsS (ofR g r).1 e = (b, gI (ofS g r) (twin x)) ∨ endsS (ofR g r).1 e = (gI (ofS g r) (twin x), b)) := by
      refine ⟨(x / 2).toNat, by omega, ?_⟩
      rw [← hxh, eo]
      unfold endsS twin
      by_cases c : x % 2 = 0
      · rw [if_pos c]
        left
        rw [show 2 * (x / 2) = x by omega, hx]
      · rw [if_neg c]
        right
        rw [show 2 * (x / 2) + 1 = x by omega, show 2 * (x / 2) = x - 1 by omega, hx]
    obtain ⟨e, he, hen⟩ := hb
    obtain ⟨c, hc⟩ : ∃ c, c = gI (ofS g r) (twin x) := ⟨_, rfl⟩
    rw [← hc] at hen ⊢
    have hcr : 0 ≤ c ∧ c < ((facesR g r).1.length : Int) := by
      have := ho.ends (e := e) (by omega)
      rcases hen with h | h
      · rw [h] at this; exact this.2
      · rw [h] at this; exact this.1
    have hQ := far_ok (m := g.2.length) (of := (ofR g r).1) (F := ((facesR g r).1.length : Int)) (to := [c]) (by omega) ho (by simpa using hcr)
    obtain ⟨n1, n2⟩ := far_near hP hQ he hen (gI (farS g.2.length (ofR g r).1 ((facesR g r).1.length : Int) [b]) a).toNat a (by omega) (by omega) (by omega)
    obtain ⟨k1, k2⟩ := key c hcr.1 hcr.2 (by omega)
    obtain ⟨n3, n4⟩ := far_near hQ hP he hen.symm (gI (farS g.2.length (ofR g r).1 ((facesR g r).1.length : Int) [c]) a).toNat a (by omega) (by omega) (by omega)
    refine ⟨by rw [k1], ?_, ?_⟩
    · rw [e2, k2]; omega
    · rw [e2, k2]; omega
end
theorem way1 {of : List Int} {f e : Int} (h : f = gI of (2 * e)) : gI of (2 * e + 1) = othF (endsS of e) f := by
  unfold othF endsS
  simp only
  split
  · rename_i c; rw [c, h]
  · rfl
theorem way2 {of : List Int} {f e : Int} (h : f = gI of (2 * e + 1)) : gI of (2 * e) = othF (endsS of e) f := by
  unfold othF endsS
  simp only
  rw [if_pos h.symm]
theorem way3 {of : List Int} {f e : Int} (h : (endsS of e).2 = f ∨ (endsS of e).1 = f) (hn : ¬ f = gI of (2 * e)) : f = gI of (2 * e + 1) := h.elim (fun x => x.symm) fun x => absurd x.symm hn
end TL
/-
  TlOpen: arguments opened: what a law's reader says of a slice is what a walk wants of it.
  By an AI agent.
-/
namespace TL
open Go Go.Proofs Go.ChangeShapes Go.WideShapes Go.Joins Go.Deep
structure BulkOk {H : Type} (f : DataW H → Nat) : Prop where
  slice : ∀ l s : List (DataW H), l.length ≤ f (.slice l s)
  elem : ∀ l s : List (DataW H), ∀ d ∈ l, f d ≤ f (.slice l s)
  part : ∀ l : List (DataW H), ∀ d ∈ l, f d ≤ f (.agg l)
/-- cells that hold no pointer -/
def OpnF (α : Type) [Rp α] (P : Program) (t : TypeId) : Prop :=
  ∀ {H : Type} (enc : TypeId × Value → H) (w : World) (fuel : Nat) (cs : List Value) (x : DataW H × List MemPlace), DataW.trod enc P w 0 (fun _ => true) true fuel t cs = some x → ∃ y : α, Rp.rep c0 any w cs y
theorem opn_int {P : Program} {t : TypeId} (ht : P.underlying t = some (.int .i64)) : OpnF Int P t := by
  intro H enc w fuel cs x h
  obtain ⟨n, rfl, _, _⟩ := DataW.trod_int ht h
  exact ⟨n, rfl⟩
theorem trod_array2 {H : Type} {enc : TypeId × Value → H} {P : Program} {w : World} {base : Nat} {spare : Nat → Bool} {held : Bool} {t e : TypeId} {fuel : Nat} {cs : List Value} {x : DataW H × List MemPlace} (ht : P.underlying t = some (.array 2 e)) (hce : P.cellsOf e = 1) (hct : P.cellsOf t = 2)
    (h : DataW.trod enc P w base spare held fuel t cs = some x) :
    ∃ v0 v1 y0 y1 n, cs = [v0, v1] ∧ x = (.agg [y0.1, y1.1], y0.2 ++ y1.2) ∧ DataW.trod enc P w base spare held n e [v0] = some y0 ∧ DataW.trod enc P w base spare held n e [v1] = some y1 := by
  cases fuel with
  | zero => simp [DataW.trod] at h
  | succ n =>
    unfold DataW.trod at h
    rw [ht] at h
    have r2 : List.range 2 = [0, 1] := rfl
    simp only [hct] at h
    by_cases hl : cs.length = 2
    · rw [if_pos hl] at h
      match cs, hl with
      | [v0, v1], _ =>
        simp [r2, hce] at h
        cases h0 : DataW.trod enc P w base spare held n e [v0] with
        | none => simp [h0] at h
        | some y0 =>
          cases h1 : DataW.trod enc P w base spare held n e [v1] with
          | none => simp [h0, h1] at h
          | some y1 =>
            simp [h0, h1] at h
            exact ⟨v0, v1, y0, y1, n, rfl, h.symm, h0, h1⟩
    · rw [if_neg hl] at h; cases h
theorem opn_two {P : Program} {t e : TypeId} (ht : P.underlying t = some (.array 2 e)) (he : P.underlying e = some (.int .i64)) (hce : P.cellsOf e = 1) (hct : P.cellsOf t = 2) : OpnF (Int × Int) P t := by
  intro H enc w fuel cs x h
  obtain ⟨v0, v1, y0, y1, n, rfl, _, h0, h1⟩ := trod_array2 ht hce hct h
  obtain ⟨a, ha⟩ := opn_int he enc w n [v0] y0 h0
  obtain ⟨b, hb⟩ := opn_int he enc w n [v1] y1 h1
  exact ⟨(a, b), [v0], [v1], rfl, ha, hb⟩
/-- a slice of such cells -/
theorem opn_slice {α : Type} [Rp α] [Inhabited α] {P : Program} {t e : TypeId} (ht : P.underlying t = some (.slice e)) (hc : P.cellsOf e = Rp.sz α) (hz : 0 < Rp.sz α) (he : OpnF α P e)
    {H : Type} {enc : TypeId × Value → H} {w : World} {f : DataW H → Nat} (hf : BulkOk f) {fuel : Nat} {v : Value} {x : DataW H × List MemPlace}
    (hs : ∀ a len cap, v = .slice (some a) len cap → a.spot = none) (h : DataW.trod enc P w 0 (fun _ => true) true fuel t [v] = some x) (hb : f x.1 ≤ 1048576) : ∃ xs : List α, Ro w v xs := by
  rcases Deep.open_slice ht h with ⟨h0, _⟩ | ⟨a, len, cap, m, n, D, Pl, h0, _, hlc, _, hm, rfl, hx⟩
  · obtain rfl : v = .slice none 0 0 := by simpa using h0
    exact ⟨[], .inl ⟨⟨_, rfl⟩, rfl⟩⟩
  · obtain rfl : v = .slice (some a) len cap := by simpa using h0
    have hsp := hs a len cap rfl
    obtain ⟨b, off, spot⟩ := a
    obtain rfl : spot = none := hsp
    simp only [if_true] at hm
    subst hm
    obtain ⟨Y, hY⟩ := Deep.choose_lt (α := α) (n := len) (p := fun i y => ∃ cs, (∀ j, j < Rp.sz α → w.cell? ⟨b, off + i * Rp.sz α + j, none⟩ = cs[j]?) ∧ Rp.rep c0 any w cs y) (fun i hi => by
      obtain ⟨cs', h1, h2⟩ := hx i (by omega)
      obtain ⟨y, hy⟩ := he enc w n cs' _ h2
      refine ⟨y, cs', fun j hj => ?_, hy⟩
      obtain ⟨_, hl, hcell⟩ := World.cells?_some h1
      have := hcell j (by omega)
      rw [Deep.add_add, hc] at this
      rw [← this]
      unfold Addr.add
      by_cases hij : i * Rp.sz α + j = 0
      · rw [if_pos hij, Nat.add_assoc, hij]; rfl
      · rw [if_neg hij, Nat.add_assoc])
    have hlen : ((List.range len).map Y).length = len := by simp
    have hbound := Nat.le_trans (hf.slice _ _) hb
    refine ⟨(List.range len).map Y, .inr ⟨b, off, m, by rw [hlen], ⟨by omega, by simp at hbound; omega⟩, fun i y hi => ?_⟩⟩
    have hil : i < len := by
      have := (List.getElem?_eq_some_iff.1 hi).1
      omega
    obtain rfl : Y i = y := by simpa [hil] using hi
    obtain ⟨cs, h1, h2⟩ := hY i hil
    refine ⟨?_, trivial, cs, h1, h2⟩
    have h3 := h1 0 hz
    have h4 := Rp.len h2
    have h5 : 0 < cs.length := by omega
    rw [List.getElem?_eq_getElem h5] at h3
    by_cases hbl : b < w.heap.size
    · exact hbl
    · have : w.heap[b]? = none := Array.getElem?_eq_none (by omega)
      simp [World.cell?, this] at h3
theorem spot_of_cell {P : Program} {w : World} {base : Nat} {t e : TypeId} {v : Value} (ht : P.underlying t = some (.slice e)) (h : Cell.okWide P w .any base t v) : ∀ a len cap, v = .slice (some a) len cap → a.spot = none := by
  rintro a len cap rfl
  simp only [Cell.okWide, Cell.ok, ht] at h
  exact h.2.2.2.1
/-- an argument that is an int and a slice -/
theorem top_net {α : Type} [Rp α] [Inhabited α] {P : Program} {t t0 t1 e : TypeId} {f0 f1 : Field} (hs : P.underlying t = some (.struct #[f0, f1])) (hone : oneCellFields P #[f0, f1] = true) (hC : P.cellsOf t = 2) (hts : P.cellTypes P.depth t = some [t0, t1])
    (h0 : f0.type = t0) (h1 : f1.type = t1) (hi : P.underlying t0 = some (.int .i64)) (ht : P.underlying t1 = some (.slice e)) (hc : P.cellsOf e = Rp.sz α) (hz : 0 < Rp.sz α) (he : OpnF α P e)
    {H : Type} {enc : TypeId × Value → H} {w : World} {f : DataW H → Nat} (hf : BulkOk f) {base : Nat} {v : Value} {d : DataW H} {p : List MemPlace}
    (hval : Value.okWide P w .any base t v) (h : DataW.Trod enc P w 0 (fun _ => true) true t v d p) (hb : f d ≤ 1048576) : ∃ (n : Int) (u : Value) (xs : List α), v = .agg #[.int .i64 n, u] ∧ Ro w u xs := by
  obtain ⟨v0, v1, y0, y1, n, rfl, rfl, rfl, r0, r1⟩ := open_agg2 hs hone hC hval h
  subst h0 h1
  obtain ⟨k, hk, _, _⟩ := DataW.trod_int hi r0
  obtain rfl : v0 = .int .i64 k := by simpa using hk
  have hcell : Cell.okWide P w .any base f1.type v1 := by
    simp only [Value.okWide, hs] at hval
    obtain ⟨cs, hcs, _, ts, h3, _, h4⟩ := hval
    rw [hts] at h3
    obtain rfl := Option.some.inj h3
    obtain rfl : #[Value.int .i64 k, v1] = cs := by simpa using hcs
    obtain ⟨u, hu, hk⟩ := h4 1 v1 rfl
    simp at hu
    subst hu
    exact hk
  obtain ⟨xs, hx⟩ := opn_slice ht hc hz he hf (spot_of_cell ht hcell) (x := y1) r1 (Nat.le_trans (hf.part _ _ (by simp)) hb)
  exact ⟨k, v1, xs, rfl, hx⟩
/-- a slice of ints within another slice -/
theorem opn_inner {P : Program} {e q : TypeId} (he : P.underlying e = some (.slice q)) (hq : P.underlying q = some (.int .i64)) (hcq : P.cellsOf q = 1)
    {H : Type} {enc : TypeId × Value → H} {w : World} {f : DataW H → Nat} (hf : BulkOk f) {fuel : Nat} {u : Value} {x : DataW H × List MemPlace}
    (h : DataW.trod enc P w 0 (fun _ => true) true fuel e [u] = some x) (hb : f x.1 ≤ 1048576) : ∃ xs : List Int, Ro w u xs ∧ xs.length ≤ 1048576 := by
  have h' := h
  rcases Deep.open_slice he h with ⟨h0, _⟩ | ⟨a, len, cap, m, n, D, Pl, h0, _, hlc, _, hm, rfl, hx⟩
  · obtain rfl : u = .slice none 0 0 := by simpa using h0
    exact ⟨[], .inl ⟨⟨_, rfl⟩, rfl⟩, by simp⟩
  · obtain rfl : u = .slice (some a) len cap := by simpa using h0
    simp only [if_true] at hm
    subst hm
    by_cases hc : m = 0
    · have hl : len = 0 := by omega
      subst hl hc
      exact ⟨[], .inl ⟨⟨_, rfl⟩, rfl⟩, by simp⟩
    · obtain ⟨cs', h1, h2⟩ := hx 0 (by omega)
      obtain ⟨_, hl, hcell⟩ := World.cells?_some h1
      have h3 := hcell 0 (by rw [hcq]; omega)
      have h4 : 0 < cs'.length := by rw [hl, hcq]; omega
      rw [List.getElem?_eq_getElem h4] at h3
      have hs : a.spot = none := by
        have := World.cell?_spot h3
        simpa [Addr.add] using this
      obtain ⟨xs, hxs⟩ := opn_slice he (α := Int) (by rw [hcq]; rfl) (by decide) (opn_int hq) hf (by rintro a' len' cap' e'; cases e'; exact hs) h' hb
      have hform := hxs.form
      have hlen : xs.length = len := by
        cases hform; rfl
      have hbound := Nat.le_trans (hf.slice _ _) hb
      exact ⟨xs, hxs, by simp at hbound; omega⟩
/-- an argument that is a slice of slices of ints -/
theorem top_rot {P : Program} {t e q : TypeId} (ht : P.underlying t = some (.slice e)) (he : P.underlying e = some (.slice q)) (hq : P.underlying q = some (.int .i64)) (hce : P.cellsOf e = 1) (hcq : P.cellsOf q = 1)
    {H : Type} {enc : TypeId × Value → H} {w : World} {f : DataW H → Nat} (hf : BulkOk f) {base : Nat} {v : Value} {d : DataW H} {p : List MemPlace}
    (hval : Value.okWide P w .any base t v) (h : DataW.Trod enc P w 0 (fun _ => true) true t v d p) (hb : f d ≤ 1048576) : ∃ xss : List (List Int), Ro w v xss ∧ (xss.length : Int) ≤ 1048576 ∧ ∀ l ∈ xss, l.length ≤ 1048576 := by
  obtain ⟨a, len, cap, rfl⟩ := okWide_slice ht hval
  have hs := spot_of_cell (w := w) (base := base) (v := .slice a len cap) ht (by simpa [Value.okWide, ht] using hval)
  obtain ⟨fuel, hfu⟩ := h
  rcases Deep.open_slice ht hfu with ⟨h0, _⟩ | ⟨a', len', cap', m, n, D, Pl, h0, _, hlc, _, hm, hd, hx⟩
  · have h0' : (Value.slice a len cap) = .slice none 0 0 := by simpa [Value.cells] using h0
    rw [h0']
    exact ⟨[], .inl ⟨⟨_, rfl⟩, rfl⟩, by simp, by simp⟩
  · have h0' : (Value.slice a len cap) = .slice (some a') len' cap' := by simpa [Value.cells] using h0
    cases h0'
    have hsp := hs a' len cap rfl
    obtain ⟨b, off, spot⟩ := a'
    obtain rfl : spot = none := hsp
    simp only [if_true] at hm
    subst hm
    obtain ⟨rfl, _⟩ : d = _ ∧ p = _ := by simpa using hd
    have hbound := Nat.le_trans (hf.slice _ _) hb
    obtain ⟨Y, hY⟩ := Deep.choose_lt (α := List Int) (n := len) (p := fun i y => (∃ cs, (∀ j, j < Rp.sz (List Int) → w.cell? ⟨b, off + i * Rp.sz (List Int) + j, none⟩ = cs[j]?) ∧ Rp.rep c0 any w cs y) ∧ y.length ≤ 1048576) (fun i hi => by
      obtain ⟨cs', h1, h2⟩ := hx i (by omega)
      obtain ⟨_, hl, hcell⟩ := World.cells?_some h1
      rw [hce] at hl
      obtain ⟨u, rfl⟩ : ∃ u, cs' = [u] := by
        match cs', hl with
        | [u], _ => exact ⟨u, rfl⟩
      obtain ⟨y, hy, hyl⟩ := opn_inner he hq hcq hf h2 (Nat.le_trans (hf.elem _ _ _ (by simp; exact ⟨i, hi, rfl⟩)) hb)
      refine ⟨y, ⟨[u], fun j hj => ?_, u, rfl, hy⟩, hyl⟩
      have hj0 : j < 1 := hj
      have := hcell j (by rw [hce]; exact hj0)
      rw [Deep.add_add, hce] at this
      rw [← this]
      show w.cell? ⟨b, off + i * 1 + j, none⟩ = _
      unfold Addr.add
      by_cases hij : i * 1 + j = 0
      · rw [if_pos hij, Nat.add_assoc, hij]; rfl
      · rw [if_neg hij, Nat.add_assoc])
    have hlen : ((List.range len).map Y).length = len := by simp
    have hll : len ≤ 1048576 := by simp at hbound; omega
    refine ⟨(List.range len).map Y, .inr ⟨b, off, m, by rw [hlen], ⟨by omega, by omega⟩, fun i y hi => ?_⟩, by simp; omega, fun l hl => ?_⟩
    · have hil : i < len := by
        have := (List.getElem?_eq_some_iff.1 hi).1
        omega
      obtain rfl : Y i = y := by simpa [hil] using hi
      obtain ⟨⟨cs, h1, h2⟩, _⟩ := hY i hil
      refine ⟨?_, trivial, cs, h1, h2⟩
      have h3 := h1 0 (by decide)
      have h4 := Rp.len h2
      have h5 : 0 < cs.length := by rw [h4]; decide
      rw [List.getElem?_eq_getElem h5] at h3
      by_cases hbl : b < w.heap.size
      · exact hbl
      · have : w.heap[b]? = none := Array.getElem?_eq_none (by omega)
        simp [World.cell?, this] at h3
    · obtain ⟨i, hi, rfl⟩ := List.mem_map.1 hl
      exact (hY i (List.mem_range.1 hi)).2
end TL
/-
  TlPost: what is owed behind a law that returns true and writes nothing of the caller's.
  By an AI agent.
-/
namespace TL
open Go Go.Proofs Go.ChangeShapes Go.WideShapes Go.RowKit
def rowed (P : Program) (ts : List TypeId) : Bool := ts.all fun t => P.readableRec t && decide (t < P.types.size)
theorem all_stays {H : Type} {enc : TypeId × Value → H} {P : Program} (hl : laidOutB P = true) {W W' : World} (hb : Below W.heap.size W W') (sp : Nat → Bool) :
    ∀ {ts : List TypeId} {vs : List Value} {ds : List (DataW H)} {ps : List MemPlace}, rowed P ts = true → DataW.TrodAll enc P W 0 (fun _ => true) true ts vs ds ps → (∀ p ∈ ps, p.block < W.heap.size) → (∀ p ∈ ps, sp p.block = true) → DataW.TrodAll enc P W' 0 sp true ts vs ds ps
  | [], [], [], _, _, h, _, _ => h
  | [], [], _ :: _, _, _, h, _, _ => h.elim
  | [], _ :: _, _, _, _, h, _, _ => by cases ‹List (DataW H)› <;> exact h.elim
  | _ :: _, [], _, _, _, h, _, _ => by cases ‹List (DataW H)› <;> exact h.elim
  | _ :: _, _ :: _, [], _, _, h, _, _ => h.elim
  | t :: ts, v :: vs, d :: ds, ps, hr, h, hlt, hsp => by
    obtain ⟨p, q, h1, h2, rfl⟩ := h
    simp only [rowed, List.all_cons, Bool.and_eq_true, decide_eq_true_eq] at hr
    exact ⟨p, q, WideElems.Trod_stays hl hr.1.1 hr.1.2 h1 (fun x hx => hb.same (hlt x (by simp [hx]))) (fun x hx => hsp x (by simp [hx])),
      all_stays hl hb sp hr.2 h2 (fun x hx => hlt x (by simp [hx])) (fun x hx => hsp x (by simp [hx])), rfl⟩
theorem law_post {H : Type} {enc : TypeId × Value → H} {P : Program} {f : Func} {s : ChangeSpec} {W W' : World} {args : Array Value} {ds gs : List (DataW H)} {before : List MemPlace} {tb : TypeId}
    (hl : laidOutB P = true) (hr : rowed P f.params.toList = true) (hv : s.vars = []) (hrt : f.resultTypes = #[tb]) (htb : P.underlying tb = some .bool)
    (hW : DataW.Whole enc P f.params.toList s.vars false W args.toList ds gs before) (hfn : s.fn H (ds ++ gs) = { results := [.lit (.bool true)], args := ds }) (hB : Below W.heap.size W W') :
    s.post enc P f false true false false W args (.bool true) W' := by
  have hlt := hW.lt
  have hW0 := hW
  obtain ⟨p, q, hA, hV, rfl, hfz, _⟩ := hW
  rw [hv] at hV
  obtain ⟨rfl, rfl⟩ := trodVars_none hV
  simp only [List.append_nil] at hlt hfz hW0 hfn
  have hres : ∀ (b : Nat) (sp : Nat → Bool) (hd : Bool), DataW.TrodAll enc P W' b sp hd f.resultTypes.toList ((Value.bool true).resultList f.resultTypes.size) (s.fn H (ds ++ [])).results [] := fun b sp hd => by
    rw [hrt, List.append_nil, hfn]
    exact trodAll_cons_mk (shut_bool htb true) trodAll_mk0
  have hargs : ∀ sp : Nat → Bool, (∀ x ∈ p, sp x.block = true) → DataW.TrodAll enc P W' 0 sp true f.params.toList args.toList (s.fn H (ds ++ [])).args p := fun sp hsp => by
    rw [List.append_nil, hfn]
    exact all_stays hl hB sp hr hA hlt hsp
  have hvars : ∀ sp : Nat → Bool, DataW.TrodVars enc P W' sp s.vars (s.fn H (ds ++ [])).vars [] := fun sp => by
    rw [List.append_nil, hfn, hv]
    rfl
  refine ⟨ds, [], p, [], p, [], hW0, hres _ _ _, hargs _ (fun x hx => by simpa using hlt x hx), hvars _, World.keptBut_mono (fun x hx => ⟨hx, Or.inr (by simpa using hx)⟩) (hB.frame _), fun _ => ?_⟩
  refine ⟨?_, _, _, ([] ++ p) ++ [], ⟨[] ++ p, [], trodAll_append (hargs _ (fun _ _ => rfl)) (hres _ _ _), hvars _, rfl, ?_, ?_⟩, ?_⟩
  · exact ok_one hrt rfl (okWide_bool_mk htb true)
  · intro b off hp
    have hp' : MemPlace.cell b off ∈ p := by simpa using hp
    rw [hB.frozen (p := ⟨b, off, none⟩) (hlt _ hp')]
    exact hfz b off hp'
  · intro ha; cases ha
  · intro x hx _
    simpa using hx
end TL
