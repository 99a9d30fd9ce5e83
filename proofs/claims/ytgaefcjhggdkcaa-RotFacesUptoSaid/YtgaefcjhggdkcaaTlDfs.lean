/-
  TlDfs: components found by a stack: the document's way.
  By an AI agent.
-/
import Derived.Test.YtgaefcjhggdkcaaTlTr
set_option linter.all false
namespace TL
/-- how many have no number yet -/
def cntN (c : List Int) : Nat := (c.filter fun x => decide (x < 0)).length
theorem cntN_set {c : List Int} {w n : Int} (h0 : 0 ≤ w) (h1 : w < c.length) (hc : gI c w < 0) (hn : 0 ≤ n) : cntN (c.set w.toNat n) + 1 = cntN c := by
  have hlt : w.toNat < c.length := by omega
  have e0 : gI c w = c[w.toNat] := by simp [gI, hlt]
  have e1 : c = c.take w.toNat ++ c[w.toNat] :: c.drop (w.toNat + 1) := by
    rw [← List.drop_eq_getElem_cons hlt, List.take_append_drop]
  have e2 : c.set w.toNat n = c.take w.toNat ++ n :: c.drop (w.toNat + 1) := List.set_eq_take_append_cons_drop.trans (if_pos hlt)
  rw [e2]
  conv => rhs; rw [e1]
  unfold cntN
  rw [List.filter_append, List.filter_append, List.filter_cons, List.filter_cons, if_neg (by simp; omega), if_pos (by rw [← e0]; simpa using hc)]
  simp
  omega
theorem cntN_le (c : List Int) : cntN c ≤ c.length := List.length_filter_le _ _
theorem first_gI {g : Net} {v : Int} (h0 : 0 ≤ v) (h1 : v < g.1) : gI (firstS g) v = outS g v := by
  unfold firstS gI
  have : v.toNat < g.1.toNat := by omega
  simp [List.getD_eq_getElem?_getD, this]
  congr 1
  omega
theorem first_len (g : Net) (h : 0 ≤ g.1) : ((firstS g).length : Int) = g.1 := by simp [firstS]; omega
/-- the walk from s under way: todo lies on the stack, x is being looked at -/
structure DfInv (g : Net) (c0 c todo x : List Int) (n s : Int) : Prop where
  len : (c.length : Int) = g.1
  n0 : 0 ≤ n
  sd : ndP g s
  pre : ∀ w, ndP g w → Cn g s w → gI c0 w < 0
  cmp : ∀ w, ndP g w → (Cn g s w ∧ gI c w = n) ∨ gI c w = gI c0 w
  nd : todo.Nodup
  tds : ∀ t ∈ todo, ndP g t ∧ Cn g s t ∧ gI c t = n
  clo : ∀ v, ndP g v → Cn g s v → gI c v = n → v ∉ todo → v ∉ x → ∀ h ∈ outS g v, 0 ≤ gI c (toS g h)
  src : gI c s = n
theorem DfInv.start {g : Net} (hm : MayP g) {c0 : List Int} {n : Int} {q : Nat} (hq : (q : Int) < g.1) (h : c0 = (partsK g q).1 ∧ n = (partsK g q).2) (c : ¬ 0 ≤ gI c0 (q : Int)) : DfInv g c0 (c0.set (q : Int).toNat n) [(q : Int)] [] n (q : Int) := by
  obtain ⟨l, hi⟩ := partsK_inv hm q (by omega)
  obtain ⟨rfl, rfl⟩ := h
  have hqd : ndP g (q : Int) := ⟨by omega, hq⟩
  have hn : 0 ≤ (partsK g q).2 := by rw [hi.num]; omega
  have hlen := hi.len
  have hcn := Cn.eqv g
  have hpre : ∀ w, ndP g w → Cn g (q : Int) w → gI (partsK g q).1 w < 0 := fun w hw hc => by
    refine Int.not_le.1 fun h0 => c ?_
    obtain ⟨y, hy, hwy⟩ := (hi.iff w hw).1 h0
    exact (hi.iff _ hqd).2 ⟨y, hy, hcn.trans _ _ _ hqd hw (hi.dom y hy) hc hwy⟩
  have hset : ∀ w, ndP g w → gI ((partsK g q).1.set (q : Int).toNat (partsK g q).2) w = if w = q then (partsK g q).2 else gI (partsK g q).1 w := fun w hw => gI_set (by omega) (by omega) hw.1
  refine ⟨by simpa using hlen, hn, hqd, hpre, fun w hw => ?_, by simp, fun t ht => ?_, fun v hv hc e hnt _ => ?_, ?_⟩
  · rw [hset w hw]
    by_cases e : w = q
    · subst e; exact .inl ⟨hcn.rfl _ hqd, if_pos rfl⟩
    · rw [if_neg e]; exact .inr rfl
  · obtain rfl := List.mem_singleton.1 ht
    exact ⟨hqd, hcn.rfl _ hqd, by rw [hset _ hqd, if_pos rfl]⟩
  · have hne : v ≠ q := fun e => hnt (by simp [e])
    rw [hset v hv, if_neg hne] at e
    have := hpre v hv hc
    omega
  · rw [hset _ hqd, if_pos rfl]
section
variable {g : Net} {c0 c todo x : List Int} {n s : Int}
theorem DfInv.bd (h : DfInv g c0 c todo x n s) : (todo.length : Int) ≤ g.1 := by
  have h1 := h.sd.1
  have h2 := h.sd.2
  exact nodup_le (by omega) h.nd (fun t ht => (h.tds t ht).1)
theorem DfInv.pop (h : DfInv g c0 c todo [] n s) (ht : 0 < todo.length) : DfInv g c0 c (todo.take (todo.length - 1)) [gI todo ((todo.length : Int) - 1)] n s ∧ ndP g (gI todo ((todo.length : Int) - 1)) ∧ Cn g s (gI todo ((todo.length : Int) - 1)) ∧ gI c (gI todo ((todo.length : Int) - 1)) = n := by
  have hm := gI_mem (xs := todo) (i := (todo.length : Int) - 1) (by omega) (by omega)
  have hs := take_succ_gI (xs := todo) (k := todo.length - 1) (by omega)
  rw [List.take_of_length_le (by omega), show ((todo.length - 1 : Nat) : Int) = (todo.length : Int) - 1 by omega] at hs
  refine ⟨⟨h.len, h.n0, h.sd, h.pre, h.cmp, h.nd.sublist (List.take_sublist _ _), fun t ht => h.tds t (List.mem_of_mem_take ht), fun v hv hc e hnt hnx => h.clo v hv hc e (fun hm => ?_) (by simp), h.src⟩, h.tds _ hm⟩
  rw [hs] at hm
  rcases List.mem_append.1 hm with hm | hm
  · exact hnt hm
  · exact hnx hm
theorem DfInv.push (hm : MayP g) (h : DfInv g c0 c todo x n s) {v : Int} (hv : ndP g v) (hc : Cn g s v) {hh : Int} (hh0 : hh ∈ outS g v) (hw : gI c (toS g hh) < 0) : DfInv g c0 (c.set (toS g hh).toNat n) (todo ++ [toS g hh]) x n s ∧ ∀ u, 0 ≤ u → 0 ≤ gI c u → 0 ≤ gI (c.set (toS g hh).toNat n) u := by
  obtain ⟨⟨a1, a2⟩, a3⟩ := outS_in hh0
  have hto := toS_in hm a1 a2
  have hlen := h.len
  have hn := h.n0
  have hcw : Cn g s (toS g hh) := (Cn.eqv g).trans _ _ _ h.sd hv hto hc (by have := Cn.half hm a1 a2; rwa [a3] at this)
  have hset : ∀ u, 0 ≤ u → gI (c.set (toS g hh).toNat n) u = if u = toS g hh then n else gI c u := fun u h0 => gI_set hto.1 (by omega) h0
  have hmono : ∀ u, 0 ≤ u → 0 ≤ gI c u → 0 ≤ gI (c.set (toS g hh).toNat n) u := fun u h0 h1 => by
    rw [hset u h0]; split <;> omega
  refine ⟨⟨by simpa using hlen, hn, h.sd, h.pre, fun w hwd => ?_, ?_, fun t ht => ?_, fun v' hv' hc' e hnt hnx h' hh' => ?_, ?_⟩, hmono⟩
  · rw [hset w hwd.1]
    by_cases e : w = toS g hh
    · subst e; exact .inl ⟨hcw, if_pos rfl⟩
    · rw [if_neg e]; exact h.cmp w hwd
  · rw [List.nodup_append]
    refine ⟨h.nd, by simp, fun a ha b hb e => ?_⟩
    obtain rfl := List.mem_singleton.1 hb
    have := (h.tds a ha).2.2
    rw [e] at this
    omega
  · rcases List.mem_append.1 ht with ht | ht
    · obtain ⟨b1, b2, b3⟩ := h.tds t ht
      refine ⟨b1, b2, ?_⟩
      rw [hset t b1.1]; split
      · rfl
      · exact b3
    · obtain rfl := List.mem_singleton.1 ht
      exact ⟨hto, hcw, by rw [hset _ hto.1, if_pos rfl]⟩
  · have hne : v' ≠ toS g hh := fun e => hnt (by simp [e])
    rw [hset v' hv'.1, if_neg hne] at e
    have b := outS_in hh'
    exact hmono _ (toS_in hm b.1.1 b.1.2).1 (h.clo v' hv' hc' e (fun hm => hnt (by simp [hm])) hnx h' hh')
  · rw [hset s h.sd.1]; split
    · rfl
    · exact h.src
/-- the row of v, k half-edges looked at -/
structure DfRow (g : Net) (c0 c todo : List Int) (n s v : Int) (k M : Nat) : Prop where
  inv : DfInv g c0 c todo [v] n s
  vd : ndP g v
  vc : Cn g s v
  row : ∀ i : Nat, i < k → (i : Int) < (outS g v).length → 0 ≤ gI c (toS g (gI (outS g v) (i : Int)))
  meas : todo.length + 2 * cntN c < M
theorem DfInv.row (h : DfInv g c0 c todo [] n s) (ht : 0 < todo.length) : DfRow g c0 c (todo.take (todo.length - 1)) n s (gI todo ((todo.length : Int) - 1)) 0 (todo.length + 2 * cntN c) := by
  obtain ⟨h1, h2, h3, h4⟩ := h.pop ht
  exact ⟨h1, h2, h3, fun i hi => by omega, by rw [List.length_take]; omega⟩
variable {v : Int} {k M : Nat}
theorem DfRow.skip (h : DfRow g c0 c todo n s v k M) (hk : 0 ≤ gI c (toS g (gI (outS g v) (k : Int)))) : DfRow g c0 c todo n s v (k + 1) M :=
  ⟨h.inv, h.vd, h.vc, fun i hi hl => by
    by_cases e : i = k
    · subst e; exact hk
    · exact h.row i (by omega) hl, h.meas⟩
theorem DfRow.push (hm : MayP g) (h : DfRow g c0 c todo n s v k M) (hl : (k : Int) < (outS g v).length) (hk : ¬ 0 ≤ gI c (toS g (gI (outS g v) (k : Int)))) : DfRow g c0 (c.set (toS g (gI (outS g v) (k : Int))).toNat n) (todo ++ [toS g (gI (outS g v) (k : Int))]) n s v (k + 1) M := by
  have hmem := gI_mem (xs := outS g v) (i := (k : Int)) (by omega) hl
  obtain ⟨h1, h2⟩ := h.inv.push hm h.vd h.vc hmem (by omega)
  have b := outS_in hmem
  have hto := toS_in hm b.1.1 b.1.2
  have hlen := h.inv.len
  have hn := h.inv.n0
  have hme := h.meas
  have hcn := cntN_set (c := c) (w := toS g (gI (outS g v) (k : Int))) (n := n) hto.1 (by omega) (by omega) hn
  refine ⟨h1, h.vd, h.vc, fun i hi hil => ?_, ?_⟩
  · by_cases e : i = k
    · subst e
      rw [gI_set hto.1 (by omega) hto.1, if_pos rfl]; exact hn
    · have bi := outS_in (gI_mem (xs := outS g v) (i := (i : Int)) (by omega) hil)
      exact h2 _ (toS_in hm bi.1.1 bi.1.2).1 (h.row i (by omega) hil)
  · rw [List.length_append, List.length_singleton]; omega
theorem DfRow.done (h : DfRow g c0 c todo n s v k M) (hl : ¬ (k : Int) < (outS g v).length) : DfInv g c0 c todo [] n s :=
  ⟨h.inv.len, h.inv.n0, h.inv.sd, h.inv.pre, h.inv.cmp, h.inv.nd, h.inv.tds, fun u hu hc e hnt _ hh hhu => by
    by_cases e2 : u = v
    · subst e2
      obtain ⟨i, hi, rfl⟩ := List.mem_iff_getElem.1 hhu
      have e3 : gI (outS g u) (i : Int) = (outS g u)[i] := by simp [gI, hi]
      rw [← e3]
      exact h.row i (by omega) (by omega)
    · exact h.inv.clo u hu hc e hnt (by simp [e2]) hh hhu, h.inv.src⟩
theorem DfInv.done (hm : MayP g) {q : Nat} (h : DfInv g c0 c todo [] n (q : Int)) (ht : ¬ 0 < todo.length) (h0 : c0 = (partsK g q).1 ∧ n = (partsK g q).2) (hc : ¬ 0 ≤ gI c0 (q : Int)) : c = (partsK g (q + 1)).1 ∧ n + 1 = (partsK g (q + 1)).2 := by
  have hnil : todo = [] := List.eq_nil_of_length_eq_zero (by omega)
  subst hnil
  obtain ⟨hb1, hb2⟩ := breadth_iff hm h.sd
  have hpl := parts_len g q
  have hall : ∀ w, Cn g (q : Int) w → gI c w = n := fun w hw =>
    (closed_Cn (S := fun w => (ndP g w ∧ Cn g (q : Int) w) ∧ gI c w = n) (fun x hh hx hhx => by
      have b := outS_in hhx
      have hto := toS_in hm b.1.1 b.1.2
      have hcx : Cn g (q : Int) (toS g hh) := (Cn.eqv g).trans _ _ _ h.sd hx.1.1 hto hx.1.2 (by have := Cn.half hm b.1.1 b.1.2; rwa [b.2] at this)
      have h1 := h.clo x hx.1.1 hx.1.2 hx.2 (by simp) (by simp) hh hhx
      refine ⟨⟨hto, hcx⟩, ?_⟩
      rcases h.cmp _ hto with e | e
      · exact e.2
      · have := h.pre _ hto hcx
        omega) hw ⟨⟨h.sd, (Cn.eqv g).rfl _ h.sd⟩, h.src⟩).2
  have h1 : partsK g (q + 1) = ((breadthS g (q : Int)).order.foldl (fun l w => l.set w.toNat (partsK g q).2) (partsK g q).1, (partsK g q).2 + 1) := by
    rw [partsK_succ]
    unfold partOne
    rw [if_neg (by rw [← h0.1]; exact hc)]
  have hlen := h.len
  have hsd := h.sd
  have hsd2 := hsd.2
  rw [h1]
  refine ⟨?_, by rw [h0.2]⟩
  simp only
  have hl2 : (((breadthS g (q : Int)).order.foldl (fun l w => l.set w.toNat (partsK g q).2) (partsK g q).1).length : Int) = g.1 := by rw [set_fold_len, hpl.1]; omega
  apply list_ext_gI
  · omega
  · intro w hw
    have hwd : ndP g (w : Int) := ⟨by omega, by omega⟩
    rw [gI_fold _ _ (w : Int) (by omega) (by rw [hpl.1]; omega) (fun x hx => by
      have := hb1 x hx
      rw [hpl.1]
      have h2 := this.1
      have h3 := this.2
      omega)]
    by_cases hc' : Cn g (q : Int) (w : Int)
    · rw [if_pos ((hb2 _).2 hc'), hall _ hc', h0.2]
    · rw [if_neg (fun hm => hc' ((hb2 _).1 hm)), ← h0.1]
      rcases h.cmp _ hwd with e | e
      · exact absurd e.1 hc'
      · exact e
end
end TL
