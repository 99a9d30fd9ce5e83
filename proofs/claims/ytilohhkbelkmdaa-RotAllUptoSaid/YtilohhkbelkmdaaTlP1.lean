/- Plain texts of this claim, part 1. By an AI agent. -/
import Derived.Test.YtilohhkbelkmdaaTlP0
import Derived.OrdersHeld
/-
  TlDraw: regions that draw their order, taken operation by operation.
  By an AI agent.
-/
set_option linter.all false
namespace TL
open Go
def maskOf (n : Nat) (done : List Nat) : Array Bool := ((List.range n).map fun i => decide (i ∈ done)).toArray
theorem maskOf_getD (n : Nat) (done : List Nat) (j : Nat) (d : Bool) : (maskOf n done).getD j d = if j < n then decide (j ∈ done) else d := by
  unfold maskOf
  by_cases h : j < n
  · simp [h]
  · simp [h]
theorem maskOf_cons {n i : Nat} (done : List Nat) (hi : i < n) : (maskOf n done).setIfInBounds i true = maskOf n (i :: done) := by
  apply Array.ext
  · simp [maskOf]
  · intro j h1 h2
    have hj : j < n := by simpa [maskOf] using h2
    simp only [maskOf]
    by_cases hij : i = j
    · subst hij; simp
    · have : ¬ j = i := fun h => hij h.symm
      simp [Array.getElem_setIfInBounds, hij, this]
section
variable {P : Program} {ops : Array Oper} {Q : Exit → Act → World → Prop} {md : Region.Mode} {qs : Nat → Bool}
def anyX (P : Program) (md : Region.Mode) (ops : Array Oper) (qs : Nat → Bool) (Q : Exit → Act → World → Prop) : Nat → Array Bool → Act → World → Prop
  | 0, listed, a, w => Region.ready md ops listed = [] ∧ Q .normal a w
  | fuel + 1, listed, a, w => (Region.ready md ops listed = [] → Q .normal a w) ∧
    ∀ i ∈ Region.ready md ops listed, if qs i then stOp P ops w i (fun a' => anyX P md ops qs Q fuel (listed.setIfInBounds i true) a' w) a
      else wpOp P ops Q i (anyX P md ops qs Q fuel (listed.setIfInBounds i true)) a w
theorem wpAny_of_anyX : ∀ (fuel : Nat) (listed : Array Bool) (a : Act) (w : World), anyX P md ops qs Q fuel listed a w → wpAny P md ops Q fuel listed a w
  | 0, _, _, _, h => h
  | fuel + 1, listed, a, w, h => by
    refine ⟨h.1, fun i hi => ?_⟩
    have h2 := h.2 i hi
    cases hq : qs i with
    | true =>
      simp only [hq, if_true] at h2
      exact wpOp_of_stOp (fun a' h' => wpAny_of_anyX fuel _ a' w h') h2
    | false =>
      simp only [hq, Bool.false_eq_true, if_false] at h2
      exact wpOp_mono (fun a' w' h' => wpAny_of_anyX fuel _ a' w' h') h2
theorem anyX_first {i : Nat} {oi : Oper} {v : Value} {w : World} {M D : Array Bool} (hi : ops[i]? = some oi) (hsel : ∀ (j : Nat) (o : Oper) cs b, ops[j]? = some o → o.op ≠ .select cs b) (hqi : qs i = true)
    (hM : ∀ j oj, ops[j]? = some oj → M.getD j false = false → j ≠ i → ∃ e ∈ oj.after, Region.binds md e = true ∧ M.getD e.on false = false)
    (hMq : ∀ j oj, ops[j]? = some oj → M.getD j false = true → D.getD j true = false → j ≠ i → qs j = true) :
    ∀ (fuel : Nat) (listed : Array Bool) (a : Act), listed.size = ops.size → (∀ j, listed.getD j false = true → M.getD j false = true) → (∀ j, listed.getD j true = false → D.getD j true = false) →
      (∀ j oj, ops[j]? = some oj → j ≠ i → listed.getD j true = false → (∀ e ∈ oj.after, Region.binds md e = true → e.on ≠ i) → oi.apart ops oj = true) →
      i ∈ Region.ready md ops listed → YieldsAt P ops w oi v a →
      anyX P md ops qs Q fuel (listed.setIfInBounds i true) (a.put oi.dst v) w → anyX P md ops qs Q (fuel + 1) listed a w := by
  intro fuel
  induction fuel with
  | zero =>
    intro listed a _ _ _ _ hr hy H
    refine ⟨fun h => (by rw [h] at hr; cases hr), fun j hj => ?_⟩
    by_cases hji : j = i
    · subst hji; rw [if_pos hqi]; exact hy.stOp hi H
    · have := ready_mono hj hji
      rw [H.1] at this
      cases this
  | succ fuel ih =>
    intro listed a hsz hsub hD hfree hr hy H
    refine ⟨fun h => (by rw [h] at hr; cases hr), fun j hj => ?_⟩
    by_cases hji : j = i
    · subst hji; rw [if_pos hqi]; exact hy.stOp hi H
    · obtain ⟨hjun, oj, hoj, hall⟩ := mem_ready.1 hj
      have hMj : M.getD j false = true := by
        cases hm : M.getD j false with
        | true => rfl
        | false =>
          obtain ⟨e, he, hb, hn⟩ := hM j oj hoj hm hji
          have := hsub _ (hall e he hb)
          rw [hn] at this; cases this
      have hqj := hMq j oj hoj hMj (hD j hjun) hji
      have h1 := H.2 j (ready_mono hj hji)
      rw [if_pos hqj] at h1 ⊢
      have hnot : ∀ e ∈ oj.after, Region.binds md e = true → e.on ≠ i := fun e he hb heq => by
        have h1 := hall e he hb
        have h0 := (mem_ready.1 hr).1
        rw [heq] at h1
        rw [getD_both h0] at h1
        cases h1
      have h2 := stOp_put hoj (hfree j oj hoj hji hjun hnot) (fun cs b => hsel i oi cs b hi) (fun cs b => hsel j oj cs b hoj) hy h1
      have hfree' : ∀ k ok, ops[k]? = some ok → k ≠ i → (listed.setIfInBounds j true).getD k true = false →
          (∀ e ∈ ok.after, Region.binds md e = true → e.on ≠ i) → oi.apart ops ok = true := fun k ok hk hki hun hno => by
        refine hfree k ok hk hki ?_ hno
        by_cases hjk : j = k
        · subst hjk; exact hjun
        · rw [getD_set_ne true hjk] at hun; exact hun
      have hsub' : ∀ k, (listed.setIfInBounds j true).getD k false = true → M.getD k false = true := fun k hk => by
        by_cases hjk : j = k
        · subst hjk; exact hMj
        · rw [getD_set_ne false hjk] at hk; exact hsub k hk
      have hD' : ∀ k, (listed.setIfInBounds j true).getD k true = false → D.getD k true = false := fun k hk => by
        by_cases hjk : j = k
        · subst hjk; exact hD j hjun
        · rw [getD_set_ne true hjk] at hk; exact hD k hk
      refine stOp_mono (fun a' h3 => ih (listed.setIfInBounds j true) a' (by simpa using hsz) hsub' hD' hfree' (ready_mono hr (Ne.symm hji)) h3.1 ?_) h2
      rw [Array.setIfInBounds_comm _ _ hji]
      exact h3.2
def Keeps {α : Type} (s : Sem α) : Prop := ∀ (P : Program) (w : World) (x : α) (w' : World), s.run P w = .ok x w' → Bel w.heap.size w w'
theorem Keeps.bind {α β : Type} {s : Sem α} {f : α → Sem β} (h : Keeps s) (hf : ∀ a, Keeps (f a)) : Keeps (s >>= f) := by
  intro P w x w' hr
  rw [Sem.run_bind] at hr
  cases h1 : s.run P w with
  | halt e w1 => rw [h1] at hr; cases hr
  | ok a w1 =>
    rw [h1] at hr
    have k1 := h P w a w1 h1
    have k2 := hf a P w1 x w' hr
    exact k1.trans (k2.mono k1.size)
theorem Keeps.pure {α : Type} (a : α) : Keeps (Pure.pure a : Sem α) := fun P w x w' h => by
  simp only [Sem.run_pure] at h
  cases h; exact Bel.refl _ _
theorem Keeps.halt {α : Type} (e : Halt) : Keeps (Sem.halt e : Sem α) := fun P w x w' h => by cases h
theorem Keeps.stuck {α : Type} (e : String) : Keeps (Go.stuck e : Sem α) := Keeps.halt _
theorem Keeps.unsupported {α : Type} (e : Unsupported) : Keeps (Go.unsupported e : Sem α) := Keeps.halt _
theorem Keeps.program : Keeps Go.program := fun P w x w' h => by
  simp only [run_program] at h
  cases h; exact Bel.refl _ _
theorem Keeps.new (o : Obj) : Keeps (newObj o) := fun P w x w' h => by
  simp only [run_newObj] at h
  cases h
  exact (Bel.refl _ w).alloc (Nat.le_refl _) o
theorem Keeps.typeInfo (t : TypeId) : Keeps (Go.typeInfo t) := Keeps.bind Keeps.program fun p => by
  cases p.info? t with
  | some i => exact Keeps.pure i
  | none => exact Keeps.stuck _
theorem Keeps.underlying (t : TypeId) : Keeps (Go.underlying t) := Keeps.bind Keeps.program fun p => by
  cases p.underlying t with
  | some i => exact Keeps.pure i
  | none => exact Keeps.stuck _
theorem Keeps.sizeOf (t : TypeId) : Keeps (Go.sizeOf t) := Keeps.bind (Keeps.typeInfo t) fun i => Keeps.pure _
theorem Keeps.zeroValue (t : TypeId) : Keeps (Go.zeroValue t) := Keeps.bind (Keeps.typeInfo t) fun i => by
  cases i.zero with
  | some v => exact Keeps.pure v
  | none => exact Keeps.unsupported _
theorem Keeps.newVar (t : TypeId) (v : Value) : Keeps (Go.newVar t v) := Keeps.bind (Keeps.new _) fun _ => Keeps.pure _
theorem keeps_buildSlice (t : TypeId) (len : Nat) (parts : Array (Nat × Value)) : Keeps (Instr.buildSlice t len parts) := by
  unfold Instr.buildSlice
  refine Keeps.bind (Keeps.underlying t) fun d => ?_
  split
  · refine Keeps.bind (Keeps.sizeOf _) fun size => ?_
    have tail : ∀ (elem : TypeId) (zero : Array Value), Keeps (match Instr.fill (fun i => some (i * size, size)) ((Array.range (len * size)).map (zero[· % zero.size]!)) parts.toList with
        | some cells => (do pure (Value.slice (some (← newRow elem cells)) len len) : Sem Value)
        | _ => Go.stuck "buildSlice: a part of the wrong size") := fun elem zero => by
      split
      · exact Keeps.bind (Keeps.bind (Keeps.new _) fun _ => Keeps.pure _) fun _ => Keeps.pure _
      · exact Keeps.stuck _
    by_cases h1 : len * size > 2 ^ 24
    · simp only [h1, if_true]
      refine Keeps.bind (Keeps.unsupported _) fun x => ?_
      by_cases h2 : len * size = 0
      · rw [if_pos h2]
        exact Keeps.bind (Keeps.pure _) fun zero => tail _ zero
      · simp only [h2, if_false]
        exact Keeps.bind (Keeps.zeroValue _) fun _ => Keeps.bind (Keeps.pure _) fun zero => tail _ zero
    · simp only [h1, if_false]
      by_cases h2 : len * size = 0
      · rw [if_pos h2]
        exact Keeps.bind (Keeps.pure _) fun zero => tail _ zero
      · simp only [h2, if_false]
        exact Keeps.bind (Keeps.zeroValue _) fun _ => Keeps.bind (Keeps.pure _) fun zero => tail _ zero
  · exact Keeps.stuck _
theorem value_of {P : Program} {w w' : World} {s : Sem Value} {nx : Next} (h : (do pure (Next.value (← s)) : Sem Next).run P w = .ok nx w') : ∃ u, nx = .value u := by
  rw [Sem.run_bind] at h
  cases hs : s.run P w with
  | ok a w1 => rw [hs] at h; cases h; exact ⟨a, rfl⟩
  | halt e w1 => rw [hs] at h; cases h
theorem Keeps.load (a : Addr) (m : Mode) : Keeps (Go.load a m) := fun P w x w' h => by
  simp only [Go.load, Sem.run] at h
  split at h
  · cases h; exact Bel.refl _ _
  · split at h
    · cases h; exact Bel.refl _ _
    · cases h
theorem Keeps.cells (a : Addr) : ∀ (n i : Nat) (acc : Array Value), Keeps (loadCellsFrom a i n acc)
  | 0, _, _ => Keeps.pure _
  | n + 1, i, _ => Keeps.bind (Keeps.load _ _) fun _ => Keeps.cells a n (i + 1) _
theorem Keeps.isAgg (t : TypeId) : Keeps (Go.isAgg t) := Keeps.bind (Keeps.underlying t) fun d => by
  split <;> exact Keeps.pure _
theorem Keeps.error {α : Type} (m : String) : Keeps (runtimePanic (.error m) : Sem α) := Keeps.bind Keeps.program fun p => Keeps.halt _
theorem Keeps.asIntOf (v : Value) : Keeps (Go.asIntOf v) := by
  unfold Go.asIntOf
  split
  · exact Keeps.pure _
  · exact Keeps.unsupported _
  · exact Keeps.stuck _
theorem Keeps.asInt (v : Value) : Keeps (Go.asInt v) := Keeps.bind (Keeps.asIntOf v) fun _ => Keeps.pure _
theorem Keeps.choose (q : Question) : Keeps (Go.choose q) := fun P w x w' h => by
  simp only [Go.choose, Sem.run] at h
  split at h
  · cases h; exact Bel.refl _ _
  · cases h; exact ⟨rfl, rfl, rfl, Nat.le_refl _, fun _ _ => rfl, Nat.le_succ _⟩
theorem Keeps.room (n : Nat) : Keeps (askRoom n) := fun P w x w' h => by
  unfold askRoom at h
  split at h
  · simp only [Go.mark, Sem.run] at h
    cases h; exact ⟨rfl, rfl, rfl, Nat.le_refl _, fun _ _ => rfl, Nat.le_refl _⟩
  · cases h; exact Bel.refl _ _
theorem keeps_loadAt (t : TypeId) (a : Value) : Keeps (Instr.loadAt t a) := by
  unfold Instr.loadAt
  refine Keeps.bind ?_ fun b => ?_
  · unfold Instr.sureAddr
    split
    · exact Keeps.pure _
    · exact Keeps.stuck _
  · unfold loadVar
    refine Keeps.bind (Keeps.isAgg t) fun c => ?_
    split
    · exact Keeps.bind (Keeps.sizeOf t) fun n => Keeps.bind (Keeps.cells _ _ _ _) fun _ => Keeps.pure _
    · exact Keeps.load _ _
theorem keeps_makeSlice (t : TypeId) (a b : Value) : Keeps (Instr.makeSlice t a b) := by
  unfold Instr.makeSlice
  refine Keeps.bind (Keeps.underlying t) fun d => ?_
  split
  · refine Keeps.bind (Keeps.asInt _) fun l => Keeps.bind (Keeps.asInt _) fun c => Keeps.bind (Keeps.typeInfo _) fun i => ?_
    have tail : ∀ (c : Int) (l : Int) (elem : TypeId), Keeps (do
        let n := c.toNat * (← sizeOf elem)
        let zero ← if n = 0 then pure #[] else do pure (← zeroValue elem).cells
        let a ← newRow elem ((Array.range n).map (zero[· % zero.size]!))
        pure (Value.slice (some a) l.toNat c.toNat)) := fun c l elem => by
      refine Keeps.bind (Keeps.sizeOf _) fun n => ?_
      have last : ∀ zero : Array Value, Keeps (do
        let a ← newRow elem ((Array.range (c.toNat * n)).map (zero[· % zero.size]!))
        pure (Value.slice (some a) l.toNat c.toNat)) := fun zero => Keeps.bind (Keeps.bind (Keeps.new _) fun _ => Keeps.pure _) fun _ => Keeps.pure _
      by_cases h : c.toNat * n = 0
      · simp only [h, if_true]
        have := last #[]
        simp only [h] at this
        exact Keeps.bind (Keeps.pure _) fun _ => Keeps.bind (Keeps.bind (Keeps.new _) fun _ => Keeps.pure _) fun _ => Keeps.pure _
      · simp only [h, if_false]
        exact Keeps.bind (Keeps.zeroValue _) fun _ => Keeps.bind (Keeps.pure _) fun z => last z
    dsimp only
    repeat' (first
      | exact Keeps.error _
      | exact Keeps.choose _
      | exact Keeps.room _
      | exact tail _ _ _
      | exact Keeps.pure _
      | refine Keeps.bind ?_ fun _ => ?_
      | split)
  · exact Keeps.stuck _
def keepKind : Op → Bool
  | .alloc _ | .box .. | .buildSlice .. | .load .. | .makeSlice .. => true
  | _ => false
theorem keeps_kind {ρ : Operand → Value} {o : Oper} (h : keepKind o.op = true) : Keeps (execOp ρ o) := by
  obtain ⟨dst, op, ty, pos, after, g⟩ := o
  cases op <;> simp only [keepKind, Bool.false_eq_true] at h
  case alloc e => exact Keeps.bind (Keeps.bind (Keeps.zeroValue _) fun _ => Keeps.bind (Keeps.newVar _ _) fun _ => Keeps.pure _) fun _ => Keeps.pure _
  case box e x => exact Keeps.bind (Keeps.bind (Keeps.newVar _ _) fun _ => Keeps.pure _) fun _ => Keeps.pure _
  case buildSlice t n ps => exact Keeps.bind (keeps_buildSlice _ _ _) fun _ => Keeps.pure _
  case load t a => exact Keeps.bind (keeps_loadAt _ _) fun _ => Keeps.pure _
  case makeSlice t a b => exact Keeps.bind (keeps_makeSlice _ _ _) fun _ => Keeps.pure _
theorem anyX_held {i : Nat} {oi : Oper} {v : Value} {w0 : World} {M D : Array Bool} (hi : ops[i]? = some oi) (hsel : ∀ (j : Nat) (o : Oper) cs b, ops[j]? = some o → o.op ≠ .select cs b) (hqi : qs i = true)
    (hQ : ∀ c a w, Q (.panic c) (a.put oi.dst v) w → Q (.panic c) a w)
    (hM : ∀ j oj, ops[j]? = some oj → M.getD j false = false → j ≠ i → ∃ e ∈ oj.after, Region.binds md e = true ∧ M.getD e.on false = false)
    (hMq : ∀ j oj, ops[j]? = some oj → M.getD j false = true → D.getD j true = false → j ≠ i → qs j = true ∨ keepKind oj.op = true) :
    ∀ (fuel : Nat) (listed : Array Bool) (a : Act) (w : World), Bel w0.heap.size w0 w → (∀ j, listed.getD j false = true → M.getD j false = true) → (∀ j, listed.getD j true = false → D.getD j true = false) →
      (∀ j oj, ops[j]? = some oj → j ≠ i → listed.getD j true = false → (∀ e ∈ oj.after, Region.binds md e = true → e.on ≠ i) → oi.apart ops oj = true) →
      i ∈ Region.ready md ops listed → (∀ w, Bel w0.heap.size w0 w → YieldsAt P ops w oi v a) →
      anyX P md ops qs Q fuel (listed.setIfInBounds i true) (a.put oi.dst v) w → anyX P md ops qs Q (fuel + 1) listed a w := by
  intro fuel
  induction fuel with
  | zero =>
    intro listed a w hw _ _ _ hr hy H
    refine ⟨fun h => (by rw [h] at hr; cases hr), fun j hj => ?_⟩
    by_cases hji : j = i
    · subst hji; rw [if_pos hqi]; exact (hy w hw).stOp hi H
    · have := ready_mono hj hji
      rw [H.1] at this
      cases this
  | succ fuel ih =>
    intro listed a w hw hsub hD hfree hr hy H
    refine ⟨fun h => (by rw [h] at hr; cases hr), fun j hj => ?_⟩
    by_cases hji : j = i
    · subst hji; rw [if_pos hqi]; exact (hy w hw).stOp hi H
    · obtain ⟨hjun, oj, hoj, hall⟩ := mem_ready.1 hj
      have hMj : M.getD j false = true := by
        cases hm : M.getD j false with
        | true => rfl
        | false =>
          obtain ⟨e, he, hb, hn⟩ := hM j oj hoj hm hji
          have := hsub _ (hall e he hb)
          rw [hn] at this; cases this
      have hqj := hMq j oj hoj hMj (hD j hjun) hji
      have h1 := H.2 j (ready_mono hj hji)
      have hnot : ∀ e ∈ oj.after, Region.binds md e = true → e.on ≠ i := fun e he hb heq => by
        have h1 := hall e he hb
        have h0 := (mem_ready.1 hr).1
        rw [heq] at h1
        rw [getD_both h0] at h1
        cases h1
      have hap := hfree j oj hoj hji hjun hnot
      have hfree' : ∀ k ok, ops[k]? = some ok → k ≠ i → (listed.setIfInBounds j true).getD k true = false →
          (∀ e ∈ ok.after, Region.binds md e = true → e.on ≠ i) → oi.apart ops ok = true := fun k ok hk hki hun hno => by
        refine hfree k ok hk hki ?_ hno
        by_cases hjk : j = k
        · subst hjk; exact hjun
        · rw [getD_set_ne true hjk] at hun; exact hun
      have hsub' : ∀ k, (listed.setIfInBounds j true).getD k false = true → M.getD k false = true := fun k hk => by
        by_cases hjk : j = k
        · subst hjk; exact hMj
        · rw [getD_set_ne false hjk] at hk; exact hsub k hk
      have hD' : ∀ k, (listed.setIfInBounds j true).getD k true = false → D.getD k true = false := fun k hk => by
        by_cases hjk : j = k
        · subst hjk; exact hD j hjun
        · rw [getD_set_ne true hjk] at hk; exact hD k hk
      obtain ⟨g1, g2, g3⟩ := Oper.apart_spec hap
      have keep : ∀ u w, Bel w0.heap.size w0 w → YieldsAt P ops w oi v (a.put oj.dst u) := fun u w hw =>
        (hy w hw).of_same (execOp_put oi (fun cs b => hsel i oi cs b hi) a oj.dst u g3) (wanted_put oi a oj.dst u g3)
      cases hqj' : qs j with
      | true =>
        simp only [hqj', if_true] at h1 ⊢
        obtain ⟨u, hyu, hK⟩ := yieldsAt_of_stOp hoj h1
        have hyj : YieldsAt P ops w oj u a := by
          rcases hyu with ⟨k1, k2⟩ | ⟨k1, k2⟩
          · refine .inl ⟨by rw [← wanted_put oj a oi.dst v g1]; exact k1, ?_⟩
            rw [execOp_put oj (fun cs b => hsel j oj cs b hoj) a oi.dst v g1] at k2
            exact k2
          · exact .inr ⟨by rw [← wanted_put oj a oi.dst v g1]; exact k1, k2⟩
        refine hyj.stOp hoj (ih (listed.setIfInBounds j true) (a.put oj.dst u) w hw hsub' hD' hfree' (ready_mono hr (Ne.symm hji)) (keep u) ?_)
        rw [← Act.put_comm a v u g2, Array.setIfInBounds_comm _ _ hji]
        exact hK
      | false =>
        have hkk := hqj.resolve_left (by rw [hqj']; simp)
        simp only [hqj', Bool.false_eq_true, if_false] at h1 ⊢
        unfold wpOp at h1 ⊢
        simp only [hoj] at h1 ⊢
        rw [wanted_put oj a oi.dst v g1] at h1
        cases hwt : Region.wanted oj (yielded ops a.tmps) with
        | false =>
          simp only [hwt, Bool.false_eq_true, if_false] at h1 ⊢
          refine ih (listed.setIfInBounds j true) (a.put oj.dst undef) w hw hsub' hD' hfree' (ready_mono hr (Ne.symm hji)) (keep undef) ?_
          rw [← Act.put_comm a v undef g2, Array.setIfInBounds_comm _ _ hji]
          exact h1
        | true =>
          simp only [hwt, if_true] at h1 ⊢
          have hke := keeps_kind (ρ := a.eval) hkk P w
          rcases h1 with h1 | ⟨h1, h2⟩
          · left
            unfold Oper.wp at h1 ⊢
            rw [execOp_put oj (fun cs b => hsel j oj cs b hoj) a oi.dst v g1] at h1
            obtain ⟨dst, op, ty, pos, after, gd⟩ := oj
            cases hrun : (execOp a.eval ⟨dst, op, ty, pos, after, gd⟩).run P w with
            | halt x w' =>
              rw [hrun] at h1
              cases x <;> simp only [Oper.upon] at h1 ⊢
              case panic u => exact hQ _ _ _ h1
            | ok nx w' =>
              rw [hrun] at h1
              have hb := hke nx w' hrun
              have hw' : Bel w0.heap.size w0 w' := hw.trans (hb.mono hw.size)
              -- these operations yield values alone
              have hval : ∃ u, nx = .value u := by
                cases op <;> simp only [keepKind, Bool.false_eq_true] at hkk
                all_goals exact value_of hrun
              obtain ⟨u, rfl⟩ := hval
              simp only [Oper.upon] at h1 ⊢
              refine ih (listed.setIfInBounds j true) (a.put dst u) w' hw' hsub' hD' hfree' (ready_mono hr (Ne.symm hji)) (keep u) ?_
              have h3 := h1
              rw [show (a.put oi.dst v).put dst u = (a.put dst u).put oi.dst v from Act.put_comm a v u g2, Array.setIfInBounds_comm _ _ (Ne.symm hji)] at h3
              exact h3
          · right
            refine ⟨?_, h2⟩
            unfold Oper.asks at *
            rw [execOp_put oj (fun cs b => hsel j oj cs b hoj) a oi.dst v g1] at h1
            exact h1
theorem anyX_pure {i : Nat} {oi : Oper} {v : Value} (hi : ops[i]? = some oi) (hsel : ∀ (j : Nat) (o : Oper) cs b, ops[j]? = some o → o.op ≠ .select cs b) (hqi : qs i = true)
    (hQ : ∀ c a w, Q (.panic c) (a.put oi.dst v) w → Q (.panic c) a w) :
    ∀ (fuel : Nat) (listed : Array Bool) (a : Act) (w : World),
      (∀ j oj, ops[j]? = some oj → j ≠ i → listed.getD j true = false → (∀ e ∈ oj.after, Region.binds md e = true → e.on ≠ i) → oi.apart ops oj = true) →
      i ∈ Region.ready md ops listed → Yields P ops oi v a →
      anyX P md ops qs Q fuel (listed.setIfInBounds i true) (a.put oi.dst v) w → anyX P md ops qs Q (fuel + 1) listed a w := by
  have hat : ∀ {a : Act} {w : World}, Yields P ops oi v a → YieldsAt P ops w oi v a := fun {a w} hy => by
    rcases hy with ⟨h1, h2⟩ | ⟨h1, h2⟩
    · exact .inl ⟨h1, .inl (h2 w)⟩
    · exact .inr ⟨h1, h2⟩
  intro fuel
  induction fuel with
  | zero =>
    intro listed a w _ hr hy H
    refine ⟨fun h => (by rw [h] at hr; cases hr), fun j hj => ?_⟩
    by_cases hji : j = i
    · subst hji; rw [if_pos hqi]; exact (hat hy).stOp hi H
    · have := ready_mono hj hji
      rw [H.1] at this
      cases this
  | succ fuel ih =>
    intro listed a w hfree hr hy H
    refine ⟨fun h => (by rw [h] at hr; cases hr), fun j hj => ?_⟩
    by_cases hji : j = i
    · subst hji; rw [if_pos hqi]; exact (hat hy).stOp hi H
    · obtain ⟨hjun, oj, hoj, hall⟩ := mem_ready.1 hj
      have h1 := H.2 j (ready_mono hj hji)
      have hnot : ∀ e ∈ oj.after, Region.binds md e = true → e.on ≠ i := fun e he hb heq => by
        have h1 := hall e he hb
        have h0 := (mem_ready.1 hr).1
        rw [heq] at h1
        rw [getD_both h0] at h1
        cases h1
      have hap := hfree j oj hoj hji hjun hnot
      have hfree' : ∀ k ok, ops[k]? = some ok → k ≠ i → (listed.setIfInBounds j true).getD k true = false →
          (∀ e ∈ ok.after, Region.binds md e = true → e.on ≠ i) → oi.apart ops ok = true := fun k ok hk hki hun hno => by
        refine hfree k ok hk hki ?_ hno
        by_cases hjk : j = k
        · subst hjk; exact hjun
        · rw [getD_set_ne true hjk] at hun; exact hun
      cases hqj : qs j with
      | true =>
        simp only [hqj, if_true] at h1 ⊢
        -- a step that leaves the world
        have hy' := hy
        obtain ⟨g1, g2, g3⟩ := Oper.apart_spec hap
        have keep : ∀ (a : Act), Yields P ops oi v a → ∀ u, Yields P ops oi v (a.put oj.dst u) := fun a hy u =>
          hy.of_same (execOp_put oi (fun cs b => hsel i oi cs b hi) a oj.dst u g3) (wanted_put oi a oj.dst u g3)
        obtain ⟨u, hyu, hK⟩ := yieldsAt_of_stOp hoj h1
        have hyj : YieldsAt P ops w oj u a := by
          rcases hyu with ⟨k1, k2⟩ | ⟨k1, k2⟩
          · refine .inl ⟨by rw [← wanted_put oj a oi.dst v g1]; exact k1, ?_⟩
            rw [execOp_put oj (fun cs b => hsel j oj cs b hoj) a oi.dst v g1] at k2
            exact k2
          · exact .inr ⟨by rw [← wanted_put oj a oi.dst v g1]; exact k1, k2⟩
        refine hyj.stOp hoj (ih (listed.setIfInBounds j true) (a.put oj.dst u) w hfree' (ready_mono hr (Ne.symm hji)) (keep a hy u) ?_)
        rw [← Act.put_comm a v u g2, Array.setIfInBounds_comm _ _ hji]
        exact hK
      | false =>
        simp only [hqj, Bool.false_eq_true, if_false] at h1 ⊢
        have h2 := wpOp_put hoj hap (fun cs b => hsel i oi cs b hi) (fun cs b => hsel j oj cs b hoj) hQ hy h1
        refine wpOp_mono (fun a' w' h3 => ih (listed.setIfInBounds j true) a' w' hfree' (ready_mono hr (Ne.symm hji)) h3.1 ?_) h2
        rw [Array.setIfInBounds_comm _ _ hji]
        exact h3.2
end
section
variable {P : Program} {n : Nat} {l : List Oper} {qs : List Nat} {K : Fr → World → Prop} {f : Fr} {w : World} {done : List Nat} {fuel : Nat}
def wpX (P : Program) (n : Nat) (l : List Oper) (qs : List Nat) (K : Fr → World → Prop) (fuel : Nat) (done : List Nat) (f : Fr) (w : World) : Prop :=
  ∀ a, Ag n a f → anyX P .any l.toArray (fun i => decide (i ∈ qs)) (fun e a' w' => e = .normal ∧ ∃ f', Ag n a' f' ∧ K f' w') fuel (maskOf l.length done) a w
theorem run_region_x {fid : Nat} {R : Ending → World → Prop} {k : List Item} {id : Nat} (γ : Cmap) (qs : List Nat) (hm : P.follows .mixedOrders = true)
    (h : ∀ w1, Chg no γ w γ w1 → wpX P n l qs (Run P fid n R k) l.length [] f w1) : Run P fid n R (.code (.region id l.toArray true) :: k) f w :=
  run_of_wp fun a ha => wp_region_any hm (by
    have h0 := wpAny_of_anyX _ _ _ _ (h _ (Chg.refl _ _ _).drew a ha)
    have hmask : maskOf l.length [] = Array.replicate l.toArray.size false := by
      apply Array.ext
      · simp [maskOf]
      · intro j h1 h2; simp [maskOf]
    rw [hmask] at h0
    simpa using h0)
theorem region_mid {fid : Nat} {R : Ending → World → Prop} {k : List Item} {id : Nat} {σ : Type} (Mid : σ → Fr → World → Prop) (γ : Cmap) (qs : List Nat) (hm : P.follows .mixedOrders = true)
    (h : (∀ s f w, Mid s f w → Run P fid n R k f w) → ∀ w1, Chg no γ w γ w1 → wpX P n l qs (Run P fid n R k) l.length [] f w1) (hk : ∀ s f w, Mid s f w → Run P fid n R k f w) : Run P fid n R (.code (.region id l.toArray true) :: k) f w :=
  run_region_x γ qs hm (h hk)
def readyX (l : List Oper) (done : List Nat) (i : Nat) : Bool :=
  !done.contains i && match l[i]? with
    | some o => o.after.all fun e => !Region.binds .any e || done.contains e.on && decide (e.on < l.length)
    | none => false
def freeX (l : List Oper) (done : List Nat) (i : Nat) : Bool :=
  match l[i]? with
  | none => false
  | some oi => (List.range l.length).all fun j => j == i || done.contains j || match l[j]? with
      | some oj => oj.after.any (fun e => Region.binds .any e && e.on == i) || oi.apart l.toArray oj
      | none => true
def beforeX (l : List Oper) (qs done M : List Nat) (i : Nat) : Bool :=
  ((List.range l.length).all fun j => M.contains j || j == i || match l[j]? with
      | some oj => oj.after.any fun e => Region.binds .any e && !M.contains e.on
      | none => true) &&
  (M.all fun j => j == i || done.contains j || qs.contains j) && (done.all fun j => M.contains j && decide (j < l.length)) && M.all fun j => decide (j < l.length)
def noSelX (l : List Oper) : Bool := Region.noSelect l.toArray
theorem readyX_spec {i : Nat} (h : readyX l done i = true) : i < l.length ∧ i ∈ Region.ready .any l.toArray (maskOf l.length done) := by
  unfold readyX at h
  simp only [Bool.and_eq_true, Bool.not_eq_true'] at h
  obtain ⟨h1, h2⟩ := h
  split at h2
  · rename_i o ho
    have hlt : i < l.length := (List.getElem?_eq_some_iff.1 ho).1
    refine ⟨hlt, mem_ready.2 ⟨by rw [maskOf_getD]; simp [hlt]; simpa using h1, o, by simpa using ho, fun e he hb => ?_⟩⟩
    have h3 := Array.all_eq_true_iff_forall_mem.1 h2 e he
    simp only [hb, Bool.not_true, Bool.false_or, Bool.and_eq_true, decide_eq_true_eq] at h3
    rw [maskOf_getD, if_pos h3.2]
    simpa using h3.1
  · cases h2
theorem freeX_spec {i : Nat} {oi : Oper} (hi : l[i]? = some oi) (h : freeX l done i = true) (j : Nat) (oj : Oper) (hj : l.toArray[j]? = some oj) (hne : j ≠ i) (hun : (maskOf l.length done).getD j true = false)
    (hno : ∀ e ∈ oj.after, Region.binds .any e = true → e.on ≠ i) : oi.apart l.toArray oj = true := by
  have hj' : l[j]? = some oj := by simpa using hj
  have hlt : j < l.length := (List.getElem?_eq_some_iff.1 hj').1
  unfold freeX at h
  simp only [hi, List.all_eq_true, List.mem_range] at h
  have h1 := h j hlt
  rw [maskOf_getD, if_pos hlt] at hun
  have hd : done.contains j = false := by simpa using hun
  simp only [hj', Bool.or_eq_true, beq_iff_eq, hne, false_or, hd, Bool.false_eq_true] at h1
  rcases h1 with h1 | h1
  · obtain ⟨e, he, hb⟩ := Array.any_eq_true'.1 h1
    simp only [Bool.and_eq_true, beq_iff_eq] at hb
    exact absurd hb.2 (hno e he hb.1)
  · exact h1
theorem sel_spec (h : noSelX l = true) : ∀ (j : Nat) (o : Oper) cs b, l.toArray[j]? = some o → o.op ≠ .select cs b := Region.noSelect_spec h
theorem qs_mem {i : Nat} (h : qs.contains i = true) : decide (i ∈ qs) = true := by simpa using h
variable {dst : Option Tmp} {op : Op} {ty : TypeId} {pos : String} {after : Array Edge} {g : Option (Nat × Bool)} {v : Value}
theorem x_val (i : Nat) (M : List Nat) (hi : l[i]? = some ⟨dst, op, ty, pos, after, g⟩) (hn : noSelX l = true) (hc : (qs.contains i && readyX l done i && freeX l done i && beforeX l qs done M i && dok n ⟨dst, op, ty, pos, after, g⟩) = true)
    (hw : wantF l ⟨dst, op, ty, pos, after, g⟩ f = true) (h : (execOp (ev f) ⟨dst, op, ty, pos, after, g⟩).run P w = .ok (.value v) w) (hk : wpX P n l qs K fuel (i :: done) (upd f dst v) w) : wpX P n l qs K (fuel + 1) done f w := by
  simp only [Bool.and_eq_true] at hc
  obtain ⟨⟨⟨⟨hq, hr⟩, hf⟩, hb⟩, hd⟩ := hc
  obtain ⟨hlt, hr'⟩ := readyX_spec hr
  intro a ha
  unfold beforeX at hb
  simp only [Bool.and_eq_true, List.all_eq_true, List.mem_range] at hb
  obtain ⟨⟨⟨b1, b2⟩, b3⟩, b4⟩ := hb
  have hgM : ∀ j, (maskOf l.length M).getD j false = true ↔ j ∈ M := fun j => by
    rw [maskOf_getD]
    by_cases hjl : j < l.length
    · simp [hjl]
    · simp only [hjl, if_false, Bool.false_eq_true, false_iff]
      exact fun hm => hjl (by simpa using b4 j hm)
  refine anyX_first (v := v) (M := maskOf l.length M) (D := maskOf l.length done) (by simpa using hi) (sel_spec hn) (qs_mem hq) (fun j oj hj hm hne => ?_) (fun j oj hj hm hD hne => ?_) fuel _ a (by simp [maskOf]) (fun j hj => ?_) (fun j hj => hj) (freeX_spec hi hf) hr' ?_ ?_
  · have hj' : l[j]? = some oj := by simpa using hj
    have hjl : j < l.length := (List.getElem?_eq_some_iff.1 hj').1
    have h1 := b1 j hjl
    have hmM : M.contains j = false := by
      cases hc : M.contains j with
      | false => rfl
      | true => have h9 := (hgM j).2 (by simpa using hc); rw [hm] at h9; cases h9
    simp only [hmM, hj', Bool.false_or, Bool.or_eq_true, beq_iff_eq, hne, false_or] at h1
    obtain ⟨e, he, hbb⟩ := Array.any_eq_true'.1 h1
    simp only [Bool.and_eq_true, Bool.not_eq_true'] at hbb
    refine ⟨e, he, hbb.1, ?_⟩
    cases hc : (maskOf l.length M).getD e.on false with
    | false => rfl
    | true =>
      have := (hgM _).1 hc
      have h2 := hbb.2
      simp [this] at h2
  · have h1 := b2 j ((hgM j).1 hm)
    have hj' : l[j]? = some oj := by simpa using hj
    have hjl : j < l.length := (List.getElem?_eq_some_iff.1 hj').1
    rw [maskOf_getD, if_pos hjl] at hD
    have hd : done.contains j = false := by simpa using hD
    simp only [Bool.or_eq_true, beq_iff_eq, hne, hd, false_or, Bool.false_eq_true] at h1
    exact qs_mem h1
  · rw [maskOf_getD] at hj
    split at hj
    · have h1 := b3 j (by simpa using hj)
      exact (hgM j).2 (by simpa using h1.1)
    · cases hj
  · refine .inl ⟨?_, .inl ?_⟩
    · rw [ha.yielded]; exact hw
    · rw [ha.eval]; exact h
  · rw [maskOf_cons done hlt]
    exact hk _ (ha.put hd v)
def beforeH (l : List Oper) (qs done M : List Nat) (i : Nat) : Bool :=
  ((List.range l.length).all fun j => M.contains j || j == i || match l[j]? with
      | some oj => oj.after.any fun e => Region.binds .any e && !M.contains e.on
      | none => true) &&
  (M.all fun j => j == i || done.contains j || qs.contains j || match l[j]? with
      | some oj => keepKind oj.op
      | none => false) && (done.all fun j => M.contains j && decide (j < l.length)) && M.all fun j => decide (j < l.length)
theorem x_held (i : Nat) (M : List Nat) (hi : l[i]? = some ⟨dst, op, ty, pos, after, g⟩) (hn : noSelX l = true) (hc : (qs.contains i && readyX l done i && freeX l done i && beforeH l qs done M i && dok n ⟨dst, op, ty, pos, after, g⟩) = true)
    (hw : wantF l ⟨dst, op, ty, pos, after, g⟩ f = true) (h : ∀ w', Bel w.heap.size w w' → (execOp (ev f) ⟨dst, op, ty, pos, after, g⟩).run P w' = .ok (.value v) w') (hk : wpX P n l qs K fuel (i :: done) (upd f dst v) w) : wpX P n l qs K (fuel + 1) done f w := by
  simp only [Bool.and_eq_true] at hc
  obtain ⟨⟨⟨⟨hq, hr⟩, hf⟩, hb⟩, hd⟩ := hc
  obtain ⟨hlt, hr'⟩ := readyX_spec hr
  intro a ha
  unfold beforeH at hb
  simp only [Bool.and_eq_true, List.all_eq_true, List.mem_range] at hb
  obtain ⟨⟨⟨b1, b2⟩, b3⟩, b4⟩ := hb
  have hgM : ∀ j, (maskOf l.length M).getD j false = true ↔ j ∈ M := fun j => by
    rw [maskOf_getD]
    by_cases hjl : j < l.length
    · simp [hjl]
    · simp only [hjl, if_false, Bool.false_eq_true, false_iff]
      exact fun hm => hjl (by simpa using b4 j hm)
  refine anyX_held (v := v) (w0 := w) (M := maskOf l.length M) (D := maskOf l.length done) (by simpa using hi) (sel_spec hn) (qs_mem hq) (fun c a w h => by cases h.1) (fun j oj hj hm hne => ?_) (fun j oj hj hm hD hne => ?_) fuel _ a w (Bel.refl _ _) (fun j hj => ?_) (fun j hj => hj) (freeX_spec hi hf) hr' (fun w' hw' => ?_) ?_
  · have hj' : l[j]? = some oj := by simpa using hj
    have hjl : j < l.length := (List.getElem?_eq_some_iff.1 hj').1
    have h1 := b1 j hjl
    have hmM : M.contains j = false := by
      cases hc : M.contains j with
      | false => rfl
      | true => have h9 := (hgM j).2 (by simpa using hc); rw [hm] at h9; cases h9
    simp only [hmM, hj', Bool.false_or, Bool.or_eq_true, beq_iff_eq, hne, false_or] at h1
    obtain ⟨e, he, hbb⟩ := Array.any_eq_true'.1 h1
    simp only [Bool.and_eq_true, Bool.not_eq_true'] at hbb
    refine ⟨e, he, hbb.1, ?_⟩
    cases hc : (maskOf l.length M).getD e.on false with
    | false => rfl
    | true =>
      have := (hgM _).1 hc
      have h2 := hbb.2
      simp [this] at h2
  · have h1 := b2 j ((hgM j).1 hm)
    have hj' : l[j]? = some oj := by simpa using hj
    have hjl : j < l.length := (List.getElem?_eq_some_iff.1 hj').1
    rw [maskOf_getD, if_pos hjl] at hD
    have hd : done.contains j = false := by simpa using hD
    simp only [hj', Bool.or_eq_true, beq_iff_eq, hne, hd, false_or, Bool.false_eq_true] at h1
    rcases h1 with h1 | h1
    · exact .inl (qs_mem h1)
    · exact .inr h1
  · rw [maskOf_getD] at hj
    split at hj
    · have h1 := b3 j (by simpa using hj)
      exact (hgM j).2 (by simpa using h1.1)
    · cases hj
  · refine .inl ⟨?_, .inl ?_⟩
    · rw [ha.yielded]; exact hw
    · rw [ha.eval]; exact h w' hw'
  · rw [maskOf_cons done hlt]
    exact hk _ (ha.put hd v)
theorem x_pure (i : Nat) (hi : l[i]? = some ⟨dst, op, ty, pos, after, g⟩) (hn : noSelX l = true) (hc : (qs.contains i && readyX l done i && freeX l done i && dok n ⟨dst, op, ty, pos, after, g⟩) = true)
    (hw : wantF l ⟨dst, op, ty, pos, after, g⟩ f = true) (h : ∀ w, (execOp (ev f) ⟨dst, op, ty, pos, after, g⟩).run P w = .ok (.value v) w) (hk : wpX P n l qs K fuel (i :: done) (upd f dst v) w) : wpX P n l qs K (fuel + 1) done f w := by
  simp only [Bool.and_eq_true] at hc
  obtain ⟨⟨⟨hq, hr⟩, hf⟩, hd⟩ := hc
  obtain ⟨hlt, hr'⟩ := readyX_spec hr
  intro a ha
  refine anyX_pure (v := v) (by simpa using hi) (sel_spec hn) (qs_mem hq) (fun c a w h => by cases h.1) fuel _ a w (freeX_spec hi hf) hr' (.inl ⟨by rw [ha.yielded]; exact hw, fun w => by rw [ha.eval]; exact h w⟩) ?_
  rw [maskOf_cons done hlt]
  exact hk _ (ha.put hd v)
theorem wpOp_of_opT {i : Nat} {o : Oper} {a : Act} {K' : Act → World → Prop} {Q : Exit → Act → World → Prop} {N : Value → World → Prop} (ha : Ag n a f) (hi : l[i]? = some o) (hw : wantF l o f = true) (h : opT P o f w N) (hN : ∀ v w', N v w' → K' (a.put o.dst v) w') : wpOp P l.toArray Q i K' a w := by
  unfold wpOp
  have hi' : l.toArray[i]? = some o := by simpa using hi
  simp only [hi']
  have hw' : Region.wanted o (yielded l.toArray a.tmps) = true := by rw [ha.yielded]; exact hw
  simp only [hw', if_true]
  refine .inl ?_
  unfold Oper.wp
  rw [ha.eval]
  unfold opT at h
  generalize (execOp (ev f) o).run P w = r at *
  cases r with
  | halt x w' => exact h.elim
  | ok nx w' =>
    cases nx <;> simp only [uponF] at h <;> simp only [Oper.upon]
    case value v => exact hN _ _ h
    case skip => exact hN _ _ h
    case enter g args =>
      refine h.mono fun e w'' he => ?_
      cases e with
      | returned v => exact hN _ _ he
      | panicked c => exact he.elim
      | outgrown => exact he.elim
theorem x_one (i : Nat) (hi : l[i]? = some ⟨dst, op, ty, pos, after, g⟩) (hc : (decide (Region.ready .any l.toArray (maskOf l.length done) = [i]) && !qs.contains i && dok n ⟨dst, op, ty, pos, after, g⟩) = true)
    (hw : wantF l ⟨dst, op, ty, pos, after, g⟩ f = true) (h : opT P ⟨dst, op, ty, pos, after, g⟩ f w (fun v w' => wpX P n l qs K fuel (i :: done) (upd f dst v) w')) : wpX P n l qs K (fuel + 1) done f w := by
  simp only [Bool.and_eq_true, decide_eq_true_eq, Bool.not_eq_true'] at hc
  obtain ⟨⟨hr, hq⟩, hd⟩ := hc
  have hlt : i < l.length := (List.getElem?_eq_some_iff.1 hi).1
  intro a ha
  refine ⟨fun h0 => (by rw [hr] at h0; cases h0), fun j hj => ?_⟩
  rw [hr] at hj
  obtain rfl : j = i := by simpa using hj
  have hq' : decide (j ∈ qs) = false := by simpa using hq
  simp only [hq', Bool.false_eq_true, if_false]
  refine wpOp_of_opT ha hi hw h fun v w' hk => ?_
  rw [maskOf_cons done hlt]
  exact hk _ (ha.put hd v)
theorem x_two (i j : Nat) {dst' : Option Tmp} {op' : Op} {ty' : TypeId} {pos' : String} {after' : Array Edge} {g' : Option (Nat × Bool)} (hi : l[i]? = some ⟨dst, op, ty, pos, after, g⟩) (hj : l[j]? = some ⟨dst', op', ty', pos', after', g'⟩)
    (hc : (decide (Region.ready .any l.toArray (maskOf l.length done) = [i, j]) && !qs.contains i && !qs.contains j && dok n ⟨dst, op, ty, pos, after, g⟩ && dok n ⟨dst', op', ty', pos', after', g'⟩) = true)
    (hw : wantF l ⟨dst, op, ty, pos, after, g⟩ f = true) (hw' : wantF l ⟨dst', op', ty', pos', after', g'⟩ f = true)
    (h : opT P ⟨dst, op, ty, pos, after, g⟩ f w (fun v w' => wpX P n l qs K fuel (i :: done) (upd f dst v) w')) (h' : opT P ⟨dst', op', ty', pos', after', g'⟩ f w (fun v w' => wpX P n l qs K fuel (j :: done) (upd f dst' v) w')) : wpX P n l qs K (fuel + 1) done f w := by
  simp only [Bool.and_eq_true, decide_eq_true_eq, Bool.not_eq_true'] at hc
  obtain ⟨⟨⟨⟨hr, hq⟩, hq2⟩, hd⟩, hd'⟩ := hc
  have hlt : i < l.length := (List.getElem?_eq_some_iff.1 hi).1
  have hlt' : j < l.length := (List.getElem?_eq_some_iff.1 hj).1
  intro a ha
  refine ⟨fun h0 => (by rw [hr] at h0; cases h0), fun k hk => ?_⟩
  rw [hr] at hk
  have hk' : k = i ∨ k = j := by simpa using hk
  rcases hk' with rfl | rfl
  · have hq' : decide (k ∈ qs) = false := by simpa using hq
    simp only [hq', Bool.false_eq_true, if_false]
    refine wpOp_of_opT ha hi hw h fun v w' hk => ?_
    rw [maskOf_cons done hlt]
    exact hk _ (ha.put hd v)
  · have hq' : decide (k ∈ qs) = false := by simpa using hq2
    simp only [hq', Bool.false_eq_true, if_false]
    refine wpOp_of_opT ha hj hw' h' fun v w' hk => ?_
    rw [maskOf_cons done hlt']
    exact hk _ (ha.put hd' v)
theorem x_nil (hr : decide (Region.ready .any l.toArray (maskOf l.length done) = []) = true) (h : K f w) : wpX P n l qs K 0 done f w := fun _ ha => ⟨of_decide_eq_true hr, rfl, f, ha, h⟩
end
end TL
/-
  TlHold: regions that draw their order, where what is read stays: on the kit's OrdersHeld.
  By an AI agent.
-/
set_option linter.all false
namespace TL
open Go
section
variable {P : Program} {n : Nat} {l : List Oper} {S : World → Prop} {K : Fr → World → Prop} {f : Fr} {w : World} {done : List Nat} {fuel : Nat}
def wpH (P : Program) (n : Nat) (l : List Oper) (S : World → Prop) (K : Fr → World → Prop) (fuel : Nat) (done : List Nat) (f : Fr) (w : World) : Prop :=
  ∀ a, Ag n a f → wpAnyH P .any l.toArray (fun e a' w' => e = .normal ∧ ∃ f', Ag n a' f' ∧ K f' w') S fuel (maskOf l.length done) a w
theorem Chg.same {J : Col → Prop} {γ γ' : Cmap} {w w' : World} (h : Chg J γ w γ' w') : Chg J γ w γ w' := ⟨h.os, h.tape, h.output, h.size, fun _ _ _ => rfl, h.keep, h.drawn⟩
theorem run_region_h {fid : Nat} {R : Ending → World → Prop} {k : List Item} {id : Nat} (γ : Cmap) (J : Col → Prop) (hm : P.follows .mixedOrders = true)
    (h : ∀ w1, Chg no γ w γ w1 → wpH P n l (fun w' => Chg J γ w1 γ w') (Run P fid n R k) l.length [] f w1) : Run P fid n R (.code (.region id l.toArray true) :: k) f w :=
  run_of_wp fun a ha => wp_region_held hm (by
    have h0 := h _ (Chg.refl _ _ _).drew a ha
    have hmask : maskOf l.length [] = Array.replicate l.toArray.size false := by
      apply Array.ext
      · simp [maskOf]
      · intro j h1 h2; simp [maskOf]
    rw [hmask] at h0
    simpa using h0)
theorem region_midh {fid : Nat} {R : Ending → World → Prop} {k : List Item} {id : Nat} {σ : Type} (Mid : σ → Fr → World → Prop) (γ : Cmap) (J : Col → Prop) (hm : P.follows .mixedOrders = true)
    (h : (∀ s f w, Mid s f w → Run P fid n R k f w) → ∀ w1, Chg no γ w γ w1 → wpH P n l (fun w' => Chg J γ w1 γ w') (Run P fid n R k) l.length [] f w1) (hk : ∀ s f w, Mid s f w → Run P fid n R k f w) : Run P fid n R (.code (.region id l.toArray true) :: k) f w :=
  run_region_h γ J hm (h hk)
variable {dst : Option Tmp} {op : Op} {ty : TypeId} {pos : String} {after : Array Edge} {g : Option (Nat × Bool)} {v : Value}
theorem h_take (i : Nat) (hi : l[i]? = some ⟨dst, op, ty, pos, after, g⟩) (hn : noSelX l = true) (hc : (readyX l done i && freeX l done i && dok n ⟨dst, op, ty, pos, after, g⟩) = true)
    (hw : wantF l ⟨dst, op, ty, pos, after, g⟩ f = true) (hS : S w) (h : ∀ w, S w → (execOp (ev f) ⟨dst, op, ty, pos, after, g⟩).run P w = .ok (.value v) w) (hk : wpH P n l S K fuel (i :: done) (upd f dst v) w) : wpH P n l S K (fuel + 1) done f w := by
  simp only [Bool.and_eq_true] at hc
  obtain ⟨⟨hr, hf⟩, hd⟩ := hc
  obtain ⟨hlt, hr'⟩ := readyX_spec hr
  intro a ha
  refine wpAnyH_first (v := v) (by simpa using hi) (sel_spec hn) (fun c a w h => by cases h.1) fuel _ a w (freeX_spec hi hf) hr' (.inl ⟨by rw [ha.yielded]; exact hw, fun w hs => by rw [ha.eval]; exact h w hs⟩) hS ?_
  rw [maskOf_cons done hlt]
  exact hk _ (ha.put hd v)
def HOne (P : Program) (n : Nat) (l : List Oper) (S : World → Prop) (K : Fr → World → Prop) (fuel : Nat) (done : List Nat) (f : Fr) (w : World) (i : Nat) : Prop :=
  ∃ o, l[i]? = some o ∧ i < l.length ∧ (wantF l o f = true ∧ dok n o = true ∧ opT P o f w (fun v w' => S w' ∧ wpH P n l S K fuel (i :: done) (upd f o.dst v) w'))
theorem h_of (i : Nat) (hi : l[i]? = some ⟨dst, op, ty, pos, after, g⟩) (hc : dok n ⟨dst, op, ty, pos, after, g⟩ = true) (hw : wantF l ⟨dst, op, ty, pos, after, g⟩ f = true)
    (h : opT P ⟨dst, op, ty, pos, after, g⟩ f w (fun v w' => S w' ∧ wpH P n l S K fuel (i :: done) (upd f dst v) w')) : HOne P n l S K fuel done f w i :=
  ⟨_, hi, (List.getElem?_eq_some_iff.1 hi).1, hw, hc, h⟩
def HAll (P : Program) (n : Nat) (l : List Oper) (S : World → Prop) (K : Fr → World → Prop) (fuel : Nat) (done : List Nat) (f : Fr) (w : World) : List Nat → Prop
  | [] => True
  | i :: r => HOne P n l S K fuel done f w i ∧ HAll P n l S K fuel done f w r
theorem HAll.mem {L : List Nat} (h : HAll P n l S K fuel done f w L) : ∀ i ∈ L, HOne P n l S K fuel done f w i := by
  induction L with
  | nil => intro i hi; cases hi
  | cons j r ih =>
    intro i hi
    rcases List.mem_cons.1 hi with rfl | hi
    · exact h.1
    · exact ih h.2 i hi
theorem h_many (i : Nat) (L : List Nat) (hr : decide (Region.ready .any l.toArray (maskOf l.length done) = i :: L) = true) (h : HAll P n l S K fuel done f w (i :: L)) : wpH P n l S K (fuel + 1) done f w := by
  have hr := of_decide_eq_true hr
  intro a ha
  refine ⟨fun h0 => (by rw [hr] at h0; cases h0), fun k hk => ?_⟩
  rw [hr] at hk
  obtain ⟨o, hi, hlt, hw, hd, ho⟩ := h.mem k (by simpa using hk)
  obtain ⟨dst, op, ty, pos, after, g⟩ := o
  refine wpOp_of_opT ha hi hw ho fun v w' hk => ⟨hk.1, ?_⟩
  rw [maskOf_cons done hlt]
  exact hk.2 _ (ha.put hd v)
theorem h_one (i : Nat) (hi : l[i]? = some ⟨dst, op, ty, pos, after, g⟩) (hc : (decide (Region.ready .any l.toArray (maskOf l.length done) = [i]) && dok n ⟨dst, op, ty, pos, after, g⟩) = true)
    (hw : wantF l ⟨dst, op, ty, pos, after, g⟩ f = true) (h : opT P ⟨dst, op, ty, pos, after, g⟩ f w (fun v w' => S w' ∧ wpH P n l S K fuel (i :: done) (upd f dst v) w')) : wpH P n l S K (fuel + 1) done f w := by
  simp only [Bool.and_eq_true] at hc
  exact h_many i [] hc.1 ⟨h_of i hi hc.2 hw h, trivial⟩
theorem h_nil (hr : decide (Region.ready .any l.toArray (maskOf l.length done) = []) = true) (h : K f w) : wpH P n l S K 0 done f w := fun _ ha => ⟨of_decide_eq_true hr, rfl, f, ha, h⟩
end
end TL
namespace TL
open Go
end TL
/-
  TlMap: maps that the call makes.
  By an AI agent.
-/
set_option linter.all false
namespace TL
open Go
class Ky (K : Type) where
  val : K → Value
section
variable {P : Program} {f : Fr} {w : World} {dst : Option Tmp} {ty : TypeId} {pos : String} {after : Array Edge} {g : Option (Nat × Bool)} {t : TypeId} {x y z : Operand} {N : Value → World → Prop}
end
instance : Ky Int where
  val k := .int .i64 k
instance : Ky (Int × Int) where
  val k := .agg (List.toArray [.int .i64 k.1, .int .i64 k.2])
end TL
namespace TL
open Go
end TL
/-
  TlNetLaws: what follows of nets: parts of parts, subs of subs.
  By an AI agent.
-/
set_option linter.all false
namespace TL
theorem subR_ok {g : Net} {keep : List Int} (h : (subR g keep).2 = 0) : MayP g ∧ chosenS keep g.2.length = 0 ∧ subR g keep = ((g.1, keep.map (gI g.2)), 0) := by
  unfold subR at h ⊢
  by_cases hm : MayP g
  · by_cases hc : chosenS keep g.2.length = 0
    · simp [hm, hc]
    · simp [hm, hc] at h
  · simp [hm] at h
theorem gI_map {α β : Type} [Inhabited α] [Inhabited β] (f : α → β) {l : List α} {i : Int} (h0 : 0 ≤ i) (h1 : i < l.length) : gI (l.map f) i = f (gI l i) := by
  have : i.toNat < l.length := by omega
  simp [gI, this]
theorem gI_inj {l : List Int} (h : l.Nodup) {i j : Int} (hi0 : 0 ≤ i) (hi : i < l.length) (hj0 : 0 ≤ j) (hj : j < l.length) (he : gI l i = gI l j) : i = j := by
  have h1 : i.toNat < l.length := by omega
  have h2 : j.toNat < l.length := by omega
  simp [gI, h1, h2] at he
  have := (List.getElem_inj h).1 he
  omega
end TL
/-
  TlNetSums: degrees' sum; all edges, all nodes; moved there and back.
  By an AI agent.
-/
set_option linter.all false
namespace TL
def iotaI (n : Nat) : List Int := (List.range n).map fun (i : Nat) => (i : Int)
theorem iota_len (n : Nat) : (iotaI n).length = n := by simp [iotaI]
theorem iota_succ (n : Nat) : iotaI (n + 1) = iotaI n ++ [(n : Int)] := by simp [iotaI, List.range_succ]
theorem iota_mem {n : Nat} {x : Int} : x ∈ iotaI n ↔ 0 ≤ x ∧ x < n := by
  unfold iotaI
  rw [List.mem_map]
  constructor
  · rintro ⟨i, hi, rfl⟩
    have := List.mem_range.1 hi
    omega
  · rintro ⟨h1, h2⟩
    exact ⟨x.toNat, List.mem_range.2 (by omega), by omega⟩
theorem iota_gI {n : Nat} {i : Int} (h0 : 0 ≤ i) (h1 : i < n) : gI (iotaI n) i = i := by
  have : i.toNat < n := by omega
  simp [gI, iotaI, this]
  omega
theorem pigeon : ∀ (n : Nat) (l : List Int), l.Nodup → (∀ x ∈ l, 0 ≤ x ∧ x < (n : Int)) → l.length ≤ n
  | 0, l, _, h => by
    cases l with
    | nil => simp
    | cons a l => have := h a (by simp); omega
  | n + 1, l, hn, h => by
    have h1 : (l.erase (n : Int)).Nodup := hn.erase _
    have h2 := pigeon n (l.erase (n : Int)) h1 (fun x hx => by
      have h3 := hn.mem_erase_iff.1 hx
      have := h x h3.2
      omega)
    by_cases hm : (n : Int) ∈ l
    · have := List.length_erase_of_mem hm
      omega
    · rw [List.erase_of_not_mem hm] at h2
      omega
theorem all_there {n : Nat} {l : List Int} (hn : l.Nodup) (h : ∀ x ∈ l, 0 ≤ x ∧ x < (n : Int)) (hl : l.length = n) {u : Int} (h0 : 0 ≤ u) (h1 : u < n) : u ∈ l := by
  by_cases hu : u ∈ l
  · exact hu
  · have := pigeon n (u :: l) (List.nodup_cons.2 ⟨hu, hn⟩) (fun x hx => by
      rcases List.mem_cons.1 hx with rfl | hx
      · exact ⟨h0, h1⟩
      · exact h x hx)
    simp at this
    omega
theorem movedR_ok {g : Net} {to : List Int} (h : (movedR g to).2 = 0) : MayP g ∧ (to.length : Int) = g.1 ∧ chosenS to g.1 = 0 ∧ movedR g to = (renR g to g.1, 0) := by
  unfold movedR at h ⊢
  by_cases h1 : MayP g
  · by_cases h2 : (to.length : Int) = g.1
    · by_cases h3 : ∀ v ∈ to, 0 ≤ v ∧ v < g.1
      · by_cases h4 : chosenS to g.1 = 0
        · rw [if_pos h1, if_pos h2, if_pos h3, if_pos h4]; exact ⟨h1, h2, h4, rfl⟩
        · rw [if_pos h1, if_pos h2, if_pos h3, if_neg h4] at h; exact absurd h h4
      · rw [if_pos h1, if_pos h2, if_neg h3] at h; simp at h
    · rw [if_pos h1, if_neg h2] at h; simp at h
  · rw [if_neg h1] at h; simp at h
end TL
/-
  TlRef3: what the document's own answer of layer 3 goes through.
  By an AI agent.
-/
set_option linter.all false
namespace TL
def outH (g : Net) (v : Int) (h : Nat) : List Int := ((List.range h).map (fun (i : Nat) => (i : Int))).filter fun h => decide (fromS g h = v)
theorem outH_succ (g : Net) (v : Int) (h : Nat) : outH g v (h + 1) = if fromS g h = v then outH g v h ++ [(h : Int)] else outH g v h := by
  unfold outH
  rw [List.range_succ, List.map_append, List.filter_append]
  by_cases e : fromS g (h : Int) = v
  · rw [if_pos e]; simp [e]
  · rw [if_neg e]; simp [e]
theorem outH_len (g : Net) (v : Int) (h : Nat) : (outH g v h).length ≤ h := by
  unfold outH
  have := List.length_filter_le (fun h => decide (fromS g h = v)) ((List.range h).map (fun (i : Nat) => (i : Int)))
  simpa using this
theorem outH_all (g : Net) (v : Int) {h : Nat} (hh : h = 2 * g.2.length) : outH g v h = outS g v := by subst hh; rfl
theorem fromS_in {g : Net} (hm : MayP g) {h : Int} (h0 : 0 ≤ h) (h1 : h < 2 * (g.2.length : Int)) : 0 ≤ fromS g h ∧ fromS g h < g.1 := by
  have hok := hm.2.2.2 _ (gI_mem (xs := g.2) (i := h / 2) (by omega) (by omega))
  unfold okE at hok
  unfold fromS pI
  split <;> omega
end TL
/-
  TlRot: rotations: which may be, turned to their least, faces.
  By an AI agent.
-/
set_option linter.all false
namespace TL
abbrev Rot := List (List Int)
def RotP (g : Net) (r : Rot) : Prop := (r.length : Int) = g.1 ∧ (∀ v : Nat, v < r.length → ∀ h ∈ gI r (v : Int), (0 ≤ h ∧ h < 2 * (g.2.length : Int)) ∧ fromS g h = v) ∧ r.flatten.Nodup ∧ (r.flatten.length : Int) = 2 * g.2.length
instance (g : Net) (r : Rot) : Decidable (RotP g r) := by unfold RotP; infer_instance
def rmayR (g : Net) (r : Rot) : Int := if MayP g then if RotP g r then 0 else 4 else 1
theorem rmay_ok {g : Net} {r : Rot} (h : rmayR g r = 0) : MayP g ∧ RotP g r := by
  unfold rmayR at h
  by_cases h1 : MayP g
  · by_cases h2 : RotP g r
    · exact ⟨h1, h2⟩
    · rw [if_pos h1, if_neg h2] at h; cases h
  · rw [if_neg h1] at h; cases h
theorem rmay_yes {g : Net} {r : Rot} (h1 : MayP g) (h2 : RotP g r) : rmayR g r = 0 := by unfold rmayR; rw [if_pos h1, if_pos h2]
theorem rmay_no {g : Net} {r : Rot} (h1 : MayP g) (h2 : ¬ RotP g r) : rmayR g r = 4 := by unfold rmayR; rw [if_pos h1, if_neg h2]
theorem nodup_le {n : Int} {l : List Int} (h0 : 0 ≤ n) (hn : l.Nodup) (h : ∀ x ∈ l, 0 ≤ x ∧ x < n) : (l.length : Int) ≤ n := by
  have := pigeon n.toNat l hn (fun x hx => by have := h x hx; omega)
  omega
theorem flat_take_succ {r : Rot} {k : Nat} (hk : (k : Int) < r.length) : (r.take (k + 1)).flatten = (r.take k).flatten ++ gI r (k : Int) := by
  rw [take_succ_gI hk]; simp
structure RMInv (seen : List Bool) (P : List Int) (n : Int) : Prop where
  len : (seen.length : Int) = n
  seen : ∀ h, 0 ≤ h → h < n → gI seen h = decide (h ∈ P)
  nodup : P.Nodup
  rng : ∀ h ∈ P, 0 ≤ h ∧ h < n
theorem RMInv.start {n : Int} (hn : 0 ≤ n) : RMInv (List.replicate n.toNat false) [] n :=
  ⟨by simp; omega, fun h h0 h1 => by rw [gI_rep h0 (by omega)]; simp, by simp, by simp⟩
theorem RMInv.next {seen : List Bool} {P : List Int} {n h : Int} (hi : RMInv seen P n) (h0 : 0 ≤ h) (h1 : h < n) (hs : gI seen h = false) : RMInv (seen.set h.toNat true) (P ++ [h]) n := by
  have hl := hi.len
  have hn : h ∉ P := by
    have := hi.seen h h0 h1
    rw [hs] at this
    simpa using this.symm
  refine ⟨by simpa using hl, fun x hx0 hx1 => ?_, ?_, fun x hx => ?_⟩
  · rw [gI_set h0 (by omega) hx0]
    by_cases e : x = h
    · subst e; simp
    · rw [if_neg e, hi.seen x hx0 hx1]; simp [e]
  · rw [List.nodup_append]
    refine ⟨hi.nodup, by simp, fun a ha b hb => ?_⟩
    obtain rfl := List.mem_singleton.1 hb
    intro e; subst e; exact hn ha
  · rcases List.mem_append.1 hx with hx | hx
    · exact hi.rng x hx
    · obtain rfl := List.mem_singleton.1 hx; exact ⟨h0, h1⟩
theorem RMInv.bd {seen : List Bool} {P : List Int} {n : Int} (hi : RMInv seen P n) : (P.length : Int) ≤ n := nodup_le (by have := hi.len; omega) hi.nodup hi.rng
theorem RMInv.mem {seen : List Bool} {P : List Int} {n h : Int} (hi : RMInv seen P n) (h0 : 0 ≤ h) (h1 : h < n) (hs : gI seen h = true) : h ∈ P := by
  have := hi.seen h h0 h1
  rw [hs] at this
  simpa using this.symm
structure MayInv (seen : List Bool) (n : Int) (g : Net) (r : Rot) (k i : Nat) : Prop where
  rm : RMInv seen ((r.take k).flatten ++ (gI r (k : Int)).take i) (2 * (g.2.length : Int))
  n : n = (((r.take k).flatten ++ (gI r (k : Int)).take i).length : Int)
  ok : ∀ v : Nat, v < k → ∀ h ∈ gI r (v : Int), (0 ≤ h ∧ h < 2 * (g.2.length : Int)) ∧ fromS g h = v
  row : ∀ h ∈ (gI r (k : Int)).take i, (0 ≤ h ∧ h < 2 * (g.2.length : Int)) ∧ fromS g h = k
theorem MayInv.start (g : Net) (r : Rot) : MayInv (List.replicate (2 * (g.2.length : Int)).toNat false) 0 g r 0 0 :=
  ⟨by simpa using RMInv.start (n := 2 * (g.2.length : Int)) (by omega), by simp, fun v hv => by omega, by simp⟩
section
variable {seen : List Bool} {n : Int} {g : Net} {r : Rot} {k i : Nat}
theorem MayInv.bd (h : MayInv seen n g r k i) : 0 ≤ n ∧ n ≤ 2 * (g.2.length : Int) := by
  have h1 := h.rm.bd
  rw [h.n]
  exact ⟨by omega, h1⟩
theorem MayInv.next (h : MayInv seen n g r k i) (hi : (i : Int) < (gI r (k : Int)).length) (h0 : 0 ≤ gI (gI r (k : Int)) (i : Int)) (h1 : gI (gI r (k : Int)) (i : Int) < 2 * (g.2.length : Int)) (hs : gI seen (gI (gI r (k : Int)) (i : Int)) = false) (hf : fromS g (gI (gI r (k : Int)) (i : Int)) = k) :
    MayInv (seen.set (gI (gI r (k : Int)) (i : Int)).toNat true) (n + 1) g r k (i + 1) := by
  have e := take_succ_gI hi
  refine ⟨?_, ?_, h.ok, fun x hx => ?_⟩
  · rw [e, ← List.append_assoc]; exact h.rm.next h0 h1 hs
  · rw [e, ← List.append_assoc, List.length_append, h.n]; simp
  · rw [e] at hx
    rcases List.mem_append.1 hx with hx | hx
    · exact h.row x hx
    · obtain rfl := List.mem_singleton.1 hx; exact ⟨⟨h0, h1⟩, hf⟩
theorem MayInv.row_done (h : MayInv seen n g r k i) (hk : (k : Int) < r.length) (hi : ¬ (i : Int) < (gI r (k : Int)).length) : MayInv seen n g r (k + 1) 0 := by
  have e : (gI r (k : Int)).take i = gI r (k : Int) := List.take_of_length_le (by omega)
  have h1 := h.rm
  have h2 := h.n
  have h3 := h.row
  rw [e] at h1 h2 h3
  refine ⟨by rw [flat_take_succ hk]; simpa using h1, by rw [flat_take_succ hk]; simpa using h2, fun v hv x hx => ?_, by simp⟩
  by_cases hvk : v = k
  · subst hvk; exact h3 x hx
  · exact h.ok v (by omega) x hx
theorem MayInv.bad (h : MayInv seen n g r k i) (hk : (k : Int) < r.length) (hi : (i : Int) < (gI r (k : Int)).length) (hb : ¬ ((0 ≤ gI (gI r (k : Int)) (i : Int) ∧ gI (gI r (k : Int)) (i : Int) < 2 * (g.2.length : Int)) ∧ fromS g (gI (gI r (k : Int)) (i : Int)) = k)) : ¬ RotP g r := fun hr =>
  hb (hr.2.1 k (by omega) _ (gI_mem (by omega) hi))
theorem MayInv.twice (h : MayInv seen n g r k i) (hk : (k : Int) < r.length) (hi : (i : Int) < (gI r (k : Int)).length) (h0 : 0 ≤ gI (gI r (k : Int)) (i : Int)) (h1 : gI (gI r (k : Int)) (i : Int) < 2 * (g.2.length : Int)) (hs : gI seen (gI (gI r (k : Int)) (i : Int)) = true) : ¬ RotP g r := fun hr => by
  have hm := h.rm.mem h0 h1 hs
  have hn := hr.2.2.1
  have hsub : List.Sublist ((r.take k).flatten ++ (gI r (k : Int)).take i ++ [gI (gI r (k : Int)) (i : Int)]) r.flatten := by
    rw [List.append_assoc, ← take_succ_gI hi]
    have e1 : r = r.take (k + 1) ++ r.drop (k + 1) := (List.take_append_drop _ _).symm
    have e2 : r.flatten = (r.take (k + 1)).flatten ++ (r.drop (k + 1)).flatten := by rw [← List.flatten_append, ← e1]
    rw [e2, flat_take_succ hk]
    exact (List.Sublist.append_left (List.take_sublist _ _) _).trans (List.sublist_append_left _ _)
  have := hn.sublist hsub
  rw [List.nodup_append] at this
  exact this.2.2 _ hm _ (by simp) rfl
theorem MayInv.fin (h : MayInv seen n g r k i) (hl : (r.length : Int) = g.1) (hk : k = r.length) (hi : i = 0) : RotP g r ↔ n = 2 * (g.2.length : Int) := by
  subst hk hi
  have h1 := h.rm
  have h2 := h.n
  simp only [List.take_zero, List.append_nil, List.take_length] at h1 h2
  rw [h2]
  exact ⟨fun hr => hr.2.2.2, fun e => ⟨hl, h.ok, h1.nodup, e⟩⟩
end
def turnS (l : List Int) : List Int := if l = [] then [] else l.drop (l.idxOf (minL l)) ++ l.take (l.idxOf (minL l))
def canonS (r : Rot) : Rot := r.map turnS
def mirrorS (r : Rot) : Rot := canonS (r.map List.reverse)
def idxS (s : List Int) (v : Int) : Int := if v ∈ s then (s.idxOf v : Int) else -1
theorem idxS_yes {s : List Int} {v : Int} {i : Nat} (h : ∀ j : Nat, j < i → ¬ v = gI s (j : Int)) (hi : (i : Int) < s.length) (he : v = gI s (i : Int)) : (i : Int) = idxS s v := by
  have hlt : i < s.length := by omega
  have e : gI s (i : Int) = s[i] := by simp [gI, hlt]
  have hm : v ∈ s := by rw [he]; exact gI_mem (by omega) hi
  unfold idxS
  rw [if_pos hm]
  have hlt2 := List.idxOf_lt_length_iff.2 hm
  have h1 : ¬ s.idxOf v < i := fun hlt' => h _ hlt' (by simp [gI, hlt2])
  have h2 : ¬ i < s.idxOf v := fun hlt' => by
    have := List.not_of_lt_findIdx (xs := s) (p := (· == v)) (i := i) hlt'
    simp at this
    exact this (by rw [← e, ← he])
  omega
theorem idxS_no {s : List Int} {v : Int} {i : Nat} (h : ∀ j : Nat, j < i → ¬ v = gI s (j : Int)) (hi : ¬ (i : Int) < s.length) : (-1 : Int) = idxS s v := by
  unfold idxS
  rw [if_neg]
  intro hm
  obtain ⟨j, hj, e⟩ := List.mem_iff_getElem.1 hm
  exact h j (by omega) (by simp [gI, hj, e])
theorem foldl_min_mem : ∀ (l : List Int) (a : Int), l.foldl min a = a ∨ l.foldl min a ∈ l
  | [], a => .inl rfl
  | x :: l, a => by
    simp only [List.foldl_cons]
    rcases foldl_min_mem l (min a x) with h | h
    · rw [h]
      rcases Int.le_total a x with h1 | h1
      · rw [Int.min_eq_left h1]; exact .inl rfl
      · rw [Int.min_eq_right h1]; exact .inr (by simp)
    · exact .inr (by simp [h])
theorem foldl_min_le : ∀ (l : List Int) (a : Int), l.foldl min a ≤ a ∧ ∀ x ∈ l, l.foldl min a ≤ x
  | [], a => ⟨Int.le_refl _, by simp⟩
  | y :: l, a => by
    obtain ⟨h1, h2⟩ := foldl_min_le l (min a y)
    simp only [List.foldl_cons]
    refine ⟨by omega, fun x hx => ?_⟩
    rcases List.mem_cons.1 hx with rfl | hx
    · omega
    · exact h2 x hx
theorem minL_eq {l : List Int} (hl : l ≠ []) : minL l = (l.drop 1).foldl min (gI l 0) := by
  unfold minL minK; rw [List.take_length]
theorem minL_mem {l : List Int} (hl : l ≠ []) : minL l ∈ l := by
  rw [minL_eq hl]
  cases l with
  | nil => exact absurd rfl hl
  | cons a l =>
    simp only [List.drop_succ_cons, List.drop_zero]
    rcases foldl_min_mem l (gI (a :: l) 0) with h | h
    · rw [h]; simp [gI]
    · exact List.mem_cons_of_mem _ h
theorem minL_le {l : List Int} (hl : l ≠ []) {x : Int} (hx : x ∈ l) : minL l ≤ x := by
  rw [minL_eq hl]
  cases l with
  | nil => exact absurd rfl hl
  | cons a l =>
    simp only [List.drop_succ_cons, List.drop_zero]
    obtain ⟨h1, h2⟩ := foldl_min_le l (gI (a :: l) 0)
    rcases List.mem_cons.1 hx with rfl | hx
    · simpa [gI] using h1
    · exact h2 x hx
theorem turnS_idx {l : List Int} (hl : l ≠ []) : turnS l = l.drop (idxS l (minL l)).toNat ++ l.take (idxS l (minL l)).toNat ∧ 0 ≤ idxS l (minL l) ∧ idxS l (minL l) < l.length := by
  have hm := minL_mem hl
  unfold turnS idxS
  rw [if_neg hl, if_pos hm]
  have := List.idxOf_lt_length_iff.2 hm
  exact ⟨by simp, by omega, by omega⟩
structure TurnInv (at_ : Int) (l : List Int) (i : Nat) : Prop where
  lo : 0 ≤ at_
  hi : at_ < l.length ∨ at_ = 0 ∧ l = []
  le : ∀ q : Nat, q < i → q < l.length → gI l at_ ≤ gI l (q : Int)
  lt : ∀ q : Nat, (q : Int) < at_ → gI l at_ < gI l (q : Int)
theorem TurnInv.start (l : List Int) : TurnInv 0 l 0 := by
  refine ⟨by omega, ?_, fun q hq => by omega, fun q hq => by omega⟩
  cases l with
  | nil => exact .inr ⟨rfl, rfl⟩
  | cons a l => left; simp
theorem TurnInv.yes {at_ : Int} {l : List Int} {i : Nat} (h : TurnInv at_ l i) (hi : (i : Int) < l.length) (hc : gI l (i : Int) < gI l at_) : TurnInv (i : Int) l (i + 1) :=
  ⟨by omega, .inl hi, fun q hq hl => by
    by_cases e : q = i
    · subst e; omega
    · have := h.le q (by omega) hl; omega, fun q hq => by
    have := h.le q (by omega) (by omega); omega⟩
theorem TurnInv.no {at_ : Int} {l : List Int} {i : Nat} (h : TurnInv at_ l i) (hc : ¬ gI l (i : Int) < gI l at_) : TurnInv at_ l (i + 1) :=
  ⟨h.lo, h.hi, fun q hq hl => by
    by_cases e : q = i
    · subst e; omega
    · exact h.le q (by omega) hl, h.lt⟩
theorem TurnInv.done {at_ : Int} {l : List Int} {i : Nat} (h : TurnInv at_ l i) (hi : ¬ (i : Int) < l.length) : l.drop at_.toNat ++ l.take at_.toNat = turnS l := by
  rcases h.hi with hh | ⟨rfl, rfl⟩
  · have hl : l ≠ [] := fun e => by subst e; simp at hh; have := h.lo; omega
    obtain ⟨e1, e2, e3⟩ := turnS_idx hl
    have hlo := h.lo
    have hmin : minL l = gI l at_ := by
      have h1 := minL_le hl (gI_mem (xs := l) hlo hh)
      obtain ⟨j, hj, ej⟩ := List.mem_iff_getElem.1 (minL_mem hl)
      have h2 := h.le j (by omega) hj
      have e : gI l (j : Int) = l[j] := by simp [gI, hj]
      rw [e, ej] at h2
      omega
    have hat : idxS l (minL l) = at_ := by
      have := idxS_yes (s := l) (v := minL l) (i := at_.toNat) (fun j hj => by
        rw [hmin]
        have := h.lt j (by omega)
        omega) (by omega) (by rw [hmin, show ((at_.toNat : Nat) : Int) = at_ by omega])
      omega
    rw [e1, hat]
  · simp [turnS]
end TL
namespace TL
theorem map_next {α β : Type} [Inhabited α] {f : α → β} {r : List α} {k : Nat} {d y : β} (hk : (k : Int) < r.length) (hy : y = f (gI r (k : Int))) : (List.map f (List.take k r) ++ List.replicate (r.length - k) d).set (k : Int).toNat y = List.map f (List.take (k + 1) r) ++ List.replicate (r.length - (k + 1)) d := by
  have hl : (List.map f (List.take k r)).length = k := by simp; omega
  have e : r.length - k = (r.length - (k + 1)) + 1 := by omega
  rw [e, List.replicate_succ, take_succ_gI hk, List.map_append, hy]
  simp only [Int.toNat_natCast]
  rw [List.set_append_right _ _ (by omega), hl]
  simp
theorem map_skip {α β : Type} [Inhabited α] {f : α → β} {r : List α} {k : Nat} {d : β} (hk : (k : Int) < r.length) (hy : f (gI r (k : Int)) = d) : (List.map f (List.take k r) ++ List.replicate (r.length - k) d) = List.map f (List.take (k + 1) r) ++ List.replicate (r.length - (k + 1)) d := by
  have e : r.length - k = (r.length - (k + 1)) + 1 := by omega
  rw [e, List.replicate_succ, take_succ_gI hk, List.map_append, List.map_cons, hy]
  simp
end TL
/-
  TlFace: half-edges' next ones, faces.
  By an AI agent.
-/
set_option linter.all false
namespace TL
def succS (r : Rot) (h : Int) : Int :=
  match r.find? (fun l => decide (h ∈ l)) with
  | some l => gI l ((((l.idxOf h : Nat) : Int) + 1) % (l.length : Int))
  | none => 0
def nextS (g : Net) (r : Rot) : List Int := (iotaI (2 * g.2.length)).map fun k => succS r (twin k)
theorem twin_twin {h : Int} (h0 : 0 ≤ h) : twin (twin h) = h := by
  unfold twin
  by_cases e : h % 2 = 0
  · rw [if_pos e, if_neg (by omega)]; omega
  · rw [if_neg e, if_pos (by omega)]; omega
theorem twin_in {n h : Int} (h0 : 0 ≤ h) (h1 : h < 2 * n) : 0 ≤ twin h ∧ twin h < 2 * n := by
  unfold twin
  split <;> omega
theorem twin_ne {a b : Int} (ha : 0 ≤ a) (hb : 0 ≤ b) (h : twin a = twin b) : a = b := by
  have := congrArg twin h
  rwa [twin_twin ha, twin_twin hb] at this
theorem rot_row {g : Net} {r : Rot} (hr : RotP g r) {v : Nat} (hv : (v : Int) < r.length) {h : Int} (hh : h ∈ gI r (v : Int)) : r.find? (fun l => decide (h ∈ l)) = some (gI r (v : Int)) := by
  have hlt : v < r.length := by omega
  have e : gI r (v : Int) = r[v] := by simp [gI, hlt]
  rw [e] at hh ⊢
  refine List.find?_eq_some_iff_getElem.2 ⟨by simpa using hh, v, hlt, rfl, fun j hj => ?_⟩
  have hj' : j < r.length := by omega
  have h1 := (hr.2.1 v hlt h (by rw [e]; exact hh)).2
  simp only [Bool.not_eq_true', decide_eq_false_iff_not]
  intro hm
  have ej : gI r (j : Int) = r[j] := by simp [gI, hj']
  have h2 := (hr.2.1 j hj' h (by rw [ej]; exact hm)).2
  omega
theorem sub_flat : ∀ {r : Rot} {l : List Int}, l ∈ r → List.Sublist l r.flatten
  | a :: r, l, h => by
    rcases List.mem_cons.1 h with rfl | h
    · rw [List.flatten_cons]; exact List.sublist_append_left _ _
    · rw [List.flatten_cons]; exact (sub_flat h).trans (List.sublist_append_right _ _)
theorem row_nodup {g : Net} {r : Rot} (hr : RotP g r) {v : Nat} (hv : (v : Int) < r.length) : (gI r (v : Int)).Nodup := by
  have hm := gI_mem (xs := r) (i := (v : Int)) (by omega) hv
  exact hr.2.2.1.sublist (sub_flat hm)
theorem idxOf_gI {l : List Int} (hn : l.Nodup) {i : Nat} (hi : (i : Int) < l.length) : l.idxOf (gI l (i : Int)) = i := by
  have hlt : i < l.length := by omega
  have e : gI l (i : Int) = l[i] := by simp [gI, hlt]
  rw [e]
  exact hn.idxOf_getElem i hlt
theorem succS_at {g : Net} {r : Rot} (hr : RotP g r) {v i : Nat} (hv : (v : Int) < r.length) (hi : (i : Int) < (gI r (v : Int)).length) : succS r (gI (gI r (v : Int)) (i : Int)) = gI (gI r (v : Int)) (((i : Int) + 1) % ((gI r (v : Int)).length : Int)) := by
  unfold succS
  rw [rot_row hr hv (gI_mem (by omega) hi)]
  simp only
  rw [idxOf_gI (row_nodup hr hv) hi]
theorem rot_all {g : Net} {r : Rot} (hr : RotP g r) {h : Int} (h0 : 0 ≤ h) (h1 : h < 2 * (g.2.length : Int)) : ∃ v i : Nat, (v : Int) < r.length ∧ (i : Int) < (gI r (v : Int)).length ∧ gI (gI r (v : Int)) (i : Int) = h := by
  obtain ⟨a, b, c, d⟩ := hr
  have hm := all_there c (n := 2 * g.2.length) (fun x hx => by
    obtain ⟨l, hl, hxl⟩ := List.mem_flatten.1 hx
    obtain ⟨v, hv, e⟩ := List.mem_iff_getElem.1 hl
    have ev : gI r (v : Int) = l := by rw [← e]; simp [gI, hv]
    have := (b v hv x (by rw [ev]; exact hxl)).1
    omega) (by omega) h0 (by omega)
  obtain ⟨l, hl, hxl⟩ := List.mem_flatten.1 hm
  obtain ⟨v, hv, e⟩ := List.mem_iff_getElem.1 hl
  have ev : gI r (v : Int) = l := by rw [← e]; simp [gI, hv]
  obtain ⟨i, hi, e2⟩ := List.mem_iff_getElem.1 hxl
  exact ⟨v, i, by omega, by rw [ev]; omega, by rw [ev]; simp [gI, hi, e2]⟩
theorem succ_in {g : Net} {r : Rot} (hr : RotP g r) {h : Int} (h0 : 0 ≤ h) (h1 : h < 2 * (g.2.length : Int)) : 0 ≤ succS r h ∧ succS r h < 2 * (g.2.length : Int) := by
  obtain ⟨v, i, hv, hi, rfl⟩ := rot_all hr h0 h1
  rw [succS_at hr hv hi]
  have hm : 0 ≤ ((i : Int) + 1) % ((gI r (v : Int)).length : Int) ∧ ((i : Int) + 1) % ((gI r (v : Int)).length : Int) < ((gI r (v : Int)).length : Int) := ⟨Int.emod_nonneg _ (by omega), Int.emod_lt_of_pos _ (by omega)⟩
  exact (hr.2.1 v (by omega) _ (gI_mem hm.1 hm.2)).1
theorem nextS_len (g : Net) (r : Rot) : ((nextS g r).length : Int) = 2 * (g.2.length : Int) := by simp [nextS, iota_len]
theorem nextS_gI {g : Net} {r : Rot} {k : Int} (h0 : 0 ≤ k) (h1 : k < 2 * (g.2.length : Int)) : gI (nextS g r) k = succS r (twin k) := by
  unfold nextS
  rw [gI_map _ h0 (by rw [iota_len]; omega), iota_gI h0 (by omega)]
theorem nextS_in {g : Net} {r : Rot} (hr : RotP g r) {k : Int} (h0 : 0 ≤ k) (h1 : k < 2 * (g.2.length : Int)) : 0 ≤ gI (nextS g r) k ∧ gI (nextS g r) k < 2 * (g.2.length : Int) := by
  rw [nextS_gI h0 h1]
  have := twin_in h0 h1
  exact succ_in hr this.1 this.2
structure NxInv (l : List Int) (g : Net) (r : Rot) (k i : Nat) : Prop where
  len : (l.length : Int) = 2 * (g.2.length : Int)
  old : ∀ v j : Nat, v < k → (v : Int) < r.length → (j : Int) < (gI r (v : Int)).length → gI l (twin (gI (gI r (v : Int)) (j : Int))) = succS r (gI (gI r (v : Int)) (j : Int))
  row : ∀ j : Nat, j < i → (j : Int) < (gI r (k : Int)).length → gI l (twin (gI (gI r (k : Int)) (j : Int))) = succS r (gI (gI r (k : Int)) (j : Int))
theorem NxInv.start (g : Net) (r : Rot) : NxInv (List.replicate (2 * (g.2.length : Int)).toNat 0) g r 0 0 := ⟨by simp; omega, fun v j hv => by omega, fun j hj => by omega⟩
theorem NxInv.next {l : List Int} {g : Net} {r : Rot} {k i : Nat} (h : NxInv l g r k i) (hr : RotP g r) (hk : (k : Int) < r.length) (hi : (i : Int) < (gI r (k : Int)).length) :
    NxInv (l.set (twin (gI (gI r (k : Int)) (i : Int))).toNat (gI (gI r (k : Int)) (((i : Int) + 1) % ((gI r (k : Int)).length : Int)))) g r k (i + 1) := by
  have hl := h.len
  have hin := (hr.2.1 k (by omega) _ (gI_mem (xs := gI r (k : Int)) (i := (i : Int)) (by omega) hi)).1
  have ht := twin_in hin.1 hin.2
  have key : ∀ x : Int, 0 ≤ x → x < 2 * (g.2.length : Int) → gI l (twin x) = succS r x ∨ x = gI (gI r (k : Int)) (i : Int) → gI (l.set (twin (gI (gI r (k : Int)) (i : Int))).toNat (gI (gI r (k : Int)) (((i : Int) + 1) % ((gI r (k : Int)).length : Int)))) (twin x) = succS r x := by
    intro x hx0 hx1 hx
    have htx := twin_in hx0 hx1
    rw [gI_set ht.1 (by omega) htx.1]
    by_cases e : x = gI (gI r (k : Int)) (i : Int)
    · rw [if_pos (by rw [e]), e, succS_at hr hk hi]
    · rw [if_neg fun h => e (twin_ne hx0 hin.1 h)]
      exact hx.resolve_right e
  refine ⟨by simpa using hl, fun v j hv hvr hj => ?_, fun j hj hjr => ?_⟩
  · have hx := (hr.2.1 v (by omega) _ (gI_mem (xs := gI r (v : Int)) (i := (j : Int)) (by omega) hj)).1
    exact key _ hx.1 hx.2 (.inl (h.old v j hv hvr hj))
  · have hx := (hr.2.1 k (by omega) _ (gI_mem (xs := gI r (k : Int)) (i := (j : Int)) (by omega) hjr)).1
    refine key _ hx.1 hx.2 ?_
    by_cases e : j = i
    · subst e; exact .inr rfl
    · exact .inl (h.row j (by omega) hjr)
theorem NxInv.row_done {l : List Int} {g : Net} {r : Rot} {k i : Nat} (h : NxInv l g r k i) (hi : ¬ (i : Int) < (gI r (k : Int)).length) : NxInv l g r (k + 1) 0 := by
  refine ⟨h.len, fun v j hv hvr hj => ?_, fun j hj => by omega⟩
  by_cases e : v = k
  · subst e; exact h.row j (by omega) hj
  · exact h.old v j (by omega) hvr hj
theorem NxInv.done {l : List Int} {g : Net} {r : Rot} {k i : Nat} (h : NxInv l g r k i) (hr : RotP g r) (hk : ¬ (k : Int) < r.length) : l = nextS g r := by
  have hl := h.len
  have hn := nextS_len g r
  apply list_ext_gI
  · omega
  · intro q hq
    have hq1 : (q : Int) < 2 * (g.2.length : Int) := by omega
    rw [nextS_gI (by omega) hq1]
    have ht := twin_in (n := (g.2.length : Int)) (h := (q : Int)) (by omega) hq1
    obtain ⟨v, j, hv, hj, e⟩ := rot_all hr ht.1 ht.2
    have := h.old v j (by omega) hv hj
    rw [e, twin_twin (by omega)] at this
    exact this
def orbF (nx : List Int) : Nat → List Int → Int → List Int
  | 0, _, _ => []
  | n + 1, seen, k => if k ∈ seen then [] else k :: orbF nx n (seen ++ [k]) (gI nx k)
def orbS (nx : List Int) (seen : List Int) (k : Int) : List Int := orbF nx (nx.length - seen.length) seen k
def facesL (nx : List Int) : List Int → List Int → List (List Int)
  | [], _ => []
  | h :: hs, seen => if h ∈ seen then facesL nx hs seen else orbS nx seen h :: facesL nx hs (seen ++ orbS nx seen h)
def facesS (nx : List Int) (r : Rot) : List (List Int) := facesL nx (iotaI nx.length) [] ++ (r.filter fun l => decide (l.length = 0)).map fun _ => []
theorem orb_stop {nx seen : List Int} {k : Int} (h : k ∈ seen) : orbS nx seen k = [] := by
  unfold orbS
  cases nx.length - seen.length with
  | zero => rfl
  | succ n => simp [orbF, h]
theorem orb_go {nx seen : List Int} {k : Int} (h : k ∉ seen) (hl : seen.length < nx.length) : orbS nx seen k = k :: orbS nx (seen ++ [k]) (gI nx k) := by
  unfold orbS
  rw [show nx.length - seen.length = (nx.length - (seen ++ [k]).length) + 1 by simp; omega]
  simp [orbF, h]
end TL
namespace TL
theorem RMInv.low {seen : List Bool} {P : List Int} {n h : Int} (hi : RMInv seen P n) (h0 : 0 ≤ h) (h1 : h < n) (hs : ¬ gI seen h = true) : h ∉ P := by
  have := hi.seen h h0 h1
  intro hm
  rw [this] at hs
  simp [hm] at hs
structure FaInv (seen : List Bool) (l : List (List Int)) (nx : List Int) (S : List Int) (q : Nat) : Prop where
  rm : RMInv seen S nx.length
  eq : l ++ facesL nx ((iotaI nx.length).drop q) S = facesL nx (iotaI nx.length) []
  le : l.length ≤ q
theorem FaInv.start (nx : List Int) : FaInv (List.replicate nx.length false) [] nx [] 0 := by
  refine ⟨by simpa using RMInv.start (n := (nx.length : Int)) (by omega), by simp, by simp⟩
theorem iota_drop {n q : Nat} (h : (q : Int) < n) : (iotaI n).drop q = (q : Int) :: (iotaI n).drop (q + 1) := by
  have := drop_gI (xs := iotaI n) (k := q) (by rw [iota_len]; exact h)
  rw [iota_gI (by omega) h] at this
  exact this
structure OrInv (seen : List Bool) (f : List Int) (nx : List Int) (S : List Int) (q : Nat) (k : Int) : Prop where
  rm : RMInv seen (S ++ f) nx.length
  eq : f ++ orbS nx (S ++ f) k = orbS nx S (q : Int)
  k0 : 0 ≤ k
  k1 : k < nx.length
theorem OrInv.start {seen : List Bool} {l : List (List Int)} {nx S : List Int} {q : Nat} (h : FaInv seen l nx S q) (hq : (q : Int) < nx.length) : OrInv seen [] nx S q (q : Int) :=
  ⟨by simpa using h.rm, by simp, by omega, hq⟩
theorem OrInv.next {seen : List Bool} {f nx S : List Int} {q : Nat} {k : Int} (h : OrInv seen f nx S q k) (hs : ¬ gI seen k = true) (hin : 0 ≤ gI nx k ∧ gI nx k < nx.length) : OrInv (seen.set k.toNat true) (f ++ [k]) nx S q (gI nx k) ∧ f.length < nx.length := by
  have hk := h.rm.low h.k0 h.k1 hs
  have h1 := h.rm.next h.k0 h.k1 (Bool.eq_false_iff.2 hs)
  have h2 := h1.bd
  simp only [List.length_append, List.length_cons, List.length_nil] at h2
  refine ⟨⟨by rw [← List.append_assoc]; exact h1, ?_, hin.1, hin.2⟩, by omega⟩
  have h3 := h.eq
  rw [orb_go hk (by simp only [List.length_append]; omega)] at h3
  rw [← h3]
  simp [List.append_assoc]
theorem OrInv.done {seen : List Bool} {f nx S : List Int} {q : Nat} {k : Int} (h : OrInv seen f nx S q k) (hs : gI seen k = true) : f = orbS nx S (q : Int) := by
  have hk := h.rm.mem h.k0 h.k1 hs
  have h3 := h.eq
  rw [orb_stop hk, List.append_nil] at h3
  exact h3
theorem FaInv.yes {seen0 seen : List Bool} {l : List (List Int)} {nx S f : List Int} {q : Nat} {k : Int} (h : FaInv seen0 l nx S q) (ho : OrInv seen f nx S q k) (hs : gI seen k = true) (hf : 0 < (f.length : Int)) (hq : (q : Int) < nx.length) : FaInv seen (l ++ [f]) nx (S ++ f) (q + 1) := by
  have e := ho.done hs
  have hq2 : (q : Int) ∉ S := fun hm => by rw [orb_stop hm] at e; subst e; simp at hf
  refine ⟨ho.rm, ?_, by have := h.le; simp; omega⟩
  rw [← h.eq, iota_drop hq]
  simp only [facesL]
  rw [if_neg hq2, ← e]
  simp [List.append_assoc]
theorem FaInv.no {seen0 seen : List Bool} {l : List (List Int)} {nx S f : List Int} {q : Nat} {k : Int} (h : FaInv seen0 l nx S q) (ho : OrInv seen f nx S q k) (hs : gI seen k = true) (hf : ¬ 0 < (f.length : Int)) (hq : (q : Int) < nx.length) : FaInv seen l nx S (q + 1) := by
  have e := ho.done hs
  have hf0 : f = [] := List.eq_nil_of_length_eq_zero (by omega)
  subst hf0
  have hq2 : (q : Int) ∈ S := by
    by_cases hm : (q : Int) ∈ S
    · exact hm
    · have hb := h.rm
      have h1 := hb.next (h := (q : Int)) (by omega) hq (by
        have := hb.seen (q : Int) (by omega) hq
        rw [this]; simpa using hm)
      have h2 := h1.bd
      simp only [List.length_append, List.length_cons, List.length_nil] at h2
      rw [orb_go hm (by omega)] at e
      cases e
  refine ⟨by simpa using ho.rm, ?_, by have := h.le; omega⟩
  rw [← h.eq, iota_drop hq]
  simp only [facesL]
  rw [if_pos hq2]
theorem FaInv.done {seen : List Bool} {l : List (List Int)} {nx S : List Int} {q : Nat} (h : FaInv seen l nx S q) (hq : ¬ (q : Int) < nx.length) : l = facesL nx (iotaI nx.length) [] := by
  have := h.eq
  rw [List.drop_of_length_le (by rw [iota_len]; omega)] at this
  simpa [facesL] using this
theorem empty_yes {r : Rot} {p : Nat} {l L0 : List (List Int)} (hp : (p : Int) < r.length) (h : l = L0 ++ ((r.take p).filter fun l => decide (l.length = 0)).map fun _ => []) (he : ((gI r (p : Int)).length : Int) = 0) : l ++ [[]] = L0 ++ ((r.take (p + 1)).filter fun l => decide (l.length = 0)).map fun _ => [] := by
  have he' : gI r (p : Int) = [] := List.eq_nil_of_length_eq_zero (by omega)
  rw [take_succ_gI hp, List.filter_append, h, he']
  simp
theorem empty_no {r : Rot} {p : Nat} {l L0 : List (List Int)} (hp : (p : Int) < r.length) (h : l = L0 ++ ((r.take p).filter fun l => decide (l.length = 0)).map fun _ => []) (he : ¬ ((gI r (p : Int)).length : Int) = 0) : l = L0 ++ ((r.take (p + 1)).filter fun l => decide (l.length = 0)).map fun _ => [] := by
  have he' : ¬ gI r (p : Int) = [] := fun e => he (by rw [e]; rfl)
  rw [take_succ_gI hp, List.filter_append, h]
  simp [he']
theorem empty_len {r : Rot} {p : Nat} {l L0 : List (List Int)} (h : l = L0 ++ ((r.take p).filter fun l => decide (l.length = 0)).map fun _ => []) : l.length ≤ L0.length + p := by
  rw [h, List.length_append, List.length_map]
  have h1 := List.length_filter_le (fun l : List Int => decide (l.length = 0)) (r.take p)
  have h2 := List.length_take_le p r
  omega
structure RevInv (s s0 : List Int) (i : Nat) (j : Int) : Prop where
  len : s.length = s0.length
  jj : j = (s0.length : Int) - 1 - i
  out : ∀ q : Nat, q < s0.length → (q < i ∨ j < q) → gI s (q : Int) = gI s0 ((s0.length : Int) - 1 - q)
  mid : ∀ q : Nat, i ≤ q → (q : Int) ≤ j → gI s (q : Int) = gI s0 (q : Int)
theorem RevInv.start (s0 : List Int) : RevInv s0 s0 0 ((s0.length : Int) - 1) := ⟨rfl, by omega, fun q hq h => by omega, fun q _ _ => rfl⟩
theorem RevInv.next {s s0 : List Int} {i : Nat} {j : Int} (h : RevInv s s0 i j) (hij : (i : Int) < j) : RevInv ((s.set (i : Int).toNat (gI s j)).set j.toNat (gI s (i : Int))) s0 (i + 1) (j - 1) := by
  have hl := h.len
  have hj := h.jj
  have e1 := h.mid i (Nat.le_refl _) (by omega)
  have e2 := h.mid j.toNat (by omega) (by omega)
  rw [show ((j.toNat : Nat) : Int) = j by omega] at e2
  refine ⟨by simpa using hl, by omega, fun q hq hh => ?_, fun q h1 h2 => ?_⟩
  · rw [gI_set (by omega) (by simp; omega) (by omega), gI_set (by omega) (by omega) (by omega)]
    by_cases c1 : (q : Int) = j
    · rw [if_pos c1, e1]; congr 1; omega
    · by_cases c2 : (q : Int) = i
      · rw [if_neg c1, if_pos c2, e2]; congr 1; omega
      · rw [if_neg c1, if_neg c2]; exact h.out q hq (by omega)
  · rw [gI_set (by omega) (by simp; omega) (by omega), gI_set (by omega) (by omega) (by omega), if_neg (by omega), if_neg (by omega)]
    exact h.mid q (by omega) (by omega)
theorem RevInv.done {s s0 : List Int} {i : Nat} {j : Int} (h : RevInv s s0 i j) (hij : ¬ (i : Int) < j) : s = s0.reverse := by
  have hl := h.len
  have hj := h.jj
  apply list_ext_gI
  · simpa using hl
  · intro q hq
    have hr : gI s0.reverse (q : Int) = gI s0 ((s0.length : Int) - 1 - q) := by
      have hq' : q < s0.length := by omega
      have e : ((s0.length : Int) - 1 - q).toNat = s0.length - 1 - q := by omega
      have e2 : s0.length - 1 - q < s0.length := by omega
      simp [gI, hq', e, e2, List.getElem?_reverse hq']
    rw [hr]
    by_cases c : q < i ∨ j < (q : Int)
    · exact h.out q (by omega) c
    · rw [h.mid q (by omega) (by omega)]; congr 1; omega
structure OutInv (out : List (List Int)) (g : Net) (k : Nat) : Prop where
  len : (out.length : Int) = g.1
  at_ : ∀ v, 0 ≤ v → v < g.1 → gI out v = outSk g v k
theorem OutInv.start {g : Net} (h : 0 ≤ g.1) : OutInv (List.replicate g.1.toNat []) g 0 := ⟨by simp; omega, fun v h0 h1 => by rw [gI_rep h0 (by omega)]; simp [outSk]⟩
theorem OutInv.next {out : List (List Int)} {g : Net} {k : Nat} (h : OutInv out g k) (h1 : 0 ≤ (gI g.2 k).1) (h2 : (gI g.2 k).1 < g.1) (h3 : 0 ≤ (gI g.2 k).2) (h4 : (gI g.2 k).2 < g.1) {a b : Int} (ha : a = 2 * (k : Int)) (hb : b = 2 * (k : Int) + 1) :
    OutInv ((out.set (gI g.2 k).1.toNat (gI out (gI g.2 k).1 ++ [a])).set (gI g.2 k).2.toNat (gI (out.set (gI g.2 k).1.toNat (gI out (gI g.2 k).1 ++ [a])) (gI g.2 k).2 ++ [b])) g (k + 1) := by
  have hl := h.len
  refine ⟨by simpa using hl, fun v h5 h6 => ?_⟩
  rw [gI_set h3 (by simp; omega) h5, gI_set h1 (by omega) h3, gI_set h1 (by omega) h5, outSk_succ, h.at_ _ h1 h2, h.at_ _ h3 h4, h.at_ v h5 h6, ha, hb]
  by_cases e2 : v = (gI g.2 (k : Int)).2
  · by_cases e1 : v = (gI g.2 (k : Int)).1
    · rw [← e1, ← e2]; simp
    · have e3 : ¬ (gI g.2 (k : Int)).2 = (gI g.2 (k : Int)).1 := fun h => e1 (e2.trans h)
      have e6 : ¬ (gI g.2 (k : Int)).1 = (gI g.2 (k : Int)).2 := fun h => e3 h.symm
      simp [e2, e3, e6]
  · have e4 : ¬ (gI g.2 (k : Int)).2 = v := fun h => e2 h.symm
    by_cases e1 : v = (gI g.2 (k : Int)).1
    · rw [if_neg e2, if_pos e1, if_neg e4, if_pos e1.symm, ← e1]; simp
    · have e5 : ¬ (gI g.2 (k : Int)).1 = v := fun h => e1 h.symm
      rw [if_neg e2, if_neg e1, if_neg e4, if_neg e5]; simp
end TL
namespace TL
theorem set_gI {α : Type} [Inhabited α] {l : List α} {i : Int} (h0 : 0 ≤ i) (h1 : i < l.length) : l.set i.toNat (gI l i) = l := by
  have : i.toNat < l.length := by omega
  simp [gI, this]
theorem row_len {g : Net} {r : Rot} (hr : RotP g r) {k : Nat} (hk : (k : Int) < r.length) : ((gI r (k : Int)).length : Int) ≤ 2 * (g.2.length : Int) := by
  have := (sub_flat (gI_mem (xs := r) (i := (k : Int)) (by omega) hk)).length_le
  have h2 := hr.2.2.2
  omega
end TL
/-
  TlWalk: going through a net breadth first, and its components, as the program does.
  By an AI agent.
-/
set_option linter.all false
namespace TL
def toS (g : Net) (h : Int) : Int := pI (gI g.2 (h / 2)) (1 - h % 2)
theorem toS_in {g : Net} (hm : MayP g) {h : Int} (h0 : 0 ≤ h) (h1 : h < 2 * (g.2.length : Int)) : 0 ≤ toS g h ∧ toS g h < g.1 := by
  have hok := hm.2.2.2 _ (gI_mem (xs := g.2) (i := h / 2) (by omega) (by omega))
  unfold okE at hok
  unfold toS pI
  split <;> omega
structure Bf where
  order : List Int
  by_ : List Int
  far : List Int
def bfOne (g : Net) (v : Int) (s : Bf) (h : Int) : Bf :=
  if gI s.far (toS g h) < 0 then ⟨s.order ++ [toS g h], s.by_.set (toS g h).toNat h, s.far.set (toS g h).toNat (gI s.far v + 1)⟩ else s
def bfRow (g : Net) (v : Int) (s : Bf) : Bf := (outS g v).foldl (bfOne g v) s
def bfGo (g : Net) : Nat → Nat → Bf → Bf
  | 0, _, s => s
  | n + 1, i, s => if i < s.order.length then bfGo g n (i + 1) (bfRow g (gI s.order (i : Int)) s) else s
def bfStart (g : Net) (s0 : Int) : Bf := ⟨[s0], List.replicate g.1.toNat (-1), (List.replicate g.1.toNat (-1)).set s0.toNat 0⟩
def breadthS (g : Net) (s0 : Int) : Bf := bfGo g g.1.toNat 0 (bfStart g s0)
structure BfOk (g : Net) (s : Bf) : Prop where
  far : (s.far.length : Int) = g.1
  by_ : (s.by_.length : Int) = g.1
  nodup : s.order.Nodup
  rng : ∀ x ∈ s.order, 0 ≤ x ∧ x < g.1
  iff : ∀ w, 0 ≤ w → w < g.1 → (gI s.far w < 0 ↔ w ∉ s.order)
  le : ∀ w, 0 ≤ w → w < g.1 → gI s.far w ≤ s.order.length
theorem BfOk.start {g : Net} {s0 : Int} (h0 : 0 ≤ s0) (h1 : s0 < g.1) : BfOk g (bfStart g s0) := by
  refine ⟨by simp [bfStart]; omega, by simp [bfStart]; omega, by simp [bfStart], by simp [bfStart]; omega, fun w hw0 hw1 => ?_, fun w hw0 hw1 => ?_⟩
  · simp only [bfStart]
    rw [gI_set h0 (by simp; omega) hw0]
    by_cases e : w = s0
    · subst e; simp
    · rw [if_neg e, gI_rep hw0 (by omega)]; simp [e]
  · simp only [bfStart]
    rw [gI_set h0 (by simp; omega) hw0]
    by_cases e : w = s0
    · subst e; simp
    · rw [if_neg e, gI_rep hw0 (by omega)]; simp
theorem BfOk.len {g : Net} {s : Bf} (h : BfOk g s) (hg : 0 ≤ g.1) : (s.order.length : Int) ≤ g.1 := nodup_le hg h.nodup h.rng
theorem BfOk.one {g : Net} {s : Bf} {v h : Int} (hs : BfOk g s) (hv : v ∈ s.order) (h0 : 0 ≤ toS g h) (h1 : toS g h < g.1) : BfOk g (bfOne g v s h) := by
  obtain ⟨hv0, hv1⟩ := hs.rng v hv
  unfold bfOne
  by_cases c : gI s.far (toS g h) < 0
  · rw [if_pos c]
    have hn := (hs.iff _ h0 h1).1 c
    have hf := hs.far
    have hlv := hs.le v hv0 hv1
    refine ⟨by simpa using hs.far, by simpa using hs.by_, ?_, fun x hx => ?_, fun w hw0 hw1 => ?_, fun w hw0 hw1 => ?_⟩
    · rw [List.nodup_append]
      refine ⟨hs.nodup, by simp, fun a ha b hb => ?_⟩
      obtain rfl := List.mem_singleton.1 hb
      intro e; subst e; exact hn ha
    · rcases List.mem_append.1 hx with hx | hx
      · exact hs.rng x hx
      · obtain rfl := List.mem_singleton.1 hx; exact ⟨h0, h1⟩
    · simp only
      rw [gI_set h0 (by omega) hw0]
      by_cases e : w = toS g h
      · subst e
        rw [if_pos rfl]
        have hx : ¬ gI s.far v < 0 := fun hh => (hs.iff v hv0 hv1).1 hh hv
        constructor
        · intro hh; omega
        · intro hh; simp at hh
      · rw [if_neg e, hs.iff w hw0 hw1]; simp [e]
    · simp only
      rw [gI_set h0 (by omega) hw0]
      by_cases e : w = toS g h
      · subst e; rw [if_pos rfl]; simp; omega
      · rw [if_neg e]
        have := hs.le w hw0 hw1
        simp; omega
  · rw [if_neg c]; exact hs
end TL
namespace TL
theorem outS_in {g : Net} {v h : Int} (hh : h ∈ outS g v) : (0 ≤ h ∧ h < 2 * (g.2.length : Int)) ∧ fromS g h = v := by
  unfold outS outSk at hh
  obtain ⟨h1, h2⟩ := List.mem_filter.1 hh
  obtain ⟨k, hk, rfl⟩ := List.mem_map.1 h1
  have := List.mem_range.1 hk
  exact ⟨by omega, by simpa using h2⟩
theorem bfOne_pre (g : Net) (v : Int) (s : Bf) (h : Int) : ∃ t, (bfOne g v s h).order = s.order ++ t := by
  unfold bfOne
  split
  · exact ⟨_, rfl⟩
  · exact ⟨[], by simp⟩
structure RowInv (s : Bf) (g : Net) (s0 : Bf) (v : Int) (j : Nat) : Prop where
  eq : s = ((outS g v).take j).foldl (bfOne g v) s0
  ok : BfOk g s
  mem : v ∈ s.order
  pre : ∃ t, s.order = s0.order ++ t
theorem RowInv.start {g : Net} {s0 : Bf} {v : Int} (h : BfOk g s0) (hv : v ∈ s0.order) : RowInv s0 g s0 v 0 := ⟨rfl, h, hv, [], by simp⟩
theorem RowInv.next {s s0 : Bf} {g : Net} {v : Int} {j : Nat} (h : RowInv s g s0 v j) (hm : MayP g) (hj : (j : Int) < (outS g v).length) : RowInv (bfOne g v s (gI (outS g v) (j : Int))) g s0 v (j + 1) := by
  have hin := (outS_in (gI_mem (xs := outS g v) (i := (j : Int)) (by omega) hj)).1
  have ht := toS_in hm hin.1 hin.2
  obtain ⟨t, ht2⟩ := h.pre
  obtain ⟨t', ht3⟩ := bfOne_pre g v s (gI (outS g v) (j : Int))
  refine ⟨by rw [take_succ_gI hj, List.foldl_append, ← h.eq]; rfl, h.ok.one h.mem ht.1 ht.2, by rw [ht3]; simp [h.mem], t ++ t', by rw [ht3, ht2, List.append_assoc]⟩
theorem RowInv.done {s s0 : Bf} {g : Net} {v : Int} {j : Nat} (h : RowInv s g s0 v j) (hj : ¬ (j : Int) < (outS g v).length) : s = bfRow g v s0 := by
  rw [h.eq, List.take_of_length_le (by omega)]; rfl
structure GoInv (s : Bf) (g : Net) (s0 : Int) (i : Nat) : Prop where
  ok : BfOk g s
  le : (i : Int) ≤ s.order.length
  eq : bfGo g (g.1.toNat - i) i s = breadthS g s0
theorem GoInv.start {g : Net} {s0 : Int} (h0 : 0 ≤ s0) (h1 : s0 < g.1) : GoInv (bfStart g s0) g s0 0 := ⟨BfOk.start h0 h1, by omega, rfl⟩
theorem GoInv.next {s s' : Bf} {g : Net} {s0 : Int} {i j : Nat} (h : GoInv s g s0 i) (hg : 0 ≤ g.1) (hi : (i : Int) < s.order.length) (hr : RowInv s' g s (gI s.order (i : Int)) j) (hj : ¬ (j : Int) < (outS g (gI s.order (i : Int))).length) : GoInv s' g s0 (i + 1) := by
  obtain ⟨t, ht⟩ := hr.pre
  have hl := h.ok.len hg
  refine ⟨hr.ok, by rw [ht]; simp; omega, ?_⟩
  rw [← h.eq, show g.1.toNat - i = (g.1.toNat - (i + 1)) + 1 by omega]
  simp only [bfGo]
  rw [if_pos (by omega), hr.done hj]
theorem GoInv.done {s : Bf} {g : Net} {s0 : Int} {i : Nat} (h : GoInv s g s0 i) (hi : ¬ (i : Int) < s.order.length) : s = breadthS g s0 := by
  rw [← h.eq]
  cases g.1.toNat - i with
  | zero => rfl
  | succ n => simp only [bfGo]; rw [if_neg (by omega)]
def partOne (g : Net) (p : List Int × Int) (v : Int) : List Int × Int :=
  if 0 ≤ gI p.1 v then p else ((breadthS g v).order.foldl (fun l w => l.set w.toNat p.2) p.1, p.2 + 1)
def partsK (g : Net) (k : Nat) : List Int × Int := (iotaI k).foldl (partOne g) (List.replicate g.1.toNat (-1), 0)
def partsR (g : Net) : List Int × Int × Int := if MayP g then ((partsK g g.1.toNat).1, (partsK g g.1.toNat).2, 0) else ([], 0, 1)
theorem partsK_succ (g : Net) (k : Nat) : partsK g (k + 1) = partOne g (partsK g k) (k : Int) := by
  unfold partsK
  rw [iota_succ, List.foldl_append]; rfl
theorem parts_len (g : Net) : ∀ k : Nat, (partsK g k).1.length = g.1.toNat ∧ 0 ≤ (partsK g k).2 ∧ (partsK g k).2 ≤ k := by
  intro k
  induction k with
  | zero => simp [partsK, iotaI]
  | succ k ih =>
    rw [partsK_succ]
    unfold partOne
    have key : ∀ (l : List Int) (p : List Int) (x : Int), (l.foldl (fun l w => l.set w.toNat x) p).length = p.length := by
      intro l
      induction l with
      | nil => intro p x; rfl
      | cons a l ih => intro p x; rw [List.foldl_cons, ih]; simp
    split
    · exact ⟨ih.1, ih.2.1, by omega⟩
    · simp only
      rw [key]
      exact ⟨ih.1, by omega, by omega⟩
theorem set_fold_succ {l p : List Int} {x : Int} {k : Nat} (hk : (k : Int) < l.length) : (l.take (k + 1)).foldl (fun l w => l.set w.toNat x) p = ((l.take k).foldl (fun l w => l.set w.toNat x) p).set (gI l (k : Int)).toNat x := by
  rw [take_succ_gI hk, List.foldl_append]; rfl
theorem set_fold_len (x : Int) : ∀ (l p : List Int), (l.foldl (fun l w => l.set w.toNat x) p).length = p.length
  | [], p => rfl
  | a :: l, p => by rw [List.foldl_cons, set_fold_len x l]; simp
def genusR (g : Net) (r : Rot) : Int × Int :=
  if rmayR g r = 0 then (Int.tdiv (2 * (partsR g).2.1 - g.1 + (g.2.length : Int) - ((facesS (nextS g r) r).length : Int)) 2, 0) else (0, rmayR g r)
def facesR (g : Net) (r : Rot) : List (List Int) × Int := if rmayR g r = 0 then (facesS (nextS g r) r, 0) else ([], rmayR g r)
def mirrorR (g : Net) (r : Rot) : Rot × Int := if rmayR g r = 0 then (mirrorS r, 0) else ([], rmayR g r)
def canonR (g : Net) (r : Rot) : Rot × Int := if rmayR g r = 0 then (canonS r, 0) else ([], rmayR g r)
end TL
namespace TL
theorem fill_next {k n : Nat} {x : Int} (hk : k < n) : (List.replicate k x ++ List.replicate (n - k) 0).set (k : Int).toNat x = List.replicate (k + 1) x ++ List.replicate (n - (k + 1)) (0 : Int) := by
  have e : n - k = (n - (k + 1)) + 1 := by omega
  rw [e, List.replicate_succ]
  simp only [Int.toNat_natCast]
  rw [List.set_append_right _ _ (by simp)]
  simp only [List.length_replicate, Nat.sub_self, List.set_cons_zero]
  rw [List.replicate_succ']
  simp
theorem OutInv.rl {out : List (List Int)} {g : Net} {k : Nat} (h : OutInv out g k) {v : Int} (h0 : 0 ≤ v) (h1 : v < g.1) : ((gI out v).length : Int) ≤ 2 * (k : Int) := by
  rw [h.at_ v h0 h1]
  have := outSk_len g v k
  omega
theorem OutInv.rl2 {out : List (List Int)} {g : Net} {k : Nat} (h : OutInv out g k) {u v : Int} (h2 : 0 ≤ u) (h3 : u < g.1) (h0 : 0 ≤ v) (h1 : v < g.1) (a : Int) : ((gI (out.set u.toNat (gI out u ++ [a])) v).length : Int) ≤ 2 * (k : Int) + 1 := by
  have hl := h.len
  rw [gI_set h2 (by omega) h0]
  split
  · have := h.rl h2 h3; simp; omega
  · have := h.rl h0 h1; omega
theorem OutInv.done {out : List (List Int)} {g : Net} {k : Nat} (h : OutInv out g k) (hk : k = g.2.length) : ∀ v, 0 ≤ v → v < g.1 → gI out v = outS g v := fun v h0 h1 => by
  subst hk; exact h.at_ v h0 h1
theorem RowInv.yes {O B F : List Int} {s0 : Bf} {g : Net} {v h : Int} {j : Nat} (hr : RowInv ⟨O, B, F⟩ g s0 v j) (hm : MayP g) (hj : (j : Int) < (outS g v).length) (hh : h = gI (outS g v) (j : Int)) (c : gI F (toS g h) < 0) : RowInv ⟨O ++ [toS g h], B.set (toS g h).toNat h, F.set (toS g h).toNat (gI F v + 1)⟩ g s0 v (j + 1) := by
  have h1 := hr.next hm hj
  rw [← hh] at h1
  unfold bfOne at h1
  rw [if_pos (show gI (Bf.mk O B F).far (toS g h) < 0 from c)] at h1
  exact h1
theorem RowInv.no {O B F : List Int} {s0 : Bf} {g : Net} {v h : Int} {j : Nat} (hr : RowInv ⟨O, B, F⟩ g s0 v j) (hm : MayP g) (hj : (j : Int) < (outS g v).length) (hh : h = gI (outS g v) (j : Int)) (c : ¬ gI F (toS g h) < 0) : RowInv ⟨O, B, F⟩ g s0 v (j + 1) := by
  have h1 := hr.next hm hj
  rw [← hh] at h1
  unfold bfOne at h1
  rw [if_neg (show ¬ gI (Bf.mk O B F).far (toS g h) < 0 from c)] at h1
  exact h1
theorem RowInv.facts {O B F : List Int} {s0 : Bf} {g : Net} {v : Int} {j : Nat} (hr : RowInv ⟨O, B, F⟩ g s0 v j) (hg : 0 ≤ g.1) : (F.length : Int) = g.1 ∧ (B.length : Int) = g.1 ∧ (O.length : Int) ≤ g.1 ∧ (0 ≤ v ∧ v < g.1) ∧ gI F v ≤ O.length ∧ ¬ gI F v < 0 := by
  have h1 := hr.ok
  have hv := h1.rng v hr.mem
  exact ⟨h1.far, h1.by_, h1.len hg, hv, h1.le v hv.1 hv.2, fun hh => (h1.iff v hv.1 hv.2).1 hh hr.mem⟩
theorem GoInv.facts {O B F : List Int} {g : Net} {s0 : Int} {i : Nat} (hr : GoInv ⟨O, B, F⟩ g s0 i) (hg : 0 ≤ g.1) : (F.length : Int) = g.1 ∧ (B.length : Int) = g.1 ∧ (O.length : Int) ≤ g.1 ∧ (i : Int) ≤ O.length := ⟨hr.ok.far, hr.ok.by_, hr.ok.len hg, hr.le⟩
theorem GoInv.node {O B F : List Int} {g : Net} {s0 : Int} {i : Nat} (hr : GoInv ⟨O, B, F⟩ g s0 i) (hi : (i : Int) < O.length) : 0 ≤ gI O (i : Int) ∧ gI O (i : Int) < g.1 := hr.ok.rng _ (gI_mem (by omega) hi)
theorem GoInv.row {O B F : List Int} {g : Net} {s0 : Int} {i : Nat} (hr : GoInv ⟨O, B, F⟩ g s0 i) (hi : (i : Int) < O.length) : RowInv ⟨O, B, F⟩ g ⟨O, B, F⟩ (gI O (i : Int)) 0 := RowInv.start hr.ok (gI_mem (by omega) hi)
theorem breadth_ok {g : Net} {s0 : Int} {O B F : List Int} {i : Nat} (h : GoInv ⟨O, B, F⟩ g s0 i) (hi : ¬ (i : Int) < O.length) : O = (breadthS g s0).order ∧ ∀ x ∈ O, 0 ≤ x ∧ x < g.1 := ⟨congrArg Bf.order (h.done hi), h.ok.rng⟩
end TL
namespace TL
theorem parts_skip {g : Net} {part : List Int} {n : Int} {q : Nat} (h : part = (partsK g q).1 ∧ n = (partsK g q).2) (c : 0 ≤ gI part (q : Int)) : part = (partsK g (q + 1)).1 ∧ n = (partsK g (q + 1)).2 := by
  have h1 : partsK g (q + 1) = partsK g q := by
    rw [partsK_succ]
    unfold partOne
    rw [if_pos (by rw [← h.1]; exact c)]
  rw [h1]; exact h
theorem parts_do {g : Net} {part part2 O : List Int} {n : Int} {q j : Nat} (h : part = (partsK g q).1 ∧ n = (partsK g q).2) (c : ¬ 0 ≤ gI part (q : Int)) (hO : O = (breadthS g (q : Int)).order) (hp : part2 = (O.take j).foldl (fun l w => l.set w.toNat n) part) (hj : ¬ (j : Int) < O.length) : part2 = (partsK g (q + 1)).1 ∧ n + 1 = (partsK g (q + 1)).2 := by
  rw [List.take_of_length_le (by omega)] at hp
  have h1 : partsK g (q + 1) = ((breadthS g (q : Int)).order.foldl (fun l w => l.set w.toNat (partsK g q).2) (partsK g q).1, (partsK g q).2 + 1) := by
    rw [partsK_succ]
    unfold partOne
    rw [if_neg (by rw [← h.1]; exact c)]
  rw [h1]
  exact ⟨by rw [hp, hO, h.1, h.2], by rw [h.2]⟩
theorem partsR_yes {g : Net} (hm : MayP g) {q : Nat} (hq : (q : Int) = g.1) {part : List Int} {n : Int} (h : part = (partsK g q).1 ∧ n = (partsK g q).2) : part = (partsR g).1 ∧ n = (partsR g).2.1 ∧ 0 = (partsR g).2.2 := by
  have e : q = g.1.toNat := by omega
  subst e
  unfold partsR
  rw [if_pos hm]
  exact ⟨h.1, h.2, rfl⟩
theorem partsR_bd (g : Net) (hm : MayP g) : 0 ≤ (partsR g).2.1 ∧ (partsR g).2.1 ≤ g.1 := by
  unfold partsR
  rw [if_pos hm]
  have := parts_len g g.1.toNat
  have h2 := hm.1
  exact ⟨this.2.1, by show (partsK g g.1.toNat).2 ≤ g.1; omega⟩
theorem facesL_len (nx : List Int) : ∀ (l S : List Int), (facesL nx l S).length ≤ l.length
  | [], S => by simp [facesL]
  | h :: l, S => by
    simp only [facesL]
    split
    · have := facesL_len nx l S; simp; omega
    · have := facesL_len nx l (S ++ orbS nx S h); simp; omega
theorem facesS_len (nx : List Int) (r : Rot) : (facesS nx r).length ≤ nx.length + r.length := by
  unfold facesS
  have h1 := facesL_len nx (iotaI nx.length) []
  rw [iota_len] at h1
  have h2 := List.length_filter_le (fun l : List Int => decide (l.length = 0)) r
  rw [List.length_append, List.length_map]
  omega
end TL
namespace TL
def threeS : Net := (2, [(0, 1), (0, 1), (0, 1)])
end TL
/-
  TlInts: lists that are kept, written full, and read again.
  By an AI agent.
-/
set_option linter.all false
namespace TL
def KInv (K : List (List Int)) (s : Int) : Prop := (K.length : Int) ≤ s ∧ s ≤ 1048576 ∧ ∀ l ∈ K, l.length ≤ 1048576
theorem KInv.nil : KInv [] 0 := ⟨by simp, by omega, by simp⟩
theorem KInv.add {K : List (List Int)} {s n : Int} {l : List Int} (h : KInv K s) (h0 : 0 < n) (h1 : s + n ≤ 1048576) (hl : (l.length : Int) ≤ n) : KInv (K ++ [l]) (s + n) := by
  obtain ⟨a, b, c⟩ := h
  refine ⟨by simp; omega, h1, fun x hx => ?_⟩
  rcases List.mem_append.1 hx with hx | hx
  · exact c x hx
  · obtain rfl := List.mem_singleton.1 hx
    omega
theorem KInv.len {K : List (List Int)} {s : Int} (h : KInv K s) : (K.length : Int) ≤ s ∧ s ≤ 1048576 ∧ 0 ≤ s := by
  obtain ⟨a, b, c⟩ := h
  omega
structure ApInv (L : List (List Int)) (i : Nat) : Prop where
  le : (i : Int) ≤ L.length
  few : L.length ≤ 1048576
  done : ∀ r : Nat, r < i → ∀ q : Nat, q < (gI L r).length → gI (gI L (r : Int)) (q : Int) = -1000 - (r : Int)
  rest : ∀ r : Nat, i ≤ r → r < L.length → (gI L (r : Int)).length ≤ 1048576
theorem KInv.ap {K : List (List Int)} {s : Int} (h : KInv K s) : ApInv K 0 := by
  obtain ⟨a, b, c⟩ := h
  refine ⟨by simp, by omega, fun r hr => by omega, fun r _ hr => c _ (gI_mem (by omega) (by omega))⟩
structure GrInv (L1 L : List (List Int)) (i : Nat) (n : Int) : Prop where
  len : L1.length = L.length
  le : ((gI L1 i).length : Int) ≤ 1050577
  other : ∀ r : Nat, r ≠ i → gI L1 (r : Int) = gI L (r : Int)
theorem GrInv.start {L : List (List Int)} {i : Nat} {n : Int} (h : ApInv L i) (hi : (i : Int) < L.length) : GrInv L L i n := ⟨rfl, by have := h.rest i (Nat.le_refl _) (by omega); omega, fun r _ => rfl⟩
theorem gI_set_other {α : Type} [Inhabited α] {L : List α} {i r : Nat} {x : α} (h : r ≠ i) : gI (L.set i x) (r : Int) = gI L (r : Int) := by
  simp [gI, List.getElem?_set_ne (Ne.symm h)]
theorem gI_set_same {α : Type} [Inhabited α] {L : List α} {i : Nat} {x : α} (h : (i : Int) < L.length) : gI (L.set i x) (i : Int) = x := by
  simp [gI, show i < L.length by omega]
theorem GrInv.next {L1 L : List (List Int)} {i : Nat} {n : Int} (h : GrInv L1 L i n) (hi : (i : Int) < L.length) (hn : ((gI L1 i).length : Int) < n) (hb : n ≤ 1050577) : GrInv (L1.set (i : Int).toNat (gI L1 i ++ [0])) L i n := by
  have hl := h.len
  refine ⟨by simpa using hl, ?_, fun r hr => ?_⟩
  · simp only [Int.toNat_natCast]
    rw [gI_set_same (by omega)]; simp; omega
  · simp only [Int.toNat_natCast]
    rw [gI_set_other hr, h.other r hr]
theorem GrInv.meas {L1 L : List (List Int)} {i : Nat} {n : Int} (h : GrInv L1 L i n) (hi : (i : Int) < L.length) : ((gI (L1.set (i : Int).toNat (gI L1 i ++ [0])) i).length : Int) = (gI L1 i).length + 1 := by
  have hl := h.len
  simp only [Int.toNat_natCast]
  rw [gI_set_same (by omega)]; simp
structure WrInv (L2 L : List (List Int)) (i : Nat) (k : Nat) : Prop where
  len : L2.length = L.length
  le : (k : Int) ≤ (gI L2 (i : Int)).length
  few : ((gI L2 i).length : Int) ≤ 1050577
  done : ∀ q : Nat, q < k → gI (gI L2 (i : Int)) (q : Int) = -1000 - (i : Int)
  other : ∀ r : Nat, r ≠ i → gI L2 (r : Int) = gI L (r : Int)
theorem GrInv.wr {L1 L : List (List Int)} {i : Nat} {n : Int} (h : GrInv L1 L i n) : WrInv L1 L i 0 := ⟨h.len, by simp, h.le, fun q hq => by omega, h.other⟩
theorem WrInv.next {L2 L : List (List Int)} {i k : Nat} (h : WrInv L2 L i k) (hi : (i : Int) < L.length) (hk : (k : Int) < (gI L2 i).length) : WrInv (L2.set (i : Int).toNat ((gI L2 i).set (k : Int).toNat (-1000 - (i : Int)))) L i (k + 1) ∧ (gI (L2.set (i : Int).toNat ((gI L2 i).set (k : Int).toNat (-1000 - (i : Int)))) (i : Int)).length = (gI L2 (i : Int)).length := by
  have hl := h.len
  simp only [Int.toNat_natCast]
  have e : gI (L2.set i ((gI L2 (i : Int)).set k (-1000 - (i : Int)))) (i : Int) = (gI L2 (i : Int)).set k (-1000 - (i : Int)) := gI_set_same (by omega)
  refine ⟨⟨by simpa using hl, by rw [e]; simp; omega, by rw [e]; simpa using h.few, fun q hq => ?_, fun r hr => by rw [gI_set_other hr, h.other r hr]⟩, by rw [e]; simp⟩
  rw [e]
  by_cases hq2 : q = k
  · subst hq2; exact gI_set_same hk
  · rw [gI_set_other hq2]; exact h.done q (by omega)
theorem WrInv.fin {L2 L : List (List Int)} {i k : Nat} (h : WrInv L2 L i k) (ha : ApInv L i) (hi : (i : Int) < L.length) (hk : ¬ (k : Int) < (gI L2 i).length) : ApInv L2 (i + 1) := by
  have hl := h.len
  have hle := h.le
  refine ⟨by omega, by have := ha.few; omega, fun r hr q hq => ?_, fun r h1 h2 => ?_⟩
  · by_cases e : r = i
    · subst e; exact h.done q (by omega)
    · rw [h.other r e] at hq ⊢; exact ha.done r (by omega) q hq
  · rw [h.other r (by omega)]; exact ha.rest r (by omega) (by omega)
theorem ApInv.read {L : List (List Int)} {m i k : Nat} (h : ApInv L m) (hm : (m : Int) = L.length) (hi : (i : Int) < L.length) (hk : (k : Int) < (gI L i).length) : gI (gI L (i : Int)) (k : Int) = -1000 - (i : Int) := h.done i (by omega) k (by omega)
end TL
namespace TL
end TL
namespace TL
end TL
/-
  TlRot2: rotations: faces of half-edges, first ones, parts, moved ones.
  By an AI agent.
-/
set_option linter.all false
namespace TL
def ofK (F : List (List Int)) (n : Int) (k : Nat) : List Int := (List.range k).foldl (fun l (q : Nat) => (gI F (q : Int)).foldl (fun l h => l.set h.toNat (q : Int)) l) (List.replicate n.toNat 0)
def ofKi (F : List (List Int)) (n : Int) (k i : Nat) : List Int := ((gI F (k : Int)).take i).foldl (fun l h => l.set h.toNat (k : Int)) (ofK F n k)
theorem ofK_len (F : List (List Int)) (n : Int) : ∀ k : Nat, (ofK F n k).length = n.toNat := by
  intro k
  induction k with
  | zero => simp [ofK]
  | succ k ih =>
    unfold ofK at ih ⊢
    rw [List.range_succ, List.foldl_append]
    simp only [List.foldl_cons, List.foldl_nil]
    rw [set_fold_len]; exact ih
theorem ofKi_len (F : List (List Int)) (n : Int) (k i : Nat) : (ofKi F n k i).length = n.toNat := by
  unfold ofKi
  rw [set_fold_len, ofK_len]
theorem ofKi_zero (F : List (List Int)) (n : Int) (k : Nat) : ofKi F n k 0 = ofK F n k := by simp [ofKi]
theorem ofKi_succ (F : List (List Int)) (n : Int) (k i : Nat) (hi : (i : Int) < (gI F (k : Int)).length) : ofKi F n k (i + 1) = (ofKi F n k i).set (gI (gI F (k : Int)) (i : Int)).toNat (k : Int) := set_fold_succ hi
theorem ofKi_done (F : List (List Int)) (n : Int) (k i : Nat) (hi : ¬ (i : Int) < (gI F (k : Int)).length) : ofKi F n k i = ofK F n (k + 1) := by
  unfold ofKi
  rw [List.take_of_length_le (by omega)]
  conv => rhs; unfold ofK
  rw [List.range_succ, List.foldl_append]
  rfl
def ofS (g : Net) (r : Rot) : List Int := ofK (facesS (nextS g r) r) (2 * (g.2.length : Int)) (facesS (nextS g r) r).length
def ofR (g : Net) (r : Rot) : List Int × Int := if rmayR g r = 0 then (ofS g r, 0) else ([], rmayR g r)
theorem orbF_in {nx : List Int} (hn : ∀ k : Int, 0 ≤ k → k < nx.length → 0 ≤ gI nx k ∧ gI nx k < nx.length) : ∀ (n : Nat) (seen : List Int) (k : Int), 0 ≤ k → k < nx.length → ∀ h ∈ orbF nx n seen k, 0 ≤ h ∧ h < nx.length
  | 0, seen, k, _, _, h, hh => by simp [orbF] at hh
  | n + 1, seen, k, h0, h1, h, hh => by
    simp only [orbF] at hh
    split at hh
    · cases hh
    · rcases List.mem_cons.1 hh with rfl | hh
      · exact ⟨h0, h1⟩
      · have := hn k h0 h1
        exact orbF_in hn n _ _ this.1 this.2 h hh
theorem facesL_in {nx : List Int} (hn : ∀ k : Int, 0 ≤ k → k < nx.length → 0 ≤ gI nx k ∧ gI nx k < nx.length) : ∀ (l S : List Int), (∀ h ∈ l, 0 ≤ h ∧ h < nx.length) → ∀ f ∈ facesL nx l S, ∀ h ∈ f, 0 ≤ h ∧ h < nx.length
  | [], S, _, f, hf => by simp [facesL] at hf
  | a :: l, S, hl, f, hf => by
    simp only [facesL] at hf
    split at hf
    · exact facesL_in hn l S (fun h hh => hl h (by simp [hh])) f hf
    · rcases List.mem_cons.1 hf with rfl | hf
      · have := hl a (by simp)
        exact orbF_in hn _ _ _ this.1 this.2
      · exact facesL_in hn l _ (fun h hh => hl h (by simp [hh])) f hf
theorem facesS_in {g : Net} {r : Rot} (hr : RotP g r) : ∀ f ∈ facesS (nextS g r) r, ∀ h ∈ f, 0 ≤ h ∧ h < 2 * (g.2.length : Int) := by
  intro f hf h hh
  have hl := nextS_len g r
  unfold facesS at hf
  rcases List.mem_append.1 hf with hf | hf
  · have := facesL_in (nx := nextS g r) (fun k h0 h1 => by
      have := nextS_in hr h0 (by omega)
      omega) _ [] (fun h hh => by
      have := iota_mem.1 hh
      omega) f hf h hh
    omega
  · obtain ⟨l, _, rfl⟩ := List.mem_map.1 hf
    cases hh
theorem face_in {g : Net} {r : Rot} (hr : RotP g r) {k i : Nat} (hk : (k : Int) < (facesS (nextS g r) r).length) (hi : (i : Int) < (gI (facesS (nextS g r) r) (k : Int)).length) : 0 ≤ gI (gI (facesS (nextS g r) r) (k : Int)) (i : Int) ∧ gI (gI (facesS (nextS g r) r) (k : Int)) (i : Int) < 2 * (g.2.length : Int) :=
  facesS_in hr _ (gI_mem (by omega) hk) _ (gI_mem (by omega) hi)
def firstS (g : Net) : Rot := (List.range g.1.toNat).map fun (v : Nat) => outS g (v : Int)
def firstR (g : Net) : Rot × Int := if MayP g then (firstS g, 0) else ([], 1)
theorem OutInv.first {out : Rot} {g : Net} {k : Nat} (h : OutInv out g k) (hk : k = g.2.length) : out = firstS g := by
  have hl := h.len
  apply list_ext_gI
  · simp [firstS]; omega
  · intro i hi
    rw [h.done hk _ (by omega) (by omega)]
    have : i < g.1.toNat := by omega
    simp [firstS, gI, this]
structure OutsInv (out : Rot) (g : Net) (h : Nat) : Prop where
  len : (out.length : Int) = g.1
  at_ : ∀ v, 0 ≤ v → v < g.1 → gI out v = outH g v h
theorem OutsInv.start {g : Net} (h : 0 ≤ g.1) : OutsInv (List.replicate g.1.toNat []) g 0 := ⟨by simp; omega, fun v h0 h1 => by rw [gI_rep h0 (by omega)]; simp [outH]⟩
theorem OutsInv.next {out : Rot} {g : Net} {h : Nat} (hi : OutsInv out g h) (h0 : 0 ≤ fromS g h) (h1 : fromS g h < g.1) : OutsInv (out.set (fromS g h).toNat (gI out (fromS g h) ++ [(h : Int)])) g (h + 1) := by
  have hl := hi.len
  refine ⟨by simpa using hl, fun v h2 h3 => ?_⟩
  rw [gI_set h0 (by omega) h2, outH_succ]
  by_cases e : v = fromS g (h : Int)
  · rw [if_pos e, if_pos e.symm, hi.at_ _ h0 h1, ← e]
  · rw [if_neg e, if_neg (fun h => e h.symm), hi.at_ v h2 h3]
theorem OutsInv.bd {out : Rot} {g : Net} {h : Nat} (hi : OutsInv out g h) {v : Int} (h0 : 0 ≤ v) (h1 : v < g.1) : (gI out v).length ≤ h := by
  rw [hi.at_ v h0 h1]; exact outH_len g v h
theorem OutsInv.done {out : Rot} {g : Net} {h : Nat} (hi : OutsInv out g h) (hh : h = 2 * g.2.length) : out = firstS g := by
  have hl := hi.len
  apply list_ext_gI
  · simp [firstS]; omega
  · intro i hlt
    rw [hi.at_ _ (by omega) (by omega), outH_all g _ hh]
    have : i < g.1.toNat := by omega
    simp [firstS, gI, this]
def keepRow (keep : List Int) (l : List Int) : List Int := (l.filter fun h => decide (0 < posS keep (h / 2))).map fun h => 2 * (posS keep (h / 2) - 1) + h % 2
theorem keepRow_yes {keep l : List Int} {i : Nat} (hi : (i : Int) < l.length) (h : 0 < posS keep (gI l (i : Int) / 2)) : keepRow keep (l.take (i + 1)) = keepRow keep (l.take i) ++ [2 * (posS keep (gI l (i : Int) / 2) - 1) + gI l (i : Int) % 2] := by
  unfold keepRow
  rw [take_succ_gI hi, List.filter_append, List.map_append]
  simp [h]
theorem keepRow_no {keep l : List Int} {i : Nat} (hi : (i : Int) < l.length) (h : ¬ 0 < posS keep (gI l (i : Int) / 2)) : keepRow keep (l.take (i + 1)) = keepRow keep (l.take i) := by
  unfold keepRow
  rw [take_succ_gI hi, List.filter_append, List.map_append]
  simp [h]
theorem keepRow_len (keep l : List Int) : (keepRow keep l).length ≤ l.length := by
  unfold keepRow
  rw [List.length_map]
  exact List.length_filter_le _ _
structure SubInv (out : Rot) (keep : List Int) (r : Rot) (k i : Nat) : Prop where
  len : out.length = r.length
  old : ∀ v : Nat, v < k → v < r.length → gI out (v : Int) = keepRow keep (gI r (v : Int))
  row : k < r.length → gI out (k : Int) = keepRow keep ((gI r (k : Int)).take i)
  new : ∀ v : Nat, k < v → v < r.length → gI out (v : Int) = []
theorem SubInv.start (keep : List Int) (r : Rot) : SubInv (List.replicate r.length []) keep r 0 0 :=
  ⟨by simp, fun v hv => by omega, fun h => by rw [gI_rep (by omega) (by omega)]; simp [keepRow], fun v h1 h2 => by rw [gI_rep (by omega) (by omega)]⟩
theorem SubInv.yes {out : Rot} {keep : List Int} {r : Rot} {k i : Nat} (h : SubInv out keep r k i) (hk : (k : Int) < r.length) (hi : (i : Int) < (gI r (k : Int)).length) (c : 0 < posS keep (gI (gI r (k : Int)) (i : Int) / 2)) :
    SubInv (out.set (k : Int).toNat (gI out (k : Int) ++ [2 * (posS keep (gI (gI r (k : Int)) (i : Int) / 2) - 1) + gI (gI r (k : Int)) (i : Int) % 2])) keep r k (i + 1) := by
  have hl := h.len
  simp only [Int.toNat_natCast]
  refine ⟨by simpa using hl, fun v h1 h2 => by rw [gI_set_other (by omega)]; exact h.old v h1 h2, fun h1 => ?_, fun v h1 h2 => by rw [gI_set_other (by omega)]; exact h.new v h1 h2⟩
  rw [gI_set_same (by omega), h.row h1, keepRow_yes hi c]
theorem SubInv.no {out : Rot} {keep : List Int} {r : Rot} {k i : Nat} (h : SubInv out keep r k i) (hi : (i : Int) < (gI r (k : Int)).length) (c : ¬ 0 < posS keep (gI (gI r (k : Int)) (i : Int) / 2)) : SubInv out keep r k (i + 1) :=
  ⟨h.len, h.old, fun h1 => by rw [h.row h1, keepRow_no hi c], h.new⟩
theorem SubInv.row_done {out : Rot} {keep : List Int} {r : Rot} {k i : Nat} (h : SubInv out keep r k i) (hk : (k : Int) < r.length) (hi : ¬ (i : Int) < (gI r (k : Int)).length) : SubInv out keep r (k + 1) 0 := by
  have h1 := h.row (by omega)
  rw [List.take_of_length_le (by omega)] at h1
  refine ⟨h.len, fun v h2 h3 => ?_, fun h2 => ?_, fun v h2 h3 => h.new v (by omega) h3⟩
  · by_cases e : v = k
    · subst e; exact h1
    · exact h.old v (by omega) h3
  · rw [h.new (k + 1) (by omega) h2]; simp [keepRow]
theorem SubInv.bd {out : Rot} {keep : List Int} {r : Rot} {k i : Nat} (h : SubInv out keep r k i) (hk : (k : Int) < r.length) : (gI out (k : Int)).length ≤ i := by
  rw [h.row (by omega)]
  have h1 := keepRow_len keep ((gI r (k : Int)).take i)
  have h2 := List.length_take_le i (gI r (k : Int))
  omega
theorem SubInv.done {out : Rot} {keep : List Int} {r : Rot} {k : Nat} (h : SubInv out keep r k 0) (hk : ¬ (k : Int) < r.length) : out = r.map (keepRow keep) := by
  have hl := h.len
  apply list_ext_gI
  · simpa using hl
  · intro v hv
    rw [h.old v (by omega) (by omega), gI_map _ (by omega) (by omega)]
def rsubR (g : Net) (r : Rot) (keep : List Int) : Net × Rot × Int :=
  if rmayR g r = 0 then if (subR g keep).2 = 0 then ((subR g keep).1, canonS (r.map (keepRow keep)), 0) else ((0, []), [], (subR g keep).2) else ((0, []), [], rmayR g r)
structure MovInv (out : Rot) (r : Rot) (to : List Int) (n : Int) (k : Nat) : Prop where
  len : (out.length : Int) = n
  at_ : ∀ v : Nat, v < k → gI out (gI to (v : Int)) = gI r (v : Int)
def rmovedS (r : Rot) (to : List Int) (n : Int) : Rot := (iotaI n.toNat).map fun u => gI r ((to.idxOf u : Nat) : Int)
theorem MovInv.start (r : Rot) (to : List Int) {n : Int} (hn : 0 ≤ n) : MovInv (List.replicate n.toNat []) r to n 0 := ⟨by simp; omega, fun v hv => by omega⟩
theorem MovInv.next {out r : Rot} {to : List Int} {n : Int} {k : Nat} (h : MovInv out r to n k) (hn : to.Nodup) (hr : ∀ x ∈ to, 0 ≤ x ∧ x < n) (hk : (k : Int) < to.length) : MovInv (out.set (gI to (k : Int)).toNat (gI r (k : Int))) r to n (k + 1) := by
  have hl := h.len
  have hk' := hr _ (gI_mem (xs := to) (i := (k : Int)) (by omega) hk)
  refine ⟨by simpa using hl, fun v hv => ?_⟩
  have hv' := hr _ (gI_mem (xs := to) (i := (v : Int)) (by omega) (by omega))
  rw [gI_set hk'.1 (by omega) hv'.1]
  by_cases e : gI to (v : Int) = gI to (k : Int)
  · have := gI_inj hn (i := (v : Int)) (j := (k : Int)) (by omega) (by omega) (by omega) hk e
    have : v = k := by omega
    subst this
    rw [if_pos rfl]
  · rw [if_neg e]
    have : v ≠ k := fun h => e (by rw [h])
    exact h.at_ v (by omega)
theorem MovInv.done {out r : Rot} {to : List Int} {n : Int} {k : Nat} (h : MovInv out r to n k) (hn : to.Nodup) (hr : ∀ x ∈ to, 0 ≤ x ∧ x < n) (hl : (to.length : Int) = n) (hk : k = to.length) : out = rmovedS r to n := by
  have hlen := h.len
  apply list_ext_gI
  · simp [rmovedS, iota_len]; omega
  · intro u hu
    have hm := all_there hn (n := n.toNat) (fun x hx => by have := hr x hx; omega) (by omega) (u := (u : Int)) (by omega) (by omega)
    have hlt := List.idxOf_lt_length_iff.2 hm
    have e : gI to ((to.idxOf (u : Int) : Nat) : Int) = u := by simp [gI, hlt]
    have := h.at_ (to.idxOf (u : Int)) (by omega)
    rw [e] at this
    rw [this]
    unfold rmovedS
    rw [gI_map _ (by omega) (by rw [iota_len]; omega), iota_gI (by omega) (by omega)]
def rmovedR (g : Net) (r : Rot) (to : List Int) : Net × Rot × Int :=
  if rmayR g r = 0 then if (movedR g to).2 = 0 then ((movedR g to).1, canonS (rmovedS r to g.1), 0) else ((0, []), [], (movedR g to).2) else ((0, []), [], rmayR g r)
end TL
/-
  TlTr: one of each class, how many classes there are; the components of a net.
  By an AI agent.
-/
set_option linter.all false
namespace TL
structure Eqv (D : Int → Prop) (R : Int → Int → Prop) : Prop where
  rfl : ∀ x, D x → R x x
  symm : ∀ x y, D x → D y → R x y → R y x
  trans : ∀ x y z, D x → D y → D z → R x y → R y z → R x z
def ndP (g : Net) (v : Int) : Prop := 0 ≤ v ∧ v < g.1
def Cn (g : Net) (u v : Int) : Prop := ∀ R : Int → Int → Prop, Eqv (ndP g) R → (∀ e ∈ g.2, R e.1 e.2) → R u v
theorem Cn.eqv (g : Net) : Eqv (ndP g) (Cn g) :=
  ⟨fun x hx R hR _ => hR.rfl x hx, fun x y hx hy h R hR he => hR.symm x y hx hy (h R hR he), fun x y z hx hy hz h1 h2 R hR he => hR.trans x y z hx hy hz (h1 R hR he) (h2 R hR he)⟩
theorem Cn.edge {g : Net} {e : Int × Int} (h : e ∈ g.2) : Cn g e.1 e.2 := fun R _ he => he e h
theorem Cn.half {g : Net} (hm : MayP g) {h : Int} (h0 : 0 ≤ h) (h1 : h < 2 * (g.2.length : Int)) : Cn g (fromS g h) (toS g h) := by
  have hin := gI_mem (xs := g.2) (i := h / 2) (by omega) (by omega)
  have hok := hm.2.2.2 _ hin
  have hc := Cn.edge hin
  unfold fromS toS pI
  have h2 : h % 2 = 0 ∨ h % 2 = 1 := by omega
  rcases h2 with e | e
  · rw [e]; simpa using hc
  · rw [e]
    exact (Cn.eqv g).symm _ _ hok.1 hok.2 (by simpa using hc)
theorem out_of {g : Net} {i : Nat} (hi : (i : Int) < g.2.length) : 2 * (i : Int) ∈ outS g (gI g.2 (i : Int)).1 ∧ 2 * (i : Int) + 1 ∈ outS g (gI g.2 (i : Int)).2 ∧ toS g (2 * (i : Int)) = (gI g.2 (i : Int)).2 ∧ toS g (2 * (i : Int) + 1) = (gI g.2 (i : Int)).1 := by
  have e1 : (2 * (i : Int)) / 2 = i := by omega
  have e2 : (2 * (i : Int)) % 2 = 0 := by omega
  have e3 : (2 * (i : Int) + 1) / 2 = i := by omega
  have e4 : (2 * (i : Int) + 1) % 2 = 1 := by omega
  refine ⟨?_, ?_, by unfold toS; rw [e1, e2]; simp [pI], by unfold toS; rw [e3, e4]; simp [pI]⟩
  · unfold outS outSk
    refine List.mem_filter.2 ⟨List.mem_map.2 ⟨2 * i, List.mem_range.2 (by omega), by push_cast; rfl⟩, ?_⟩
    simp only [decide_eq_true_eq]
    unfold fromS; rw [e1, e2]; simp [pI]
  · unfold outS outSk
    refine List.mem_filter.2 ⟨List.mem_map.2 ⟨2 * i + 1, List.mem_range.2 (by omega), by push_cast; rfl⟩, ?_⟩
    simp only [decide_eq_true_eq]
    unfold fromS; rw [e3, e4]; simp [pI]
theorem closed_Cn {g : Net} {S : Int → Prop} (hS : ∀ x h, S x → h ∈ outS g x → S (toS g h)) {u v : Int} (hc : Cn g u v) : S u → S v := by
  refine (hc (fun u v => S u ↔ S v) ⟨fun _ _ => Iff.rfl, fun _ _ _ _ h => h.symm, fun _ _ _ _ _ _ h1 h2 => h1.trans h2⟩ (fun e he => ?_)).1
  obtain ⟨i, hi, rfl⟩ := List.mem_iff_getElem.1 he
  have e : gI g.2 (i : Int) = g.2[i] := by simp [gI, hi]
  obtain ⟨a, b, c, d⟩ := out_of (g := g) (i := i) (by omega)
  rw [e] at a b c d
  exact ⟨fun h => by rw [← c]; exact hS _ _ h a, fun h => by rw [← d]; exact hS _ _ h b⟩
theorem bfOne_mem (g : Net) (v : Int) (s : Bf) (h : Int) : ∀ x ∈ (bfOne g v s h).order, x ∈ s.order ∨ x = toS g h := by
  intro x hx
  unfold bfOne at hx
  split at hx
  · rcases List.mem_append.1 hx with hx | hx
    · exact .inl hx
    · exact .inr (List.mem_singleton.1 hx)
  · exact .inl hx
theorem bfFold_ok {g : Net} (hm : MayP g) {v : Int} : ∀ (l : List Int) (s : Bf), (∀ h ∈ l, h ∈ outS g v) → BfOk g s → v ∈ s.order →
    BfOk g (l.foldl (bfOne g v) s) ∧ (∃ t, (l.foldl (bfOne g v) s).order = s.order ++ t) ∧ (∀ x ∈ (l.foldl (bfOne g v) s).order, x ∈ s.order ∨ ∃ h ∈ outS g v, x = toS g h) ∧ ∀ h ∈ l, toS g h ∈ (l.foldl (bfOne g v) s).order
  | [], s, _, hs, hv => ⟨hs, ⟨[], by simp⟩, fun x hx => .inl hx, by simp⟩
  | a :: l, s, hl, hs, hv => by
    have hin := (outS_in (hl a (by simp))).1
    have ht := toS_in hm hin.1 hin.2
    have h1 := hs.one (v := v) (h := a) hv ht.1 ht.2
    obtain ⟨t, ht1⟩ := bfOne_pre g v s a
    have ha : toS g a ∈ (bfOne g v s a).order := by
      by_cases c : gI s.far (toS g a) < 0
      · unfold bfOne; rw [if_pos c]; simp
      · rw [ht1]
        have : toS g a ∈ s.order := Classical.byContradiction fun hn => c ((hs.iff _ ht.1 ht.2).2 hn)
        simp [this]
    obtain ⟨k1, ⟨t2, k2⟩, k3, k4⟩ := bfFold_ok hm l (bfOne g v s a) (fun h hh => hl h (by simp [hh])) h1 (by rw [ht1]; simp [hv])
    rw [List.foldl_cons]
    refine ⟨k1, ⟨t ++ t2, by rw [k2, ht1, List.append_assoc]⟩, fun x hx => ?_, fun h hh => ?_⟩
    · rcases k3 x hx with hx | hx
      · rcases bfOne_mem g v s a x hx with hx | hx
        · exact .inl hx
        · exact .inr ⟨a, hl a (by simp), hx⟩
      · exact .inr hx
    · rcases List.mem_cons.1 hh with rfl | hh
      · rw [k2]; simp [ha]
      · exact k4 h hh
theorem bfGo_ok {g : Net} (hm : MayP g) {s0 : Int} : ∀ (n i : Nat) (s : Bf), BfOk g s → (∀ x ∈ s.order, Cn g s0 x) → s0 ∈ s.order → ndP g s0 → (∀ q : Nat, q < i → (q : Int) < s.order.length → ∀ h ∈ outS g (gI s.order (q : Int)), toS g h ∈ s.order) → (g.1 : Int) ≤ n + i →
    BfOk g (bfGo g n i s) ∧ (∀ x ∈ (bfGo g n i s).order, Cn g s0 x) ∧ s0 ∈ (bfGo g n i s).order ∧ ∀ x ∈ (bfGo g n i s).order, ∀ h ∈ outS g x, toS g h ∈ (bfGo g n i s).order
  | 0, i, s, hs, hc, h0, hd, hq, hn => by
    refine ⟨hs, hc, h0, fun x hx h hh => ?_⟩
    obtain ⟨q, hq1, e⟩ := List.mem_iff_getElem.1 hx
    have hl := hs.len hm.1
    change q < s.order.length at hq1
    have eq1 : gI s.order (q : Int) = x := by simp only [bfGo] at e; simp [gI, hq1, e]
    exact hq q (by omega) (by omega) h (by rw [eq1]; exact hh)
  | n + 1, i, s, hs, hc, h0, hd, hq, hn => by
    simp only [bfGo]
    by_cases c : i < s.order.length
    · rw [if_pos c]
      have hv := gI_mem (xs := s.order) (i := (i : Int)) (by omega) (by omega)
      obtain ⟨k1, ⟨t, k2⟩, k3, k4⟩ := bfFold_ok hm (v := gI s.order (i : Int)) (outS g (gI s.order (i : Int))) s (fun h hh => hh) hs hv
      have hvd := hs.rng _ hv
      have hpre : ∀ q : Nat, (q : Int) < s.order.length → gI (bfRow g (gI s.order (i : Int)) s).order (q : Int) = gI s.order (q : Int) := fun q hq' => by
        unfold bfRow; rw [k2]; unfold gI
        have : ((q : Int)).toNat < s.order.length := by omega
        simp only [Int.toNat_natCast] at this ⊢
        simp [List.getD_eq_getElem?_getD, List.getElem?_append_left this]
      refine bfGo_ok hm n (i + 1) (bfRow g (gI s.order (i : Int)) s) k1 (fun x hx => ?_) (by unfold bfRow; rw [k2]; simp [h0]) hd (fun q hq1 hq2 h hh => ?_) (by omega)
      · rcases k3 x hx with hx | ⟨h, hh, rfl⟩
        · exact hc x hx
        · have hin := outS_in hh
          have h1 := Cn.half hm hin.1.1 hin.1.2
          rw [hin.2] at h1
          exact (Cn.eqv g).trans _ _ _ hd hvd (toS_in hm hin.1.1 hin.1.2) (hc _ hv) h1
      · by_cases e : q = i
        · subst e
          rw [hpre q (by omega)] at hh
          exact k4 h hh
        · have hq3 : (q : Int) < s.order.length := by omega
          rw [hpre q hq3] at hh
          have := hq q (by omega) hq3 h hh
          unfold bfRow; rw [k2]; simp [this]
    · rw [if_neg c]
      refine ⟨hs, hc, h0, fun x hx h hh => ?_⟩
      obtain ⟨q, hq1, e⟩ := List.mem_iff_getElem.1 hx
      have eq1 : gI s.order (q : Int) = x := by simp [gI, hq1, e]
      exact hq q (by omega) (by omega) h (by rw [eq1]; exact hh)
theorem breadth_iff {g : Net} (hm : MayP g) {s0 : Int} (h0 : ndP g s0) : (∀ x ∈ (breadthS g s0).order, ndP g x) ∧ ∀ x, x ∈ (breadthS g s0).order ↔ Cn g s0 x := by
  obtain ⟨k1, k2, k3, k4⟩ := bfGo_ok hm (s0 := s0) g.1.toNat 0 (bfStart g s0) (BfOk.start h0.1 h0.2) (by simp [bfStart]; exact (Cn.eqv g).rfl s0 h0) (by simp [bfStart]) h0 (fun q hq => by omega) (by have := hm.1; omega)
  refine ⟨k1.rng, fun x => ⟨k2 x, fun hc => ?_⟩⟩
  exact closed_Cn (S := fun x => x ∈ (breadthS g s0).order) (fun x h hx hh => k4 x hx h hh) hc k3
theorem gI_fold {n : Int} : ∀ (O p : List Int) (v : Int), 0 ≤ v → v < p.length → (∀ x ∈ O, 0 ≤ x ∧ x < p.length) → gI (O.foldl (fun l w => l.set w.toNat n) p) v = if v ∈ O then n else gI p v
  | [], p, v, h0, h1, _ => by simp
  | a :: O, p, v, h0, h1, ho => by
    have ha := ho a (by simp)
    rw [List.foldl_cons, gI_fold O _ v h0 (by simpa using h1) (fun x hx => by simpa using ho x (by simp [hx])), gI_set ha.1 ha.2 h0]
    by_cases e : v = a
    · subst e; simp
    · by_cases hv : v ∈ O
      · simp [hv]
      · simp [hv, e]
structure PartsInv (g : Net) (p : List Int × Int) (l : List Int) (k : Nat) : Prop where
  len : (p.1.length : Int) = g.1
  num : p.2 = (l.length : Int)
  nd : l.Nodup
  dom : ∀ x ∈ l, ndP g x
  one : ∀ x ∈ l, ∀ y ∈ l, Cn g x y → x = y
  iff : ∀ v, ndP g v → (0 ≤ gI p.1 v ↔ ∃ y ∈ l, Cn g v y)
  all : ∀ v : Nat, v < k → (v : Int) < g.1 → ∃ y ∈ l, Cn g (v : Int) y
theorem partsK_inv {g : Net} (hm : MayP g) : ∀ k : Nat, (k : Int) ≤ g.1 → ∃ l, PartsInv g (partsK g k) l k
  | 0, _ => ⟨[], by simp [partsK, iotaI]; have := hm.1; omega, by simp [partsK, iotaI], by simp, by simp, by simp, fun v hv => by
      have e : (partsK g 0).1 = List.replicate g.1.toNat (-1) := by simp [partsK, iotaI]
      rw [e, gI_rep hv.1 (by have := hv.2; omega)]; simp, fun v hv => by omega⟩
  | k + 1, hk => by
    obtain ⟨l, h⟩ := partsK_inv hm k (by omega)
    have hkd : ndP g (k : Int) := ⟨by omega, by omega⟩
    obtain ⟨hb1, hb2⟩ := breadth_iff hm hkd
    rw [partsK_succ]
    unfold partOne
    by_cases c : 0 ≤ gI (partsK g k).1 (k : Int)
    · rw [if_pos c]
      refine ⟨l, h.len, h.num, h.nd, h.dom, h.one, h.iff, fun v hv hg => ?_⟩
      by_cases e : v = k
      · subst e; exact (h.iff _ hkd).1 c
      · exact h.all v (by omega) hg
    · rw [if_neg c]
      have hno : ∀ y ∈ l, ¬ Cn g (k : Int) y := fun y hy hc => c ((h.iff _ hkd).2 ⟨y, hy, hc⟩)
      have hlen := h.len
      have hnn : 0 ≤ (partsK g k).2 := by rw [h.num]; omega
      refine ⟨l ++ [(k : Int)], ?_, ?_, ?_, ?_, ?_, ?_, ?_⟩
      · simp only; rw [set_fold_len]; exact hlen
      · simp only [h.num]; simp
      · rw [List.nodup_append]
        refine ⟨h.nd, by simp, fun a ha b hb e => ?_⟩
        obtain rfl := List.mem_singleton.1 hb
        subst e
        exact hno _ ha ((Cn.eqv g).rfl _ hkd)
      · intro x hx
        rcases List.mem_append.1 hx with hx | hx
        · exact h.dom x hx
        · obtain rfl := List.mem_singleton.1 hx; exact hkd
      · intro x hx y hy hc
        rcases List.mem_append.1 hx with hx | hx
        · rcases List.mem_append.1 hy with hy | hy
          · exact h.one x hx y hy hc
          · obtain rfl := List.mem_singleton.1 hy
            exact absurd ((Cn.eqv g).symm _ _ (h.dom x hx) hkd hc) (hno x hx)
        · obtain rfl := List.mem_singleton.1 hx
          rcases List.mem_append.1 hy with hy | hy
          · exact absurd hc (hno y hy)
          · obtain rfl := List.mem_singleton.1 hy; rfl
      · intro v hv
        simp only
        rw [gI_fold _ _ v hv.1 (by have := hv.2; omega) (fun x hx => by have := hb1 x hx; exact ⟨this.1, by have := this.2; omega⟩)]
        by_cases hvo : v ∈ (breadthS g (k : Int)).order
        · rw [if_pos hvo]
          exact ⟨fun _ => ⟨(k : Int), by simp, (Cn.eqv g).symm _ _ hkd hv ((hb2 v).1 hvo)⟩, fun _ => hnn⟩
        · rw [if_neg hvo, h.iff v hv]
          constructor
          · rintro ⟨y, hy, hc⟩; exact ⟨y, by simp [hy], hc⟩
          · rintro ⟨y, hy, hc⟩
            rcases List.mem_append.1 hy with hy | hy
            · exact ⟨y, hy, hc⟩
            · obtain rfl := List.mem_singleton.1 hy
              exact absurd ((hb2 v).2 ((Cn.eqv g).symm _ _ hv hkd hc)) hvo
      · intro v hv hg
        by_cases e : v = k
        · subst e; exact ⟨(v : Int), by simp, (Cn.eqv g).rfl _ hkd⟩
        · obtain ⟨y, hy, hc⟩ := h.all v (by omega) hg
          exact ⟨y, by simp [hy], hc⟩
end TL
/-
  TlOrb: going round by a permutation; two places changed; what that does to the numbers of rounds.
  By an AI agent.
-/
set_option linter.all false
namespace TL
def tr (a b x : Int) : Int := if x = a then b else if x = b then a else x
end TL
/-
  TlDfs: components found by a stack: the document's way.
  By an AI agent.
-/
set_option linter.all false
namespace TL
def cntN (c : List Int) : Nat := (c.filter fun x => decide (x < 0)).length
theorem cntN_set {c : List Int} {w n : Int} (h0 : 0 ≤ w) (h1 : w < c.length) (hc : gI c w < 0) (hn : 0 ≤ n) : cntN (c.set w.toNat n) + 1 = cntN c := by
  have hlt : w.toNat < c.length := by omega
  have e0 : gI c w = c[w.toNat] := by simp [gI, hlt]
  have e1 : c = c.take w.toNat ++ c[w.toNat] :: c.drop (w.toNat + 1) := by
    rw [← List.drop_eq_getElem_cons hlt, List.take_append_drop]
  have e2 : c.set w.toNat n = c.take w.toNat ++ n :: c.drop (w.toNat + 1) := List.set_eq_take_append_cons_drop.trans (if_pos hlt)
  rw [e2]
  conv => rhs; rw [e1]
  unfold cntN
  rw [List.filter_append, List.filter_append, List.filter_cons, List.filter_cons, if_neg (by simp; omega), if_pos (by rw [← e0]; simpa using hc)]
  simp
  omega
theorem first_gI {g : Net} {v : Int} (h0 : 0 ≤ v) (h1 : v < g.1) : gI (firstS g) v = outS g v := by
  unfold firstS gI
  have : v.toNat < g.1.toNat := by omega
  simp [List.getD_eq_getElem?_getD, this]
  congr 1
  omega
theorem first_len (g : Net) (h : 0 ≤ g.1) : ((firstS g).length : Int) = g.1 := by simp [firstS]; omega
structure DfInv (g : Net) (c0 c todo x : List Int) (n s : Int) : Prop where
  len : (c.length : Int) = g.1
  n0 : 0 ≤ n
  sd : ndP g s
  pre : ∀ w, ndP g w → Cn g s w → gI c0 w < 0
  cmp : ∀ w, ndP g w → (Cn g s w ∧ gI c w = n) ∨ gI c w = gI c0 w
  nd : todo.Nodup
  tds : ∀ t ∈ todo, ndP g t ∧ Cn g s t ∧ gI c t = n
  clo : ∀ v, ndP g v → Cn g s v → gI c v = n → v ∉ todo → v ∉ x → ∀ h ∈ outS g v, 0 ≤ gI c (toS g h)
  src : gI c s = n
theorem DfInv.start {g : Net} (hm : MayP g) {c0 : List Int} {n : Int} {q : Nat} (hq : (q : Int) < g.1) (h : c0 = (partsK g q).1 ∧ n = (partsK g q).2) (c : ¬ 0 ≤ gI c0 (q : Int)) : DfInv g c0 (c0.set (q : Int).toNat n) [(q : Int)] [] n (q : Int) := by
  obtain ⟨l, hi⟩ := partsK_inv hm q (by omega)
  obtain ⟨rfl, rfl⟩ := h
  have hqd : ndP g (q : Int) := ⟨by omega, hq⟩
  have hn : 0 ≤ (partsK g q).2 := by rw [hi.num]; omega
  have hlen := hi.len
  have hcn := Cn.eqv g
  have hpre : ∀ w, ndP g w → Cn g (q : Int) w → gI (partsK g q).1 w < 0 := fun w hw hc => by
    refine Int.not_le.1 fun h0 => c ?_
    obtain ⟨y, hy, hwy⟩ := (hi.iff w hw).1 h0
    exact (hi.iff _ hqd).2 ⟨y, hy, hcn.trans _ _ _ hqd hw (hi.dom y hy) hc hwy⟩
  have hset : ∀ w, ndP g w → gI ((partsK g q).1.set (q : Int).toNat (partsK g q).2) w = if w = q then (partsK g q).2 else gI (partsK g q).1 w := fun w hw => gI_set (by omega) (by omega) hw.1
  refine ⟨by simpa using hlen, hn, hqd, hpre, fun w hw => ?_, by simp, fun t ht => ?_, fun v hv hc e hnt _ => ?_, ?_⟩
  · rw [hset w hw]
    by_cases e : w = q
    · subst e; exact .inl ⟨hcn.rfl _ hqd, if_pos rfl⟩
    · rw [if_neg e]; exact .inr rfl
  · obtain rfl := List.mem_singleton.1 ht
    exact ⟨hqd, hcn.rfl _ hqd, by rw [hset _ hqd, if_pos rfl]⟩
  · have hne : v ≠ q := fun e => hnt (by simp [e])
    rw [hset v hv, if_neg hne] at e
    have := hpre v hv hc
    omega
  · rw [hset _ hqd, if_pos rfl]
section
variable {g : Net} {c0 c todo x : List Int} {n s : Int}
theorem DfInv.bd (h : DfInv g c0 c todo x n s) : (todo.length : Int) ≤ g.1 := by
  have h1 := h.sd.1
  have h2 := h.sd.2
  exact nodup_le (by omega) h.nd (fun t ht => (h.tds t ht).1)
theorem DfInv.pop (h : DfInv g c0 c todo [] n s) (ht : 0 < todo.length) : DfInv g c0 c (todo.take (todo.length - 1)) [gI todo ((todo.length : Int) - 1)] n s ∧ ndP g (gI todo ((todo.length : Int) - 1)) ∧ Cn g s (gI todo ((todo.length : Int) - 1)) ∧ gI c (gI todo ((todo.length : Int) - 1)) = n := by
  have hm := gI_mem (xs := todo) (i := (todo.length : Int) - 1) (by omega) (by omega)
  have hs := take_succ_gI (xs := todo) (k := todo.length - 1) (by omega)
  rw [List.take_of_length_le (by omega), show ((todo.length - 1 : Nat) : Int) = (todo.length : Int) - 1 by omega] at hs
  refine ⟨⟨h.len, h.n0, h.sd, h.pre, h.cmp, h.nd.sublist (List.take_sublist _ _), fun t ht => h.tds t (List.mem_of_mem_take ht), fun v hv hc e hnt hnx => h.clo v hv hc e (fun hm => ?_) (by simp), h.src⟩, h.tds _ hm⟩
  rw [hs] at hm
  rcases List.mem_append.1 hm with hm | hm
  · exact hnt hm
  · exact hnx hm
theorem DfInv.push (hm : MayP g) (h : DfInv g c0 c todo x n s) {v : Int} (hv : ndP g v) (hc : Cn g s v) {hh : Int} (hh0 : hh ∈ outS g v) (hw : gI c (toS g hh) < 0) : DfInv g c0 (c.set (toS g hh).toNat n) (todo ++ [toS g hh]) x n s ∧ ∀ u, 0 ≤ u → 0 ≤ gI c u → 0 ≤ gI (c.set (toS g hh).toNat n) u := by
  obtain ⟨⟨a1, a2⟩, a3⟩ := outS_in hh0
  have hto := toS_in hm a1 a2
  have hlen := h.len
  have hn := h.n0
  have hcw : Cn g s (toS g hh) := (Cn.eqv g).trans _ _ _ h.sd hv hto hc (by have := Cn.half hm a1 a2; rwa [a3] at this)
  have hset : ∀ u, 0 ≤ u → gI (c.set (toS g hh).toNat n) u = if u = toS g hh then n else gI c u := fun u h0 => gI_set hto.1 (by omega) h0
  have hmono : ∀ u, 0 ≤ u → 0 ≤ gI c u → 0 ≤ gI (c.set (toS g hh).toNat n) u := fun u h0 h1 => by
    rw [hset u h0]; split <;> omega
  refine ⟨⟨by simpa using hlen, hn, h.sd, h.pre, fun w hwd => ?_, ?_, fun t ht => ?_, fun v' hv' hc' e hnt hnx h' hh' => ?_, ?_⟩, hmono⟩
  · rw [hset w hwd.1]
    by_cases e : w = toS g hh
    · subst e; exact .inl ⟨hcw, if_pos rfl⟩
    · rw [if_neg e]; exact h.cmp w hwd
  · rw [List.nodup_append]
    refine ⟨h.nd, by simp, fun a ha b hb e => ?_⟩
    obtain rfl := List.mem_singleton.1 hb
    have := (h.tds a ha).2.2
    rw [e] at this
    omega
  · rcases List.mem_append.1 ht with ht | ht
    · obtain ⟨b1, b2, b3⟩ := h.tds t ht
      refine ⟨b1, b2, ?_⟩
      rw [hset t b1.1]; split
      · rfl
      · exact b3
    · obtain rfl := List.mem_singleton.1 ht
      exact ⟨hto, hcw, by rw [hset _ hto.1, if_pos rfl]⟩
  · have hne : v' ≠ toS g hh := fun e => hnt (by simp [e])
    rw [hset v' hv'.1, if_neg hne] at e
    have b := outS_in hh'
    exact hmono _ (toS_in hm b.1.1 b.1.2).1 (h.clo v' hv' hc' e (fun hm => hnt (by simp [hm])) hnx h' hh')
  · rw [hset s h.sd.1]; split
    · rfl
    · exact h.src
structure DfRow (g : Net) (c0 c todo : List Int) (n s v : Int) (k M : Nat) : Prop where
  inv : DfInv g c0 c todo [v] n s
  vd : ndP g v
  vc : Cn g s v
  row : ∀ i : Nat, i < k → (i : Int) < (outS g v).length → 0 ≤ gI c (toS g (gI (outS g v) (i : Int)))
  meas : todo.length + 2 * cntN c < M
theorem DfInv.row (h : DfInv g c0 c todo [] n s) (ht : 0 < todo.length) : DfRow g c0 c (todo.take (todo.length - 1)) n s (gI todo ((todo.length : Int) - 1)) 0 (todo.length + 2 * cntN c) := by
  obtain ⟨h1, h2, h3, h4⟩ := h.pop ht
  exact ⟨h1, h2, h3, fun i hi => by omega, by rw [List.length_take]; omega⟩
variable {v : Int} {k M : Nat}
theorem DfRow.skip (h : DfRow g c0 c todo n s v k M) (hk : 0 ≤ gI c (toS g (gI (outS g v) (k : Int)))) : DfRow g c0 c todo n s v (k + 1) M :=
  ⟨h.inv, h.vd, h.vc, fun i hi hl => by
    by_cases e : i = k
    · subst e; exact hk
    · exact h.row i (by omega) hl, h.meas⟩
theorem DfRow.push (hm : MayP g) (h : DfRow g c0 c todo n s v k M) (hl : (k : Int) < (outS g v).length) (hk : ¬ 0 ≤ gI c (toS g (gI (outS g v) (k : Int)))) : DfRow g c0 (c.set (toS g (gI (outS g v) (k : Int))).toNat n) (todo ++ [toS g (gI (outS g v) (k : Int))]) n s v (k + 1) M := by
  have hmem := gI_mem (xs := outS g v) (i := (k : Int)) (by omega) hl
  obtain ⟨h1, h2⟩ := h.inv.push hm h.vd h.vc hmem (by omega)
  have b := outS_in hmem
  have hto := toS_in hm b.1.1 b.1.2
  have hlen := h.inv.len
  have hn := h.inv.n0
  have hme := h.meas
  have hcn := cntN_set (c := c) (w := toS g (gI (outS g v) (k : Int))) (n := n) hto.1 (by omega) (by omega) hn
  refine ⟨h1, h.vd, h.vc, fun i hi hil => ?_, ?_⟩
  · by_cases e : i = k
    · subst e
      rw [gI_set hto.1 (by omega) hto.1, if_pos rfl]; exact hn
    · have bi := outS_in (gI_mem (xs := outS g v) (i := (i : Int)) (by omega) hil)
      exact h2 _ (toS_in hm bi.1.1 bi.1.2).1 (h.row i (by omega) hil)
  · rw [List.length_append, List.length_singleton]; omega
theorem DfRow.done (h : DfRow g c0 c todo n s v k M) (hl : ¬ (k : Int) < (outS g v).length) : DfInv g c0 c todo [] n s :=
  ⟨h.inv.len, h.inv.n0, h.inv.sd, h.inv.pre, h.inv.cmp, h.inv.nd, h.inv.tds, fun u hu hc e hnt _ hh hhu => by
    by_cases e2 : u = v
    · subst e2
      obtain ⟨i, hi, rfl⟩ := List.mem_iff_getElem.1 hhu
      have e3 : gI (outS g u) (i : Int) = (outS g u)[i] := by simp [gI, hi]
      rw [← e3]
      exact h.row i (by omega) (by omega)
    · exact h.inv.clo u hu hc e hnt (by simp [e2]) hh hhu, h.inv.src⟩
theorem DfInv.done (hm : MayP g) {q : Nat} (h : DfInv g c0 c todo [] n (q : Int)) (ht : ¬ 0 < todo.length) (h0 : c0 = (partsK g q).1 ∧ n = (partsK g q).2) (hc : ¬ 0 ≤ gI c0 (q : Int)) : c = (partsK g (q + 1)).1 ∧ n + 1 = (partsK g (q + 1)).2 := by
  have hnil : todo = [] := List.eq_nil_of_length_eq_zero (by omega)
  subst hnil
  obtain ⟨hb1, hb2⟩ := breadth_iff hm h.sd
  have hpl := parts_len g q
  have hall : ∀ w, Cn g (q : Int) w → gI c w = n := fun w hw =>
    (closed_Cn (S := fun w => (ndP g w ∧ Cn g (q : Int) w) ∧ gI c w = n) (fun x hh hx hhx => by
      have b := outS_in hhx
      have hto := toS_in hm b.1.1 b.1.2
      have hcx : Cn g (q : Int) (toS g hh) := (Cn.eqv g).trans _ _ _ h.sd hx.1.1 hto hx.1.2 (by have := Cn.half hm b.1.1 b.1.2; rwa [b.2] at this)
      have h1 := h.clo x hx.1.1 hx.1.2 hx.2 (by simp) (by simp) hh hhx
      refine ⟨⟨hto, hcx⟩, ?_⟩
      rcases h.cmp _ hto with e | e
      · exact e.2
      · have := h.pre _ hto hcx
        omega) hw ⟨⟨h.sd, (Cn.eqv g).rfl _ h.sd⟩, h.src⟩).2
  have h1 : partsK g (q + 1) = ((breadthS g (q : Int)).order.foldl (fun l w => l.set w.toNat (partsK g q).2) (partsK g q).1, (partsK g q).2 + 1) := by
    rw [partsK_succ]
    unfold partOne
    rw [if_neg (by rw [← h0.1]; exact hc)]
  have hlen := h.len
  have hsd := h.sd
  have hsd2 := hsd.2
  rw [h1]
  refine ⟨?_, by rw [h0.2]⟩
  simp only
  have hl2 : (((breadthS g (q : Int)).order.foldl (fun l w => l.set w.toNat (partsK g q).2) (partsK g q).1).length : Int) = g.1 := by rw [set_fold_len, hpl.1]; omega
  apply list_ext_gI
  · omega
  · intro w hw
    have hwd : ndP g (w : Int) := ⟨by omega, by omega⟩
    rw [gI_fold _ _ (w : Int) (by omega) (by rw [hpl.1]; omega) (fun x hx => by
      have := hb1 x hx
      rw [hpl.1]
      have h2 := this.1
      have h3 := this.2
      omega)]
    by_cases hc' : Cn g (q : Int) (w : Int)
    · rw [if_pos ((hb2 _).2 hc'), hall _ hc', h0.2]
    · rw [if_neg (fun hm => hc' ((hb2 _).1 hm)), ← h0.1]
      rcases h.cmp _ hwd with e | e
      · exact absurd e.1 hc'
      · exact e
end
end TL
/-
  TlNil: a list that is none, compared.
  By an AI agent.
-/
set_option linter.all false
namespace TL
open Go
section
variable {P : Program} {w : World} {t t' : TypeId} {f : Fr} {x y : Operand} {dst : Option Tmp} {ty : TypeId} {pos : String} {after : Array Edge} {g : Option (Nat × Bool)}
theorem run_equal_nils {e : TypeId} (ht : P.underlying t = some (.slice e)) : (Op.equal t (.slice none 0 0) (.slice none 0 0)).run P w = .ok true w := by
  unfold Op.equal
  rw [show Op.maxDepth = 9999 + 1 from rfl]
  unfold Op.equalIn
  simp [run_underlying' ht]
theorem e_neq_nils {e : TypeId} (ht : P.underlying t = some (.slice e)) (hx : ev f x = .slice none 0 0) (hy : ev f y = .slice none 0 0) : (execOp (ev f) ⟨dst, .binOp .neq t x y t', ty, pos, after, g⟩).run P w = .ok (.value (.bool false)) w :=
  e_bin .neq hx hy (by simp [eqGuard]) (by simp [binOp, run_equal_nils ht])
end
theorem ow_pre {α : Type} [Rp α] {γ : Cmap} {J S : Col → Prop} {w : World} {v : Value} {xs : List α} {hi : Nat} (h : Ow γ J S w v xs) (h2 : hi ≤ xs.length) : Ow γ J S w (subV v (Rp.sz α) 0 hi) (xs.take hi) := by
  rcases h with ⟨rfl, rfl⟩ | ⟨b, cap, c, e, rfl, hc, hm, hJ, hb, hcs, hx⟩
  · simp only [List.length_nil] at h2
    have : hi = 0 := by omega
    subst this
    exact .inl ⟨rfl, rfl⟩
  · have hl : (xs.take hi).length = hi := by simp; omega
    refine .inr ⟨b, cap, c, e, ?_, ⟨by omega, by omega⟩, hm, hJ, hb, hcs, fun i x hi' => hx i x ?_⟩
    · rw [subV_zero]
      simp only [hl]
    · rw [List.getElem?_take] at hi'
      split at hi'
      · exact hi'
      · cases hi'
end TL
/-
  TlRef9: the document's own answer for rotations: what stands behind each half-edge, next ones.
  By an AI agent.
-/
set_option linter.all false
namespace TL
structure BhInv (l : List Int) (g : Net) (r : Rot) (k i : Nat) : Prop where
  len : (l.length : Int) = 2 * (g.2.length : Int)
  old : ∀ v j : Nat, v < k → (v : Int) < r.length → (j : Int) < (gI r (v : Int)).length → gI l (gI (gI r (v : Int)) (j : Int)) = succS r (gI (gI r (v : Int)) (j : Int))
  row : ∀ j : Nat, j < i → (j : Int) < (gI r (k : Int)).length → gI l (gI (gI r (k : Int)) (j : Int)) = succS r (gI (gI r (k : Int)) (j : Int))
theorem BhInv.start (g : Net) (r : Rot) : BhInv (List.replicate (2 * (g.2.length : Int)).toNat 0) g r 0 0 := ⟨by simp; omega, fun v j hv => by omega, fun j hj => by omega⟩
theorem BhInv.next {l : List Int} {g : Net} {r : Rot} {k i : Nat} (h : BhInv l g r k i) (hr : RotP g r) (hk : (k : Int) < r.length) (hi : (i : Int) < (gI r (k : Int)).length) :
    BhInv (l.set (gI (gI r (k : Int)) (i : Int)).toNat (gI (gI r (k : Int)) (((i : Int) + 1) % ((gI r (k : Int)).length : Int)))) g r k (i + 1) := by
  have hl := h.len
  have hin := (hr.2.1 k (by omega) _ (gI_mem (xs := gI r (k : Int)) (i := (i : Int)) (by omega) hi)).1
  have key : ∀ x : Int, 0 ≤ x → x < 2 * (g.2.length : Int) → gI l x = succS r x ∨ x = gI (gI r (k : Int)) (i : Int) → gI (l.set (gI (gI r (k : Int)) (i : Int)).toNat (gI (gI r (k : Int)) (((i : Int) + 1) % ((gI r (k : Int)).length : Int)))) x = succS r x := by
    intro x hx0 hx1 hx
    rw [gI_set hin.1 (by omega) hx0]
    by_cases e : x = gI (gI r (k : Int)) (i : Int)
    · rw [if_pos e, e, succS_at hr hk hi]
    · rw [if_neg e]
      exact hx.resolve_right e
  refine ⟨by simpa using hl, fun v j hv hvr hj => ?_, fun j hj hjr => ?_⟩
  · have hx := (hr.2.1 v (by omega) _ (gI_mem (xs := gI r (v : Int)) (i := (j : Int)) (by omega) hj)).1
    exact key _ hx.1 hx.2 (.inl (h.old v j hv hvr hj))
  · have hx := (hr.2.1 k (by omega) _ (gI_mem (xs := gI r (k : Int)) (i := (j : Int)) (by omega) hjr)).1
    refine key _ hx.1 hx.2 ?_
    by_cases e : j = i
    · subst e; exact .inr rfl
    · exact .inl (h.row j (by omega) hjr)
theorem BhInv.row_done {l : List Int} {g : Net} {r : Rot} {k i : Nat} (h : BhInv l g r k i) (hi : ¬ (i : Int) < (gI r (k : Int)).length) : BhInv l g r (k + 1) 0 := by
  refine ⟨h.len, fun v j hv hvr hj => ?_, fun j hj => by omega⟩
  by_cases e : v = k
  · subst e; exact h.row j (by omega) hj
  · exact h.old v j (by omega) hvr hj
theorem BhInv.done {l : List Int} {g : Net} {r : Rot} {k i : Nat} (h : BhInv l g r k i) (hr : RotP g r) (hk : ¬ (k : Int) < r.length) {x : Int} (h0 : 0 ≤ x) (h1 : x < 2 * (g.2.length : Int)) : gI l x = succS r x := by
  obtain ⟨v, j, hv, hj, e⟩ := rot_all hr h0 h1
  have := h.old v j (by omega) hv hj
  rw [e] at this
  exact this
def NeInv (l : List Int) (g : Net) (r : Rot) (h : Nat) : Prop := (l.length : Int) = 2 * (g.2.length : Int) ∧ ∀ j : Nat, j < h → (j : Int) < 2 * (g.2.length : Int) → gI l (j : Int) = succS r (twin (j : Int))
theorem NeInv.start {g : Net} {r : Rot} {n : Int} (h : n = 2 * (g.2.length : Int)) : NeInv (List.replicate n.toNat 0) g r 0 := ⟨by simp; omega, fun j hj => by omega⟩
theorem NeInv.next {l : List Int} {g : Net} {r : Rot} {h : Nat} {x : Int} (hi : NeInv l g r h) (hh : (h : Int) < 2 * (g.2.length : Int)) (hx : x = succS r (twin (h : Int))) : NeInv (l.set (Int.toNat (h : Int)) x) g r (h + 1) := by
  obtain ⟨h1, h2⟩ := hi
  refine ⟨by simpa using h1, fun j hj hjl => ?_⟩
  rw [gI_set (by omega) (by omega) (by omega)]
  by_cases e : j = h
  · subst e; rw [if_pos rfl, hx]
  · rw [if_neg (by omega)]; exact h2 j (by omega) hjl
theorem NeInv.done {l : List Int} {g : Net} {r : Rot} {h : Nat} (hi : NeInv l g r h) (hh : ¬ (h : Int) < l.length) : l = nextS g r := by
  obtain ⟨h1, h2⟩ := hi
  have hn := nextS_len g r
  apply list_ext_gI
  · omega
  · intro q hq
    rw [nextS_gI (by omega) (by omega)]
    exact h2 q (by omega) (by omega)
def MirInv (out : Rot) (r : Rot) (v : Nat) (k : Int) : Prop := out.length = r.length ∧ gI out (v : Int) = ((gI r (v : Int)).drop (k + 1).toNat).reverse ∧ ∀ j : Nat, (j : Int) < r.length → j ≠ v → gI out (j : Int) = if j < v then (gI r (j : Int)).reverse else []
def MirOut (out : Rot) (r : Rot) (v : Nat) : Prop := out.length = r.length ∧ ∀ j : Nat, (j : Int) < r.length → gI out (j : Int) = if j < v then (gI r (j : Int)).reverse else []
theorem MirOut.start (r : Rot) : MirOut (List.replicate r.length []) r 0 := ⟨by simp, fun j hj => by rw [gI_rep (by omega) hj, if_neg (by omega)]⟩
theorem MirOut.row {out r : Rot} {v : Nat} (h : MirOut out r v) (hv : (v : Int) < r.length) {k : Int} (hk : k = ((gI r (v : Int)).length : Int) - 1) : MirInv out r v k := by
  refine ⟨h.1, ?_, fun j hj hn => h.2 j hj⟩
  rw [h.2 v hv, if_neg (by omega), List.drop_of_length_le (by omega)]; rfl
theorem MirInv.next {out r : Rot} {v : Nat} {k : Int} (h : MirInv out r v k) (hv : (v : Int) < r.length) (h0 : 0 ≤ k) (h1 : k < (gI r (v : Int)).length) : MirInv (out.set (Int.toNat (v : Int)) (gI out (v : Int) ++ [gI (gI r (v : Int)) k])) r v (k - 1) := by
  obtain ⟨a, b, c⟩ := h
  refine ⟨by simpa using a, ?_, fun j hj hn => ?_⟩
  · rw [gI_set (by omega) (by omega) (by omega), if_pos rfl, b]
    have e := drop_gI (xs := gI r (v : Int)) (k := k.toNat) (by omega)
    rw [Int.toNat_of_nonneg h0] at e
    rw [show (k - 1 + 1).toNat = k.toNat by omega, e, List.reverse_cons, show (k + 1).toNat = k.toNat + 1 by omega]
  · rw [gI_set (by omega) (by omega) (by omega), if_neg (by omega)]; exact c j hj hn
theorem MirInv.bd {out r : Rot} {v : Nat} {k : Int} (h : MirInv out r v k) : (gI out (v : Int)).length ≤ (gI r (v : Int)).length := by
  rw [h.2.1, List.length_reverse, List.length_drop]; omega
theorem MirInv.done {out r : Rot} {v : Nat} {k : Int} (h : MirInv out r v k) (hk : k < 0) (h0 : -1 ≤ k) : MirOut out r (v + 1) := by
  obtain ⟨a, b, c⟩ := h
  refine ⟨a, fun j hj => ?_⟩
  by_cases e : j = v
  · subst e; rw [b, if_pos (by omega), show (k + 1).toNat = 0 by omega]; rfl
  · rw [c j hj e]
    by_cases e2 : j < v
    · rw [if_pos e2, if_pos (by omega)]
    · rw [if_neg e2, if_neg (by omega)]
theorem MirOut.done {out r : Rot} {v : Nat} (h : MirOut out r v) (hv : ¬ (v : Int) < r.length) : out = r.map List.reverse := by
  apply list_ext_gI
  · simp [h.1]
  · intro q hq
    have := h.1
    rw [h.2 q (by omega), if_pos (by omega), gI_map _ (by omega) (by omega)]
theorem FaInv.yes' {seen0 seen : List Bool} {l : List (List Int)} {nx S f : List Int} {q : Nat} {k : Int} (h : FaInv seen0 l nx S q) (ho : OrInv seen f nx S q k) (hs : gI seen k = true) (h0 : ¬ gI seen0 (q : Int) = true) (hq : (q : Int) < nx.length) : FaInv seen (l ++ [f]) nx (S ++ f) (q + 1) := by
  refine h.yes ho hs ?_ hq
  have e := ho.done hs
  have hq2 := h.rm.low (by omega) hq h0
  have hb := (h.rm.next (h := (q : Int)) (by omega) hq (Bool.eq_false_iff.2 h0)).bd
  simp only [List.length_append, List.length_cons, List.length_nil] at hb
  rw [orb_go hq2 (by omega)] at e
  rw [e]; simp
def genusS (g : Net) (r : Rot) : Int := Int.tdiv (2 * (partsR g).2.1 - g.1 + (g.2.length : Int) - ((facesS (nextS g r) r).length : Int)) 2
theorem genusR_yes {g : Net} {r : Rot} (h : rmayR g r = 0) : genusR g r = (genusS g r, 0) := if_pos h
end TL
