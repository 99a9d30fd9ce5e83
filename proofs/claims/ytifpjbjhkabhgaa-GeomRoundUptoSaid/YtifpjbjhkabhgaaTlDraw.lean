/-
  TlDraw: regions that draw their order, taken operation by operation.
  By an AI agent.
-/
import Derived.Test.YtifpjbjhkabhgaaTlHeap
set_option linter.all false
namespace TL
open Go

/-- which operations have come up -/
def maskOf (n : Nat) (done : List Nat) : Array Bool := ((List.range n).map fun i => decide (i ∈ done)).toArray
theorem maskOf_size (n : Nat) (done : List Nat) : (maskOf n done).size = n := by simp [maskOf]
theorem maskOf_getD (n : Nat) (done : List Nat) (j : Nat) (d : Bool) : (maskOf n done).getD j d = if j < n then decide (j ∈ done) else d := by
  unfold maskOf
  by_cases h : j < n
  · simp [h]
  · simp [h]
theorem maskOf_cons {n i : Nat} (done : List Nat) (hi : i < n) : (maskOf n done).setIfInBounds i true = maskOf n (i :: done) := by
  apply Array.ext
  · simp [maskOf]
  · intro j h1 h2
    have hj : j < n := by simpa [maskOf] using h2
    simp only [maskOf]
    by_cases hij : i = j
    · subst hij; simp
    · have : ¬ j = i := fun h => hij h.symm
      simp [Array.getElem_setIfInBounds, hij, this]

section
variable {P : Program} {ops : Array Oper} {Q : Exit → Act → World → Prop} {md : Region.Mode} {qs : Nat → Bool}

/-- whatever order is drawn; the operations in qs leave the world alone -/
def anyX (P : Program) (md : Region.Mode) (ops : Array Oper) (qs : Nat → Bool) (Q : Exit → Act → World → Prop) : Nat → Array Bool → Act → World → Prop
  | 0, listed, a, w => Region.ready md ops listed = [] ∧ Q .normal a w
  | fuel + 1, listed, a, w => (Region.ready md ops listed = [] → Q .normal a w) ∧
    ∀ i ∈ Region.ready md ops listed, if qs i then stOp P ops w i (fun a' => anyX P md ops qs Q fuel (listed.setIfInBounds i true) a' w) a
      else wpOp P ops Q i (anyX P md ops qs Q fuel (listed.setIfInBounds i true)) a w

theorem wpAny_of_anyX : ∀ (fuel : Nat) (listed : Array Bool) (a : Act) (w : World), anyX P md ops qs Q fuel listed a w → wpAny P md ops Q fuel listed a w
  | 0, _, _, _, h => h
  | fuel + 1, listed, a, w, h => by
    refine ⟨h.1, fun i hi => ?_⟩
    have h2 := h.2 i hi
    cases hq : qs i with
    | true =>
      simp only [hq, if_true] at h2
      exact wpOp_of_stOp (fun a' h' => wpAny_of_anyX fuel _ a' w h') h2
    | false =>
      simp only [hq, Bool.false_eq_true, if_false] at h2
      exact wpOp_mono (fun a' w' h' => wpAny_of_anyX fuel _ a' w' h') h2

/-- an operation that only reads is taken first: what may come before it only reads, too -/
theorem anyX_first {i : Nat} {oi : Oper} {v : Value} {w : World} {M D : Array Bool} (hi : ops[i]? = some oi) (hsel : ∀ (j : Nat) (o : Oper) cs b, ops[j]? = some o → o.op ≠ .select cs b) (hqi : qs i = true)
    (hM : ∀ j oj, ops[j]? = some oj → M.getD j false = false → j ≠ i → ∃ e ∈ oj.after, Region.binds md e = true ∧ M.getD e.on false = false)
    (hMq : ∀ j oj, ops[j]? = some oj → M.getD j false = true → D.getD j true = false → j ≠ i → qs j = true) :
    ∀ (fuel : Nat) (listed : Array Bool) (a : Act), listed.size = ops.size → (∀ j, listed.getD j false = true → M.getD j false = true) → (∀ j, listed.getD j true = false → D.getD j true = false) →
      (∀ j oj, ops[j]? = some oj → j ≠ i → listed.getD j true = false → (∀ e ∈ oj.after, Region.binds md e = true → e.on ≠ i) → oi.apart ops oj = true) →
      i ∈ Region.ready md ops listed → YieldsAt P ops w oi v a →
      anyX P md ops qs Q fuel (listed.setIfInBounds i true) (a.put oi.dst v) w → anyX P md ops qs Q (fuel + 1) listed a w := by
  intro fuel
  induction fuel with
  | zero =>
    intro listed a _ _ _ _ hr hy H
    refine ⟨fun h => (by rw [h] at hr; cases hr), fun j hj => ?_⟩
    by_cases hji : j = i
    · subst hji; rw [if_pos hqi]; exact hy.stOp hi H
    · have := ready_mono hj hji
      rw [H.1] at this
      cases this
  | succ fuel ih =>
    intro listed a hsz hsub hD hfree hr hy H
    refine ⟨fun h => (by rw [h] at hr; cases hr), fun j hj => ?_⟩
    by_cases hji : j = i
    · subst hji; rw [if_pos hqi]; exact hy.stOp hi H
    · obtain ⟨hjun, oj, hoj, hall⟩ := mem_ready.1 hj
      have hMj : M.getD j false = true := by
        cases hm : M.getD j false with
        | true => rfl
        | false =>
          obtain ⟨e, he, hb, hn⟩ := hM j oj hoj hm hji
          have := hsub _ (hall e he hb)
          rw [hn] at this; cases this
      have hqj := hMq j oj hoj hMj (hD j hjun) hji
      have h1 := H.2 j (ready_mono hj hji)
      rw [if_pos hqj] at h1 ⊢
      have hnot : ∀ e ∈ oj.after, Region.binds md e = true → e.on ≠ i := fun e he hb heq => by
        have h1 := hall e he hb
        have h0 := (mem_ready.1 hr).1
        rw [heq] at h1
        rw [getD_both h0] at h1
        cases h1
      have h2 := stOp_put hoj (hfree j oj hoj hji hjun hnot) (fun cs b => hsel i oi cs b hi) (fun cs b => hsel j oj cs b hoj) hy h1
      have hfree' : ∀ k ok, ops[k]? = some ok → k ≠ i → (listed.setIfInBounds j true).getD k true = false →
          (∀ e ∈ ok.after, Region.binds md e = true → e.on ≠ i) → oi.apart ops ok = true := fun k ok hk hki hun hno => by
        refine hfree k ok hk hki ?_ hno
        by_cases hjk : j = k
        · subst hjk; exact hjun
        · rw [getD_set_ne true hjk] at hun; exact hun
      have hsub' : ∀ k, (listed.setIfInBounds j true).getD k false = true → M.getD k false = true := fun k hk => by
        by_cases hjk : j = k
        · subst hjk; exact hMj
        · rw [getD_set_ne false hjk] at hk; exact hsub k hk
      have hD' : ∀ k, (listed.setIfInBounds j true).getD k true = false → D.getD k true = false := fun k hk => by
        by_cases hjk : j = k
        · subst hjk; exact hD j hjun
        · rw [getD_set_ne true hjk] at hk; exact hD k hk
      refine stOp_mono (fun a' h3 => ih (listed.setIfInBounds j true) a' (by simpa using hsz) hsub' hD' hfree' (ready_mono hr (Ne.symm hji)) h3.1 ?_) h2
      rw [Array.setIfInBounds_comm _ _ hji]
      exact h3.2

/-! operations that only make memory -/
def Keeps {α : Type} (s : Sem α) : Prop := ∀ (P : Program) (w : World) (x : α) (w' : World), s.run P w = .ok x w' → Bel w.heap.size w w'
theorem Keeps.bind {α β : Type} {s : Sem α} {f : α → Sem β} (h : Keeps s) (hf : ∀ a, Keeps (f a)) : Keeps (s >>= f) := by
  intro P w x w' hr
  rw [Sem.run_bind] at hr
  cases h1 : s.run P w with
  | halt e w1 => rw [h1] at hr; cases hr
  | ok a w1 =>
    rw [h1] at hr
    have k1 := h P w a w1 h1
    have k2 := hf a P w1 x w' hr
    exact k1.trans (k2.mono k1.size)
theorem Keeps.pure {α : Type} (a : α) : Keeps (Pure.pure a : Sem α) := fun P w x w' h => by
  simp only [Sem.run_pure] at h
  cases h; exact Bel.refl _ _
theorem Keeps.halt {α : Type} (e : Halt) : Keeps (Sem.halt e : Sem α) := fun P w x w' h => by cases h
theorem Keeps.stuck {α : Type} (e : String) : Keeps (Go.stuck e : Sem α) := Keeps.halt _
theorem Keeps.unsupported {α : Type} (e : Unsupported) : Keeps (Go.unsupported e : Sem α) := Keeps.halt _
theorem Keeps.program : Keeps Go.program := fun P w x w' h => by
  simp only [run_program] at h
  cases h; exact Bel.refl _ _
theorem Keeps.new (o : Obj) : Keeps (newObj o) := fun P w x w' h => by
  simp only [run_newObj] at h
  cases h
  exact (Bel.refl _ w).alloc (Nat.le_refl _) o
theorem Keeps.typeInfo (t : TypeId) : Keeps (Go.typeInfo t) := Keeps.bind Keeps.program fun p => by
  cases p.info? t with
  | some i => exact Keeps.pure i
  | none => exact Keeps.stuck _
theorem Keeps.underlying (t : TypeId) : Keeps (Go.underlying t) := Keeps.bind Keeps.program fun p => by
  cases p.underlying t with
  | some i => exact Keeps.pure i
  | none => exact Keeps.stuck _
theorem Keeps.sizeOf (t : TypeId) : Keeps (Go.sizeOf t) := Keeps.bind (Keeps.typeInfo t) fun i => Keeps.pure _
theorem Keeps.zeroValue (t : TypeId) : Keeps (Go.zeroValue t) := Keeps.bind (Keeps.typeInfo t) fun i => by
  cases i.zero with
  | some v => exact Keeps.pure v
  | none => exact Keeps.unsupported _
theorem Keeps.newVar (t : TypeId) (v : Value) : Keeps (Go.newVar t v) := Keeps.bind (Keeps.new _) fun _ => Keeps.pure _
theorem Keeps.ite {α : Type} {c : Prop} [Decidable c] {x y : Sem α} (hx : Keeps x) (hy : Keeps y) : Keeps (if c then x else y) := by split <;> assumption
theorem keeps_buildSlice (t : TypeId) (len : Nat) (parts : Array (Nat × Value)) : Keeps (Instr.buildSlice t len parts) := by
  unfold Instr.buildSlice
  refine Keeps.bind (Keeps.underlying t) fun d => ?_
  split
  · refine Keeps.bind (Keeps.sizeOf _) fun size => ?_
    have tail : ∀ (elem : TypeId) (zero : Array Value), Keeps (match Instr.fill (fun i => some (i * size, size)) ((Array.range (len * size)).map (zero[· % zero.size]!)) parts.toList with
        | some cells => (do pure (Value.slice (some (← newRow elem cells)) len len) : Sem Value)
        | _ => Go.stuck "buildSlice: a part of the wrong size") := fun elem zero => by
      split
      · exact Keeps.bind (Keeps.bind (Keeps.new _) fun _ => Keeps.pure _) fun _ => Keeps.pure _
      · exact Keeps.stuck _
    by_cases h1 : len * size > 2 ^ 24
    · simp only [h1, if_true]
      refine Keeps.bind (Keeps.unsupported _) fun x => ?_
      by_cases h2 : len * size = 0
      · rw [if_pos h2]
        exact Keeps.bind (Keeps.pure _) fun zero => tail _ zero
      · simp only [h2, if_false]
        exact Keeps.bind (Keeps.zeroValue _) fun _ => Keeps.bind (Keeps.pure _) fun zero => tail _ zero
    · simp only [h1, if_false]
      by_cases h2 : len * size = 0
      · rw [if_pos h2]
        exact Keeps.bind (Keeps.pure _) fun zero => tail _ zero
      · simp only [h2, if_false]
        exact Keeps.bind (Keeps.zeroValue _) fun _ => Keeps.bind (Keeps.pure _) fun zero => tail _ zero
  · exact Keeps.stuck _
theorem value_of {P : Program} {w w' : World} {s : Sem Value} {nx : Next} (h : (do pure (Next.value (← s)) : Sem Next).run P w = .ok nx w') : ∃ u, nx = .value u := by
  rw [Sem.run_bind] at h
  cases hs : s.run P w with
  | ok a w1 => rw [hs] at h; cases h; exact ⟨a, rfl⟩
  | halt e w1 => rw [hs] at h; cases h
theorem Keeps.load (a : Addr) (m : Mode) : Keeps (Go.load a m) := fun P w x w' h => by
  simp only [Go.load, Sem.run] at h
  split at h
  · cases h; exact Bel.refl _ _
  · split at h
    · cases h; exact Bel.refl _ _
    · cases h
theorem Keeps.cells (a : Addr) : ∀ (n i : Nat) (acc : Array Value), Keeps (loadCellsFrom a i n acc)
  | 0, _, _ => Keeps.pure _
  | n + 1, i, _ => Keeps.bind (Keeps.load _ _) fun _ => Keeps.cells a n (i + 1) _
theorem Keeps.isAgg (t : TypeId) : Keeps (Go.isAgg t) := Keeps.bind (Keeps.underlying t) fun d => by
  split <;> exact Keeps.pure _
theorem Keeps.error {α : Type} (m : String) : Keeps (runtimePanic (.error m) : Sem α) := Keeps.bind Keeps.program fun p => Keeps.halt _
theorem Keeps.nilDeref {α : Type} : Keeps (runtimePanic .nilDeref : Sem α) := Keeps.bind Keeps.program fun p => Keeps.halt _
theorem Keeps.asIntOf (v : Value) : Keeps (Go.asIntOf v) := by
  unfold Go.asIntOf
  split
  · exact Keeps.pure _
  · exact Keeps.unsupported _
  · exact Keeps.stuck _
theorem Keeps.asInt (v : Value) : Keeps (Go.asInt v) := Keeps.bind (Keeps.asIntOf v) fun _ => Keeps.pure _
theorem Keeps.choose (q : Question) : Keeps (Go.choose q) := fun P w x w' h => by
  simp only [Go.choose, Sem.run] at h
  split at h
  · cases h; exact Bel.refl _ _
  · cases h; exact ⟨rfl, rfl, rfl, Nat.le_refl _, fun _ _ => rfl, Nat.le_succ _⟩
theorem Keeps.room (n : Nat) : Keeps (askRoom n) := fun P w x w' h => by
  unfold askRoom at h
  split at h
  · simp only [Go.mark, Sem.run] at h
    cases h; exact ⟨rfl, rfl, rfl, Nat.le_refl _, fun _ _ => rfl, Nat.le_refl _⟩
  · cases h; exact Bel.refl _ _
theorem keeps_loadAt (t : TypeId) (a : Value) : Keeps (Instr.loadAt t a) := by
  unfold Instr.loadAt
  refine Keeps.bind ?_ fun b => ?_
  · unfold Instr.sureAddr
    split
    · exact Keeps.pure _
    · exact Keeps.stuck _
  · unfold loadVar
    refine Keeps.bind (Keeps.isAgg t) fun c => ?_
    split
    · exact Keeps.bind (Keeps.sizeOf t) fun n => Keeps.bind (Keeps.cells _ _ _ _) fun _ => Keeps.pure _
    · exact Keeps.load _ _
theorem keeps_makeSlice (t : TypeId) (a b : Value) : Keeps (Instr.makeSlice t a b) := by
  unfold Instr.makeSlice
  refine Keeps.bind (Keeps.underlying t) fun d => ?_
  split
  · refine Keeps.bind (Keeps.asInt _) fun l => Keeps.bind (Keeps.asInt _) fun c => Keeps.bind (Keeps.typeInfo _) fun i => ?_
    have tail : ∀ (c : Int) (l : Int) (elem : TypeId), Keeps (do
        let n := c.toNat * (← sizeOf elem)
        let zero ← if n = 0 then pure #[] else do pure (← zeroValue elem).cells
        let a ← newRow elem ((Array.range n).map (zero[· % zero.size]!))
        pure (Value.slice (some a) l.toNat c.toNat)) := fun c l elem => by
      refine Keeps.bind (Keeps.sizeOf _) fun n => ?_
      have last : ∀ zero : Array Value, Keeps (do
        let a ← newRow elem ((Array.range (c.toNat * n)).map (zero[· % zero.size]!))
        pure (Value.slice (some a) l.toNat c.toNat)) := fun zero => Keeps.bind (Keeps.bind (Keeps.new _) fun _ => Keeps.pure _) fun _ => Keeps.pure _
      by_cases h : c.toNat * n = 0
      · simp only [h, if_true]
        have := last #[]
        simp only [h] at this
        exact Keeps.bind (Keeps.pure _) fun _ => Keeps.bind (Keeps.bind (Keeps.new _) fun _ => Keeps.pure _) fun _ => Keeps.pure _
      · simp only [h, if_false]
        exact Keeps.bind (Keeps.zeroValue _) fun _ => Keeps.bind (Keeps.pure _) fun z => last z
    dsimp only
    repeat' (first
      | exact Keeps.error _
      | exact Keeps.choose _
      | exact Keeps.room _
      | exact tail _ _ _
      | exact Keeps.pure _
      | refine Keeps.bind ?_ fun _ => ?_
      | split)
  · exact Keeps.stuck _
def keepKind : Op → Bool
  | .alloc _ | .box .. | .buildSlice .. | .load .. | .makeSlice .. => true
  | _ => false
theorem keeps_kind {ρ : Operand → Value} {o : Oper} (h : keepKind o.op = true) : Keeps (execOp ρ o) := by
  obtain ⟨dst, op, ty, pos, after, g⟩ := o
  cases op <;> simp only [keepKind, Bool.false_eq_true] at h
  case alloc e => exact Keeps.bind (Keeps.bind (Keeps.zeroValue _) fun _ => Keeps.bind (Keeps.newVar _ _) fun _ => Keeps.pure _) fun _ => Keeps.pure _
  case box e x => exact Keeps.bind (Keeps.bind (Keeps.newVar _ _) fun _ => Keeps.pure _) fun _ => Keeps.pure _
  case buildSlice t n ps => exact Keeps.bind (keeps_buildSlice _ _ _) fun _ => Keeps.pure _
  case load t a => exact Keeps.bind (keeps_loadAt _ _) fun _ => Keeps.pure _
  case makeSlice t a b => exact Keeps.bind (keeps_makeSlice _ _ _) fun _ => Keeps.pure _

/-- an operation that reads what stays is taken first: what may come before it only reads, or only makes memory -/
theorem anyX_held {i : Nat} {oi : Oper} {v : Value} {w0 : World} {M D : Array Bool} (hi : ops[i]? = some oi) (hsel : ∀ (j : Nat) (o : Oper) cs b, ops[j]? = some o → o.op ≠ .select cs b) (hqi : qs i = true)
    (hQ : ∀ c a w, Q (.panic c) (a.put oi.dst v) w → Q (.panic c) a w)
    (hM : ∀ j oj, ops[j]? = some oj → M.getD j false = false → j ≠ i → ∃ e ∈ oj.after, Region.binds md e = true ∧ M.getD e.on false = false)
    (hMq : ∀ j oj, ops[j]? = some oj → M.getD j false = true → D.getD j true = false → j ≠ i → qs j = true ∨ keepKind oj.op = true) :
    ∀ (fuel : Nat) (listed : Array Bool) (a : Act) (w : World), Bel w0.heap.size w0 w → (∀ j, listed.getD j false = true → M.getD j false = true) → (∀ j, listed.getD j true = false → D.getD j true = false) →
      (∀ j oj, ops[j]? = some oj → j ≠ i → listed.getD j true = false → (∀ e ∈ oj.after, Region.binds md e = true → e.on ≠ i) → oi.apart ops oj = true) →
      i ∈ Region.ready md ops listed → (∀ w, Bel w0.heap.size w0 w → YieldsAt P ops w oi v a) →
      anyX P md ops qs Q fuel (listed.setIfInBounds i true) (a.put oi.dst v) w → anyX P md ops qs Q (fuel + 1) listed a w := by
  intro fuel
  induction fuel with
  | zero =>
    intro listed a w hw _ _ _ hr hy H
    refine ⟨fun h => (by rw [h] at hr; cases hr), fun j hj => ?_⟩
    by_cases hji : j = i
    · subst hji; rw [if_pos hqi]; exact (hy w hw).stOp hi H
    · have := ready_mono hj hji
      rw [H.1] at this
      cases this
  | succ fuel ih =>
    intro listed a w hw hsub hD hfree hr hy H
    refine ⟨fun h => (by rw [h] at hr; cases hr), fun j hj => ?_⟩
    by_cases hji : j = i
    · subst hji; rw [if_pos hqi]; exact (hy w hw).stOp hi H
    · obtain ⟨hjun, oj, hoj, hall⟩ := mem_ready.1 hj
      have hMj : M.getD j false = true := by
        cases hm : M.getD j false with
        | true => rfl
        | false =>
          obtain ⟨e, he, hb, hn⟩ := hM j oj hoj hm hji
          have := hsub _ (hall e he hb)
          rw [hn] at this; cases this
      have hqj := hMq j oj hoj hMj (hD j hjun) hji
      have h1 := H.2 j (ready_mono hj hji)
      have hnot : ∀ e ∈ oj.after, Region.binds md e = true → e.on ≠ i := fun e he hb heq => by
        have h1 := hall e he hb
        have h0 := (mem_ready.1 hr).1
        rw [heq] at h1
        rw [getD_both h0] at h1
        cases h1
      have hap := hfree j oj hoj hji hjun hnot
      have hfree' : ∀ k ok, ops[k]? = some ok → k ≠ i → (listed.setIfInBounds j true).getD k true = false →
          (∀ e ∈ ok.after, Region.binds md e = true → e.on ≠ i) → oi.apart ops ok = true := fun k ok hk hki hun hno => by
        refine hfree k ok hk hki ?_ hno
        by_cases hjk : j = k
        · subst hjk; exact hjun
        · rw [getD_set_ne true hjk] at hun; exact hun
      have hsub' : ∀ k, (listed.setIfInBounds j true).getD k false = true → M.getD k false = true := fun k hk => by
        by_cases hjk : j = k
        · subst hjk; exact hMj
        · rw [getD_set_ne false hjk] at hk; exact hsub k hk
      have hD' : ∀ k, (listed.setIfInBounds j true).getD k true = false → D.getD k true = false := fun k hk => by
        by_cases hjk : j = k
        · subst hjk; exact hD j hjun
        · rw [getD_set_ne true hjk] at hk; exact hD k hk
      obtain ⟨g1, g2, g3⟩ := Oper.apart_spec hap
      have keep : ∀ u w, Bel w0.heap.size w0 w → YieldsAt P ops w oi v (a.put oj.dst u) := fun u w hw =>
        (hy w hw).of_same (execOp_put oi (fun cs b => hsel i oi cs b hi) a oj.dst u g3) (wanted_put oi a oj.dst u g3)
      cases hqj' : qs j with
      | true =>
        simp only [hqj', if_true] at h1 ⊢
        obtain ⟨u, hyu, hK⟩ := yieldsAt_of_stOp hoj h1
        have hyj : YieldsAt P ops w oj u a := by
          rcases hyu with ⟨k1, k2⟩ | ⟨k1, k2⟩
          · refine .inl ⟨by rw [← wanted_put oj a oi.dst v g1]; exact k1, ?_⟩
            rw [execOp_put oj (fun cs b => hsel j oj cs b hoj) a oi.dst v g1] at k2
            exact k2
          · exact .inr ⟨by rw [← wanted_put oj a oi.dst v g1]; exact k1, k2⟩
        refine hyj.stOp hoj (ih (listed.setIfInBounds j true) (a.put oj.dst u) w hw hsub' hD' hfree' (ready_mono hr (Ne.symm hji)) (keep u) ?_)
        rw [← Act.put_comm a v u g2, Array.setIfInBounds_comm _ _ hji]
        exact hK
      | false =>
        have hkk := hqj.resolve_left (by rw [hqj']; simp)
        simp only [hqj', Bool.false_eq_true, if_false] at h1 ⊢
        unfold wpOp at h1 ⊢
        simp only [hoj] at h1 ⊢
        rw [wanted_put oj a oi.dst v g1] at h1
        cases hwt : Region.wanted oj (yielded ops a.tmps) with
        | false =>
          simp only [hwt, Bool.false_eq_true, if_false] at h1 ⊢
          refine ih (listed.setIfInBounds j true) (a.put oj.dst undef) w hw hsub' hD' hfree' (ready_mono hr (Ne.symm hji)) (keep undef) ?_
          rw [← Act.put_comm a v undef g2, Array.setIfInBounds_comm _ _ hji]
          exact h1
        | true =>
          simp only [hwt, if_true] at h1 ⊢
          have hke := keeps_kind (ρ := a.eval) hkk P w
          rcases h1 with h1 | ⟨h1, h2⟩
          · left
            unfold Oper.wp at h1 ⊢
            rw [execOp_put oj (fun cs b => hsel j oj cs b hoj) a oi.dst v g1] at h1
            obtain ⟨dst, op, ty, pos, after, gd⟩ := oj
            cases hrun : (execOp a.eval ⟨dst, op, ty, pos, after, gd⟩).run P w with
            | halt x w' =>
              rw [hrun] at h1
              cases x <;> simp only [Oper.upon] at h1 ⊢
              case panic u => exact hQ _ _ _ h1
            | ok nx w' =>
              rw [hrun] at h1
              have hb := hke nx w' hrun
              have hw' : Bel w0.heap.size w0 w' := hw.trans (hb.mono hw.size)
              -- these operations yield values alone
              have hval : ∃ u, nx = .value u := by
                cases op <;> simp only [keepKind, Bool.false_eq_true] at hkk
                all_goals exact value_of hrun
              obtain ⟨u, rfl⟩ := hval
              simp only [Oper.upon] at h1 ⊢
              refine ih (listed.setIfInBounds j true) (a.put dst u) w' hw' hsub' hD' hfree' (ready_mono hr (Ne.symm hji)) (keep u) ?_
              have h3 := h1
              rw [show (a.put oi.dst v).put dst u = (a.put dst u).put oi.dst v from Act.put_comm a v u g2, Array.setIfInBounds_comm _ _ (Ne.symm hji)] at h3
              exact h3
          · right
            refine ⟨?_, h2⟩
            unfold Oper.asks at *
            rw [execOp_put oj (fun cs b => hsel j oj cs b hoj) a oi.dst v g1] at h1
            exact h1

/-- an operation whose value is the same in every world is taken first -/
theorem anyX_pure {i : Nat} {oi : Oper} {v : Value} (hi : ops[i]? = some oi) (hsel : ∀ (j : Nat) (o : Oper) cs b, ops[j]? = some o → o.op ≠ .select cs b) (hqi : qs i = true)
    (hQ : ∀ c a w, Q (.panic c) (a.put oi.dst v) w → Q (.panic c) a w) :
    ∀ (fuel : Nat) (listed : Array Bool) (a : Act) (w : World),
      (∀ j oj, ops[j]? = some oj → j ≠ i → listed.getD j true = false → (∀ e ∈ oj.after, Region.binds md e = true → e.on ≠ i) → oi.apart ops oj = true) →
      i ∈ Region.ready md ops listed → Yields P ops oi v a →
      anyX P md ops qs Q fuel (listed.setIfInBounds i true) (a.put oi.dst v) w → anyX P md ops qs Q (fuel + 1) listed a w := by
  have hat : ∀ {a : Act} {w : World}, Yields P ops oi v a → YieldsAt P ops w oi v a := fun {a w} hy => by
    rcases hy with ⟨h1, h2⟩ | ⟨h1, h2⟩
    · exact .inl ⟨h1, .inl (h2 w)⟩
    · exact .inr ⟨h1, h2⟩
  intro fuel
  induction fuel with
  | zero =>
    intro listed a w _ hr hy H
    refine ⟨fun h => (by rw [h] at hr; cases hr), fun j hj => ?_⟩
    by_cases hji : j = i
    · subst hji; rw [if_pos hqi]; exact (hat hy).stOp hi H
    · have := ready_mono hj hji
      rw [H.1] at this
      cases this
  | succ fuel ih =>
    intro listed a w hfree hr hy H
    refine ⟨fun h => (by rw [h] at hr; cases hr), fun j hj => ?_⟩
    by_cases hji : j = i
    · subst hji; rw [if_pos hqi]; exact (hat hy).stOp hi H
    · obtain ⟨hjun, oj, hoj, hall⟩ := mem_ready.1 hj
      have h1 := H.2 j (ready_mono hj hji)
      have hnot : ∀ e ∈ oj.after, Region.binds md e = true → e.on ≠ i := fun e he hb heq => by
        have h1 := hall e he hb
        have h0 := (mem_ready.1 hr).1
        rw [heq] at h1
        rw [getD_both h0] at h1
        cases h1
      have hap := hfree j oj hoj hji hjun hnot
      have hfree' : ∀ k ok, ops[k]? = some ok → k ≠ i → (listed.setIfInBounds j true).getD k true = false →
          (∀ e ∈ ok.after, Region.binds md e = true → e.on ≠ i) → oi.apart ops ok = true := fun k ok hk hki hun hno => by
        refine hfree k ok hk hki ?_ hno
        by_cases hjk : j = k
        · subst hjk; exact hjun
        · rw [getD_set_ne true hjk] at hun; exact hun
      cases hqj : qs j with
      | true =>
        simp only [hqj, if_true] at h1 ⊢
        -- a step that leaves the world
        have hy' := hy
        obtain ⟨g1, g2, g3⟩ := Oper.apart_spec hap
        have keep : ∀ (a : Act), Yields P ops oi v a → ∀ u, Yields P ops oi v (a.put oj.dst u) := fun a hy u =>
          hy.of_same (execOp_put oi (fun cs b => hsel i oi cs b hi) a oj.dst u g3) (wanted_put oi a oj.dst u g3)
        obtain ⟨u, hyu, hK⟩ := yieldsAt_of_stOp hoj h1
        have hyj : YieldsAt P ops w oj u a := by
          rcases hyu with ⟨k1, k2⟩ | ⟨k1, k2⟩
          · refine .inl ⟨by rw [← wanted_put oj a oi.dst v g1]; exact k1, ?_⟩
            rw [execOp_put oj (fun cs b => hsel j oj cs b hoj) a oi.dst v g1] at k2
            exact k2
          · exact .inr ⟨by rw [← wanted_put oj a oi.dst v g1]; exact k1, k2⟩
        refine hyj.stOp hoj (ih (listed.setIfInBounds j true) (a.put oj.dst u) w hfree' (ready_mono hr (Ne.symm hji)) (keep a hy u) ?_)
        rw [← Act.put_comm a v u g2, Array.setIfInBounds_comm _ _ hji]
        exact hK
      | false =>
        simp only [hqj, Bool.false_eq_true, if_false] at h1 ⊢
        have h2 := wpOp_put hoj hap (fun cs b => hsel i oi cs b hi) (fun cs b => hsel j oj cs b hoj) hQ hy h1
        refine wpOp_mono (fun a' w' h3 => ih (listed.setIfInBounds j true) a' w' hfree' (ready_mono hr (Ne.symm hji)) h3.1 ?_) h2
        rw [Array.setIfInBounds_comm _ _ hji]
        exact h3.2
end

section
variable {P : Program} {n : Nat} {l : List Oper} {qs : List Nat} {K : Fr → World → Prop} {f : Fr} {w : World} {done : List Nat} {fuel : Nat}

/-- the operations of a region, in whatever order is drawn -/
def wpX (P : Program) (n : Nat) (l : List Oper) (qs : List Nat) (K : Fr → World → Prop) (fuel : Nat) (done : List Nat) (f : Fr) (w : World) : Prop :=
  ∀ a, Ag n a f → anyX P .any l.toArray (fun i => decide (i ∈ qs)) (fun e a' w' => e = .normal ∧ ∃ f', Ag n a' f' ∧ K f' w') fuel (maskOf l.length done) a w

theorem run_region_x {fid : Nat} {R : Ending → World → Prop} {k : List Item} {id : Nat} (γ : Cmap) (qs : List Nat) (hm : P.follows .mixedOrders = true)
    (h : ∀ w1, Chg no γ w γ w1 → wpX P n l qs (Run P fid n R k) l.length [] f w1) : Run P fid n R (.code (.region id l.toArray true) :: k) f w :=
  run_of_wp fun a ha => wp_region_any hm (by
    have h0 := wpAny_of_anyX _ _ _ _ (h _ (Chg.refl _ _ _).drew a ha)
    have hmask : maskOf l.length [] = Array.replicate l.toArray.size false := by
      apply Array.ext
      · simp [maskOf]
      · intro j h1 h2; simp [maskOf]
    rw [hmask] at h0
    simpa using h0)

/-- several orders end in one middle -/
theorem region_mid {fid : Nat} {R : Ending → World → Prop} {k : List Item} {id : Nat} {σ : Type} (Mid : σ → Fr → World → Prop) (γ : Cmap) (qs : List Nat) (hm : P.follows .mixedOrders = true)
    (h : (∀ s f w, Mid s f w → Run P fid n R k f w) → ∀ w1, Chg no γ w γ w1 → wpX P n l qs (Run P fid n R k) l.length [] f w1) (hk : ∀ s f w, Mid s f w → Run P fid n R k f w) : Run P fid n R (.code (.region id l.toArray true) :: k) f w :=
  run_region_x γ qs hm (h hk)
def readyX (l : List Oper) (done : List Nat) (i : Nat) : Bool :=
  !done.contains i && match l[i]? with
    | some o => o.after.all fun e => !Region.binds .any e || done.contains e.on && decide (e.on < l.length)
    | none => false
def freeX (l : List Oper) (done : List Nat) (i : Nat) : Bool :=
  match l[i]? with
  | none => false
  | some oi => (List.range l.length).all fun j => j == i || done.contains j || match l[j]? with
      | some oj => oj.after.any (fun e => Region.binds .any e && e.on == i) || oi.apart l.toArray oj
      | none => true
/-- what may come before i lies in M -/
def beforeX (l : List Oper) (qs done M : List Nat) (i : Nat) : Bool :=
  ((List.range l.length).all fun j => M.contains j || j == i || match l[j]? with
      | some oj => oj.after.any fun e => Region.binds .any e && !M.contains e.on
      | none => true) &&
  (M.all fun j => j == i || done.contains j || qs.contains j) && (done.all fun j => M.contains j && decide (j < l.length)) && M.all fun j => decide (j < l.length)
def noSelX (l : List Oper) : Bool := Region.noSelect l.toArray

theorem readyX_spec {i : Nat} (h : readyX l done i = true) : i < l.length ∧ i ∈ Region.ready .any l.toArray (maskOf l.length done) := by
  unfold readyX at h
  simp only [Bool.and_eq_true, Bool.not_eq_true'] at h
  obtain ⟨h1, h2⟩ := h
  split at h2
  · rename_i o ho
    have hlt : i < l.length := (List.getElem?_eq_some_iff.1 ho).1
    refine ⟨hlt, mem_ready.2 ⟨by rw [maskOf_getD]; simp [hlt]; simpa using h1, o, by simpa using ho, fun e he hb => ?_⟩⟩
    have h3 := Array.all_eq_true_iff_forall_mem.1 h2 e he
    simp only [hb, Bool.not_true, Bool.false_or, Bool.and_eq_true, decide_eq_true_eq] at h3
    rw [maskOf_getD, if_pos h3.2]
    simpa using h3.1
  · cases h2
theorem freeX_spec {i : Nat} {oi : Oper} (hi : l[i]? = some oi) (h : freeX l done i = true) (j : Nat) (oj : Oper) (hj : l.toArray[j]? = some oj) (hne : j ≠ i) (hun : (maskOf l.length done).getD j true = false)
    (hno : ∀ e ∈ oj.after, Region.binds .any e = true → e.on ≠ i) : oi.apart l.toArray oj = true := by
  have hj' : l[j]? = some oj := by simpa using hj
  have hlt : j < l.length := (List.getElem?_eq_some_iff.1 hj').1
  unfold freeX at h
  simp only [hi, List.all_eq_true, List.mem_range] at h
  have h1 := h j hlt
  rw [maskOf_getD, if_pos hlt] at hun
  have hd : done.contains j = false := by simpa using hun
  simp only [hj', Bool.or_eq_true, beq_iff_eq, hne, false_or, hd, Bool.false_eq_true] at h1
  rcases h1 with h1 | h1
  · obtain ⟨e, he, hb⟩ := Array.any_eq_true'.1 h1
    simp only [Bool.and_eq_true, beq_iff_eq] at hb
    exact absurd hb.2 (hno e he hb.1)
  · exact h1
theorem sel_spec (h : noSelX l = true) : ∀ (j : Nat) (o : Oper) cs b, l.toArray[j]? = some o → o.op ≠ .select cs b := Region.noSelect_spec h

theorem qs_mem {i : Nat} (h : qs.contains i = true) : decide (i ∈ qs) = true := by simpa using h

variable {dst : Option Tmp} {op : Op} {ty : TypeId} {pos : String} {after : Array Edge} {g : Option (Nat × Bool)} {v : Value}

/-- an operation that reads -/
theorem x_val (i : Nat) (M : List Nat) (hi : l[i]? = some ⟨dst, op, ty, pos, after, g⟩) (hn : noSelX l = true) (hc : (qs.contains i && readyX l done i && freeX l done i && beforeX l qs done M i && dok n ⟨dst, op, ty, pos, after, g⟩) = true)
    (hw : wantF l ⟨dst, op, ty, pos, after, g⟩ f = true) (h : (execOp (ev f) ⟨dst, op, ty, pos, after, g⟩).run P w = .ok (.value v) w) (hk : wpX P n l qs K fuel (i :: done) (upd f dst v) w) : wpX P n l qs K (fuel + 1) done f w := by
  simp only [Bool.and_eq_true] at hc
  obtain ⟨⟨⟨⟨hq, hr⟩, hf⟩, hb⟩, hd⟩ := hc
  obtain ⟨hlt, hr'⟩ := readyX_spec hr
  intro a ha
  unfold beforeX at hb
  simp only [Bool.and_eq_true, List.all_eq_true, List.mem_range] at hb
  obtain ⟨⟨⟨b1, b2⟩, b3⟩, b4⟩ := hb
  have hgM : ∀ j, (maskOf l.length M).getD j false = true ↔ j ∈ M := fun j => by
    rw [maskOf_getD]
    by_cases hjl : j < l.length
    · simp [hjl]
    · simp only [hjl, if_false, Bool.false_eq_true, false_iff]
      exact fun hm => hjl (by simpa using b4 j hm)
  refine anyX_first (v := v) (M := maskOf l.length M) (D := maskOf l.length done) (by simpa using hi) (sel_spec hn) (qs_mem hq) (fun j oj hj hm hne => ?_) (fun j oj hj hm hD hne => ?_) fuel _ a (by simp [maskOf]) (fun j hj => ?_) (fun j hj => hj) (freeX_spec hi hf) hr' ?_ ?_
  · have hj' : l[j]? = some oj := by simpa using hj
    have hjl : j < l.length := (List.getElem?_eq_some_iff.1 hj').1
    have h1 := b1 j hjl
    have hmM : M.contains j = false := by
      cases hc : M.contains j with
      | false => rfl
      | true => have h9 := (hgM j).2 (by simpa using hc); rw [hm] at h9; cases h9
    simp only [hmM, hj', Bool.false_or, Bool.or_eq_true, beq_iff_eq, hne, false_or] at h1
    obtain ⟨e, he, hbb⟩ := Array.any_eq_true'.1 h1
    simp only [Bool.and_eq_true, Bool.not_eq_true'] at hbb
    refine ⟨e, he, hbb.1, ?_⟩
    cases hc : (maskOf l.length M).getD e.on false with
    | false => rfl
    | true =>
      have := (hgM _).1 hc
      have h2 := hbb.2
      simp [this] at h2
  · have h1 := b2 j ((hgM j).1 hm)
    have hj' : l[j]? = some oj := by simpa using hj
    have hjl : j < l.length := (List.getElem?_eq_some_iff.1 hj').1
    rw [maskOf_getD, if_pos hjl] at hD
    have hd : done.contains j = false := by simpa using hD
    simp only [Bool.or_eq_true, beq_iff_eq, hne, hd, false_or, Bool.false_eq_true] at h1
    exact qs_mem h1
  · rw [maskOf_getD] at hj
    split at hj
    · have h1 := b3 j (by simpa using hj)
      exact (hgM j).2 (by simpa using h1.1)
    · cases hj
  · refine .inl ⟨?_, .inl ?_⟩
    · rw [ha.yielded]; exact hw
    · rw [ha.eval]; exact h
  · rw [maskOf_cons done hlt]
    exact hk _ (ha.put hd v)

def beforeH (l : List Oper) (qs done M : List Nat) (i : Nat) : Bool :=
  ((List.range l.length).all fun j => M.contains j || j == i || match l[j]? with
      | some oj => oj.after.any fun e => Region.binds .any e && !M.contains e.on
      | none => true) &&
  (M.all fun j => j == i || done.contains j || qs.contains j || match l[j]? with
      | some oj => keepKind oj.op
      | none => false) && (done.all fun j => M.contains j && decide (j < l.length)) && M.all fun j => decide (j < l.length)
/-- an operation that reads what stays while memory is made -/
theorem x_held (i : Nat) (M : List Nat) (hi : l[i]? = some ⟨dst, op, ty, pos, after, g⟩) (hn : noSelX l = true) (hc : (qs.contains i && readyX l done i && freeX l done i && beforeH l qs done M i && dok n ⟨dst, op, ty, pos, after, g⟩) = true)
    (hw : wantF l ⟨dst, op, ty, pos, after, g⟩ f = true) (h : ∀ w', Bel w.heap.size w w' → (execOp (ev f) ⟨dst, op, ty, pos, after, g⟩).run P w' = .ok (.value v) w') (hk : wpX P n l qs K fuel (i :: done) (upd f dst v) w) : wpX P n l qs K (fuel + 1) done f w := by
  simp only [Bool.and_eq_true] at hc
  obtain ⟨⟨⟨⟨hq, hr⟩, hf⟩, hb⟩, hd⟩ := hc
  obtain ⟨hlt, hr'⟩ := readyX_spec hr
  intro a ha
  unfold beforeH at hb
  simp only [Bool.and_eq_true, List.all_eq_true, List.mem_range] at hb
  obtain ⟨⟨⟨b1, b2⟩, b3⟩, b4⟩ := hb
  have hgM : ∀ j, (maskOf l.length M).getD j false = true ↔ j ∈ M := fun j => by
    rw [maskOf_getD]
    by_cases hjl : j < l.length
    · simp [hjl]
    · simp only [hjl, if_false, Bool.false_eq_true, false_iff]
      exact fun hm => hjl (by simpa using b4 j hm)
  refine anyX_held (v := v) (w0 := w) (M := maskOf l.length M) (D := maskOf l.length done) (by simpa using hi) (sel_spec hn) (qs_mem hq) (fun c a w h => by cases h.1) (fun j oj hj hm hne => ?_) (fun j oj hj hm hD hne => ?_) fuel _ a w (Bel.refl _ _) (fun j hj => ?_) (fun j hj => hj) (freeX_spec hi hf) hr' (fun w' hw' => ?_) ?_
  · have hj' : l[j]? = some oj := by simpa using hj
    have hjl : j < l.length := (List.getElem?_eq_some_iff.1 hj').1
    have h1 := b1 j hjl
    have hmM : M.contains j = false := by
      cases hc : M.contains j with
      | false => rfl
      | true => have h9 := (hgM j).2 (by simpa using hc); rw [hm] at h9; cases h9
    simp only [hmM, hj', Bool.false_or, Bool.or_eq_true, beq_iff_eq, hne, false_or] at h1
    obtain ⟨e, he, hbb⟩ := Array.any_eq_true'.1 h1
    simp only [Bool.and_eq_true, Bool.not_eq_true'] at hbb
    refine ⟨e, he, hbb.1, ?_⟩
    cases hc : (maskOf l.length M).getD e.on false with
    | false => rfl
    | true =>
      have := (hgM _).1 hc
      have h2 := hbb.2
      simp [this] at h2
  · have h1 := b2 j ((hgM j).1 hm)
    have hj' : l[j]? = some oj := by simpa using hj
    have hjl : j < l.length := (List.getElem?_eq_some_iff.1 hj').1
    rw [maskOf_getD, if_pos hjl] at hD
    have hd : done.contains j = false := by simpa using hD
    simp only [hj', Bool.or_eq_true, beq_iff_eq, hne, hd, false_or, Bool.false_eq_true] at h1
    rcases h1 with h1 | h1
    · exact .inl (qs_mem h1)
    · exact .inr h1
  · rw [maskOf_getD] at hj
    split at hj
    · have h1 := b3 j (by simpa using hj)
      exact (hgM j).2 (by simpa using h1.1)
    · cases hj
  · refine .inl ⟨?_, .inl ?_⟩
    · rw [ha.yielded]; exact hw
    · rw [ha.eval]; exact h w' hw'
  · rw [maskOf_cons done hlt]
    exact hk _ (ha.put hd v)

/-- an operation that comes to the same in every world -/
theorem x_pure (i : Nat) (hi : l[i]? = some ⟨dst, op, ty, pos, after, g⟩) (hn : noSelX l = true) (hc : (qs.contains i && readyX l done i && freeX l done i && dok n ⟨dst, op, ty, pos, after, g⟩) = true)
    (hw : wantF l ⟨dst, op, ty, pos, after, g⟩ f = true) (h : ∀ w, (execOp (ev f) ⟨dst, op, ty, pos, after, g⟩).run P w = .ok (.value v) w) (hk : wpX P n l qs K fuel (i :: done) (upd f dst v) w) : wpX P n l qs K (fuel + 1) done f w := by
  simp only [Bool.and_eq_true] at hc
  obtain ⟨⟨⟨hq, hr⟩, hf⟩, hd⟩ := hc
  obtain ⟨hlt, hr'⟩ := readyX_spec hr
  intro a ha
  refine anyX_pure (v := v) (by simpa using hi) (sel_spec hn) (qs_mem hq) (fun c a w h => by cases h.1) fuel _ a w (freeX_spec hi hf) hr' (.inl ⟨by rw [ha.yielded]; exact hw, fun w => by rw [ha.eval]; exact h w⟩) ?_
  rw [maskOf_cons done hlt]
  exact hk _ (ha.put hd v)
theorem x_skip (i : Nat) (hi : l[i]? = some ⟨dst, op, ty, pos, after, g⟩) (hn : noSelX l = true) (hc : (qs.contains i && readyX l done i && freeX l done i && dok n ⟨dst, op, ty, pos, after, g⟩) = true)
    (hw : wantF l ⟨dst, op, ty, pos, after, g⟩ f = false) (hk : wpX P n l qs K fuel (i :: done) (upd f dst undef) w) : wpX P n l qs K (fuel + 1) done f w := by
  simp only [Bool.and_eq_true] at hc
  obtain ⟨⟨⟨hq, hr⟩, hf⟩, hd⟩ := hc
  obtain ⟨hlt, hr'⟩ := readyX_spec hr
  intro a ha
  refine anyX_pure (v := undef) (by simpa using hi) (sel_spec hn) (qs_mem hq) (fun c a w h => by cases h.1) fuel _ a w (freeX_spec hi hf) hr' (.inr ⟨by rw [ha.yielded]; exact hw, rfl⟩) ?_
  rw [maskOf_cons done hlt]
  exact hk _ (ha.put hd undef)

/-- the ready ones -/
def readiesX (l : List Oper) (done : List Nat) : List Nat := (List.range l.length).filter fun i => readyX l done i
theorem wpOp_of_opT {i : Nat} {o : Oper} {a : Act} {K' : Act → World → Prop} {Q : Exit → Act → World → Prop} {N : Value → World → Prop} (ha : Ag n a f) (hi : l[i]? = some o) (hw : wantF l o f = true) (h : opT P o f w N) (hN : ∀ v w', N v w' → K' (a.put o.dst v) w') : wpOp P l.toArray Q i K' a w := by
  unfold wpOp
  have hi' : l.toArray[i]? = some o := by simpa using hi
  simp only [hi']
  have hw' : Region.wanted o (yielded l.toArray a.tmps) = true := by rw [ha.yielded]; exact hw
  simp only [hw', if_true]
  refine .inl ?_
  unfold Oper.wp
  rw [ha.eval]
  unfold opT at h
  generalize (execOp (ev f) o).run P w = r at *
  cases r with
  | halt x w' => exact h.elim
  | ok nx w' =>
    cases nx <;> simp only [uponF] at h <;> simp only [Oper.upon]
    case value v => exact hN _ _ h
    case skip => exact hN _ _ h
    case enter g args =>
      refine h.mono fun e w'' he => ?_
      cases e with
      | returned v => exact hN _ _ he
      | panicked c => exact he.elim
      | outgrown => exact he.elim
/-- the one operation that may come now -/
theorem x_one (i : Nat) (hi : l[i]? = some ⟨dst, op, ty, pos, after, g⟩) (hc : (decide (Region.ready .any l.toArray (maskOf l.length done) = [i]) && !qs.contains i && dok n ⟨dst, op, ty, pos, after, g⟩) = true)
    (hw : wantF l ⟨dst, op, ty, pos, after, g⟩ f = true) (h : opT P ⟨dst, op, ty, pos, after, g⟩ f w (fun v w' => wpX P n l qs K fuel (i :: done) (upd f dst v) w')) : wpX P n l qs K (fuel + 1) done f w := by
  simp only [Bool.and_eq_true, decide_eq_true_eq, Bool.not_eq_true'] at hc
  obtain ⟨⟨hr, hq⟩, hd⟩ := hc
  have hlt : i < l.length := (List.getElem?_eq_some_iff.1 hi).1
  intro a ha
  refine ⟨fun h0 => (by rw [hr] at h0; cases h0), fun j hj => ?_⟩
  rw [hr] at hj
  obtain rfl : j = i := by simpa using hj
  have hq' : decide (j ∈ qs) = false := by simpa using hq
  simp only [hq', Bool.false_eq_true, if_false]
  refine wpOp_of_opT ha hi hw h fun v w' hk => ?_
  rw [maskOf_cons done hlt]
  exact hk _ (ha.put hd v)
/-- the one operation that may come now is not wanted -/
theorem x_skip1 (i : Nat) (hi : l[i]? = some ⟨dst, op, ty, pos, after, g⟩) (hc : (decide (Region.ready .any l.toArray (maskOf l.length done) = [i]) && !qs.contains i && dok n ⟨dst, op, ty, pos, after, g⟩) = true)
    (hw : wantF l ⟨dst, op, ty, pos, after, g⟩ f = false) (hk : wpX P n l qs K fuel (i :: done) (upd f dst undef) w) : wpX P n l qs K (fuel + 1) done f w := by
  simp only [Bool.and_eq_true, decide_eq_true_eq, Bool.not_eq_true'] at hc
  obtain ⟨⟨hr, hq⟩, hd⟩ := hc
  have hlt : i < l.length := (List.getElem?_eq_some_iff.1 hi).1
  intro a ha
  refine ⟨fun h0 => (by rw [hr] at h0; cases h0), fun j hj => ?_⟩
  rw [hr] at hj
  obtain rfl : j = i := by simpa using hj
  have hq' : decide (j ∈ qs) = false := by simpa using hq
  simp only [hq', Bool.false_eq_true, if_false]
  unfold wpOp
  have hi' : l.toArray[j]? = some ⟨dst, op, ty, pos, after, g⟩ := by simpa using hi
  simp only [hi']
  have hw' : Region.wanted ⟨dst, op, ty, pos, after, g⟩ (yielded l.toArray a.tmps) = false := by rw [ha.yielded]; exact hw
  simp only [hw', Bool.false_eq_true, if_false]
  rw [maskOf_cons done hlt]
  exact hk _ (ha.put hd undef)
/-- two operations that may come now -/
theorem x_two (i j : Nat) {dst' : Option Tmp} {op' : Op} {ty' : TypeId} {pos' : String} {after' : Array Edge} {g' : Option (Nat × Bool)} (hi : l[i]? = some ⟨dst, op, ty, pos, after, g⟩) (hj : l[j]? = some ⟨dst', op', ty', pos', after', g'⟩)
    (hc : (decide (Region.ready .any l.toArray (maskOf l.length done) = [i, j]) && !qs.contains i && !qs.contains j && dok n ⟨dst, op, ty, pos, after, g⟩ && dok n ⟨dst', op', ty', pos', after', g'⟩) = true)
    (hw : wantF l ⟨dst, op, ty, pos, after, g⟩ f = true) (hw' : wantF l ⟨dst', op', ty', pos', after', g'⟩ f = true)
    (h : opT P ⟨dst, op, ty, pos, after, g⟩ f w (fun v w' => wpX P n l qs K fuel (i :: done) (upd f dst v) w')) (h' : opT P ⟨dst', op', ty', pos', after', g'⟩ f w (fun v w' => wpX P n l qs K fuel (j :: done) (upd f dst' v) w')) : wpX P n l qs K (fuel + 1) done f w := by
  simp only [Bool.and_eq_true, decide_eq_true_eq, Bool.not_eq_true'] at hc
  obtain ⟨⟨⟨⟨hr, hq⟩, hq2⟩, hd⟩, hd'⟩ := hc
  have hlt : i < l.length := (List.getElem?_eq_some_iff.1 hi).1
  have hlt' : j < l.length := (List.getElem?_eq_some_iff.1 hj).1
  intro a ha
  refine ⟨fun h0 => (by rw [hr] at h0; cases h0), fun k hk => ?_⟩
  rw [hr] at hk
  have hk' : k = i ∨ k = j := by simpa using hk
  rcases hk' with rfl | rfl
  · have hq' : decide (k ∈ qs) = false := by simpa using hq
    simp only [hq', Bool.false_eq_true, if_false]
    refine wpOp_of_opT ha hi hw h fun v w' hk => ?_
    rw [maskOf_cons done hlt]
    exact hk _ (ha.put hd v)
  · have hq' : decide (k ∈ qs) = false := by simpa using hq2
    simp only [hq', Bool.false_eq_true, if_false]
    refine wpOp_of_opT ha hj hw' h' fun v w' hk => ?_
    rw [maskOf_cons done hlt']
    exact hk _ (ha.put hd' v)
/-- one of several operations that may come now -/
def XOne (P : Program) (n : Nat) (l : List Oper) (qs : List Nat) (K : Fr → World → Prop) (fuel : Nat) (done : List Nat) (f : Fr) (w : World) (i : Nat) : Prop :=
  ∀ a, Ag n a f → qs.contains i = false ∧ ∃ o, l[i]? = some o ∧ i < l.length ∧ (wantF l o f = true ∧ dok n o = true ∧ opT P o f w (fun v w' => wpX P n l qs K fuel (i :: done) (upd f o.dst v) w'))
theorem x_of (i : Nat) (hi : l[i]? = some ⟨dst, op, ty, pos, after, g⟩) (hc : (!qs.contains i && dok n ⟨dst, op, ty, pos, after, g⟩) = true) (hw : wantF l ⟨dst, op, ty, pos, after, g⟩ f = true)
    (h : opT P ⟨dst, op, ty, pos, after, g⟩ f w (fun v w' => wpX P n l qs K fuel (i :: done) (upd f dst v) w')) : XOne P n l qs K fuel done f w i := by
  simp only [Bool.and_eq_true, Bool.not_eq_true'] at hc
  exact fun a ha => ⟨hc.1, _, hi, (List.getElem?_eq_some_iff.1 hi).1, hw, hc.2, h⟩
def XAll (P : Program) (n : Nat) (l : List Oper) (qs : List Nat) (K : Fr → World → Prop) (fuel : Nat) (done : List Nat) (f : Fr) (w : World) : List Nat → Prop
  | [] => True
  | i :: r => XOne P n l qs K fuel done f w i ∧ XAll P n l qs K fuel done f w r
theorem XAll.mem {L : List Nat} (h : XAll P n l qs K fuel done f w L) : ∀ i ∈ L, XOne P n l qs K fuel done f w i := by
  induction L with
  | nil => intro i hi; cases hi
  | cons j r ih =>
    intro i hi
    rcases List.mem_cons.1 hi with rfl | hi
    · exact h.1
    · exact ih h.2 i hi
theorem x_many (i : Nat) (L : List Nat) (hr : decide (Region.ready .any l.toArray (maskOf l.length done) = i :: L) = true) (h : XAll P n l qs K fuel done f w (i :: L)) : wpX P n l qs K (fuel + 1) done f w := by
  have hr := of_decide_eq_true hr
  intro a ha
  refine ⟨fun h0 => (by rw [hr] at h0; cases h0), fun k hk => ?_⟩
  rw [hr] at hk
  obtain ⟨hq, o, hi, hlt, hw, hd, ho⟩ := h.mem k (by simpa using hk) a ha
  have hq' : decide (k ∈ qs) = false := by simpa using hq
  simp only [hq', Bool.false_eq_true, if_false]
  obtain ⟨dst, op, ty, pos, after, g⟩ := o
  refine wpOp_of_opT ha hi hw ho fun v w' hk => ?_
  rw [maskOf_cons done hlt]
  exact hk _ (ha.put hd v)
/-- the end -/
theorem x_nil (hr : decide (Region.ready .any l.toArray (maskOf l.length done) = []) = true) (h : K f w) : wpX P n l qs K 0 done f w := fun _ ha => ⟨of_decide_eq_true hr, rfl, f, ha, h⟩
end
end TL
