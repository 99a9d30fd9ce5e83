/- Plain texts of this claim, part 1. By an AI agent. -/
import Derived.Test.YtbadiajeohbpcaaTlP0
import Derived.Laws.StructEq
import Derived.OrdersHeld
/-
  TlDraw: regions that draw their order, taken operation by operation.
  By an AI agent.
-/
set_option linter.all false
namespace TL
open Go
def bT (n : Nat) (done : List Nat) : Array Bool := ((List.range n).map fun i => decide (i ∈ done)).toArray
theorem cJ (n : Nat) (done : List Nat) (j : Nat) (d : Bool) : (bT n done).getD j d = if j < n then decide (j ∈ done) else d := by
 unfold bT
 by_cases h : j < n
 · simp [h]
 · simp [h]
theorem cX {n i : Nat} (done : List Nat) (hi : i < n) : (bT n done).setIfInBounds i true = bT n (i :: done) := by
 apply Array.ext
 · simp [bT]
 · intro j h1 h2
   have hj : j < n := by simpa [bT] using h2
   simp only [bT]
   by_cases hij : i = j
   · subst hij; simp
   · have : ¬ j = i := fun h => hij h.symm
     simp [Array.getElem_setIfInBounds, hij, this]
section
variable {P : Program} {ops : Array Oper} {Q : Exit → Act → World → Prop} {md : Region.Mode} {qs : Nat → Bool}
def ja (P : Program) (md : Region.Mode) (ops : Array Oper) (qs : Nat → Bool) (Q : Exit → Act → World → Prop) : Nat → Array Bool → Act → World → Prop
  | 0, listed, a, w => Region.ready md ops listed = [] ∧ Q .normal a w
  | fuel + 1, listed, a, w => (Region.ready md ops listed = [] → Q .normal a w) ∧
    ∀ i ∈ Region.ready md ops listed, if qs i then stOp P ops w i (fun a' => ja P md ops qs Q fuel (listed.setIfInBounds i true) a' w) a
      else wpOp P ops Q i (ja P md ops qs Q fuel (listed.setIfInBounds i true)) a w
theorem eE : ∀ (fuel : Nat) (listed : Array Bool) (a : Act) (w : World), ja P md ops qs Q fuel listed a w → wpAny P md ops Q fuel listed a w
 | 0, _, _, _, h => h
 | fuel + 1, listed, a, w, h => by
   refine ⟨h.1, fun i hi => ?_⟩
   have h2 := h.2 i hi
   cases hq : qs i with
   | true =>
     simp only [hq, if_true] at h2
     exact wpOp_of_stOp (fun a' h' => eE fuel _ a' w h') h2
   | false =>
     simp only [hq, Bool.false_eq_true, if_false] at h2
     exact wpOp_mono (fun a' w' h' => eE fuel _ a' w' h') h2
theorem lk {i : Nat} {oi : Oper} {v : Value} {w : World} {M D : Array Bool} (hi : ops[i]? = some oi) (hsel : ∀ (j : Nat) (o : Oper) cs b, ops[j]? = some o → o.op ≠ .select cs b) (hqi : qs i = true)
    (hM : ∀ j oj, ops[j]? = some oj → M.getD j false = false → j ≠ i → ∃ e ∈ oj.after, Region.binds md e = true ∧ M.getD e.on false = false)
    (hMq : ∀ j oj, ops[j]? = some oj → M.getD j false = true → D.getD j true = false → j ≠ i → qs j = true) :
    ∀ (fuel : Nat) (listed : Array Bool) (a : Act), listed.size = ops.size → (∀ j, listed.getD j false = true → M.getD j false = true) → (∀ j, listed.getD j true = false → D.getD j true = false) →
      (∀ j oj, ops[j]? = some oj → j ≠ i → listed.getD j true = false → (∀ e ∈ oj.after, Region.binds md e = true → e.on ≠ i) → oi.apart ops oj = true) →
      i ∈ Region.ready md ops listed → YieldsAt P ops w oi v a →
      ja P md ops qs Q fuel (listed.setIfInBounds i true) (a.put oi.dst v) w → ja P md ops qs Q (fuel + 1) listed a w := by
  intro fuel
  induction fuel with
  | zero =>
    intro listed a _ _ _ _ hr hy H
    refine ⟨fun h => (by rw [h] at hr; cases hr), fun j hj => ?_⟩
    by_cases hji : j = i
    · subst hji; rw [if_pos hqi]; exact hy.stOp hi H
    · have := ready_mono hj hji
      rw [H.1] at this
      cases this
  | succ fuel ih =>
    intro listed a hsz hsub hD hfree hr hy H
    refine ⟨fun h => (by rw [h] at hr; cases hr), fun j hj => ?_⟩
    by_cases hji : j = i
    · subst hji; rw [if_pos hqi]; exact hy.stOp hi H
    · obtain ⟨hjun, oj, hoj, hall⟩ := mem_ready.1 hj
      have hMj : M.getD j false = true := by
        cases hm : M.getD j false with
        | true => rfl
        | false =>
          obtain ⟨e, he, hb, hn⟩ := hM j oj hoj hm hji
          have := hsub _ (hall e he hb)
          rw [hn] at this; cases this
      have hqj := hMq j oj hoj hMj (hD j hjun) hji
      have h1 := H.2 j (ready_mono hj hji)
      rw [if_pos hqj] at h1 ⊢
      have hnot : ∀ e ∈ oj.after, Region.binds md e = true → e.on ≠ i := fun e he hb heq => by
        have h1 := hall e he hb
        have h0 := (mem_ready.1 hr).1
        rw [heq] at h1
        rw [getD_both h0] at h1
        cases h1
      have h2 := stOp_put hoj (hfree j oj hoj hji hjun hnot) (fun cs b => hsel i oi cs b hi) (fun cs b => hsel j oj cs b hoj) hy h1
      have hfree' : ∀ k ok, ops[k]? = some ok → k ≠ i → (listed.setIfInBounds j true).getD k true = false →
          (∀ e ∈ ok.after, Region.binds md e = true → e.on ≠ i) → oi.apart ops ok = true := fun k ok hk hki hun hno => by
        refine hfree k ok hk hki ?_ hno
        by_cases hjk : j = k
        · subst hjk; exact hjun
        · rw [getD_set_ne true hjk] at hun; exact hun
      have hsub' : ∀ k, (listed.setIfInBounds j true).getD k false = true → M.getD k false = true := fun k hk => by
        by_cases hjk : j = k
        · subst hjk; exact hMj
        · rw [getD_set_ne false hjk] at hk; exact hsub k hk
      have hD' : ∀ k, (listed.setIfInBounds j true).getD k true = false → D.getD k true = false := fun k hk => by
        by_cases hjk : j = k
        · subst hjk; exact hD j hjun
        · rw [getD_set_ne true hjk] at hk; exact hD k hk
      refine stOp_mono (fun a' h3 => ih (listed.setIfInBounds j true) a' (by simpa using hsz) hsub' hD' hfree' (ready_mono hr (Ne.symm hji)) h3.1 ?_) h2
      rw [Array.setIfInBounds_comm _ _ hji]
      exact h3.2
def aG {α : Type} (s : Sem α) : Prop := ∀ (P : Program) (w : World) (x : α) (w' : World), s.run P w = .ok x w' → cT w.heap.size w w'
theorem aG.bind {α β : Type} {s : Sem α} {f : α → Sem β} (h : aG s) (hf : ∀ a, aG (f a)) : aG (s >>= f) := by
 intro P w x w' hr
 rw [Sem.run_bind] at hr
 cases h1 : s.run P w with
 | halt e w1 => rw [h1] at hr; cases hr
 | ok a w1 =>
   rw [h1] at hr
   have k1 := h P w a w1 h1
   have k2 := hf a P w1 x w' hr
   exact k1.trans (k2.mono k1.size)
theorem aG.pure {α : Type} (a : α) : aG (Pure.pure a : Sem α) := fun P w x w' h => by
 simp only [Sem.run_pure] at h
 cases h; exact cT.refl _ _
theorem aG.halt {α : Type} (e : Halt) : aG (Sem.halt e : Sem α) := fun P w x w' h => by cases h
theorem aG.stuck {α : Type} (e : String) : aG (Go.stuck e : Sem α) := aG.halt _
theorem aG.unsupported {α : Type} (e : Unsupported) : aG (Go.unsupported e : Sem α) := aG.halt _
theorem aG.program : aG Go.program := fun P w x w' h => by
 simp only [run_program] at h
 cases h; exact cT.refl _ _
theorem aG.new (o : Obj) : aG (newObj o) := fun P w x w' h => by
 simp only [run_newObj] at h
 cases h
 exact (cT.refl _ w).alloc (Nat.le_refl _) o
theorem aG.typeInfo (t : TypeId) : aG (Go.typeInfo t) := aG.bind aG.program fun p => by
 cases p.info? t with
 | some i => exact aG.pure i
 | none => exact aG.stuck _
theorem aG.underlying (t : TypeId) : aG (Go.underlying t) := aG.bind aG.program fun p => by
 cases p.underlying t with
 | some i => exact aG.pure i
 | none => exact aG.stuck _
theorem aG.sizeOf (t : TypeId) : aG (Go.sizeOf t) := aG.bind (aG.typeInfo t) fun i => aG.pure _
theorem aG.zeroValue (t : TypeId) : aG (Go.zeroValue t) := aG.bind (aG.typeInfo t) fun i => by
 cases i.zero with
 | some v => exact aG.pure v
 | none => exact aG.unsupported _
theorem aG.newVar (t : TypeId) (v : Value) : aG (Go.newVar t v) := aG.bind (aG.new _) fun _ => aG.pure _
theorem i3 (t : TypeId) (len : Nat) (parts : Array (Nat × Value)) : aG (Instr.buildSlice t len parts) := by
 unfold Instr.buildSlice
 refine aG.bind (aG.underlying t) fun d => ?_
 split
 · refine aG.bind (aG.sizeOf _) fun size => ?_
   have tail : ∀ (elem : TypeId) (zero : Array Value), aG (match Instr.fill (fun i => some (i * size, size)) ((Array.range (len * size)).map (zero[· % zero.size]!)) parts.toList with
       | some cells => (do pure (Value.slice (some (← newRow elem cells)) len len) : Sem Value)
       | _ => Go.stuck "buildSlice: a part of the wrong size") := fun elem zero => by
     split
     · exact aG.bind (aG.bind (aG.new _) fun _ => aG.pure _) fun _ => aG.pure _
     · exact aG.stuck _
   by_cases h1 : len * size > 2 ^ 24
   · simp only [h1, if_true]
     refine aG.bind (aG.unsupported _) fun x => ?_
     by_cases h2 : len * size = 0
     · rw [if_pos h2]
       exact aG.bind (aG.pure _) fun zero => tail _ zero
     · simp only [h2, if_false]
       exact aG.bind (aG.zeroValue _) fun _ => aG.bind (aG.pure _) fun zero => tail _ zero
   · simp only [h1, if_false]
     by_cases h2 : len * size = 0
     · rw [if_pos h2]
       exact aG.bind (aG.pure _) fun zero => tail _ zero
     · simp only [h2, if_false]
       exact aG.bind (aG.zeroValue _) fun _ => aG.bind (aG.pure _) fun zero => tail _ zero
 · exact aG.stuck _
theorem oM {P : Program} {w w' : World} {s : Sem Value} {nx : Next} (h : (do pure (Next.value (← s)) : Sem Next).run P w = .ok nx w') : ∃ u, nx = .value u := by
 rw [Sem.run_bind] at h
 cases hs : s.run P w with
 | ok a w1 => rw [hs] at h; cases h; exact ⟨a, rfl⟩
 | halt e w1 => rw [hs] at h; cases h
theorem aG.load (a : Addr) (m : Mode) : aG (Go.load a m) := fun P w x w' h => by
 simp only [Go.load, Sem.run] at h
 split at h
 · cases h; exact cT.refl _ _
 · split at h
   · cases h; exact cT.refl _ _
   · cases h
theorem aG.cells (a : Addr) : ∀ (n i : Nat) (acc : Array Value), aG (loadCellsFrom a i n acc)
 | 0, _, _ => aG.pure _
 | n + 1, i, _ => aG.bind (aG.load _ _) fun _ => aG.cells a n (i + 1) _
theorem aG.isAgg (t : TypeId) : aG (Go.isAgg t) := aG.bind (aG.underlying t) fun d => by
 split <;> exact aG.pure _
theorem aG.error {α : Type} (m : String) : aG (runtimePanic (.error m) : Sem α) := aG.bind aG.program fun p => aG.halt _
theorem aG.asIntOf (v : Value) : aG (Go.asIntOf v) := by
 unfold Go.asIntOf
 split
 · exact aG.pure _
 · exact aG.unsupported _
 · exact aG.stuck _
theorem aG.asInt (v : Value) : aG (Go.asInt v) := aG.bind (aG.asIntOf v) fun _ => aG.pure _
theorem aG.choose (q : Question) : aG (Go.choose q) := fun P w x w' h => by
 simp only [Go.choose, Sem.run] at h
 split at h
 · cases h; exact cT.refl _ _
 · cases h; exact ⟨rfl, rfl, rfl, Nat.le_refl _, fun _ _ => rfl, Nat.le_succ _⟩
theorem aG.room (n : Nat) : aG (askRoom n) := fun P w x w' h => by
 unfold askRoom at h
 split at h
 · simp only [Go.mark, Sem.run] at h
   cases h; exact ⟨rfl, rfl, rfl, Nat.le_refl _, fun _ _ => rfl, Nat.le_refl _⟩
 · cases h; exact cT.refl _ _
theorem jC (t : TypeId) (a : Value) : aG (Instr.loadAt t a) := by
 unfold Instr.loadAt
 refine aG.bind ?_ fun b => ?_
 · unfold Instr.sureAddr
   split
   · exact aG.pure _
   · exact aG.stuck _
 · unfold loadVar
   refine aG.bind (aG.isAgg t) fun c => ?_
   split
   · exact aG.bind (aG.sizeOf t) fun n => aG.bind (aG.cells _ _ _ _) fun _ => aG.pure _
   · exact aG.load _ _
theorem ie (t : TypeId) (a b : Value) : aG (Instr.makeSlice t a b) := by
 unfold Instr.makeSlice
 refine aG.bind (aG.underlying t) fun d => ?_
 split
 · refine aG.bind (aG.asInt _) fun l => aG.bind (aG.asInt _) fun c => aG.bind (aG.typeInfo _) fun i => ?_
   have tail : ∀ (c : Int) (l : Int) (elem : TypeId), aG (do
       let n := c.toNat * (← sizeOf elem)
       let zero ← if n = 0 then pure #[] else do pure (← zeroValue elem).cells
       let a ← newRow elem ((Array.range n).map (zero[· % zero.size]!))
       pure (Value.slice (some a) l.toNat c.toNat)) := fun c l elem => by
     refine aG.bind (aG.sizeOf _) fun n => ?_
     have last : ∀ zero : Array Value, aG (do
       let a ← newRow elem ((Array.range (c.toNat * n)).map (zero[· % zero.size]!))
       pure (Value.slice (some a) l.toNat c.toNat)) := fun zero => aG.bind (aG.bind (aG.new _) fun _ => aG.pure _) fun _ => aG.pure _
     by_cases h : c.toNat * n = 0
     · simp only [h, if_true]
       have := last #[]
       simp only [h] at this
       exact aG.bind (aG.pure _) fun _ => aG.bind (aG.bind (aG.new _) fun _ => aG.pure _) fun _ => aG.pure _
     · simp only [h, if_false]
       exact aG.bind (aG.zeroValue _) fun _ => aG.bind (aG.pure _) fun z => last z
   dsimp only
   repeat' (first
     | exact aG.error _
     | exact aG.choose _
     | exact aG.room _
     | exact tail _ _ _
     | exact aG.pure _
     | refine aG.bind ?_ fun _ => ?_
     | split)
 · exact aG.stuck _
def fD : Op → Bool
 | .alloc _ | .box .. | .buildSlice .. | .load .. | .makeSlice .. => true
 | _ => false
theorem lp {ρ : Operand → Value} {o : Oper} (h : fD o.op = true) : aG (execOp ρ o) := by
 obtain ⟨dst, op, ty, pos, after, g⟩ := o
 cases op <;> simp only [fD, Bool.false_eq_true] at h
 case alloc e => exact aG.bind (aG.bind (aG.zeroValue _) fun _ => aG.bind (aG.newVar _ _) fun _ => aG.pure _) fun _ => aG.pure _
 case box e x => exact aG.bind (aG.bind (aG.newVar _ _) fun _ => aG.pure _) fun _ => aG.pure _
 case buildSlice t n ps => exact aG.bind (i3 _ _ _) fun _ => aG.pure _
 case load t a => exact aG.bind (jC _ _) fun _ => aG.pure _
 case makeSlice t a b => exact aG.bind (ie _ _ _) fun _ => aG.pure _
theorem nb {i : Nat} {oi : Oper} {v : Value} {w0 : World} {M D : Array Bool} (hi : ops[i]? = some oi) (hsel : ∀ (j : Nat) (o : Oper) cs b, ops[j]? = some o → o.op ≠ .select cs b) (hqi : qs i = true)
    (hQ : ∀ c a w, Q (.panic c) (a.put oi.dst v) w → Q (.panic c) a w)
    (hM : ∀ j oj, ops[j]? = some oj → M.getD j false = false → j ≠ i → ∃ e ∈ oj.after, Region.binds md e = true ∧ M.getD e.on false = false)
    (hMq : ∀ j oj, ops[j]? = some oj → M.getD j false = true → D.getD j true = false → j ≠ i → qs j = true ∨ fD oj.op = true) :
    ∀ (fuel : Nat) (listed : Array Bool) (a : Act) (w : World), cT w0.heap.size w0 w → (∀ j, listed.getD j false = true → M.getD j false = true) → (∀ j, listed.getD j true = false → D.getD j true = false) →
      (∀ j oj, ops[j]? = some oj → j ≠ i → listed.getD j true = false → (∀ e ∈ oj.after, Region.binds md e = true → e.on ≠ i) → oi.apart ops oj = true) →
      i ∈ Region.ready md ops listed → (∀ w, cT w0.heap.size w0 w → YieldsAt P ops w oi v a) →
      ja P md ops qs Q fuel (listed.setIfInBounds i true) (a.put oi.dst v) w → ja P md ops qs Q (fuel + 1) listed a w := by
  intro fuel
  induction fuel with
  | zero =>
    intro listed a w hw _ _ _ hr hy H
    refine ⟨fun h => (by rw [h] at hr; cases hr), fun j hj => ?_⟩
    by_cases hji : j = i
    · subst hji; rw [if_pos hqi]; exact (hy w hw).stOp hi H
    · have := ready_mono hj hji
      rw [H.1] at this
      cases this
  | succ fuel ih =>
    intro listed a w hw hsub hD hfree hr hy H
    refine ⟨fun h => (by rw [h] at hr; cases hr), fun j hj => ?_⟩
    by_cases hji : j = i
    · subst hji; rw [if_pos hqi]; exact (hy w hw).stOp hi H
    · obtain ⟨hjun, oj, hoj, hall⟩ := mem_ready.1 hj
      have hMj : M.getD j false = true := by
        cases hm : M.getD j false with
        | true => rfl
        | false =>
          obtain ⟨e, he, hb, hn⟩ := hM j oj hoj hm hji
          have := hsub _ (hall e he hb)
          rw [hn] at this; cases this
      have hqj := hMq j oj hoj hMj (hD j hjun) hji
      have h1 := H.2 j (ready_mono hj hji)
      have hnot : ∀ e ∈ oj.after, Region.binds md e = true → e.on ≠ i := fun e he hb heq => by
        have h1 := hall e he hb
        have h0 := (mem_ready.1 hr).1
        rw [heq] at h1
        rw [getD_both h0] at h1
        cases h1
      have hap := hfree j oj hoj hji hjun hnot
      have hfree' : ∀ k ok, ops[k]? = some ok → k ≠ i → (listed.setIfInBounds j true).getD k true = false →
          (∀ e ∈ ok.after, Region.binds md e = true → e.on ≠ i) → oi.apart ops ok = true := fun k ok hk hki hun hno => by
        refine hfree k ok hk hki ?_ hno
        by_cases hjk : j = k
        · subst hjk; exact hjun
        · rw [getD_set_ne true hjk] at hun; exact hun
      have hsub' : ∀ k, (listed.setIfInBounds j true).getD k false = true → M.getD k false = true := fun k hk => by
        by_cases hjk : j = k
        · subst hjk; exact hMj
        · rw [getD_set_ne false hjk] at hk; exact hsub k hk
      have hD' : ∀ k, (listed.setIfInBounds j true).getD k true = false → D.getD k true = false := fun k hk => by
        by_cases hjk : j = k
        · subst hjk; exact hD j hjun
        · rw [getD_set_ne true hjk] at hk; exact hD k hk
      obtain ⟨g1, g2, g3⟩ := Oper.apart_spec hap
      have keep : ∀ u w, cT w0.heap.size w0 w → YieldsAt P ops w oi v (a.put oj.dst u) := fun u w hw =>
        (hy w hw).of_same (execOp_put oi (fun cs b => hsel i oi cs b hi) a oj.dst u g3) (wanted_put oi a oj.dst u g3)
      cases hqj' : qs j with
      | true =>
        simp only [hqj', if_true] at h1 ⊢
        obtain ⟨u, hyu, hK⟩ := yieldsAt_of_stOp hoj h1
        have hyj : YieldsAt P ops w oj u a := by
          rcases hyu with ⟨k1, k2⟩ | ⟨k1, k2⟩
          · refine .inl ⟨by rw [← wanted_put oj a oi.dst v g1]; exact k1, ?_⟩
            rw [execOp_put oj (fun cs b => hsel j oj cs b hoj) a oi.dst v g1] at k2
            exact k2
          · exact .inr ⟨by rw [← wanted_put oj a oi.dst v g1]; exact k1, k2⟩
        refine hyj.stOp hoj (ih (listed.setIfInBounds j true) (a.put oj.dst u) w hw hsub' hD' hfree' (ready_mono hr (Ne.symm hji)) (keep u) ?_)
        rw [← Act.put_comm a v u g2, Array.setIfInBounds_comm _ _ hji]
        exact hK
      | false =>
        have hkk := hqj.resolve_left (by rw [hqj']; simp)
        simp only [hqj', Bool.false_eq_true, if_false] at h1 ⊢
        unfold wpOp at h1 ⊢
        simp only [hoj] at h1 ⊢
        rw [wanted_put oj a oi.dst v g1] at h1
        cases hwt : Region.wanted oj (yielded ops a.tmps) with
        | false =>
          simp only [hwt, Bool.false_eq_true, if_false] at h1 ⊢
          refine ih (listed.setIfInBounds j true) (a.put oj.dst undef) w hw hsub' hD' hfree' (ready_mono hr (Ne.symm hji)) (keep undef) ?_
          rw [← Act.put_comm a v undef g2, Array.setIfInBounds_comm _ _ hji]
          exact h1
        | true =>
          simp only [hwt, if_true] at h1 ⊢
          have hke := lp (ρ := a.eval) hkk P w
          rcases h1 with h1 | ⟨h1, h2⟩
          · left
            unfold Oper.wp at h1 ⊢
            rw [execOp_put oj (fun cs b => hsel j oj cs b hoj) a oi.dst v g1] at h1
            obtain ⟨dst, op, ty, pos, after, gd⟩ := oj
            cases hrun : (execOp a.eval ⟨dst, op, ty, pos, after, gd⟩).run P w with
            | halt x w' =>
              rw [hrun] at h1
              cases x <;> simp only [Oper.upon] at h1 ⊢
              case panic u => exact hQ _ _ _ h1
            | ok nx w' =>
              rw [hrun] at h1
              have hb := hke nx w' hrun
              have hw' : cT w0.heap.size w0 w' := hw.trans (hb.mono hw.size)
              -- these operations yield values alone
              have hval : ∃ u, nx = .value u := by
                cases op <;> simp only [fD, Bool.false_eq_true] at hkk
                all_goals exact oM hrun
              obtain ⟨u, rfl⟩ := hval
              simp only [Oper.upon] at h1 ⊢
              refine ih (listed.setIfInBounds j true) (a.put dst u) w' hw' hsub' hD' hfree' (ready_mono hr (Ne.symm hji)) (keep u) ?_
              have h3 := h1
              rw [show (a.put oi.dst v).put dst u = (a.put dst u).put oi.dst v from Act.put_comm a v u g2, Array.setIfInBounds_comm _ _ (Ne.symm hji)] at h3
              exact h3
          · right
            refine ⟨?_, h2⟩
            unfold Oper.asks at *
            rw [execOp_put oj (fun cs b => hsel j oj cs b hoj) a oi.dst v g1] at h1
            exact h1
theorem nw {i : Nat} {oi : Oper} {v : Value} (hi : ops[i]? = some oi) (hsel : ∀ (j : Nat) (o : Oper) cs b, ops[j]? = some o → o.op ≠ .select cs b) (hqi : qs i = true)
    (hQ : ∀ c a w, Q (.panic c) (a.put oi.dst v) w → Q (.panic c) a w) :
    ∀ (fuel : Nat) (listed : Array Bool) (a : Act) (w : World),
      (∀ j oj, ops[j]? = some oj → j ≠ i → listed.getD j true = false → (∀ e ∈ oj.after, Region.binds md e = true → e.on ≠ i) → oi.apart ops oj = true) →
      i ∈ Region.ready md ops listed → Yields P ops oi v a →
      ja P md ops qs Q fuel (listed.setIfInBounds i true) (a.put oi.dst v) w → ja P md ops qs Q (fuel + 1) listed a w := by
  have hat : ∀ {a : Act} {w : World}, Yields P ops oi v a → YieldsAt P ops w oi v a := fun {a w} hy => by
    rcases hy with ⟨h1, h2⟩ | ⟨h1, h2⟩
    · exact .inl ⟨h1, .inl (h2 w)⟩
    · exact .inr ⟨h1, h2⟩
  intro fuel
  induction fuel with
  | zero =>
    intro listed a w _ hr hy H
    refine ⟨fun h => (by rw [h] at hr; cases hr), fun j hj => ?_⟩
    by_cases hji : j = i
    · subst hji; rw [if_pos hqi]; exact (hat hy).stOp hi H
    · have := ready_mono hj hji
      rw [H.1] at this
      cases this
  | succ fuel ih =>
    intro listed a w hfree hr hy H
    refine ⟨fun h => (by rw [h] at hr; cases hr), fun j hj => ?_⟩
    by_cases hji : j = i
    · subst hji; rw [if_pos hqi]; exact (hat hy).stOp hi H
    · obtain ⟨hjun, oj, hoj, hall⟩ := mem_ready.1 hj
      have h1 := H.2 j (ready_mono hj hji)
      have hnot : ∀ e ∈ oj.after, Region.binds md e = true → e.on ≠ i := fun e he hb heq => by
        have h1 := hall e he hb
        have h0 := (mem_ready.1 hr).1
        rw [heq] at h1
        rw [getD_both h0] at h1
        cases h1
      have hap := hfree j oj hoj hji hjun hnot
      have hfree' : ∀ k ok, ops[k]? = some ok → k ≠ i → (listed.setIfInBounds j true).getD k true = false →
          (∀ e ∈ ok.after, Region.binds md e = true → e.on ≠ i) → oi.apart ops ok = true := fun k ok hk hki hun hno => by
        refine hfree k ok hk hki ?_ hno
        by_cases hjk : j = k
        · subst hjk; exact hjun
        · rw [getD_set_ne true hjk] at hun; exact hun
      cases hqj : qs j with
      | true =>
        simp only [hqj, if_true] at h1 ⊢
        -- a step that leaves the world
        have hy' := hy
        obtain ⟨g1, g2, g3⟩ := Oper.apart_spec hap
        have keep : ∀ (a : Act), Yields P ops oi v a → ∀ u, Yields P ops oi v (a.put oj.dst u) := fun a hy u =>
          hy.of_same (execOp_put oi (fun cs b => hsel i oi cs b hi) a oj.dst u g3) (wanted_put oi a oj.dst u g3)
        obtain ⟨u, hyu, hK⟩ := yieldsAt_of_stOp hoj h1
        have hyj : YieldsAt P ops w oj u a := by
          rcases hyu with ⟨k1, k2⟩ | ⟨k1, k2⟩
          · refine .inl ⟨by rw [← wanted_put oj a oi.dst v g1]; exact k1, ?_⟩
            rw [execOp_put oj (fun cs b => hsel j oj cs b hoj) a oi.dst v g1] at k2
            exact k2
          · exact .inr ⟨by rw [← wanted_put oj a oi.dst v g1]; exact k1, k2⟩
        refine hyj.stOp hoj (ih (listed.setIfInBounds j true) (a.put oj.dst u) w hfree' (ready_mono hr (Ne.symm hji)) (keep a hy u) ?_)
        rw [← Act.put_comm a v u g2, Array.setIfInBounds_comm _ _ hji]
        exact hK
      | false =>
        simp only [hqj, Bool.false_eq_true, if_false] at h1 ⊢
        have h2 := wpOp_put hoj hap (fun cs b => hsel i oi cs b hi) (fun cs b => hsel j oj cs b hoj) hQ hy h1
        refine wpOp_mono (fun a' w' h3 => ih (listed.setIfInBounds j true) a' w' hfree' (ready_mono hr (Ne.symm hji)) h3.1 ?_) h2
        rw [Array.setIfInBounds_comm _ _ hji]
        exact h3.2
end
section
variable {P : Program} {n : Nat} {l : List Oper} {qs : List Nat} {K : Fr → World → Prop} {f : Fr} {w : World} {done : List Nat} {fuel : Nat}
def jh (P : Program) (n : Nat) (l : List Oper) (qs : List Nat) (K : Fr → World → Prop) (fuel : Nat) (done : List Nat) (f : Fr) (w : World) : Prop :=
  ∀ a, Ag n a f → ja P .any l.toArray (fun i => decide (i ∈ qs)) (fun e a' w' => e = .normal ∧ ∃ f', Ag n a' f' ∧ K f' w') fuel (bT l.length done) a w
theorem eX {fid : Nat} {R : Ending → World → Prop} {k : List Item} {id : Nat} (γ : aM) (qs : List Nat) (hm : P.follows .mixedOrders = true)
   (h : ∀ w1, aL no γ w γ w1 → jh P n l qs (eb P fid n R k) l.length [] f w1) : eb P fid n R (.code (.region id l.toArray true) :: k) f w :=
 fV fun a ha => wp_region_any hm (by
   have h0 := eE _ _ _ _ (h _ (aL.refl _ _ _).drew a ha)
   have hmask : bT l.length [] = Array.replicate l.toArray.size false := by
     apply Array.ext
     · simp [bT]
     · intro j h1 h2; simp [bT]
   rw [hmask] at h0
   simpa using h0)
theorem ll {fid : Nat} {R : Ending → World → Prop} {k : List Item} {id : Nat} {σ : Type} (Mid : σ → Fr → World → Prop) (γ : aM) (qs : List Nat) (hm : P.follows .mixedOrders = true)
    (h : (∀ s f w, Mid s f w → eb P fid n R k f w) → ∀ w1, aL no γ w γ w1 → jh P n l qs (eb P fid n R k) l.length [] f w1) (hk : ∀ s f w, Mid s f w → eb P fid n R k f w) : eb P fid n R (.code (.region id l.toArray true) :: k) f w :=
  eX γ qs hm (h hk)
def eF (l : List Oper) (done : List Nat) (i : Nat) : Bool :=
 !done.contains i && match l[i]? with
   | some o => o.after.all fun e => !Region.binds .any e || done.contains e.on && decide (e.on < l.length)
   | none => false
def gf (l : List Oper) (done : List Nat) (i : Nat) : Bool :=
 match l[i]? with
 | none => false
 | some oi => (List.range l.length).all fun j => j == i || done.contains j || match l[j]? with
     | some oj => oj.after.any (fun e => Region.binds .any e && e.on == i) || oi.apart l.toArray oj
     | none => true
def jT (l : List Oper) (qs done M : List Nat) (i : Nat) : Bool :=
  ((List.range l.length).all fun j => M.contains j || j == i || match l[j]? with
      | some oj => oj.after.any fun e => Region.binds .any e && !M.contains e.on
      | none => true) &&
  (M.all fun j => j == i || done.contains j || qs.contains j) && (done.all fun j => M.contains j && decide (j < l.length)) && M.all fun j => decide (j < l.length)
def eV (l : List Oper) : Bool := Region.noSelect l.toArray
theorem eB {i : Nat} (h : eF l done i = true) : i < l.length ∧ i ∈ Region.ready .any l.toArray (bT l.length done) := by
 unfold eF at h
 simp only [Bool.and_eq_true, Bool.not_eq_true'] at h
 obtain ⟨h1, h2⟩ := h
 split at h2
 · rename_i o ho
   have hlt : i < l.length := (List.getElem?_eq_some_iff.1 ho).1
   refine ⟨hlt, mem_ready.2 ⟨by rw [cJ]; simp [hlt]; simpa using h1, o, by simpa using ho, fun e he hb => ?_⟩⟩
   have h3 := Array.all_eq_true_iff_forall_mem.1 h2 e he
   simp only [hb, Bool.not_true, Bool.false_or, Bool.and_eq_true, decide_eq_true_eq] at h3
   rw [cJ, if_pos h3.2]
   simpa using h3.1
 · cases h2
theorem f5 {i : Nat} {oi : Oper} (hi : l[i]? = some oi) (h : gf l done i = true) (j : Nat) (oj : Oper) (hj : l.toArray[j]? = some oj) (hne : j ≠ i) (hun : (bT l.length done).getD j true = false)
   (hno : ∀ e ∈ oj.after, Region.binds .any e = true → e.on ≠ i) : oi.apart l.toArray oj = true := by
 have hj' : l[j]? = some oj := by simpa using hj
 have hlt : j < l.length := (List.getElem?_eq_some_iff.1 hj').1
 unfold gf at h
 simp only [hi, List.all_eq_true, List.mem_range] at h
 have h1 := h j hlt
 rw [cJ, if_pos hlt] at hun
 have hd : done.contains j = false := by simpa using hun
 simp only [hj', Bool.or_eq_true, beq_iff_eq, hne, false_or, hd, Bool.false_eq_true] at h1
 rcases h1 with h1 | h1
 · obtain ⟨e, he, hb⟩ := Array.any_eq_true'.1 h1
   simp only [Bool.and_eq_true, beq_iff_eq] at hb
   exact absurd hb.2 (hno e he hb.1)
 · exact h1
theorem gP (h : eV l = true) : ∀ (j : Nat) (o : Oper) cs b, l.toArray[j]? = some o → o.op ≠ .select cs b := Region.noSelect_spec h
theorem iF {i : Nat} (h : qs.contains i = true) : decide (i ∈ qs) = true := by simpa using h
variable {dst : Option Tmp} {op : Op} {ty : TypeId} {pos : String} {after : Array Edge} {g : Option (Nat × Bool)} {v : Value}
theorem tD (i : Nat) (M : List Nat) (hi : l[i]? = some ⟨dst, op, ty, pos, after, g⟩) (hn : eV l = true) (hc : (qs.contains i && eF l done i && gf l done i && jT l qs done M i && j5 n ⟨dst, op, ty, pos, after, g⟩) = true)
    (hw : cy l ⟨dst, op, ty, pos, after, g⟩ f = true) (h : (execOp (ev f) ⟨dst, op, ty, pos, after, g⟩).run P w = .ok (.value v) w) (hk : jh P n l qs K fuel (i :: done) (eT f dst v) w) : jh P n l qs K (fuel + 1) done f w := by
  simp only [Bool.and_eq_true] at hc
  obtain ⟨⟨⟨⟨hq, hr⟩, hf⟩, hb⟩, hd⟩ := hc
  obtain ⟨hlt, hr'⟩ := eB hr
  intro a ha
  unfold jT at hb
  simp only [Bool.and_eq_true, List.all_eq_true, List.mem_range] at hb
  obtain ⟨⟨⟨b1, b2⟩, b3⟩, b4⟩ := hb
  have hgM : ∀ j, (bT l.length M).getD j false = true ↔ j ∈ M := fun j => by
    rw [cJ]
    by_cases hjl : j < l.length
    · simp [hjl]
    · simp only [hjl, if_false, Bool.false_eq_true, false_iff]
      exact fun hm => hjl (by simpa using b4 j hm)
  refine lk (v := v) (M := bT l.length M) (D := bT l.length done) (by simpa using hi) (gP hn) (iF hq) (fun j oj hj hm hne => ?_) (fun j oj hj hm hD hne => ?_) fuel _ a (by simp [bT]) (fun j hj => ?_) (fun j hj => hj) (f5 hi hf) hr' ?_ ?_
  · have hj' : l[j]? = some oj := by simpa using hj
    have hjl : j < l.length := (List.getElem?_eq_some_iff.1 hj').1
    have h1 := b1 j hjl
    have hmM : M.contains j = false := by
      cases hc : M.contains j with
      | false => rfl
      | true => have h9 := (hgM j).2 (by simpa using hc); rw [hm] at h9; cases h9
    simp only [hmM, hj', Bool.false_or, Bool.or_eq_true, beq_iff_eq, hne, false_or] at h1
    obtain ⟨e, he, hbb⟩ := Array.any_eq_true'.1 h1
    simp only [Bool.and_eq_true, Bool.not_eq_true'] at hbb
    refine ⟨e, he, hbb.1, ?_⟩
    cases hc : (bT l.length M).getD e.on false with
    | false => rfl
    | true =>
      have := (hgM _).1 hc
      have h2 := hbb.2
      simp [this] at h2
  · have h1 := b2 j ((hgM j).1 hm)
    have hj' : l[j]? = some oj := by simpa using hj
    have hjl : j < l.length := (List.getElem?_eq_some_iff.1 hj').1
    rw [cJ, if_pos hjl] at hD
    have hd : done.contains j = false := by simpa using hD
    simp only [Bool.or_eq_true, beq_iff_eq, hne, hd, false_or, Bool.false_eq_true] at h1
    exact iF h1
  · rw [cJ] at hj
    split at hj
    · have h1 := b3 j (by simpa using hj)
      exact (hgM j).2 (by simpa using h1.1)
    · cases hj
  · refine .inl ⟨?_, .inl ?_⟩
    · rw [ha.yielded]; exact hw
    · rw [ha.eval]; exact h
  · rw [cX done hlt]
    exact hk _ (ha.put hd v)
def jz (l : List Oper) (qs done M : List Nat) (i : Nat) : Bool :=
 ((List.range l.length).all fun j => M.contains j || j == i || match l[j]? with
     | some oj => oj.after.any fun e => Region.binds .any e && !M.contains e.on
     | none => true) &&
 (M.all fun j => j == i || done.contains j || qs.contains j || match l[j]? with
     | some oj => fD oj.op
     | none => false) && (done.all fun j => M.contains j && decide (j < l.length)) && M.all fun j => decide (j < l.length)
theorem sT (i : Nat) (M : List Nat) (hi : l[i]? = some ⟨dst, op, ty, pos, after, g⟩) (hn : eV l = true) (hc : (qs.contains i && eF l done i && gf l done i && jz l qs done M i && j5 n ⟨dst, op, ty, pos, after, g⟩) = true)
    (hw : cy l ⟨dst, op, ty, pos, after, g⟩ f = true) (h : ∀ w', cT w.heap.size w w' → (execOp (ev f) ⟨dst, op, ty, pos, after, g⟩).run P w' = .ok (.value v) w') (hk : jh P n l qs K fuel (i :: done) (eT f dst v) w) : jh P n l qs K (fuel + 1) done f w := by
  simp only [Bool.and_eq_true] at hc
  obtain ⟨⟨⟨⟨hq, hr⟩, hf⟩, hb⟩, hd⟩ := hc
  obtain ⟨hlt, hr'⟩ := eB hr
  intro a ha
  unfold jz at hb
  simp only [Bool.and_eq_true, List.all_eq_true, List.mem_range] at hb
  obtain ⟨⟨⟨b1, b2⟩, b3⟩, b4⟩ := hb
  have hgM : ∀ j, (bT l.length M).getD j false = true ↔ j ∈ M := fun j => by
    rw [cJ]
    by_cases hjl : j < l.length
    · simp [hjl]
    · simp only [hjl, if_false, Bool.false_eq_true, false_iff]
      exact fun hm => hjl (by simpa using b4 j hm)
  refine nb (v := v) (w0 := w) (M := bT l.length M) (D := bT l.length done) (by simpa using hi) (gP hn) (iF hq) (fun c a w h => by cases h.1) (fun j oj hj hm hne => ?_) (fun j oj hj hm hD hne => ?_) fuel _ a w (cT.refl _ _) (fun j hj => ?_) (fun j hj => hj) (f5 hi hf) hr' (fun w' hw' => ?_) ?_
  · have hj' : l[j]? = some oj := by simpa using hj
    have hjl : j < l.length := (List.getElem?_eq_some_iff.1 hj').1
    have h1 := b1 j hjl
    have hmM : M.contains j = false := by
      cases hc : M.contains j with
      | false => rfl
      | true => have h9 := (hgM j).2 (by simpa using hc); rw [hm] at h9; cases h9
    simp only [hmM, hj', Bool.false_or, Bool.or_eq_true, beq_iff_eq, hne, false_or] at h1
    obtain ⟨e, he, hbb⟩ := Array.any_eq_true'.1 h1
    simp only [Bool.and_eq_true, Bool.not_eq_true'] at hbb
    refine ⟨e, he, hbb.1, ?_⟩
    cases hc : (bT l.length M).getD e.on false with
    | false => rfl
    | true =>
      have := (hgM _).1 hc
      have h2 := hbb.2
      simp [this] at h2
  · have h1 := b2 j ((hgM j).1 hm)
    have hj' : l[j]? = some oj := by simpa using hj
    have hjl : j < l.length := (List.getElem?_eq_some_iff.1 hj').1
    rw [cJ, if_pos hjl] at hD
    have hd : done.contains j = false := by simpa using hD
    simp only [hj', Bool.or_eq_true, beq_iff_eq, hne, hd, false_or, Bool.false_eq_true] at h1
    rcases h1 with h1 | h1
    · exact .inl (iF h1)
    · exact .inr h1
  · rw [cJ] at hj
    split at hj
    · have h1 := b3 j (by simpa using hj)
      exact (hgM j).2 (by simpa using h1.1)
    · cases hj
  · refine .inl ⟨?_, .inl ?_⟩
    · rw [ha.yielded]; exact hw
    · rw [ha.eval]; exact h w' hw'
  · rw [cX done hlt]
    exact hk _ (ha.put hd v)
theorem sx (i : Nat) (hi : l[i]? = some ⟨dst, op, ty, pos, after, g⟩) (hn : eV l = true) (hc : (qs.contains i && eF l done i && gf l done i && j5 n ⟨dst, op, ty, pos, after, g⟩) = true)
    (hw : cy l ⟨dst, op, ty, pos, after, g⟩ f = true) (h : ∀ w, (execOp (ev f) ⟨dst, op, ty, pos, after, g⟩).run P w = .ok (.value v) w) (hk : jh P n l qs K fuel (i :: done) (eT f dst v) w) : jh P n l qs K (fuel + 1) done f w := by
  simp only [Bool.and_eq_true] at hc
  obtain ⟨⟨⟨hq, hr⟩, hf⟩, hd⟩ := hc
  obtain ⟨hlt, hr'⟩ := eB hr
  intro a ha
  refine nw (v := v) (by simpa using hi) (gP hn) (iF hq) (fun c a w h => by cases h.1) fuel _ a w (f5 hi hf) hr' (.inl ⟨by rw [ha.yielded]; exact hw, fun w => by rw [ha.eval]; exact h w⟩) ?_
  rw [cX done hlt]
  exact hk _ (ha.put hd v)
theorem eA {i : Nat} {o : Oper} {a : Act} {K' : Act → World → Prop} {Q : Exit → Act → World → Prop} {N : Value → World → Prop} (ha : Ag n a f) (hi : l[i]? = some o) (hw : cy l o f = true) (h : eR P o f w N) (hN : ∀ v w', N v w' → K' (a.put o.dst v) w') : wpOp P l.toArray Q i K' a w := by
 unfold wpOp
 have hi' : l.toArray[i]? = some o := by simpa using hi
 simp only [hi']
 have hw' : Region.wanted o (yielded l.toArray a.tmps) = true := by rw [ha.yielded]; exact hw
 simp only [hw', if_true]
 refine .inl ?_
 unfold Oper.wp
 rw [ha.eval]
 unfold eR at h
 generalize (execOp (ev f) o).run P w = r at *
 cases r with
 | halt x w' => exact h.elim
 | ok nx w' =>
   cases nx <;> simp only [oW] at h <;> simp only [Oper.upon]
   case value v => exact hN _ _ h
   case skip => exact hN _ _ h
   case enter g args =>
     refine h.mono fun e w'' he => ?_
     cases e with
     | returned v => exact hN _ _ he
     | panicked c => exact he.elim
     | outgrown => exact he.elim
theorem e7 (i : Nat) (hi : l[i]? = some ⟨dst, op, ty, pos, after, g⟩) (hc : (decide (Region.ready .any l.toArray (bT l.length done) = [i]) && !qs.contains i && j5 n ⟨dst, op, ty, pos, after, g⟩) = true)
    (hw : cy l ⟨dst, op, ty, pos, after, g⟩ f = true) (h : eR P ⟨dst, op, ty, pos, after, g⟩ f w (fun v w' => jh P n l qs K fuel (i :: done) (eT f dst v) w')) : jh P n l qs K (fuel + 1) done f w := by
  simp only [Bool.and_eq_true, decide_eq_true_eq, Bool.not_eq_true'] at hc
  obtain ⟨⟨hr, hq⟩, hd⟩ := hc
  have hlt : i < l.length := (List.getElem?_eq_some_iff.1 hi).1
  intro a ha
  refine ⟨fun h0 => (by rw [hr] at h0; cases h0), fun j hj => ?_⟩
  rw [hr] at hj
  obtain rfl : j = i := by simpa using hj
  have hq' : decide (j ∈ qs) = false := by simpa using hq
  simp only [hq', Bool.false_eq_true, if_false]
  refine eA ha hi hw h fun v w' hk => ?_
  rw [cX done hlt]
  exact hk _ (ha.put hd v)
theorem s9 (i j : Nat) {dst' : Option Tmp} {op' : Op} {ty' : TypeId} {pos' : String} {after' : Array Edge} {g' : Option (Nat × Bool)} (hi : l[i]? = some ⟨dst, op, ty, pos, after, g⟩) (hj : l[j]? = some ⟨dst', op', ty', pos', after', g'⟩)
    (hc : (decide (Region.ready .any l.toArray (bT l.length done) = [i, j]) && !qs.contains i && !qs.contains j && j5 n ⟨dst, op, ty, pos, after, g⟩ && j5 n ⟨dst', op', ty', pos', after', g'⟩) = true)
    (hw : cy l ⟨dst, op, ty, pos, after, g⟩ f = true) (hw' : cy l ⟨dst', op', ty', pos', after', g'⟩ f = true)
    (h : eR P ⟨dst, op, ty, pos, after, g⟩ f w (fun v w' => jh P n l qs K fuel (i :: done) (eT f dst v) w')) (h' : eR P ⟨dst', op', ty', pos', after', g'⟩ f w (fun v w' => jh P n l qs K fuel (j :: done) (eT f dst' v) w')) : jh P n l qs K (fuel + 1) done f w := by
  simp only [Bool.and_eq_true, decide_eq_true_eq, Bool.not_eq_true'] at hc
  obtain ⟨⟨⟨⟨hr, hq⟩, hq2⟩, hd⟩, hd'⟩ := hc
  have hlt : i < l.length := (List.getElem?_eq_some_iff.1 hi).1
  have hlt' : j < l.length := (List.getElem?_eq_some_iff.1 hj).1
  intro a ha
  refine ⟨fun h0 => (by rw [hr] at h0; cases h0), fun k hk => ?_⟩
  rw [hr] at hk
  have hk' : k = i ∨ k = j := by simpa using hk
  rcases hk' with rfl | rfl
  · have hq' : decide (k ∈ qs) = false := by simpa using hq
    simp only [hq', Bool.false_eq_true, if_false]
    refine eA ha hi hw h fun v w' hk => ?_
    rw [cX done hlt]
    exact hk _ (ha.put hd v)
  · have hq' : decide (k ∈ qs) = false := by simpa using hq2
    simp only [hq', Bool.false_eq_true, if_false]
    refine eA ha hj hw' h' fun v w' hk => ?_
    rw [cX done hlt']
    exact hk _ (ha.put hd' v)
theorem kv (hr : decide (Region.ready .any l.toArray (bT l.length done) = []) = true) (h : K f w) : jh P n l qs K 0 done f w := fun _ ha => ⟨of_decide_eq_true hr, rfl, f, ha, h⟩
end
end TL
/-
  TlHold: regions that draw their order, where what is read stays: on the kit's OrdersHeld.
  By an AI agent.
-/
set_option linter.all false
namespace TL
open Go
section
variable {P : Program} {n : Nat} {l : List Oper} {S : World → Prop} {K : Fr → World → Prop} {f : Fr} {w : World} {done : List Nat} {fuel : Nat}
def nJ (P : Program) (n : Nat) (l : List Oper) (S : World → Prop) (K : Fr → World → Prop) (fuel : Nat) (done : List Nat) (f : Fr) (w : World) : Prop :=
  ∀ a, Ag n a f → wpAnyH P .any l.toArray (fun e a' w' => e = .normal ∧ ∃ f', Ag n a' f' ∧ K f' w') S fuel (bT l.length done) a w
theorem aL.same {J : ck → Prop} {γ γ' : aM} {w w' : World} (h : aL J γ w γ' w') : aL J γ w γ w' := ⟨h.os, h.tape, h.output, h.size, fun _ _ _ => rfl, h.keep, h.drawn⟩
theorem dH {fid : Nat} {R : Ending → World → Prop} {k : List Item} {id : Nat} (γ : aM) (J : ck → Prop) (hm : P.follows .mixedOrders = true)
   (h : ∀ w1, aL no γ w γ w1 → nJ P n l (fun w' => aL J γ w1 γ w') (eb P fid n R k) l.length [] f w1) : eb P fid n R (.code (.region id l.toArray true) :: k) f w :=
 fV fun a ha => wp_region_held hm (by
   have h0 := h _ (aL.refl _ _ _).drew a ha
   have hmask : bT l.length [] = Array.replicate l.toArray.size false := by
     apply Array.ext
     · simp [bT]
     · intro j h1 h2; simp [bT]
   rw [hmask] at h0
   simpa using h0)
theorem cZ {fid : Nat} {R : Ending → World → Prop} {k : List Item} {id : Nat} {σ : Type} (Mid : σ → Fr → World → Prop) (γ : aM) (J : ck → Prop) (hm : P.follows .mixedOrders = true)
    (h : (∀ s f w, Mid s f w → eb P fid n R k f w) → ∀ w1, aL no γ w γ w1 → nJ P n l (fun w' => aL J γ w1 γ w') (eb P fid n R k) l.length [] f w1) (hk : ∀ s f w, Mid s f w → eb P fid n R k f w) : eb P fid n R (.code (.region id l.toArray true) :: k) f w :=
  dH γ J hm (h hk)
variable {dst : Option Tmp} {op : Op} {ty : TypeId} {pos : String} {after : Array Edge} {g : Option (Nat × Bool)} {v : Value}
theorem te (i : Nat) (hi : l[i]? = some ⟨dst, op, ty, pos, after, g⟩) (hn : eV l = true) (hc : (eF l done i && gf l done i && j5 n ⟨dst, op, ty, pos, after, g⟩) = true)
   (hw : cy l ⟨dst, op, ty, pos, after, g⟩ f = true) (hS : S w) (h : ∀ w, S w → (execOp (ev f) ⟨dst, op, ty, pos, after, g⟩).run P w = .ok (.value v) w) (hk : nJ P n l S K fuel (i :: done) (eT f dst v) w) : nJ P n l S K (fuel + 1) done f w := by
 simp only [Bool.and_eq_true] at hc
 obtain ⟨⟨hr, hf⟩, hd⟩ := hc
 obtain ⟨hlt, hr'⟩ := eB hr
 intro a ha
 refine wpAnyH_first (v := v) (by simpa using hi) (gP hn) (fun c a w h => by cases h.1) fuel _ a w (f5 hi hf) hr' (.inl ⟨by rw [ha.yielded]; exact hw, fun w hs => by rw [ha.eval]; exact h w hs⟩) hS ?_
 rw [cX done hlt]
 exact hk _ (ha.put hd v)
def sJ (P : Program) (n : Nat) (l : List Oper) (S : World → Prop) (K : Fr → World → Prop) (fuel : Nat) (done : List Nat) (f : Fr) (w : World) (i : Nat) : Prop :=
  ∃ o, l[i]? = some o ∧ i < l.length ∧ (cy l o f = true ∧ j5 n o = true ∧ eR P o f w (fun v w' => S w' ∧ nJ P n l S K fuel (i :: done) (eT f o.dst v) w'))
theorem bl (i : Nat) (hi : l[i]? = some ⟨dst, op, ty, pos, after, g⟩) (hc : j5 n ⟨dst, op, ty, pos, after, g⟩ = true) (hw : cy l ⟨dst, op, ty, pos, after, g⟩ f = true)
   (h : eR P ⟨dst, op, ty, pos, after, g⟩ f w (fun v w' => S w' ∧ nJ P n l S K fuel (i :: done) (eT f dst v) w')) : sJ P n l S K fuel done f w i :=
 ⟨_, hi, (List.getElem?_eq_some_iff.1 hi).1, hw, hc, h⟩
def qM (P : Program) (n : Nat) (l : List Oper) (S : World → Prop) (K : Fr → World → Prop) (fuel : Nat) (done : List Nat) (f : Fr) (w : World) : List Nat → Prop
 | [] => True
 | i :: r => sJ P n l S K fuel done f w i ∧ qM P n l S K fuel done f w r
theorem qM.mem {L : List Nat} (h : qM P n l S K fuel done f w L) : ∀ i ∈ L, sJ P n l S K fuel done f w i := by
 induction L with
 | nil => intro i hi; cases hi
 | cons j r ih =>
   intro i hi
   rcases List.mem_cons.1 hi with rfl | hi
   · exact h.1
   · exact ih h.2 i hi
theorem bz (i : Nat) (L : List Nat) (hr : decide (Region.ready .any l.toArray (bT l.length done) = i :: L) = true) (h : qM P n l S K fuel done f w (i :: L)) : nJ P n l S K (fuel + 1) done f w := by
 have hr := of_decide_eq_true hr
 intro a ha
 refine ⟨fun h0 => (by rw [hr] at h0; cases h0), fun k hk => ?_⟩
 rw [hr] at hk
 obtain ⟨o, hi, hlt, hw, hd, ho⟩ := h.mem k (by simpa using hk)
 obtain ⟨dst, op, ty, pos, after, g⟩ := o
 refine eA ha hi hw ho fun v w' hk => ⟨hk.1, ?_⟩
 rw [cX done hlt]
 exact hk.2 _ (ha.put hd v)
theorem aw (i : Nat) (hi : l[i]? = some ⟨dst, op, ty, pos, after, g⟩) (hc : (decide (Region.ready .any l.toArray (bT l.length done) = [i]) && j5 n ⟨dst, op, ty, pos, after, g⟩) = true)
   (hw : cy l ⟨dst, op, ty, pos, after, g⟩ f = true) (h : eR P ⟨dst, op, ty, pos, after, g⟩ f w (fun v w' => S w' ∧ nJ P n l S K fuel (i :: done) (eT f dst v) w')) : nJ P n l S K (fuel + 1) done f w := by
 simp only [Bool.and_eq_true] at hc
 exact bz i [] hc.1 ⟨bl i hi hc.2 hw h, trivial⟩
theorem bm (hr : decide (Region.ready .any l.toArray (bT l.length done) = []) = true) (h : K f w) : nJ P n l S K 0 done f w := fun _ ha => ⟨of_decide_eq_true hr, rfl, f, ha, h⟩
end
end TL
namespace TL
open Go
end TL
/-
  TlNet: nets, and what layer 3 says of them, as plain functions.
  By an AI agent.
-/
set_option linter.all false
namespace TL
abbrev dd := Int × List (Int × Int)
def l5 (n : Int) (e : Int × Int) : Prop := (0 ≤ e.1 ∧ e.1 < n) ∧ 0 ≤ e.2 ∧ e.2 < n
instance (n : Int) (e : Int × Int) : Decidable (l5 n e) := by unfold l5; infer_instance
def c8 (g : dd) : Prop := 0 ≤ g.1 ∧ g.1 ≤ 1024 ∧ g.2.length ≤ 3072 ∧ ∀ e ∈ g.2, l5 g.1 e
instance (g : dd) : Decidable (c8 g) := by unfold c8; infer_instance
def cU (g : dd) : Bool := decide (c8 g)
theorem ji {g : dd} (h : c8 g) : cU g = true := decide_eq_true h
theorem c7 {g : dd} (h : ¬ c8 g) : cU g = false := decide_eq_false h
end TL
namespace TL
theorem hE {α : Type} [Inhabited α] {xs : List α} {i j : Int} {y : α} (hi : 0 ≤ i) (hi' : i < xs.length) (hj : 0 ≤ j) : gI (xs.set i.toNat y) j = if j = i then y else gI xs j := by
 unfold gI
 by_cases h : j = i
 · subst h
   have : j.toNat < xs.length := by omega
   simp [this]
 · have : i.toNat ≠ j.toNat := by omega
   simp [h, List.getElem?_set_ne this]
theorem nZ {α : Type} [Inhabited α] {n : Nat} {x : α} {i : Int} (h0 : 0 ≤ i) (h1 : i < n) : gI (List.replicate n x) i = x := by
 have : i.toNat < n := by omega
 simp [gI, this]
end TL
namespace TL
end TL
namespace TL
end TL
namespace TL
def dK (g : dd) (h : Int) : Int := pI (gI g.2 (h / 2)) (h % 2)
def gb (g : dd) (v : Int) (k : Nat) : List Int := ((List.range (2 * k)).map (fun (i : Nat) => (i : Int))).filter fun h => decide (dK g h = v)
def cF (g : dd) (v : Int) : List Int := gb g v g.2.length
theorem iX (g : dd) (k : Nat) : dK g (2 * (k : Int)) = (gI g.2 k).1 := by
 unfold dK
 have h1 : 2 * (k : Int) / 2 = k := by omega
 have h2 : 2 * (k : Int) % 2 = 0 := by omega
 rw [h1, h2]; rfl
theorem jc (g : dd) (k : Nat) : dK g (2 * (k : Int) + 1) = (gI g.2 k).2 := by
 unfold dK
 have h1 : (2 * (k : Int) + 1) / 2 = k := by omega
 have h2 : (2 * (k : Int) + 1) % 2 = 1 := by omega
 rw [h1, h2]; rfl
theorem lA (g : dd) (v : Int) (k : Nat) : gb g v (k + 1) = gb g v k ++ ((if (gI g.2 k).1 = v then [2 * (k : Int)] else []) ++ (if (gI g.2 k).2 = v then [2 * (k : Int) + 1] else [])) := by
 unfold gb
 rw [show 2 * (k + 1) = 2 * k + 1 + 1 by omega, List.range_succ, List.range_succ]
 simp only [List.map_append, List.filter_append, List.map_cons, List.map_nil, List.append_assoc]
 congr 1
 have e1 : ((2 * k : Nat) : Int) = 2 * (k : Int) := by omega
 have e2 : ((2 * k + 1 : Nat) : Int) = 2 * (k : Int) + 1 := by omega
 rw [e1, e2]
 congr 1
 · by_cases h : (gI g.2 (k : Int)).1 = v
   · simp [iX, h]
   · simp [iX, h]
 · by_cases h : (gI g.2 (k : Int)).2 = v
   · simp [jc, h]
   · simp [jc, h]
theorem je (g : dd) (v : Int) (k : Nat) : (gb g v k).length ≤ 2 * k := by
 unfold gb
 have := List.length_filter_le (fun h => decide (dK g h = v)) ((List.range (2 * k)).map (fun (i : Nat) => (i : Int)))
 simpa using this
end TL
namespace TL
theorem kP {α : Type} [Inhabited α] {l l' : List α} (hl : l.length = l'.length) (h : ∀ i : Nat, i < l.length → gI l i = gI l' i) : l = l' := by
 apply List.ext_getElem hl
 intro i h1 h2
 have := h i h1
 simpa [gI, h1, h2] using this
end TL
namespace TL
def ke (x : List Int) (i : Nat) : Int := ((x.take i).drop 1).foldl min (gI x 0)
def d4 (x : List Int) : Int := ke x x.length
theorem iU {x : List Int} {i : Nat} (h1 : 1 ≤ i) (hi : (i : Int) < x.length) : (x.take (i + 1)).drop 1 = (x.take i).drop 1 ++ [gI x i] := by
 rw [bC hi, List.drop_append_of_le_length (by simp; omega)]
theorem mV {x : List Int} {i : Nat} (h1 : 1 ≤ i) (hi : (i : Int) < x.length) : ke x (i + 1) = min (ke x i) (gI x i) := by
 unfold ke; rw [iU h1 hi]; simp
end TL
namespace TL
end TL
namespace TL
section
variable {l0 l1 : Int} {F : Int × Int → Int} {g : dd} {k : Nat}
end
end TL
/-
  TlNetSums: degrees' sum; all edges, all nodes; moved there and back.
  By an AI agent.
-/
set_option linter.all false
namespace TL
def gc (n : Nat) : List Int := (List.range n).map fun (i : Nat) => (i : Int)
theorem nW (n : Nat) : (gc n).length = n := by simp [gc]
theorem nm (n : Nat) : gc (n + 1) = gc n ++ [(n : Int)] := by simp [gc, List.range_succ]
theorem kD {n : Nat} {x : Int} : x ∈ gc n ↔ 0 ≤ x ∧ x < n := by
 unfold gc
 rw [List.mem_map]
 constructor
 · rintro ⟨i, hi, rfl⟩
   have := List.mem_range.1 hi
   omega
 · rintro ⟨h1, h2⟩
   exact ⟨x.toNat, List.mem_range.2 (by omega), by omega⟩
theorem lm (n : Nat) : (gc n).Nodup := by
 induction n with
 | zero => simp [gc]
 | succ n ih =>
   rw [nm, List.nodup_append]
   refine ⟨ih, by simp, fun a ha b hb => ?_⟩
   have := kD.1 ha
   have := List.mem_singleton.1 hb
   omega
theorem oF : ∀ (n : Nat) (l : List Int), l.Nodup → (∀ x ∈ l, 0 ≤ x ∧ x < (n : Int)) → l.length ≤ n
 | 0, l, _, h => by
   cases l with
   | nil => simp
   | cons a l => have := h a (by simp); omega
 | n + 1, l, hn, h => by
   have h1 : (l.erase (n : Int)).Nodup := hn.erase _
   have h2 := oF n (l.erase (n : Int)) h1 (fun x hx => by
     have h3 := hn.mem_erase_iff.1 hx
     have := h x h3.2
     omega)
   by_cases hm : (n : Int) ∈ l
   · have := List.length_erase_of_mem hm
     omega
   · rw [List.erase_of_not_mem hm] at h2
     omega
end TL
/-
  TlRef3: what the document's own answer of layer 3 goes through.
  By an AI agent.
-/
set_option linter.all false
namespace TL
theorem nO {g : dd} (hm : c8 g) {h : Int} (h0 : 0 ≤ h) (h1 : h < 2 * (g.2.length : Int)) : 0 ≤ dK g h ∧ dK g h < g.1 := by
 have hok := hm.2.2.2 _ (bf (xs := g.2) (i := h / 2) (by omega) (by omega))
 unfold l5 at hok
 unfold dK pI
 split <;> omega
end TL
/-
  TlKeep: rows of an own list given away one by one while the list stays readable; rows with a mark behind each.
  By an AI agent.
-/
set_option linter.all false
namespace TL
open Go
def j3 (q i k : Nat) : ck → Prop := fun c => c.1 = q ∨ (c.1 = i ∧ c.2 = 0) ∨ c.1 = k
theorem aL.l3 {L : List Nat} {q i k : Nat} {γ γ' : aM} {w w' : World} (h : aL (j3 q i k) γ w γ' w') (h1 : L.contains q = true) (h2 : L.contains i = true) (h3 : L.contains k = true) : aL (bK L) γ w γ' w' := h.mono fun c hc => by
 unfold bK
 rcases hc with hc | hc | hc
 · rw [hc]; exact h1
 · rw [hc.1]; exact h2
 · rw [hc]; exact h3
section
variable {P : Program} {w : World} {t t' : TypeId} {f : Fr} {x y : Operand} {dst : Option Tmp} {ty : TypeId} {pos : String} {after : Array Edge} {g : Option (Nat × Bool)} {N : Value → World → Prop} {α : Type} [Rp α] {γ : aM} {v u : Value} {xss : List (List α)} {l : List α} {i k j : Nat}
end
section
variable {α : Type} [Rp α] [Fl α] {γ γ' : aM} {w w' : World} {v : Value} {us : List Vc} {xss : List (List α)} {i k j q : Nat}
end
inductive Rw where
  | mk (l : List Int) (m : Int)
  | pl (l : List Int)
instance : Inhabited Rw := ⟨.pl []⟩
theorem mU {α : Type} [Rp α] {γ : aM} {S : ck → Prop} {w : World} {v : Value} {xs : List α} {m : α} (h : Sl γ S w (tZ v) (xs ++ [m])) : ∃ a l c, v = .slice a l c := by
 rcases h with ⟨_, h0⟩ | ⟨b, off, cap, hv, _⟩
 · simp at h0
 · cases v <;> simp [tZ] at hv
   exact ⟨_, _, _, rfl⟩
def tk (γ : aM) (S : ck → Prop) (w : World) (v : Value) : Rw → Prop
  | .mk l m => Sl γ S w (tZ v) (l ++ [m])
  | .pl l => Sl γ S w v l
theorem tk.one {γ : aM} {S : ck → Prop} {w : World} {v : Value} {x : Rw} (h : tk γ S w v x) : v.oneCell' = true := by
 cases x with
 | mk l m =>
   obtain ⟨a, b, c, rfl⟩ := mU h
   rfl
 | pl l =>
   rcases h with ⟨⟨_, rfl⟩, _⟩ | ⟨b, off, cap, rfl, _⟩ <;> rfl
theorem tk.tr {γ γ' : aM} {S S' : ck → Prop} {w w' : World} {v : Value} {x : Rw} (hsz : w.heap.size ≤ w'.heap.size) (h : ∀ b, b < w.heap.size → S (γ b) → w'.heap[b]? = w.heap[b]? ∧ S' (γ' b)) (hx : tk γ S w v x) : tk γ' S' w' v x := by
 cases x with
 | mk l m => exact Sl.tr h hx hsz
 | pl l => exact Sl.tr h hx hsz
instance : Rp Rw where
 sz := 1
 rep γ S w cs x := ∃ v, cs = [v] ∧ tk γ S w v x
 len := by rintro _ _ _ _ _ ⟨v, rfl, _⟩; rfl
 one := by
   rintro _ _ _ _ _ ⟨v, rfl, h⟩ u hu
   obtain rfl : u = v := by simpa using hu
   exact h.one
 tr := by
   rintro _ _ _ _ _ _ _ _ hs h ⟨v, rfl, hv⟩
   exact ⟨v, rfl, hv.tr hs h⟩
section
variable {P : Program} {w : World} {t t' : TypeId} {f : Fr} {x y : Operand} {dst : Option Tmp} {ty : TypeId} {pos : String} {after : Array Edge} {g : Option (Nat × Bool)} {N : Value → World → Prop} {γ : aM} {v u : Value} {xss : List (List Int)} {l : List Int} {i : Nat}
end
end TL
/-
  TlEq: structs compared; a pointer looked at for nil; a bit turned.
  By an AI agent.
-/
set_option linter.all false
namespace TL
open Go
section
variable {P : Program} {f : Fr} {w : World} {dst : Option Tmp} {ty : TypeId} {pos : String} {after : Array Edge} {g : Option (Nat × Bool)} {t t' e : TypeId} {x y : Operand}
theorem aE {a : Addr} (hx : ev f x = .pointer (some a)) : (execOp (ev f) ⟨dst, .nilCheck x, ty, pos, after, g⟩).run P w = .ok (.value (.pointer (some a))) w := by
 simp only [execOp, hx, Sem.run_pure]
inductive EqV (P : Program) (t : TypeId) : Value → Value → Bool → Prop
 | int {a b : Int} (h : P.underlying t = some (.int .i64)) : EqV P t (.int .i64 a) (.int .i64 b) (decide (a = b))
 | bool {a b : Bool} (h : P.underlying t = some .bool) : EqV P t (.bool a) (.bool b) (decide (a = b))
inductive EqF (P : Program) (xs ys : Array Value) : List Field → List Bool → Prop
 | nil : EqF P xs ys [] []
 | cons {fd : Field} {fs : List Field} {bs : List Bool} {a b z : Value} {r : Bool} {size bytes : Nat} (hn : (fd.name != "_") = true) (he : Tp P fd.type false size bytes z) (ha : xs[fd.offset]? = some a) (hb : ys[fd.offset]? = some b) (hq : EqV P fd.type a b r) (hr : EqF P xs ys fs bs) : EqF P xs ys (fd :: fs) (r :: bs)
theorem fm {xs ys : Array Value} {fs : List Field} {bs : List Bool} (h : EqF P xs ys fs bs) (d : Nat) : (Op.eqFields (d + 1) xs ys fs).run P w = .ok (bs.all id) w := by
 induction h with
 | nil => simp [Op.eqFields, Sem.run_pure]
 | @cons fd fs bs a b z r size bytes hn he ha hb hq hr ih =>
   have hn' : fd.name ≠ "_" := by simpa using hn
   have h1 := fK (P := P) (w := w) he ha
   have h2 := fK (P := P) (w := w) he hb
   have h3 : (Op.equalIn (d + 1) fd.type a b).run P w = .ok r w := by
     cases hq with
     | int h => simp [Op.equalIn, aX h, Sem.run_pure]; rfl
     | bool h => simp [Op.equalIn, aX h, Sem.run_pure]; rfl
   simp only [Op.eqFields, if_pos hn', Sem.run_bind, h1, h2, h3, Result.andThen_ok]
   cases r with
   | true => simp [ih]
   | false => simp [Sem.run_pure]
theorem ej {fs : Array Field} {xs ys : List Value} {bs : List Bool} {q : Bool} (ht : P.underlying t = some (.struct fs)) (hp : P.stoodInHeld t = false) (hg : P.eqGuardType P.depth t = false) (hx : ev f x = .agg xs.toArray) (hy : ev f y = .agg ys.toArray) (h : EqF P xs.toArray ys.toArray fs.toList bs) (hq : bs.all id = q) :
   (execOp (ev f) ⟨dst, .binOp .eql t x y t', ty, pos, after, g⟩).run P w = .ok (.value (.bool q)) w := by
 have e1 : P.fieldsOf t = fs := by simp [Program.fieldsOf, ht]
 have hr : (Op.equal t (.agg xs.toArray) (.agg ys.toArray)).run P w = .ok q w := by
   have := run_equalIn_struct (P := P) w 9999 t xs.toArray ys.toArray (by rw [e1]; exact ht) hp
   rw [e1, fm h 9998, hq] at this
   exact this
 exact s8 .eql hx hy (by simp [eqGuard, hg]) (by simp [binOp, hr])
end
end TL
namespace TL
open Go
section
variable {P : Program} {f : Fr} {w : World} {dst : Option Tmp} {ty : TypeId} {pos : String} {after : Array Edge} {g : Option (Nat × Bool)} {t : TypeId} {x : Operand}
end
end TL
namespace TL
open Go
section
variable {P : Program} {f : Fr} {w : World} {dst : Option Tmp} {ty : TypeId} {pos : String} {after : Array Edge} {g : Option (Nat × Bool)} {t t' : TypeId} {x y : Operand} {m n : Int}
end
end TL
namespace TL
open Go
theorem tA {f : Fr} {x : Operand} {xs : List Operand} {v : Value} {vs : List Value} (h : ev f x = v) (h2 : xs.map (ev f) = vs) : (x :: xs).map (ev f) = v :: vs := by subst h h2; rfl
end TL
/-
  TlRot: rotations: which may be, turned to their least, faces.
  By an AI agent.
-/
set_option linter.all false
namespace TL
abbrev dR := List (List Int)
def gZ (g : dd) (r : dR) : Prop := (r.length : Int) = g.1 ∧ (∀ v : Nat, v < r.length → ∀ h ∈ gI r (v : Int), (0 ≤ h ∧ h < 2 * (g.2.length : Int)) ∧ dK g h = v) ∧ r.flatten.Nodup ∧ (r.flatten.length : Int) = 2 * g.2.length
instance (g : dd) (r : dR) : Decidable (gZ g r) := by unfold gZ; infer_instance
def cx (g : dd) (r : dR) : Int := if c8 g then if gZ g r then 0 else 4 else 1
theorem qe {g : dd} {r : dR} (h : cx g r = 0) : c8 g ∧ gZ g r := by
 unfold cx at h
 by_cases h1 : c8 g
 · by_cases h2 : gZ g r
   · exact ⟨h1, h2⟩
   · rw [if_pos h1, if_neg h2] at h; cases h
 · rw [if_neg h1] at h; cases h
theorem jW {g : dd} {r : dR} (h1 : c8 g) (h2 : gZ g r) : cx g r = 0 := by unfold cx; rw [if_pos h1, if_pos h2]
theorem fO {g : dd} {r : dR} (h1 : c8 g) (h2 : ¬ gZ g r) : cx g r = 4 := by unfold cx; rw [if_pos h1, if_neg h2]
theorem ol {n : Int} {l : List Int} (h0 : 0 ≤ n) (hn : l.Nodup) (h : ∀ x ∈ l, 0 ≤ x ∧ x < n) : (l.length : Int) ≤ n := by
 have := oF n.toNat l hn (fun x hx => by have := h x hx; omega)
 omega
theorem eu {r : dR} {k : Nat} (hk : (k : Int) < r.length) : (r.take (k + 1)).flatten = (r.take k).flatten ++ gI r (k : Int) := by
 rw [bC hk]; simp
structure eJ (seen : List Bool) (P : List Int) (n : Int) : Prop where
  len : (seen.length : Int) = n
  seen : ∀ h, 0 ≤ h → h < n → gI seen h = decide (h ∈ P)
  nodup : P.Nodup
  rng : ∀ h ∈ P, 0 ≤ h ∧ h < n
theorem eJ.start {n : Int} (hn : 0 ≤ n) : eJ (List.replicate n.toNat false) [] n :=
 ⟨by simp; omega, fun h h0 h1 => by rw [nZ h0 (by omega)]; simp, by simp, by simp⟩
theorem eJ.next {seen : List Bool} {P : List Int} {n h : Int} (hi : eJ seen P n) (h0 : 0 ≤ h) (h1 : h < n) (hs : gI seen h = false) : eJ (seen.set h.toNat true) (P ++ [h]) n := by
 have hl := hi.len
 have hn : h ∉ P := by
   have := hi.seen h h0 h1
   rw [hs] at this
   simpa using this.symm
 refine ⟨by simpa using hl, fun x hx0 hx1 => ?_, ?_, fun x hx => ?_⟩
 · rw [hE h0 (by omega) hx0]
   by_cases e : x = h
   · subst e; simp
   · rw [if_neg e, hi.seen x hx0 hx1]; simp [e]
 · rw [List.nodup_append]
   refine ⟨hi.nodup, by simp, fun a ha b hb => ?_⟩
   obtain rfl := List.mem_singleton.1 hb
   intro e; subst e; exact hn ha
 · rcases List.mem_append.1 hx with hx | hx
   · exact hi.rng x hx
   · obtain rfl := List.mem_singleton.1 hx; exact ⟨h0, h1⟩
theorem eJ.bd {seen : List Bool} {P : List Int} {n : Int} (hi : eJ seen P n) : (P.length : Int) ≤ n := ol (by have := hi.len; omega) hi.nodup hi.rng
theorem eJ.mem {seen : List Bool} {P : List Int} {n h : Int} (hi : eJ seen P n) (h0 : 0 ≤ h) (h1 : h < n) (hs : gI seen h = true) : h ∈ P := by
 have := hi.seen h h0 h1
 rw [hs] at this
 simpa using this.symm
structure cK (seen : List Bool) (n : Int) (g : dd) (r : dR) (k i : Nat) : Prop where
  rm : eJ seen ((r.take k).flatten ++ (gI r (k : Int)).take i) (2 * (g.2.length : Int))
  n : n = (((r.take k).flatten ++ (gI r (k : Int)).take i).length : Int)
  ok : ∀ v : Nat, v < k → ∀ h ∈ gI r (v : Int), (0 ≤ h ∧ h < 2 * (g.2.length : Int)) ∧ dK g h = v
  row : ∀ h ∈ (gI r (k : Int)).take i, (0 ≤ h ∧ h < 2 * (g.2.length : Int)) ∧ dK g h = k
theorem cK.start (g : dd) (r : dR) : cK (List.replicate (2 * (g.2.length : Int)).toNat false) 0 g r 0 0 :=
 ⟨by simpa using eJ.start (n := 2 * (g.2.length : Int)) (by omega), by simp, fun v hv => by omega, by simp⟩
section
variable {seen : List Bool} {n : Int} {g : dd} {r : dR} {k i : Nat}
theorem cK.bd (h : cK seen n g r k i) : 0 ≤ n ∧ n ≤ 2 * (g.2.length : Int) := by
 have h1 := h.rm.bd
 rw [h.n]
 exact ⟨by omega, h1⟩
theorem cK.next (h : cK seen n g r k i) (hi : (i : Int) < (gI r (k : Int)).length) (h0 : 0 ≤ gI (gI r (k : Int)) (i : Int)) (h1 : gI (gI r (k : Int)) (i : Int) < 2 * (g.2.length : Int)) (hs : gI seen (gI (gI r (k : Int)) (i : Int)) = false) (hf : dK g (gI (gI r (k : Int)) (i : Int)) = k) :
   cK (seen.set (gI (gI r (k : Int)) (i : Int)).toNat true) (n + 1) g r k (i + 1) := by
 have e := bC hi
 refine ⟨?_, ?_, h.ok, fun x hx => ?_⟩
 · rw [e, ← List.append_assoc]; exact h.rm.next h0 h1 hs
 · rw [e, ← List.append_assoc, List.length_append, h.n]; simp
 · rw [e] at hx
   rcases List.mem_append.1 hx with hx | hx
   · exact h.row x hx
   · obtain rfl := List.mem_singleton.1 hx; exact ⟨⟨h0, h1⟩, hf⟩
theorem cK.row_done (h : cK seen n g r k i) (hk : (k : Int) < r.length) (hi : ¬ (i : Int) < (gI r (k : Int)).length) : cK seen n g r (k + 1) 0 := by
 have e : (gI r (k : Int)).take i = gI r (k : Int) := List.take_of_length_le (by omega)
 have h1 := h.rm
 have h2 := h.n
 have h3 := h.row
 rw [e] at h1 h2 h3
 refine ⟨by rw [eu hk]; simpa using h1, by rw [eu hk]; simpa using h2, fun v hv x hx => ?_, by simp⟩
 by_cases hvk : v = k
 · subst hvk; exact h3 x hx
 · exact h.ok v (by omega) x hx
theorem cK.bad (h : cK seen n g r k i) (hk : (k : Int) < r.length) (hi : (i : Int) < (gI r (k : Int)).length) (hb : ¬ ((0 ≤ gI (gI r (k : Int)) (i : Int) ∧ gI (gI r (k : Int)) (i : Int) < 2 * (g.2.length : Int)) ∧ dK g (gI (gI r (k : Int)) (i : Int)) = k)) : ¬ gZ g r := fun hr =>
 hb (hr.2.1 k (by omega) _ (bf (by omega) hi))
theorem cK.twice (h : cK seen n g r k i) (hk : (k : Int) < r.length) (hi : (i : Int) < (gI r (k : Int)).length) (h0 : 0 ≤ gI (gI r (k : Int)) (i : Int)) (h1 : gI (gI r (k : Int)) (i : Int) < 2 * (g.2.length : Int)) (hs : gI seen (gI (gI r (k : Int)) (i : Int)) = true) : ¬ gZ g r := fun hr => by
 have hm := h.rm.mem h0 h1 hs
 have hn := hr.2.2.1
 have hsub : List.Sublist ((r.take k).flatten ++ (gI r (k : Int)).take i ++ [gI (gI r (k : Int)) (i : Int)]) r.flatten := by
   rw [List.append_assoc, ← bC hi]
   have e1 : r = r.take (k + 1) ++ r.drop (k + 1) := (List.take_append_drop _ _).symm
   have e2 : r.flatten = (r.take (k + 1)).flatten ++ (r.drop (k + 1)).flatten := by rw [← List.flatten_append, ← e1]
   rw [e2, eu hk]
   exact (List.Sublist.append_left (List.take_sublist _ _) _).trans (List.sublist_append_left _ _)
 have := hn.sublist hsub
 rw [List.nodup_append] at this
 exact this.2.2 _ hm _ (by simp) rfl
theorem cK.fin (h : cK seen n g r k i) (hl : (r.length : Int) = g.1) (hk : k = r.length) (hi : i = 0) : gZ g r ↔ n = 2 * (g.2.length : Int) := by
 subst hk hi
 have h1 := h.rm
 have h2 := h.n
 simp only [List.take_zero, List.append_nil, List.take_length] at h1 h2
 rw [h2]
 exact ⟨fun hr => hr.2.2.2, fun e => ⟨hl, h.ok, h1.nodup, e⟩⟩
end
def gg (l : List Int) : List Int := if l = [] then [] else l.drop (l.idxOf (d4 l)) ++ l.take (l.idxOf (d4 l))
def dM (r : dR) : dR := r.map gg
def d5 (s : List Int) (v : Int) : Int := if v ∈ s then (s.idxOf v : Int) else -1
theorem oy {s : List Int} {v : Int} {i : Nat} (h : ∀ j : Nat, j < i → ¬ v = gI s (j : Int)) (hi : (i : Int) < s.length) (he : v = gI s (i : Int)) : (i : Int) = d5 s v := by
 have hlt : i < s.length := by omega
 have e : gI s (i : Int) = s[i] := by simp [gI, hlt]
 have hm : v ∈ s := by rw [he]; exact bf (by omega) hi
 unfold d5
 rw [if_pos hm]
 have hlt2 := List.idxOf_lt_length_iff.2 hm
 have h1 : ¬ s.idxOf v < i := fun hlt' => h _ hlt' (by simp [gI, hlt2])
 have h2 : ¬ i < s.idxOf v := fun hlt' => by
   have := List.not_of_lt_findIdx (xs := s) (p := (· == v)) (i := i) hlt'
   simp at this
   exact this (by rw [← e, ← he])
 omega
theorem qw {s : List Int} {v : Int} {i : Nat} (h : ∀ j : Nat, j < i → ¬ v = gI s (j : Int)) (hi : ¬ (i : Int) < s.length) : (-1 : Int) = d5 s v := by
 unfold d5
 rw [if_neg]
 intro hm
 obtain ⟨j, hj, e⟩ := List.mem_iff_getElem.1 hm
 exact h j (by omega) (by simp [gI, hj, e])
theorem gi : ∀ (l : List Int) (a : Int), l.foldl min a = a ∨ l.foldl min a ∈ l
 | [], a => .inl rfl
 | x :: l, a => by
   simp only [List.foldl_cons]
   rcases gi l (min a x) with h | h
   · rw [h]
     rcases Int.le_total a x with h1 | h1
     · rw [Int.min_eq_left h1]; exact .inl rfl
     · rw [Int.min_eq_right h1]; exact .inr (by simp)
   · exact .inr (by simp [h])
theorem gU : ∀ (l : List Int) (a : Int), l.foldl min a ≤ a ∧ ∀ x ∈ l, l.foldl min a ≤ x
 | [], a => ⟨Int.le_refl _, by simp⟩
 | y :: l, a => by
   obtain ⟨h1, h2⟩ := gU l (min a y)
   simp only [List.foldl_cons]
   refine ⟨by omega, fun x hx => ?_⟩
   rcases List.mem_cons.1 hx with rfl | hx
   · omega
   · exact h2 x hx
theorem mx {l : List Int} (hl : l ≠ []) : d4 l = (l.drop 1).foldl min (gI l 0) := by
 unfold d4 ke; rw [List.take_length]
theorem iO {l : List Int} (hl : l ≠ []) : d4 l ∈ l := by
 rw [mx hl]
 cases l with
 | nil => exact absurd rfl hl
 | cons a l =>
   simp only [List.drop_succ_cons, List.drop_zero]
   rcases gi l (gI (a :: l) 0) with h | h
   · rw [h]; simp [gI]
   · exact List.mem_cons_of_mem _ h
theorem lL {l : List Int} (hl : l ≠ []) {x : Int} (hx : x ∈ l) : d4 l ≤ x := by
 rw [mx hl]
 cases l with
 | nil => exact absurd rfl hl
 | cons a l =>
   simp only [List.drop_succ_cons, List.drop_zero]
   obtain ⟨h1, h2⟩ := gU l (gI (a :: l) 0)
   rcases List.mem_cons.1 hx with rfl | hx
   · simpa [gI] using h1
   · exact h2 x hx
theorem mS {l : List Int} (hl : l ≠ []) : gg l = l.drop (d5 l (d4 l)).toNat ++ l.take (d5 l (d4 l)).toNat ∧ 0 ≤ d5 l (d4 l) ∧ d5 l (d4 l) < l.length := by
 have hm := iO hl
 unfold gg d5
 rw [if_neg hl, if_pos hm]
 have := List.idxOf_lt_length_iff.2 hm
 exact ⟨by simp, by omega, by omega⟩
end TL
namespace TL
theorem og {α β : Type} [Inhabited α] {f : α → β} {r : List α} {k : Nat} {d y : β} (hk : (k : Int) < r.length) (hy : y = f (gI r (k : Int))) : (List.map f (List.take k r) ++ List.replicate (r.length - k) d).set (k : Int).toNat y = List.map f (List.take (k + 1) r) ++ List.replicate (r.length - (k + 1)) d := by
 have hl : (List.map f (List.take k r)).length = k := by simp; omega
 have e : r.length - k = (r.length - (k + 1)) + 1 := by omega
 rw [e, List.replicate_succ, bC hk, List.map_append, hy]
 simp only [Int.toNat_natCast]
 rw [List.set_append_right _ _ (by omega), hl]
 simp
theorem oX {α β : Type} [Inhabited α] {f : α → β} {r : List α} {k : Nat} {d : β} (hk : (k : Int) < r.length) (hy : f (gI r (k : Int)) = d) : (List.map f (List.take k r) ++ List.replicate (r.length - k) d) = List.map f (List.take (k + 1) r) ++ List.replicate (r.length - (k + 1)) d := by
 have e : r.length - k = (r.length - (k + 1)) + 1 := by omega
 rw [e, List.replicate_succ, bC hk, List.map_append, List.map_cons, hy]
 simp
end TL
/-
  TlShort: short names for the commonest steps (used by packed claims only).
  By an AI agent.
-/
set_option linter.all false
namespace TL
open Go
abbrev vi (x : Int) : Value := Value.int .i64 x
abbrev vp (b o : Nat) : Value := Value.pointer (some ⟨b, o, none⟩)
abbrev vn : Value := Value.slice none 0 0
abbrev vt (l : List Value) : Value := Value.tuple (List.toArray l)
abbrev vg (l : List Value) : Value := Value.agg (List.toArray l)
theorem cg (L : List Nat) {γ γ' : aM} {w w' : World} (h : aL (bK L) γ w γ' w') : aL (bK L) γ w γ' w' := h
theorem dt {p : Prop} [Decidable p] (h : p) : decide p = true := decide_eq_true h
theorem df {p : Prop} [Decidable p] (h : ¬ p) : decide p = false := decide_eq_false h
section
variable {P : Program} {all rest : List Oper} {K : Fr → World → Prop} {f : Fr} {w w' : World} {x : Operand}
variable {dst : Option Tmp} {op : Op} {ty : TypeId} {pos : String} {after : Array Edge} {g : Option (Nat × Bool)} {o : Oper}
theorem lv (v : Value) (hw : cy all ⟨dst, op, ty, pos, after, g⟩ f = true) (h : (execOp (ev f) ⟨dst, op, ty, pos, after, g⟩).run P w = .ok (.value v) w') (hk : gk P all rest K (eT f dst v) w') : gk P all (⟨dst, op, ty, pos, after, g⟩ :: rest) K f w := i8 hw h hk
theorem lx {v : Value} (h : (execOp (ev f) ⟨dst, op, ty, pos, after, none⟩).run P w = .ok (.value v) w') (hk : gk P all rest K (eT f dst v) w') : gk P all (⟨dst, op, ty, pos, after, none⟩ :: rest) K f w := i8 rfl h hk
theorem lw (v : Value) (h : (execOp (ev f) ⟨dst, op, ty, pos, after, none⟩).run P w = .ok (.value v) w') (hk : gk P all rest K (eT f dst v) w') : gk P all (⟨dst, op, ty, pos, after, none⟩ :: rest) K f w := i8 rfl h hk
theorem mv (v : Value) (hk : gk P all rest K (eT f dst v) w) (h : ev f x = v := by exact rfl) : gk P all (⟨dst, .move x, ty, pos, after, none⟩ :: rest) K f w := i8 rfl (aH h) hk
theorem ma (v : Value) (hk : gk P all rest K (eT f dst v) w) (h : ev f x = v := by exact rfl) : gk P all (⟨dst, .assign x, ty, pos, after, none⟩ :: rest) K f w := i8 rfl (bV h) hk
theorem mi (v : Int) (hk : gk P all rest K (eT f dst (.int .i64 v)) w) (h : ev f x = .int .i64 v := by exact rfl) : gk P all (⟨dst, .move x, ty, pos, after, none⟩ :: rest) K f w := i8 rfl (aH h) hk
theorem ai (v : Int) (hk : gk P all rest K (eT f dst (.int .i64 v)) w) (h : ev f x = .int .i64 v := by exact rfl) : gk P all (⟨dst, .assign x, ty, pos, after, none⟩ :: rest) K f w := i8 rfl (bV h) hk
theorem mz {v : Value} (h : ev f x = v) (hk : gk P all rest K (eT f dst v) w) : gk P all (⟨dst, .move x, ty, pos, after, none⟩ :: rest) K f w := i8 rfl (aH h) hk
theorem lo (h : eR P ⟨dst, op, ty, pos, after, none⟩ f w (fun v w' => gk P all rest K (eT f dst v) w')) : gk P all (⟨dst, op, ty, pos, after, none⟩ :: rest) K f w := bQ rfl h
theorem wy {j : Nat} {x : Bool} {d : Nat} {b : Bool} (hx : b = x) (hg : o.guard = some (j, x) := by exact rfl) (hj : (all[j]?).bind (·.dst) = some d := by exact rfl) (hb : f d = .bool b := by exact rfl) : cy all o f = true := tc hg hj hb hx
theorem wn {j : Nat} {x : Bool} {d : Nat} {b : Bool} (hx : b = !x) (hg : o.guard = some (j, x) := by exact rfl) (hj : (all[j]?).bind (·.dst) = some d := by exact rfl) (hb : f d = .bool b := by exact rfl) : cy all o f = false := sX hg hj hb hx
variable {C : World → Prop} {KQ : Fr → Prop}
theorem qv (v : Value) (h : ∀ w, C w → (execOp (ev f) ⟨dst, op, ty, pos, after, none⟩).run P w = .ok (.value v) w) (hk : iw P all C rest KQ (eT f dst v)) : iw P all C (⟨dst, op, ty, pos, after, none⟩ :: rest) KQ f := aY rfl h hk
theorem qx {v : Value} (h : ∀ w, C w → (execOp (ev f) ⟨dst, op, ty, pos, after, none⟩).run P w = .ok (.value v) w) (hk : iw P all C rest KQ (eT f dst v)) : iw P all C (⟨dst, op, ty, pos, after, none⟩ :: rest) KQ f := aY rfl h hk
theorem qm (v : Value) (hk : iw P all C rest KQ (eT f dst v)) (h : ev f x = v := by exact rfl) : iw P all C (⟨dst, .move x, ty, pos, after, none⟩ :: rest) KQ f := aY rfl (fun _ _ => aH h) hk
theorem qz {v : Value} (h : ev f x = v) (hk : iw P all C rest KQ (eT f dst v)) : iw P all C (⟨dst, .move x, ty, pos, after, none⟩ :: rest) KQ f := aY rfl (fun _ _ => aH h) hk
end
section
variable {P : Program} {n : Nat} {l : List Oper} {S : World → Prop} {K : Fr → World → Prop} {f : Fr} {w : World} {done : List Nat} {fuel : Nat} {qs : List Nat}
variable {dst : Option Tmp} {op : Op} {ty : TypeId} {pos : String} {after : Array Edge} {g : Option (Nat × Bool)} {v : Value}
theorem ht (i : Nat) (hi : l[i]? = some ⟨dst, op, ty, pos, after, none⟩) (hS : S w) (h : ∀ w, S w → (execOp (ev f) ⟨dst, op, ty, pos, after, none⟩).run P w = .ok (.value v) w) (hk : nJ P n l S K fuel (i :: done) (eT f dst v) w) (hn : eV l = true := by kernel_rfl) (hc : (eF l done i && gf l done i && j5 n ⟨dst, op, ty, pos, after, none⟩) = true := by kernel_rfl) : nJ P n l S K (fuel + 1) done f w := te i hi hn hc rfl hS h hk
theorem xv (i : Nat) (M : List Nat) (hi : l[i]? = some ⟨dst, op, ty, pos, after, none⟩) (h : (execOp (ev f) ⟨dst, op, ty, pos, after, none⟩).run P w = .ok (.value v) w) (hk : jh P n l qs K fuel (i :: done) (eT f dst v) w) (hn : eV l = true := by kernel_rfl) (hc : (qs.contains i && eF l done i && gf l done i && jT l qs done M i && j5 n ⟨dst, op, ty, pos, after, none⟩) = true := by kernel_rfl) : jh P n l qs K (fuel + 1) done f w := tD i M hi hn hc rfl h hk
theorem xh (i : Nat) (M : List Nat) (hi : l[i]? = some ⟨dst, op, ty, pos, after, none⟩) (h : ∀ w', cT w.heap.size w w' → (execOp (ev f) ⟨dst, op, ty, pos, after, none⟩).run P w' = .ok (.value v) w') (hk : jh P n l qs K fuel (i :: done) (eT f dst v) w) (hn : eV l = true := by kernel_rfl) (hc : (qs.contains i && eF l done i && gf l done i && jz l qs done M i && j5 n ⟨dst, op, ty, pos, after, none⟩) = true := by kernel_rfl) : jh P n l qs K (fuel + 1) done f w := sT i M hi hn hc rfl h hk
theorem xp (i : Nat) (hi : l[i]? = some ⟨dst, op, ty, pos, after, none⟩) (h : ∀ w, (execOp (ev f) ⟨dst, op, ty, pos, after, none⟩).run P w = .ok (.value v) w) (hk : jh P n l qs K fuel (i :: done) (eT f dst v) w) (hn : eV l = true := by kernel_rfl) (hc : (qs.contains i && eF l done i && gf l done i && j5 n ⟨dst, op, ty, pos, after, none⟩) = true := by kernel_rfl) : jh P n l qs K (fuel + 1) done f w := sx i hi hn hc rfl h hk
end
section
variable {γ γ' : aM} {w w' : World} {v : Value} {j k : Nat} {L : List Nat}
theorem b9.ca {w0 : World} (h : b9 w0 γ w) (hc : aL (bK L) γ w γ' w') (hj : L.contains 0 = false := by exact rfl) : b9 w0 γ' w' := h.chg hc (bE hj)
theorem b9.ce {w0 : World} (h : b9 w0 γ w) (hc : aL (is k) γ w γ' w') (hj : Nat.beq 0 k = false := by exact rfl) : b9 w0 γ' w' := h.chg hc (e9 hj)
theorem b9.cn {w0 : World} (h : b9 w0 γ w) (hc : aL no γ w γ' w') : b9 w0 γ' w' := h.chg hc (fx _)
theorem Bx.ca {b : Nat} {cs : List Value} (h : Bx γ (is j) w b cs) (hc : aL (bK L) γ w γ' w') (hj : L.contains j = false := by exact rfl) : Bx γ' (is j) w' b cs := h.chg hc (bE hj)
theorem Bx.ce {b : Nat} {cs : List Value} (h : Bx γ (is j) w b cs) (hc : aL (is k) γ w γ' w') (hj : Nat.beq j k = false := by exact rfl) : Bx γ' (is j) w' b cs := h.chg hc (e9 hj)
theorem Bx.cn {J : ck → Prop} {b : Nat} {cs : List Value} (h : Bx γ J w b cs) (hc : aL no γ w γ' w') : Bx γ' J w' b cs := h.chg hc (fx _)
theorem Sl.ca {α : Type} [Rp α] {xs : List α} (h : Sl γ (is j) w v xs) (hc : aL (bK L) γ w γ' w') (hj : L.contains j = false := by exact rfl) : Sl γ' (is j) w' v xs := h.chg hc (bE hj)
theorem Sl.ce {α : Type} [Rp α] {xs : List α} (h : Sl γ (is j) w v xs) (hc : aL (is k) γ w γ' w') (hj : Nat.beq j k = false := by exact rfl) : Sl γ' (is j) w' v xs := h.chg hc (e9 hj)
theorem Sl.cn {α : Type} [Rp α] {S : ck → Prop} {xs : List α} (h : Sl γ S w v xs) (hc : aL no γ w γ' w') : Sl γ' S w' v xs := h.chg hc (fx _)
theorem Ow.ca {α : Type} [Rp α] {xs : List α} (h : Ow γ (is j) (is j) w v xs) (hc : aL (bK L) γ w γ' w') (hj : L.contains j = false := by exact rfl) : Ow γ' (is j) (is j) w' v xs := h.chg hc (bE hj) (bE hj)
theorem Ow.ce {α : Type} [Rp α] {xs : List α} (h : Ow γ (is j) (is j) w v xs) (hc : aL (is k) γ w γ' w') (hj : Nat.beq j k = false := by exact rfl) : Ow γ' (is j) (is j) w' v xs := h.chg hc (e9 hj) (e9 hj)
theorem Ow.cn {α : Type} [Rp α] {J S : ck → Prop} {xs : List α} (h : Ow γ J S w v xs) (hc : aL no γ w γ' w') : Ow γ' J S w' v xs := h.chg hc (fx _) (fx _)
theorem dG.ca {α : Type} [Rp α] {xs : List (List α)} (h : dG γ j w v xs) (hc : aL (bK L) γ w γ' w') (hj : L.contains j = false := by exact rfl) : dG γ' j w' v xs := h.chg hc (bE hj)
theorem dG.ce {α : Type} [Rp α] {xs : List (List α)} (h : dG γ j w v xs) (hc : aL (is k) γ w γ' w') (hj : Nat.beq j k = false := by exact rfl) : dG γ' j w' v xs := h.chg hc (e9 hj)
theorem dG.cn {α : Type} [Rp α] {xs : List (List α)} (h : dG γ j w v xs) (hc : aL no γ w γ' w') : dG γ' j w' v xs := h.chg hc (fx _)
theorem eG.ca {α : Type} [Rp α] {h0 : Nat} {xs : List (List α)} (h : eG γ j h0 w v xs) (hc : aL (bK L) γ w γ' w') (hj : L.contains j = false := by exact rfl) : eG γ' j h0 w' v xs := h.chg hc (bE hj)
theorem eG.ce {α : Type} [Rp α] {h0 : Nat} {xs : List (List α)} (h : eG γ j h0 w v xs) (hc : aL (is k) γ w γ' w') (hj : Nat.beq j k = false := by exact rfl) : eG γ' j h0 w' v xs := h.chg hc (e9 hj)
theorem eG.cn {α : Type} [Rp α] {h0 : Nat} {xs : List (List α)} (h : eG γ j h0 w v xs) (hc : aL no γ w γ' w') : eG γ' j h0 w' v xs := h.chg hc (fx _)
def tS (δ g : aM) (w : World) (ren : Nat → Nat) : Prop := (∀ {α : Type} [Rp α] {i : Nat} {v : Value} {xs : List α}, Ow δ (is i) (is i) w v xs → ∀ k : Nat, Nat.beq i 0 = false → ren i = k → Ow g (is k) (is k) w v xs) ∧ (∀ {α : Type} [Rp α] {i : Nat} {v : Value} {xs : List (List α)}, dG δ i w v xs → ∀ k : Nat, Nat.beq i 0 = false → ren i = k → dG g k w v xs)
theorem lY {δ : aM} (γ : aM) (fr : ga w δ w') (ren : Nat → Nat) : ∃ g, aL no γ w g w' ∧ tS δ g w' ren :=
 ⟨_, oV fr.below γ δ ren, fun h k hi hr => h.glue fr.col hi hr, fun h k hi hr => h.glue fr.col hi hr⟩
theorem Ow.gl {α : Type} [Rp α] {δ g : aM} {ren : Nat → Nat} {i : Nat} {xs : List α} (h : Ow δ (is i) (is i) w v xs) (G : tS δ g w ren) (k : Nat) (hi : Nat.beq i 0 = false := by exact rfl) (hr : ren i = k := by exact rfl) : Ow g (is k) (is k) w v xs := G.1 h k hi hr
theorem dG.gl {α : Type} [Rp α] {δ g : aM} {ren : Nat → Nat} {i : Nat} {xs : List (List α)} (h : dG δ i w v xs) (G : tS δ g w ren) (k : Nat) (hi : Nat.beq i 0 = false := by exact rfl) (hr : ren i = k := by exact rfl) : dG g k w v xs := G.2 h k hi hr
end
end TL
/-
  TlMap: maps that the call makes.
  By an AI agent.
-/
set_option linter.all false
namespace TL
open Go
class Ky (K : Type) where
  val : K → Value
structure mm (P : Program) (kt : TypeId) (K : Type) [DecidableEq K] [Ky K] : Prop where
 check : ∀ (b : Bool) (k : K) (w : World), (Instr.checkKey b 10000 kt (Ky.val k)).run P w = .ok () w
 find : ∀ (k : K) (es : List MapEntry) (ks : List K) (w : World), es.map (·.key) = ks.map Ky.val → (Instr.findKey kt (Ky.val k) es).run P w = .ok ((ks.findIdx? (· = k)).bind fun i => (es[i]?).map fun e => (i, e.val)) w
 bits : ∀ k : K, Instr.sameBits 10000 (Ky.val k) (Ky.val k) = true
section
variable {P : Program} {f : Fr} {w : World} {dst : Option Tmp} {ty : TypeId} {pos : String} {after : Array Edge} {g : Option (Nat × Bool)} {t : TypeId} {x y z : Operand} {N : Value → World → Prop}
theorem dm {r : Nat} {es : Array MapEntry} {clock : Nat} (h : w.heap[r]? = some (.map es clock)) : (getObj r).run P w = .ok (.map es clock) w := by
 simp [getObj, Sem.run, h]
theorem el {r : Nat} {es : Array MapEntry} {clock : Nat} {o : Obj} (h : w.heap[r]? = some (.map es clock)) : (setObj r o).run P w = .ok () { w with heap := w.heap.setIfInBounds r o } := by
 simp [setObj, Sem.run, h]
theorem gv (γ : aM) {r : Nat} (o : Obj) {J : ck → Prop} (hJ : J (γ r)) : aL J γ w γ { w with heap := w.heap.setIfInBounds r o } :=
 ⟨rfl, rfl, rfl, by simp, fun _ _ _ => rfl, fun k _ hk => by
   have : r ≠ k := fun h => hk (h ▸ hJ)
   simp [Array.getElem?_setIfInBounds_ne this], Nat.le_refl _⟩
theorem fw {r : Nat} {o o' : Obj} (h : w.heap[r]? = some o') : ({ w with heap := w.heap.setIfInBounds r o } : World).heap[r]? = some o := by
 have := cA h
 simp [this]
end
instance : Ky Int where
 val k := .int .i64 k
instance : Ky (Int × Int) where
 val k := .agg (List.toArray [.int .i64 k.1, .int .i64 k.2])
end TL
namespace TL
open Go
end TL
/-
  TlGeom: points with whole coordinates: turns, segments, how they meet.
  By an AI agent.
-/
set_option linter.all false
namespace TL
abbrev Pt := Int × Int
def bv (x y : Int) : Int := if x < y then -1 else if y < x then 1 else 0
theorem nn (x : Int) : bv x 0 = x.sign := by
 unfold bv
 rcases Int.lt_trichotomy x 0 with h | h | h
 · rw [if_pos h, Int.sign_eq_neg_one_of_neg h]
 · subst h; rfl
 · rw [if_neg (by omega), if_pos h, Int.sign_eq_one_of_pos h]
theorem kV (x : Int) : x.sign = -1 ∧ x < 0 ∨ x.sign = 0 ∧ x = 0 ∨ x.sign = 1 ∧ 0 < x := by
 rcases Int.lt_trichotomy x 0 with h | h | h
 · exact .inl ⟨Int.sign_eq_neg_one_of_neg h, h⟩
 · exact .inr (.inl ⟨by rw [h]; rfl, h⟩)
 · exact .inr (.inr ⟨Int.sign_eq_one_of_pos h, h⟩)
def cM (a b : Pt) : Int := a.1 * b.2 - a.2 * b.1
def aQ (b a : Pt) : Pt := (b.1 - a.1, b.2 - a.2)
def bk (a b c : Pt) : Int := bv (cM (aQ b a) (aQ c a)) 0
theorem oh {a b c : Pt} : bk a b c = 0 ↔ (b.1 - a.1) * (c.2 - a.2) = (b.2 - a.2) * (c.1 - a.1) := by
 unfold bk
 rw [nn, Int.sign_eq_zero_iff_zero]
 unfold cM aQ
 simp only
 omega
theorem ir (a b c : Pt) : -1 ≤ bk a b c ∧ bk a b c ≤ 1 := by unfold bk bv; split <;> (try split) <;> omega
def bF (p : Pt) : Pt := (-p.2, p.1)
theorem lQ (a b c : Pt) : bk (bF a) (bF b) (bF c) = bk a b c := by
 unfold bk
 congr 1
 unfold cM aQ bF
 simp only
 grind
def jG (a b p : Pt) : Prop := (min a.1 b.1 ≤ p.1 ∧ p.1 ≤ max a.1 b.1) ∧ min a.2 b.2 ≤ p.2 ∧ p.2 ≤ max a.2 b.2
instance (a b p : Pt) : Decidable (jG a b p) := by unfold jG; infer_instance
def bG (a b p : Pt) : Prop := bk a b p = 0 ∧ jG a b p
instance (a b p : Pt) : Decidable (bG a b p) := by unfold bG; infer_instance
theorem m9 {a b p : Pt} : bG (bF a) (bF b) (bF p) ↔ bG a b p := by
 unfold bG jG
 rw [lQ]
 unfold bF
 simp only
 omega
def aI (a b : Pt) : Int := if bv a.1 b.1 ≠ 0 then bv a.1 b.1 else bv a.2 b.2
def aT (a b c d : Pt) : Int :=
 let a' := if 0 < aI a b then b else a
 let b' := if 0 < aI a b then a else b
 let c' := if 0 < aI c d then d else c
 let d' := if 0 < aI c d then c else d
 let low := if 0 < aI c' a' then c' else a'
 let high := if aI d' b' < 0 then d' else b'
 if 0 < aI low high then 0 else if aI low high = 0 then 2 else 3
def aP (a b c d : Pt) : Int :=
 if bk a b c = 0 ∧ bk a b d = 0 ∧ bk c d a = 0 ∧ bk c d b = 0 then aT a b c d
 else if bk a b c * bk a b d < 0 ∧ bk c d a * bk c d b < 0 then 1
 else if bG a b c ∨ bG a b d ∨ bG c d a ∨ bG c d b then 2 else 0
def key (p : Pt) : Int := p.1 * 1073741824 + p.2
def dX (p : Pt) : Prop := (-4194304 ≤ p.1 ∧ p.1 ≤ 4194304) ∧ -4194304 ≤ p.2 ∧ p.2 ≤ 4194304
theorem eP {a b : Pt} (ha : dX a) (hb : dX b) : aI a b = bv (key a) (key b) := by
 unfold aI bv key
 unfold dX at ha hb
 repeat' split
 all_goals omega
def dU (a b c d : Int) : Int :=
 if min (max a b) (max c d) < max (min a b) (min c d) then 0 else if min (max a b) (max c d) = max (min a b) (min c d) then 2 else 3
theorem fy {x y : Int} : 0 < bv x y ↔ y < x := by unfold bv; split <;> (try split) <;> omega
theorem kW {x y : Int} : bv x y < 0 ↔ x < y := by unfold bv; split <;> (try split) <;> omega
theorem lP {x y : Int} : bv x y = 0 ↔ x = y := by unfold bv; split <;> (try split) <;> omega
theorem nE {a b c d : Pt} (ha : dX a) (hb : dX b) (hc : dX c) (hd : dX d) : aT a b c d = dU (key a) (key b) (key c) (key d) := by
 unfold aT
 simp only
 have e1 : 0 < aI a b ↔ key b < key a := by rw [eP ha hb, fy]
 have e2 : 0 < aI c d ↔ key d < key c := by rw [eP hc hd, fy]
 have fin : ∀ a b c d : Pt, dX a → dX b → dX c → dX d → key a ≤ key b → key c ≤ key d →
     (if 0 < aI (if 0 < aI c a then c else a) (if aI d b < 0 then d else b) then (0 : Int) else if aI (if 0 < aI c a then c else a) (if aI d b < 0 then d else b) = 0 then 2 else 3) = dU (key a) (key b) (key c) (key d) := by
   intro a b c d ha hb hc hd h1 h2
   have e3 : 0 < aI c a ↔ key a < key c := by rw [eP hc ha, fy]
   have e4 : aI d b < 0 ↔ key d < key b := by rw [eP hd hb, kW]
   have low : ∃ p, (if 0 < aI c a then c else a) = p ∧ dX p ∧ key p = max (key a) (key c) := by
     by_cases h : 0 < aI c a
     · rw [if_pos h]; exact ⟨c, rfl, hc, by have := e3.1 h; omega⟩
     · rw [if_neg h]; exact ⟨a, rfl, ha, by have := mt e3.2 h; omega⟩
   have high : ∃ p, (if aI d b < 0 then d else b) = p ∧ dX p ∧ key p = min (key b) (key d) := by
     by_cases h : aI d b < 0
     · rw [if_pos h]; exact ⟨d, rfl, hd, by have := e4.1 h; omega⟩
     · rw [if_neg h]; exact ⟨b, rfl, hb, by have := mt e4.2 h; omega⟩
   obtain ⟨p, ep, hp, kp⟩ := low
   obtain ⟨q, eq, hq, kq⟩ := high
   rw [ep, eq, eP hp hq]
   unfold dU
   have m1 : max (key a) (key b) = key b := by omega
   have m2 : max (key c) (key d) = key d := by omega
   have m3 : min (key a) (key b) = key a := by omega
   have m4 : min (key c) (key d) = key c := by omega
   rw [m1, m2, m3, m4, ← kp, ← kq]
   by_cases c1 : key q < key p
   · rw [if_pos (fy.2 c1), if_pos c1]
   · rw [if_neg (mt fy.1 c1), if_neg c1]
     by_cases c2 : key q = key p
     · rw [if_pos (lP.2 c2.symm), if_pos c2]
     · rw [if_neg (fun h => c2 (lP.1 h).symm), if_neg c2]
 have lk1 : ∀ x y z t : Int, dU y x z t = dU x y z t := fun x y z t => by unfold dU; rw [Int.max_comm y x, Int.min_comm y x]
 have lk2 : ∀ x y z t : Int, dU x y t z = dU x y z t := fun x y z t => by unfold dU; rw [Int.max_comm t z, Int.min_comm t z]
 by_cases c1 : 0 < aI a b
 · have k1 := e1.1 c1
   by_cases c2 : 0 < aI c d
   · have k2 := e2.1 c2
     simp only [if_pos c1, if_pos c2]
     rw [fin b a d c hb ha hd hc (by omega) (by omega), lk1, lk2]
   · have k2 := mt e2.2 c2
     simp only [if_pos c1, if_neg c2]
     rw [fin b a c d hb ha hc hd (by omega) (by omega), lk1]
 · have k1 := mt e1.2 c1
   by_cases c2 : 0 < aI c d
   · have k2 := e2.1 c2
     simp only [if_neg c1, if_pos c2]
     rw [fin a b d c ha hb hd hc (by omega) (by omega), lk2]
   · have k2 := mt e2.2 c2
     simp only [if_neg c1, if_neg c2]
     rw [fin a b c d ha hb hc hd (by omega) (by omega)]
theorem kT (x y z t : Int) : (min (max x y) (max z t) < max (min x y) (min z t)) ↔ ((x < z ∧ x < t) ∧ y < z ∧ y < t) ∨ ((z < x ∧ t < x) ∧ z < y ∧ t < y) := by omega
theorem kz (x y z t : Int) : (max (min x y) (min z t) < min (max x y) (max z t)) ↔ ((x < y ∨ y < x) ∧ (z < t ∨ t < z)) ∧ ((x < z ∨ x < t) ∨ y < z ∨ y < t) ∧ ((z < x ∨ t < x) ∨ z < y ∨ t < y) := by omega
theorem iK {x y z t x' y' z' t' : Int} (h1 : x < y ↔ x' < y') (h1' : y < x ↔ y' < x') (h2 : x < z ↔ x' < z') (h2' : z < x ↔ z' < x') (h3 : x < t ↔ x' < t') (h3' : t < x ↔ t' < x') (h4 : y < z ↔ y' < z') (h4' : z < y ↔ z' < y') (h5 : y < t ↔ y' < t') (h5' : t < y ↔ t' < y') (h6 : z < t ↔ z' < t') (h6' : t < z ↔ t' < z') : dU x' y' z' t' = dU x y z t := by
  have e1 : (min (max x' y') (max z' t') < max (min x' y') (min z' t')) ↔ (min (max x y) (max z t) < max (min x y) (min z t)) := by
    rw [kT, kT, h2, h2', h3, h3', h4, h4', h5, h5']
  have e2 : (max (min x' y') (min z' t') < min (max x' y') (max z' t')) ↔ (max (min x y) (min z t) < min (max x y) (max z t)) := by
    rw [kz, kz, h1, h1', h2, h2', h3, h3', h4, h4', h5, h5', h6, h6']
  have e3 : (min (max x' y') (max z' t') = max (min x' y') (min z' t')) ↔ (min (max x y) (max z t) = max (min x y) (min z t)) := by
    constructor
    · intro h
      have a := mt e1.2 (by omega)
      have b := mt e2.2 (by omega)
      omega
    · intro h
      have a := mt e1.1 (by omega)
      have b := mt e2.1 (by omega)
      omega
  unfold dU
  simp only [e1, e3]
theorem mQ (x y z t : Int) : dU (-x) (-y) (-z) (-t) = dU x y z t := by
 unfold dU
 have e1 : (min (max (-x) (-y)) (max (-z) (-t)) < max (min (-x) (-y)) (min (-z) (-t))) ↔ (min (max x y) (max z t) < max (min x y) (min z t)) := by omega
 have e2 : (min (max (-x) (-y)) (max (-z) (-t)) = max (min (-x) (-y)) (min (-z) (-t))) ↔ (min (max x y) (max z t) = max (min x y) (min z t)) := by omega
 simp only [e1, e2]
end TL
namespace TL
theorem ff {x y : Int} (h1 : -16777216 ≤ x ∧ x ≤ 16777216) (h2 : -16777216 ≤ y ∧ y ≤ 16777216) : -281474976710656 ≤ x * y ∧ x * y ≤ 281474976710656 := by
 have h := Int.natAbs_mul x y
 have a : x.natAbs ≤ 16777216 := by omega
 have b : y.natAbs ≤ 16777216 := by omega
 have c : x.natAbs * y.natAbs ≤ 16777216 * 16777216 := Nat.mul_le_mul a b
 omega
def tB (p : Pt) : Prop := (-16777216 ≤ p.1 ∧ p.1 ≤ 16777216) ∧ -16777216 ≤ p.2 ∧ p.2 ≤ 16777216
theorem il {a b : Pt} (ha : dX a) (hb : dX b) : tB (aQ b a) := by
 unfold dX at ha hb
 unfold tB aQ
 simp only
 omega
def c5 (p : Pt) : Prop := (-1048576 ≤ p.1 ∧ p.1 ≤ 1048576) ∧ -1048576 ≤ p.2 ∧ p.2 ≤ 1048576
instance (p : Pt) : Decidable (c5 p) := by unfold c5; infer_instance
theorem c5.bd {p : Pt} (h : c5 p) : dX p := by unfold c5 at h; unfold dX; omega
def d7 (ps : List Pt) : Prop := ps.length ≤ 4096 ∧ ∀ p ∈ ps, c5 p
instance (ps : List Pt) : Decidable (d7 ps) := by unfold d7; infer_instance
theorem sN {ps : List Pt} (h : ∀ j : Nat, j < ps.length → c5 (gI ps (j : Int))) : ∀ p ∈ ps, c5 p := fun p hp => by
 obtain ⟨i, hi, rfl⟩ := List.mem_iff_getElem.1 hp
 have := h i hi
 have e : gI ps (i : Int) = ps[i] := by simp [gI, hi]
 rwa [e] at this
def ip : List Int → Int
 | [] => 0
 | x :: l => if x = 0 then ip l else x
theorem o8 (a b : Pt) : aI a b = ip [bv a.1 b.1, bv a.2 b.2] := by
 unfold aI ip
 by_cases h : bv a.1 b.1 = 0
 · rw [if_neg (by simp [h]), if_pos h]
   unfold ip
   by_cases h2 : bv a.2 b.2 = 0
   · rw [if_pos h2, h2]; rfl
   · rw [if_neg h2]
 · rw [if_pos h, if_neg h]
theorem oI {l : List Int} {k : Nat} (h : ∀ j : Nat, j < k → gI l (j : Int) = 0) (hk : (k : Int) < l.length) (hx : gI l (k : Int) ≠ 0) : gI l (k : Int) = ip l := by
 induction l generalizing k with
 | nil => simp at hk; omega
 | cons a l ih =>
   cases k with
   | zero =>
     have e : gI (a :: l) ((0 : Nat) : Int) = a := by simp [gI]
     rw [e] at hx ⊢
     unfold ip; rw [if_neg hx]
   | succ k =>
     have e : ∀ j : Nat, gI (a :: l) ((j + 1 : Nat) : Int) = gI l (j : Int) := fun j => by simp [gI]
     have e0 : gI (a :: l) ((0 : Nat) : Int) = a := by simp [gI]
     have h0 := h 0 (by omega)
     rw [e0] at h0
     rw [e] at hx ⊢
     unfold ip; rw [if_pos h0]
     exact ih (fun j hj => by rw [← e]; exact h (j + 1) (by omega)) (by simp at hk; omega) hx
theorem pA {l : List Int} {k : Nat} (h : ∀ j : Nat, j < k → gI l (j : Int) = 0) (hk : ¬ (k : Int) < l.length) : 0 = ip l := by
 induction l generalizing k with
 | nil => rfl
 | cons a l ih =>
   have e : ∀ j : Nat, gI (a :: l) ((j + 1 : Nat) : Int) = gI l (j : Int) := fun j => by simp [gI]
   have e0 : gI (a :: l) ((0 : Nat) : Int) = a := by simp [gI]
   simp at hk
   have h0 := h 0 (by omega)
   rw [e0] at h0
   unfold ip; rw [if_pos h0]
   exact ih (k := k - 1) (fun j hj => by rw [← e]; exact h (j + 1) (by omega)) (by omega)
def dO (a b c : Pt) : Bool × Int := if c5 a ∧ c5 b ∧ c5 c then (decide (bG a b c), 0) else (false, 1)
def cL (a b c d : Pt) : Int × Int := if (c5 a ∧ c5 b) ∧ c5 c ∧ c5 d then (aP a b c d, 0) else (0, 1)
theorem tm {a b c : Pt} : d7 [a, b, c] ↔ c5 a ∧ c5 b ∧ c5 c := by simp [d7]
theorem tF {a b c d : Pt} : d7 [a, b, c, d] ↔ (c5 a ∧ c5 b) ∧ c5 c ∧ c5 d := by simp [d7, and_assoc]
theorem sP {a : Pt} : d7 [a] ↔ c5 a := by simp [d7]
def bi (p : Pt) : Int := if 0 < p.1 ∨ p.1 = 0 ∧ 0 < p.2 then 0 else 1
section
variable {a b c d : Pt}
theorem l8 (h1 : bk a b c = 0) (h2 : bk a b d = 0) (h3 : bk c d a = 0) (h4 : bk c d b = 0) : aT a b c d = aP a b c d := by
 unfold aP; rw [if_pos ⟨h1, h2, h3, h4⟩]
theorem eC (h1 : bk a b c * bk a b d < 0) (h2 : bk c d a * bk c d b < 0) : 1 = aP a b c d := by
 unfold aP
 rw [if_neg (fun h => by rw [h.1, Int.zero_mul] at h1; omega), if_pos ⟨h1, h2⟩]
theorem aU (h0 : ¬ (bk a b c = 0 ∧ bk a b d = 0 ∧ bk c d a = 0 ∧ bk c d b = 0)) (h1 : ¬ (bk a b c * bk a b d < 0 ∧ bk c d a * bk c d b < 0)) (h2 : bG a b c ∨ bG a b d ∨ bG c d a ∨ bG c d b) : 2 = aP a b c d := by
 unfold aP
 rw [if_neg h0, if_neg h1, if_pos h2]
theorem cV (h0 : ¬ (bk a b c = 0 ∧ bk a b d = 0 ∧ bk c d a = 0 ∧ bk c d b = 0)) (h1 : ¬ (bk a b c * bk a b d < 0 ∧ bk c d a * bk c d b < 0)) (h2 : ¬ (bG a b c ∨ bG a b d ∨ bG c d a ∨ bG c d b)) : 0 = aP a b c d := by
 unfold aP
 rw [if_neg h0, if_neg h1, if_neg h2]
end
end TL
/-
  TlGeomR: what is told of many points: areas, boxes, whether a polyline is simple.
  By an AI agent.
-/
set_option linter.all false
namespace TL
def nH (ps : List Pt) : Nat → Pt
 | 0 => gI ps 0
 | k + 1 => (min (nH ps k).1 (gI ps (k : Int)).1, min (nH ps k).2 (gI ps (k : Int)).2)
def nG (ps : List Pt) : Nat → Pt
 | 0 => gI ps 0
 | k + 1 => (max (nG ps k).1 (gI ps (k : Int)).1, max (nG ps k).2 (gI ps (k : Int)).2)
def bS (ps : List Pt) : Prop := 4 ≤ (ps.length : Int) ∧ gI ps 0 = gI ps ((ps.length : Int) - 1)
instance (ps : List Pt) : Decidable (bS ps) := by unfold bS; infer_instance
def eD (ps : List Pt) (i k : Nat) : Prop := k = i + 1 ∨ i = 0 ∧ (k : Int) = (ps.length : Int) - 2 ∧ bS ps
instance (ps : List Pt) (i k : Nat) : Decidable (eD ps i k) := by unfold eD; infer_instance
def tQ (ps : List Pt) (i k : Nat) : Int := aP (gI ps (i : Int)) (gI ps ((i : Int) + 1)) (gI ps (k : Int)) (gI ps ((k : Int) + 1))
def fG (ps : List Pt) (i k : Nat) : Prop := eD ps i k ∧ tQ ps i k = 3 ∨ ¬ eD ps i k ∧ tQ ps i k ≠ 0
instance (ps : List Pt) (i k : Nat) : Decidable (fG ps i k) := by unfold fG; infer_instance
def l9 (ps : List Pt) (i : Nat) : Prop := gI ps (i : Int) ≠ gI ps ((i : Int) + 1) ∧ ∀ k < ps.length, i < k → (k : Int) ≤ (ps.length : Int) - 2 → ¬ fG ps i k
instance (ps : List Pt) (i : Nat) : Decidable (l9 ps i) := by unfold l9; infer_instance
def gp (ps : List Pt) : Prop := ∀ i < ps.length, (i : Int) ≤ (ps.length : Int) - 2 → l9 ps i
instance (ps : List Pt) : Decidable (gp ps) := by unfold gp; infer_instance
def du (ps : List Pt) : Bool × Int := if (ps.length : Int) = 0 ∨ ¬ d7 ps then (false, 1) else (decide (gp ps), 0)
section
variable {ps : List Pt}
theorem gO (h : (ps.length : Int) = 0 ∨ ¬ d7 ps) : du ps = (false, 1) := by unfold du; rw [if_pos h]
theorem d8 (h0 : ¬ (ps.length : Int) = 0) (h : d7 ps) : du ps = (decide (gp ps), 0) := by unfold du; rw [if_neg (by rintro (c | c); exact h0 c; exact c h)]
theorem sq {i : Nat} (hi : (i : Int) ≤ (ps.length : Int) - 2) (h : gI ps (i : Int) = gI ps ((i : Int) + 1)) : false = decide (gp ps) :=
 (decide_eq_false fun hs => (hs i (by omega) hi).1 h).symm
theorem gQ {i k : Nat} (hi : (i : Int) ≤ (ps.length : Int) - 2) (hk : (k : Int) ≤ (ps.length : Int) - 2) (hik : i < k) (h : fG ps i k) : false = decide (gp ps) :=
 (decide_eq_false fun hs => (hs i (by omega) hi).2 k (by omega) hik hk h).symm
theorem rI {i : Nat} (h : ∀ j : Nat, j < i → l9 ps j) (hi : ¬ (i : Int) ≤ (ps.length : Int) - 2) : true = decide (gp ps) :=
 (decide_eq_true fun j _ hj2 => h j (by omega)).symm
variable {i k : Nat}
theorem rM (h : (k : Int) = (i : Int) + 1) : eD ps i k := .inl (by omega)
theorem s5 (h1 : (i : Int) = 0) (h2 : (k : Int) = (ps.length : Int) - 2) (h3 : decide (bS ps) = true) : eD ps i k := .inr ⟨by omega, h2, of_decide_eq_true h3⟩
theorem m8 (h : ¬ (k : Int) = (i : Int) + 1) (h1 : ¬ (i : Int) = 0) : ¬ eD ps i k := by
 rintro (c | ⟨c, _⟩) <;> omega
theorem mw (h : ¬ (k : Int) = (i : Int) + 1) (h1 : ¬ (k : Int) = (ps.length : Int) - 2) : ¬ eD ps i k := by
 rintro (c | ⟨_, c, _⟩) <;> omega
theorem mE (h : ¬ (k : Int) = (i : Int) + 1) (h1 : ¬ decide (bS ps) = true) : ¬ eD ps i k := by
 rintro (c | ⟨_, _, c⟩)
 · omega
 · exact h1 (decide_eq_true c)
theorem tE (hj : eD ps i k) (hm : aP (gI ps (i : Int)) (gI ps ((i : Int) + 1)) (gI ps (k : Int)) (gI ps ((k : Int) + 1)) = 3) : fG ps i k := .inl ⟨hj, hm⟩
theorem sn (hj : ¬ eD ps i k) (hm : ¬ aP (gI ps (i : Int)) (gI ps ((i : Int) + 1)) (gI ps (k : Int)) (gI ps ((k : Int) + 1)) = 0) : fG ps i k := .inr ⟨hj, hm⟩
theorem rW (hj : eD ps i k) (hm : ¬ aP (gI ps (i : Int)) (gI ps ((i : Int) + 1)) (gI ps (k : Int)) (gI ps ((k : Int) + 1)) = 3) : ¬ fG ps i k := by
 rintro (⟨_, h⟩ | ⟨h, _⟩)
 · exact hm h
 · exact h hj
theorem pb (hj : ¬ eD ps i k) (hm : aP (gI ps (i : Int)) (gI ps ((i : Int) + 1)) (gI ps (k : Int)) (gI ps ((k : Int) + 1)) = 0) : ¬ fG ps i k := by
 rintro (⟨h, _⟩ | ⟨_, h⟩)
 · exact hj h
 · exact h hm
end
end TL
/-
  TlConv: whole numbers turned to another kind, a string's byte, functions that bear values.
  By an AI agent.
-/
set_option linter.all false
namespace TL
open Go
section
variable {P : Program} {w : World} {f : Fr} {dst : Option Tmp} {ty : TypeId} {pos : String} {after : Array Edge} {g : Option (Nat × Bool)} {x y : Operand} {s d t : TypeId} {m : Int} {k k0 : IntKind}
theorem lB {fid : Nat} {cs : List Operand} {vals : List Value} (h : cs.map (ev f) = vals) : (execOp (ev f) ⟨dst, .makeFunc (.func fid) #[] cs.toArray, ty, pos, after, g⟩).run P w = .ok (.value (.func (.func fid) #[] vals.toArray)) w := by
 have h : cs.toArray.map (ev f) = vals.toArray := by rw [← h]; simp
 simp [execOp, Instr.makeFunc, h]
end
end TL
namespace TL
open Go
section
variable {P : Program} {w : World} {f : Fr} {dst : Option Tmp} {ty : TypeId} {pos : String} {after : Array Edge} {g : Option (Nat × Bool)} {x y : Operand} {t t' : TypeId}
theorem eZ {fs : Array Field} {xs ys : List Value} {bs : List Bool} {q : Bool} (ht : P.underlying t = some (.struct fs)) (hp : P.stoodInHeld t = false) (hg : P.eqGuardType P.depth t = false) (hx : ev f x = .agg xs.toArray) (hy : ev f y = .agg ys.toArray) (h : EqF P xs.toArray ys.toArray fs.toList bs) (hq : bs.all id = q) :
   (execOp (ev f) ⟨dst, .binOp .neq t x y t', ty, pos, after, g⟩).run P w = .ok (.value (.bool !q)) w := by
 have e1 : P.fieldsOf t = fs := by simp [Program.fieldsOf, ht]
 have hr : (Op.equal t (.agg xs.toArray) (.agg ys.toArray)).run P w = .ok q w := by
   have := run_equalIn_struct (P := P) w 9999 t xs.toArray ys.toArray (by rw [e1]; exact ht) hp
   rw [e1, fm h 9998, hq] at this
   exact this
 exact s8 .neq hx hy (by simp [eqGuard, hg]) (by simp [binOp, hr])
end
end TL
namespace TL
open Go
section
variable {P : Program} {w : World} {f : Fr} {dst : Option Tmp} {ty : TypeId} {pos : String} {after : Array Edge} {g : Option (Nat × Bool)} {x y : Operand} {t t' : TypeId}
end
end TL
set_option linter.unusedVariables false
namespace TL
variable {a b c d : Int × Int}
theorem o1 {A B C D : Prop} [Decidable A] (h : decide A = true) : A ∨ B ∨ C ∨ D := .inl (of_decide_eq_true h)
theorem o2 {A B C D : Prop} [Decidable B] (h : decide B = true) : A ∨ B ∨ C ∨ D := .inr (.inl (of_decide_eq_true h))
theorem o3 {A B C D : Prop} [Decidable C] (h : decide C = true) : A ∨ B ∨ C ∨ D := .inr (.inr (.inl (of_decide_eq_true h)))
theorem o4 {A B C D : Prop} [Decidable D] (h : decide D = true) : A ∨ B ∨ C ∨ D := .inr (.inr (.inr (of_decide_eq_true h)))
theorem o5 {A B C D : Prop} [Decidable A] [Decidable B] [Decidable C] [Decidable D] (h1 : ¬ decide A = true) (h2 : ¬ decide B = true) (h3 : ¬ decide C = true) (h4 : ¬ decide D = true) : ¬ (A ∨ B ∨ C ∨ D) := by
 rintro (h | h | h | h)
 · exact h1 (decide_eq_true h)
 · exact h2 (decide_eq_true h)
 · exact h3 (decide_eq_true h)
 · exact h4 (decide_eq_true h)
end TL
/-
  TlGeomL: how segments meet, moved, turned, named another way about.
  By an AI agent.
-/
set_option linter.all false
namespace TL
theorem js (x y : Int) : bv x y = (x - y).sign := by
 unfold bv
 rcases kV (x - y) with ⟨h, h'⟩ | ⟨h, h'⟩ | ⟨h, h'⟩
 · rw [h, if_pos (by omega)]
 · rw [h, if_neg (by omega), if_neg (by omega)]
 · rw [h, if_neg (by omega), if_pos (by omega)]
def iz (u w : Pt) : Prop := u.1 * w.2 = u.2 * w.1
def Dw (w p : Pt) : Int := p.1 * w.1 + p.2 * w.2
theorem pu (w p q : Pt) : Dw w (aQ p q) = Dw w p - Dw w q := by
 unfold Dw aQ; simp only; grind
theorem oU {u w : Pt} (h : iz u w) : u.1 * (w.1 * w.1 + w.2 * w.2) = Dw w u * w.1 ∧ u.2 * (w.1 * w.1 + w.2 * w.2) = Dw w u * w.2 := by
 unfold iz at h
 unfold Dw
 constructor <;> grind
theorem hU (x : Int) : 0 ≤ x * x := by
 rcases Int.le_total 0 x with h | h
 · exact Int.mul_nonneg h h
 · exact Int.mul_nonneg_of_nonpos_of_nonpos h h
theorem pf {x : Int} (h : x ≠ 0) : 0 < x * x := by
 have h1 := hU x
 have h2 : x * x ≠ 0 := fun e => by rcases Int.mul_eq_zero.1 e with e | e <;> exact h e
 omega
theorem sM {w : Pt} (hw : w ≠ (0, 0)) : (w.1 * w.1 + w.2 * w.2).sign = 1 := by
 have h1 : 0 ≤ w.1 * w.1 := hU _
 have h2 : 0 ≤ w.2 * w.2 := hU _
 refine Int.sign_eq_one_of_pos ?_
 by_cases c : w.1 = 0
 · by_cases d : w.2 = 0
   · exact absurd (Prod.ext c d) hw
   · have := pf d
     omega
 · have := pf c
   omega
theorem k7 {u w : Pt} (hw : w ≠ (0, 0)) (h : iz u w) : u.1.sign = (Dw w u).sign * w.1.sign ∧ u.2.sign = (Dw w u).sign * w.2.sign := by
 obtain ⟨h1, h2⟩ := oU h
 have hn := sM hw
 have e1 := congrArg Int.sign h1
 have e2 := congrArg Int.sign h2
 rw [Int.sign_mul, Int.sign_mul, hn, Int.mul_one] at e1 e2
 exact ⟨e1, e2⟩
def j7 (u : Pt) : Int := if u.1 ≠ 0 then u.1.sign else u.2.sign
theorem ou (a b : Pt) : aI a b = j7 (aQ a b) := by
 unfold aI j7 aQ
 simp only
 rw [js, js]
 by_cases h : a.1 - b.1 = 0
 · rw [h]; simp
 · rw [if_pos (fun e => h (Int.sign_eq_zero_iff_zero.1 e)), if_pos h]
theorem qI {u w : Pt} (hw : w ≠ (0, 0)) (h : iz u w) : j7 u = (Dw w u).sign * j7 w := by
 obtain ⟨h1, h2⟩ := k7 hw h
 unfold j7
 by_cases c : w.1 = 0
 · rw [c] at h1
   have hu : u.1 = 0 := by
     have : u.1.sign = 0 := by rw [h1]; simp
     exact Int.sign_eq_zero_iff_zero.1 this
   rw [if_neg (by simp [hu]), if_neg (by simp [c]), h2]
 · rw [if_pos c]
   by_cases d : u.1 = 0
   · rw [if_neg (by simp [d])]
     rw [d] at h1
     have h3 : (Dw w u).sign * w.1.sign = 0 := by rw [← h1]; rfl
     rcases Int.mul_eq_zero.1 h3 with e | e
     · rw [h2, e]; simp
     · exact absurd (Int.sign_eq_zero_iff_zero.1 e) c
   · rw [if_pos d, h1]
theorem oY {w : Pt} (hw : w ≠ (0, 0)) : j7 w = 1 ∨ j7 w = -1 := by
 unfold j7
 by_cases c : w.1 = 0
 · rw [if_neg (by simp [c])]
   have : w.2 ≠ 0 := fun d => hw (Prod.ext c d)
   rcases kV w.2 with ⟨h, h'⟩ | ⟨h, h'⟩ | ⟨h, h'⟩
   · exact .inr h
   · exact absurd h' this
   · exact .inl h
 · rw [if_pos c]
   rcases kV w.1 with ⟨h, h'⟩ | ⟨h, h'⟩ | ⟨h, h'⟩
   · exact .inr h
   · exact absurd h' c
   · exact .inl h
structure l6 (l : List Pt) (w : Pt) : Prop where
  pr : ∀ p ∈ l, ∀ q ∈ l, iz (aQ p q) w
  one : w = (0, 0) → ∀ p ∈ l, ∀ q ∈ l, p = q
theorem gV (a : Pt) (w : Pt) : iz (aQ a a) w := by unfold TL.iz aQ; simp
theorem r4 {a b w : Pt} (h : iz (aQ a b) w) : iz (aQ b a) w := by
 unfold TL.iz aQ at *; simp only at *; grind
theorem ru {a b c w : Pt} (h1 : iz (aQ a b) w) (h2 : iz (aQ b c) w) : iz (aQ a c) w := by
 unfold TL.iz aQ at *; simp only at *; grind
theorem jx {a b c : Pt} : bk a b c = 0 ↔ iz (aQ c a) (aQ b a) := by
 rw [oh]
 unfold TL.iz aQ
 simp only
 constructor
 · intro h; grind
 · intro h; grind
theorem gF {a b : Pt} : aQ a b = (0, 0) ↔ a = b := by
 unfold aQ
 constructor
 · intro h
   have h1 := congrArg Prod.fst h
   have h2 := congrArg Prod.snd h
   simp only at h1 h2
   exact Prod.ext (by omega) (by omega)
 · rintro rfl; simp
theorem l6.base {l : List Pt} {w o : Pt} (h1 : ∀ p ∈ l, iz (aQ p o) w) (h2 : w = (0, 0) → ∀ p ∈ l, p = o) : l6 l w :=
 ⟨fun p hp q hq => ru (h1 p hp) (r4 (h1 q hq)), fun e p hp q hq => by rw [h2 e p hp, h2 e q hq]⟩
theorem sk {a b c d : Pt} (h1 : bk a b c = 0) (h2 : bk a b d = 0) (h3 : bk c d a = 0) (h4 : bk c d b = 0) : ∃ w, l6 [a, b, c, d] w := by
 have k1 := jx.1 h1
 have k2 := jx.1 h2
 have k3 := jx.1 h3
 by_cases hab : a = b
 · subst hab
   by_cases hcd : c = d
   · subst hcd
     refine ⟨aQ c a, l6.base (o := a) (fun p hp => ?_) (fun e p hp => ?_)⟩
     · simp only [List.mem_cons, List.not_mem_nil, or_false] at hp
       rcases hp with rfl | rfl | rfl | rfl
       · exact gV _ _
       · exact gV _ _
       · unfold TL.iz; rw [Int.mul_comm]
       · unfold TL.iz; rw [Int.mul_comm]
     · have := gF.1 e
       simp only [List.mem_cons, List.not_mem_nil, or_false] at hp
       rcases hp with rfl | rfl | rfl | rfl
       · rfl
       · rfl
       · exact this
       · exact this
   · refine ⟨aQ d c, l6.base (o := c) (fun p hp => ?_) (fun e p hp => absurd (gF.1 e).symm hcd)⟩
     simp only [List.mem_cons, List.not_mem_nil, or_false] at hp
     rcases hp with rfl | rfl | rfl | rfl
     · exact k3
     · exact k3
     · exact gV _ _
     · unfold TL.iz; rw [Int.mul_comm]
 · refine ⟨aQ b a, l6.base (o := a) (fun p hp => ?_) (fun e p hp => absurd (gF.1 e).symm hab)⟩
   simp only [List.mem_cons, List.not_mem_nil, or_false] at hp
   rcases hp with rfl | rfl | rfl | rfl
   · exact gV _ _
   · unfold TL.iz; rw [Int.mul_comm]
   · exact k1
   · exact k2
theorem l6.ord {l : List Pt} {w p q : Pt} (h : l6 l w) (hw : w ≠ (0, 0)) (hp : p ∈ l) (hq : q ∈ l) : aI p q = (Dw w p - Dw w q).sign * j7 w := by
 rw [ou, qI hw (h.pr p hp q hq), pu]
theorem l6.inj {l : List Pt} {w p q : Pt} (h : l6 l w) (hp : p ∈ l) (hq : q ∈ l) (e : Dw w p = Dw w q) : p = q := by
 by_cases hw : w = (0, 0)
 · exact h.one hw p hp q hq
 · have h1 := k7 hw (h.pr p hp q hq)
   rw [pu, e] at h1
   have e1 : (aQ p q).1.sign = 0 := by rw [h1.1]; simp
   have e2 : (aQ p q).2.sign = 0 := by rw [h1.2]; simp
   exact gF.1 (Prod.ext (Int.sign_eq_zero_iff_zero.1 e1) (Int.sign_eq_zero_iff_zero.1 e2))
theorem nY {a b c d w : Pt} (ha : dX a) (hb : dX b) (hc : dX c) (hd : dX d) (h : l6 [a, b, c, d] w) : aT a b c d = dU (Dw w a) (Dw w b) (Dw w c) (Dw w d) := by
  rw [nE ha hb hc hd]
  by_cases hw : w = (0, 0)
  · have e1 := h.one hw b (by simp) a (by simp)
    have e2 := h.one hw c (by simp) a (by simp)
    have e3 := h.one hw d (by simp) a (by simp)
    subst e1 e2 e3
    unfold dU
    simp
  · have key : ∀ p q, p ∈ [a, b, c, d] → q ∈ [a, b, c, d] → dX p → dX q → (key p < key q ↔ (Dw w p - Dw w q).sign * j7 w < 0) := fun p q hp hq bp bq => by
      rw [← h.ord hw hp hq, eP bp bq, kW]
    rcases oY hw with e | e
    · have key2 : ∀ p q, p ∈ [a, b, c, d] → q ∈ [a, b, c, d] → dX p → dX q → (Dw w p < Dw w q ↔ TL.key p < TL.key q) := fun p q hp hq bp bq => by
        rw [key p q hp hq bp bq, e]
        rcases kV (Dw w p - Dw w q) with ⟨s, s'⟩ | ⟨s, s'⟩ | ⟨s, s'⟩ <;> rw [s] <;> omega
      exact iK (key2 a b (by simp) (by simp) ha hb) (key2 b a (by simp) (by simp) hb ha) (key2 a c (by simp) (by simp) ha hc) (key2 c a (by simp) (by simp) hc ha) (key2 a d (by simp) (by simp) ha hd) (key2 d a (by simp) (by simp) hd ha) (key2 b c (by simp) (by simp) hb hc) (key2 c b (by simp) (by simp) hc hb) (key2 b d (by simp) (by simp) hb hd) (key2 d b (by simp) (by simp) hd hb) (key2 c d (by simp) (by simp) hc hd) (key2 d c (by simp) (by simp) hd hc)
    · have key2 : ∀ p q, p ∈ [a, b, c, d] → q ∈ [a, b, c, d] → dX p → dX q → (Dw w p < Dw w q ↔ -TL.key p < -TL.key q) := fun p q hp hq bp bq => by
        have := key q p hq hp bq bp
        rw [e] at this
        rcases kV (Dw w q - Dw w p) with ⟨s, s'⟩ | ⟨s, s'⟩ | ⟨s, s'⟩ <;> rw [s] at this <;> omega
      rw [← mQ]
      exact iK (key2 a b (by simp) (by simp) ha hb) (key2 b a (by simp) (by simp) hb ha) (key2 a c (by simp) (by simp) ha hc) (key2 c a (by simp) (by simp) hc ha) (key2 a d (by simp) (by simp) ha hd) (key2 d a (by simp) (by simp) hd ha) (key2 b c (by simp) (by simp) hb hc) (key2 c b (by simp) (by simp) hc hb) (key2 b d (by simp) (by simp) hb hd) (key2 d b (by simp) (by simp) hd hb) (key2 c d (by simp) (by simp) hc hd) (key2 d c (by simp) (by simp) hd hc)
end TL
/-
  TlGeomM: meeting segments: moved, turned, named another way about; what ends they share.
  By an AI agent.
-/
set_option linter.all false
namespace TL
theorem l6.sub {l l' : List Pt} {w : Pt} (h : l6 l w) (hs : ∀ p ∈ l', p ∈ l) : l6 l' w :=
 ⟨fun p hp q hq => h.pr p (hs p hp) q (hs q hq), fun e p hp q hq => h.one e p (hs p hp) q (hs q hq)⟩
section
variable {a b c d : Pt}
theorem ov (ha : dX a) (hb : dX b) (hc : dX c) (hd : dX d) {w : Pt} (h : l6 [a, b, c, d] w) : aT (bF a) (bF b) (bF c) (bF d) = aT a b c d := by
 have hm : ∀ p r : Pt, aQ (bF p) (bF r) = bF (aQ p r) := fun p r => by unfold aQ bF; simp only; exact Prod.ext (by simp only; omega) (by simp only)
 have hp : ∀ u : Pt, iz u w → iz (bF u) (bF w) := fun u hu => by unfold iz bF at *; simp only; grind
 have h' : l6 ([a, b, c, d].map bF) (bF w) := ⟨fun p hp' r hr => by
   obtain ⟨x, hx, rfl⟩ := List.mem_map.1 hp'
   obtain ⟨y, hy, rfl⟩ := List.mem_map.1 hr
   rw [hm]; exact hp _ (h.pr x hx y hy), fun e p hp' r hr => by
   obtain ⟨x, hx, rfl⟩ := List.mem_map.1 hp'
   obtain ⟨y, hy, rfl⟩ := List.mem_map.1 hr
   have hw : w = (0, 0) := by
     unfold bF at e
     have e1 := congrArg Prod.fst e
     have e2 := congrArg Prod.snd e
     simp only at e1 e2
     exact Prod.ext e2 (by simp only; omega)
   rw [h.one hw x hx y hy]⟩
 have hD : ∀ p : Pt, Dw (bF w) (bF p) = Dw w p := fun p => by unfold Dw bF; simp only; grind
 have hb4 : ∀ p, dX p → dX (bF p) := fun p h => by unfold dX bF at *; simp only; omega
 rw [nY ha hb hc hd h, nY (hb4 a ha) (hb4 b hb) (hb4 c hc) (hb4 d hd) h', hD, hD, hD, hD]
theorem oD (ha : dX a) (hb : dX b) (hc : dX c) (hd : dX d) : aP (bF a) (bF b) (bF c) (bF d) = aP a b c d := by
 unfold aP
 simp only [lQ, m9]
 by_cases h : bk a b c = 0 ∧ bk a b d = 0 ∧ bk c d a = 0 ∧ bk c d b = 0
 · obtain ⟨w, hw⟩ := sk h.1 h.2.1 h.2.2.1 h.2.2.2
   rw [if_pos h, if_pos h, ov ha hb hc hd hw]
 · rw [if_neg h, if_neg h]
def dP (a b c d e : Pt) : Prop := bG a b e ∧ bG c d e
instance (a b c d e : Pt) : Decidable (dP a b c d e) := by unfold dP; infer_instance
def nN (a b c d : Pt) : Prop := bk a b c * bk a b d < 0 ∧ bk c d a * bk c d b < 0
instance (a b c d : Pt) : Decidable (nN a b c d) := by unfold nN; infer_instance
end
end TL
/-
  TlGeomS: polylines gone back, and two of them named the other way about.
  By an AI agent.
-/
set_option linter.all false
namespace TL
abbrev Sg := Pt × Pt
def kY (ps : List Pt) : Nat → List Sg
 | 0 => []
 | k + 1 => kY ps k ++ [(gI ps (k : Int), gI ps ((k : Int) + 1))]
def qF (ps : List Pt) : List Sg := if ps.length = 1 then [(gI ps 0, gI ps 0)] else kY ps (ps.length - 1)
theorem em {ps : List Pt} {s : Sg} : ∀ {k : Nat}, s ∈ kY ps k ↔ ∃ i : Nat, i < k ∧ s = (gI ps (i : Int), gI ps ((i : Int) + 1))
 | 0 => by simp [kY]
 | k + 1 => by
   rw [kY, List.mem_append, em, List.mem_singleton]
   constructor
   · rintro (⟨i, hi, e⟩ | e)
     · exact ⟨i, by omega, e⟩
     · exact ⟨k, by omega, e⟩
   · rintro ⟨i, hi, e⟩
     by_cases c : i = k
     · subst c; exact .inr e
     · exact .inl ⟨i, by omega, e⟩
def s6 (ps : List Pt) : Pt := gI ps ((ps.length : Int) - 1)
def ss (ps : List Pt) (p : Pt) : Prop := p = gI ps 0 ∨ p = s6 ps
instance (ps : List Pt) (p : Pt) : Decidable (ss ps p) := by unfold ss; infer_instance
def rt (q : List Pt) (s t : Sg) (x : Pt) : Prop := ss q x ∧ bG s.1 s.2 x ∧ bG t.1 t.2 x
instance (q : List Pt) (s t : Sg) (x : Pt) : Decidable (rt q s t x) := by unfold rt; infer_instance
def oA (p q : List Pt) (s t : Sg) : Prop := rt q s t (gI p 0) ∨ rt q s t (s6 p)
instance (p q : List Pt) (s t : Sg) : Decidable (oA p q s t) := by unfold oA; infer_instance
def sD (p q : List Pt) (s t : Sg) : Prop := aP s.1 s.2 t.1 t.2 = 3 ∨ aP s.1 s.2 t.1 t.2 ≠ 0 ∧ ¬ oA p q s t
instance (p q : List Pt) (s t : Sg) : Decidable (sD p q s t) := by unfold sD; infer_instance
def tG (p q : List Pt) : Prop := ∀ s ∈ qF p, ∀ t ∈ qF q, ¬ sD p q s t
instance (p q : List Pt) : Decidable (tG p q) := by unfold tG; infer_instance
section
variable {p q : List Pt}
end
end TL
namespace TL
section
variable {p q : List Pt} {i k : Nat}
variable {s t : Sg}
end
end TL
namespace TL
section
variable {p q : List Pt} {s t : Sg} {i : Nat}
end
end TL
/-
  TlGeomX: polylines: the document's way and the code's.
  By an AI agent.
-/
set_option linter.all false
namespace TL
section
variable {a b c d : Pt}
end
section
variable {ps : List Pt} {i k : Nat}
end
def tU (but : List Pt) (s t : Sg) : Prop := aP s.1 s.2 t.1 t.2 = 3 ∨ (aP s.1 s.2 t.1 t.2 = 1 ∧ ¬ ∃ x ∈ but, dP s.1 s.2 t.1 t.2 x) ∨ ((aP s.1 s.2 t.1 t.2 ≠ 0 ∧ aP s.1 s.2 t.1 t.2 ≠ 1) ∧ ∃ e ∈ [s.1, s.2, t.1, t.2], dP s.1 s.2 t.1 t.2 e ∧ e ∉ but)
instance (but : List Pt) (s t : Sg) : Decidable (tU but s t) := by unfold tU; infer_instance
def tO (p q but : List Pt) : Prop := ∃ s ∈ qF p, ∃ t ∈ qF q, tU but s t
instance (p q but : List Pt) : Decidable (tO p q but) := by unfold tO; infer_instance
section
variable {p q B : List Pt}
end
end TL
namespace TL
section
variable {p q but : List Pt} {i k : Nat}
variable {s t : Sg}
end
end TL
/-
  TlAround: points round another one: the order, its laws, the list that is sorted by it.
  By an AI agent.
-/
set_option linter.all false
namespace TL
def oc (p : Pt) : Int := p.1 * p.1 + p.2 * p.2
def Up (p : Pt) : Prop := 0 < p.1 ∨ p.1 = 0 ∧ 0 < p.2
theorem sc (u v w : Pt) : v.1 * cM u w = w.1 * cM u v + u.1 * cM v w := by
 unfold cM; grind
theorem fA (u v : Pt) : cM v u = - cM u v := by unfold cM; grind
theorem r8 (u : Pt) : cM u u = 0 := by unfold cM; grind
theorem pd {u v w : Pt} (hu : Up u) (hv : Up v) (hw : Up w) (c1 : cM u v ≤ 0) (c2 : cM v w ≤ 0) : cM u w ≤ 0 ∧ (cM u v < 0 ∨ cM v w < 0 → cM u w < 0) := by
 have hid := sc u v w
 have hu0 : 0 ≤ u.1 := by rcases hu with h | h <;> omega
 have hw0 : 0 ≤ w.1 := by rcases hw with h | h <;> omega
 rcases hv with hv | ⟨hv, hv2⟩
 · have hw1 : 0 < w.1 := by
     rcases hw with h | ⟨h, h2⟩
     · exact h
     · exfalso
       have : cM v w = v.1 * w.2 := by unfold cM; rw [h]; omega
       have := Int.mul_pos hv h2
       omega
   have k1 : w.1 * cM u v ≤ 0 := Int.mul_nonpos_of_nonneg_of_nonpos hw0 c1
   have k2 : u.1 * cM v w ≤ 0 := Int.mul_nonpos_of_nonneg_of_nonpos hu0 c2
   refine ⟨?_, ?_⟩
   · refine Int.not_lt.1 fun h => ?_
     have := Int.mul_pos hv h
     omega
   · intro hs
     refine Int.not_le.1 fun h => ?_
     have k3 : 0 ≤ v.1 * cM u w := Int.mul_nonneg (by omega) h
     rcases hs with hs | hs
     · have := Int.mul_neg_of_pos_of_neg hw1 hs
       omega
     · rcases hu with hu | ⟨hu, hu2⟩
       · have := Int.mul_neg_of_pos_of_neg hu hs
         omega
       · have e : cM u w = - (u.2 * w.1) := by unfold cM; rw [hu]; omega
         have := Int.mul_pos hu2 hw1
         omega
 · have e1 : cM u v = u.1 * v.2 := by unfold cM; rw [hv]; omega
   have hu1 : u.1 = 0 := by
     rcases hu with h | h
     · have := Int.mul_pos h hv2
       omega
     · exact h.1
   have hu2 : 0 < u.2 := by rcases hu with h | h <;> omega
   have e2 : cM u w = - (u.2 * w.1) := by unfold cM; rw [hu1]; omega
   have e3 : cM v w = - (v.2 * w.1) := by unfold cM; rw [hv]; omega
   have k1 := Int.mul_nonneg (Int.le_of_lt hu2) hw0
   refine ⟨by omega, ?_⟩
   rintro (h | h)
   · rw [e1, hu1] at h; omega
   · have : 0 < w.1 := by
       rcases hw with h' | h'
       · exact h'
       · rw [e3, h'.1] at h; omega
     have := Int.mul_pos hu2 this
     omega
def nz (p : Pt) : Prop := ¬ (p.1 = 0 ∧ p.2 = 0)
def kC (p : Pt) : Pt := (-p.1, -p.2)
theorem io (u v : Pt) : cM (kC u) (kC v) = cM u v := by unfold cM kC; grind
theorem iW {p : Pt} (h : nz p) : (bi p = 0 ∧ Up p) ∨ (bi p = 1 ∧ Up (kC p)) := by
 unfold bi Up kC
 unfold nz at h
 split
 · exact .inl ⟨rfl, by assumption⟩
 · refine .inr ⟨rfl, ?_⟩
   dsimp
   omega
theorem ld {u v w : Pt} (hu : nz u) (hv : nz v) (hw : nz w) (h1 : bi u = bi v) (h2 : bi v = bi w) (c1 : cM u v ≤ 0) (c2 : cM v w ≤ 0) : cM u w ≤ 0 ∧ (cM u v < 0 ∨ cM v w < 0 → cM u w < 0) := by
 rcases iW hu with ⟨a1, a2⟩ | ⟨a1, a2⟩ <;> rcases iW hv with ⟨b1, b2⟩ | ⟨b1, b2⟩ <;> rcases iW hw with ⟨d1, d2⟩ | ⟨d1, d2⟩ <;> try (exfalso; omega)
 · exact pd a2 b2 d2 c1 c2
 · have := pd a2 b2 d2 (by rw [io]; exact c1) (by rw [io]; exact c2)
   simpa only [io] using this
def j9 (a b : Pt) (i k : Int) : Prop := bi a < bi b ∨ bi a = bi b ∧ (cM a b < 0 ∨ cM a b = 0 ∧ (oc a < oc b ∨ oc a = oc b ∧ i < k))
theorem eU (a : Pt) (i : Int) : ¬ j9 a a i i := by
 unfold j9; rw [r8]; omega
theorem sB {a b c : Pt} {i j k : Int} (ha : nz a) (hb : nz b) (hc : nz c) (h1 : j9 a b i j) (h2 : j9 b c j k) : j9 a c i k := by
 unfold j9 at *
 rcases h1 with h1 | ⟨h1, h1'⟩
 · rcases h2 with h2 | ⟨h2, _⟩
   · exact .inl (by omega)
   · exact .inl (by omega)
 · rcases h2 with h2 | ⟨h2, h2'⟩
   · exact .inl (by omega)
   · refine .inr ⟨by omega, ?_⟩
     have t := ld ha hb hc h1 h2 (by omega) (by omega)
     have t' := ld hc hb ha h2.symm h1.symm
     have a1 := fA a b
     have a2 := fA b c
     have a3 := fA a c
     rcases h1' with h1' | ⟨h1', h1''⟩
     · exact .inl (t.2 (.inl h1'))
     · rcases h2' with h2' | ⟨h2', h2''⟩
       · exact .inl (t.2 (.inr h2'))
       · have := t' (by omega) (by omega)
         exact .inr ⟨by omega, by omega⟩
theorem ig {a b : Pt} {i k : Int} (h : i ≠ k) : j9 a b i k ∨ j9 b a k i := by
 unfold j9
 have := fA a b
 omega
def vA (o : Pt) (ps : List Pt) (i : Int) : Pt := aQ (gI ps i) o
def ic (o : Pt) (ps : List Pt) (i k : Int) : Prop := j9 (vA o ps i) (vA o ps k) i k
def tn (o : Pt) (ps : List Pt) (i k : Int) : Int := ip [bv (bi (vA o ps i)) (bi (vA o ps k)), bv (cM (vA o ps i) (vA o ps k)) 0, bv (oc (vA o ps i)) (oc (vA o ps k)), bv i k]
theorem gS {x y : Int} : bv x y < 0 ↔ x < y := by unfold bv; split <;> (try split) <;> omega
theorem fW {x y : Int} : bv x y = 0 ↔ x = y := by unfold bv; split <;> (try split) <;> omega
theorem sV {o : Pt} {ps : List Pt} {i k : Int} : tn o ps i k < 0 ↔ ic o ps i k := by
 unfold tn ic j9
 generalize bi (vA o ps i) = a1
 generalize bi (vA o ps k) = a2
 generalize cM (vA o ps i) (vA o ps k) = b1
 generalize oc (vA o ps i) = c1
 generalize oc (vA o ps k) = c2
 have q1 := @gS a1 a2
 have q2 := @fW a1 a2
 have q3 := @gS b1 0
 have q4 := @fW b1 0
 have q5 := @gS c1 c2
 have q6 := @fW c1 c2
 have q7 := @gS i k
 have q8 := @fW i k
 simp only [ip]
 split
 · split
   · split
     · split
       · omega
       · omega
     · omega
   · omega
 · omega
def fU (o : Pt) (ps : List Pt) : Prop := ∀ i : Nat, i < ps.length → gI ps (i : Int) ≠ o
theorem fU.nz {o : Pt} {ps : List Pt} (h : fU o ps) {i : Int} (h0 : 0 ≤ i) (h1 : i < ps.length) : nz (vA o ps i) := by
 have k := h i.toNat (by omega)
 rw [Int.toNat_of_nonneg h0] at k
 intro ⟨e1, e2⟩
 unfold vA aQ at e1 e2
 simp only at e1 e2
 exact k (Prod.ext (by omega) (by omega))
def rh (o : Pt) (ps : List Pt) (k : Nat) (l : List Int) : Prop := l.Pairwise (ic o ps) ∧ ∀ x, x ∈ l ↔ 0 ≤ x ∧ x < (k : Int)
theorem pj {α : Type} {R : α → α → Prop} : ∀ {l1 l2 : List α}, (∀ a, a ∈ l1 → ∀ b, b ∈ l1 → R a b → ¬ R b a) → l1.Pairwise R → l2.Pairwise R → (∀ x, x ∈ l1 ↔ x ∈ l2) → l1 = l2
 | [], [], _, _, _, _ => rfl
 | [], b :: t2, _, _, _, h => by have := (h b).2 (by simp); simp at this
 | a :: t1, [], _, _, _, h => by have := (h a).1 (by simp); simp at this
 | a :: t1, b :: t2, ha, h1, h2, h => by
   rw [List.pairwise_cons] at h1 h2
   have e : a = b := by
     rcases List.mem_cons.1 ((h a).1 (by simp)) with e | m1
     · exact e
     · rcases List.mem_cons.1 ((h b).2 (by simp)) with e | m2
       · exact e.symm
       · exact absurd (h2.1 a m1) (ha a (by simp) b (by simp [m2]) (h1.1 b m2))
   subst e
   have n1 : a ∉ t1 := fun m => ha a (by simp) a (by simp) (h1.1 a m) (h1.1 a m)
   have n2 : a ∉ t2 := fun m => ha a (by simp) a (by simp) (h2.1 a m) (h2.1 a m)
   have := pj (R := R) (l1 := t1) (l2 := t2) (fun x hx y hy => ha x (by simp [hx]) y (by simp [hy])) h1.2 h2.2 fun x => by
     constructor
     · intro m
       rcases List.mem_cons.1 ((h x).1 (by simp [m])) with e | m'
       · subst e; exact absurd m n1
       · exact m'
     · intro m
       rcases List.mem_cons.1 ((h x).2 (by simp [m])) with e | m'
       · subst e; exact absurd m n2
       · exact m'
   rw [this]
section
variable {o : Pt} {ps : List Pt} {k : Nat} {l l' : List Int}
theorem ju (hz : fU o ps) {i j k : Int} (hi : 0 ≤ i ∧ i < ps.length) (hj : 0 ≤ j ∧ j < ps.length) (hk : 0 ≤ k ∧ k < ps.length) (h1 : ic o ps i j) (h2 : ic o ps j k) : ic o ps i k :=
 sB (hz.nz hi.1 hi.2) (hz.nz hj.1 hj.2) (hz.nz hk.1 hk.2) h1 h2
theorem oJ (hz : fU o ps) {i j : Int} (hi : 0 ≤ i ∧ i < ps.length) (hj : 0 ≤ j ∧ j < ps.length) (h1 : ic o ps i j) : ¬ ic o ps j i := fun h2 => eU _ _ (ju hz hi hj hi h1 h2)
theorem kn (hz : fU o ps) (hk : k ≤ ps.length) (h : rh o ps k l) (h' : rh o ps k l') : l = l' :=
 pj (fun a ha b hb h1 => oJ hz (by have := (h.2 a).1 ha; omega) (by have := (h.2 b).1 hb; omega) h1) h.1 h'.1 fun x => (h.2 x).trans (h'.2 x).symm
theorem mn (hz : fU o ps) (hk : k < ps.length) (h : rh o ps k l) {m : Nat} (hm : m ≤ l.length) (h1 : ∀ j : Nat, m ≤ j → j < l.length → ic o ps (k : Int) (gI l (j : Int))) (h2 : m = 0 ∨ ¬ ic o ps (k : Int) (gI l ((m : Int) - 1))) :
   rh o ps (k + 1) (l.take m ++ (k : Int) :: l.drop m) := by
 have hin : ∀ j : Nat, j < l.length → 0 ≤ gI l (j : Int) ∧ gI l (j : Int) < (k : Int) := fun j hj => (h.2 _).1 (bf (by omega) (by omega))
 constructor
 · have hs : (l.take m ++ l.drop m).Pairwise (ic o ps) := by rw [List.take_append_drop]; exact h.1
   rw [List.pairwise_append] at hs ⊢
   refine ⟨hs.1, ?_, ?_⟩
   · rw [List.pairwise_cons]
     refine ⟨fun x hx => ?_, hs.2.1⟩
     obtain ⟨j, hj, rfl⟩ := List.mem_iff_getElem.1 hx
     rw [List.length_drop] at hj
     have := h1 (m + j) (by omega) (by omega)
     rw [List.getElem_drop]
     have e : gI l ((m + j : Nat) : Int) = l[m + j] := by simp only [gI]; rw [Int.toNat_natCast]; simp [show m + j < l.length by omega]
     rwa [e] at this
   · intro x hx y hy
     rcases List.mem_cons.1 hy with rfl | hy
     · -- x lies ahead of m
       obtain ⟨j, hj, rfl⟩ := List.mem_iff_getElem.1 hx
       have hj' : j < m ∧ j < l.length := by rw [List.length_take] at hj; omega
       rw [List.getElem_take]
       have e : ∀ q (hq : q < l.length), gI l (q : Int) = l[q] := fun q hq => by simp only [gI]; rw [Int.toNat_natCast]; simp [hq]
       have hlast : ic o ps (gI l ((m : Int) - 1)) (k : Int) := by
         have hb := hin (m - 1) (by omega)
         rw [show ((m - 1 : Nat) : Int) = (m : Int) - 1 by omega] at hb
         rcases ig (a := vA o ps (k : Int)) (b := vA o ps (gI l ((m : Int) - 1))) (i := (k : Int)) (k := gI l ((m : Int) - 1)) (by omega) with q | q
         · exact absurd q (by rcases h2 with h2 | h2; (· omega); (· exact h2))
         · exact q
       by_cases hjm : j = m - 1
       · subst hjm
         rw [← e _ hj'.2, show ((m - 1 : Nat) : Int) = (m : Int) - 1 by omega]
         exact hlast
       · have hp := List.pairwise_iff_getElem.1 h.1 j (m - 1) hj'.2 (by omega) (by omega)
         rw [← e _ hj'.2, ← e (m - 1) (by omega)] at hp
         rw [← e _ hj'.2]
         have b1 := hin j hj'.2
         have b2 := hin (m - 1) (by omega)
         rw [show ((m - 1 : Nat) : Int) = (m : Int) - 1 by omega] at hp b2
         exact ju hz (by omega) (by omega) (by omega) hp hlast
     · exact hs.2.2 x hx y hy
 · intro x
   have : x ∈ l.take m ++ (k : Int) :: l.drop m ↔ x = (k : Int) ∨ x ∈ l := by
     conv => rhs; rw [← List.take_append_drop m l]
     simp only [List.mem_append, List.mem_cons]
     constructor
     · rintro (h | h | h) <;> simp [h]
     · rintro (h | h | h) <;> simp [h]
   rw [this, h.2 x]
   omega
theorem ob (l : List Int) (P : Int → Prop) : ∀ m : Nat, m ≤ l.length → (∀ j : Nat, m ≤ j → j < l.length → P (gI l (j : Int))) → ∃ m' : Nat, m' ≤ l.length ∧ (∀ j : Nat, m' ≤ j → j < l.length → P (gI l (j : Int))) ∧ (m' = 0 ∨ ¬ P (gI l ((m' : Int) - 1)))
 | 0, h0, h => ⟨0, h0, h, .inl rfl⟩
 | m + 1, h0, h => by
   by_cases hp : P (gI l (m : Int))
   · exact ob l P m (by omega) (fun j hj hl => by
       by_cases e : j = m
       · subst e; exact hp
       · exact h j (by omega) hl)
   · exact ⟨m + 1, h0, h, .inr (by rwa [show ((m + 1 : Nat) : Int) - 1 = (m : Int) by omega])⟩
theorem lI (hz : fU o ps) : ∀ k : Nat, k ≤ ps.length → ∃ l, rh o ps k l
 | 0, _ => ⟨[], .nil, fun x => by simp⟩
 | k + 1, hk => by
   obtain ⟨l, hl⟩ := lI hz k (by omega)
   obtain ⟨m, h0, h1, h2⟩ := ob l (ic o ps (k : Int)) l.length (Nat.le_refl _) (fun j hj h => by omega)
   exact ⟨_, mn hz (by omega) hl h0 h1 h2⟩
open Classical in
noncomputable def arL (o : Pt) (ps : List Pt) : List Int := if h : ∃ l, rh o ps ps.length l then choose h else []
theorem fa (hz : fU o ps) : rh o ps ps.length (arL o ps) := by
 have h := lI hz ps.length (Nat.le_refl _)
 unfold arL
 rw [dif_pos h]
 exact Classical.choose_spec h
theorem lh (hz : fU o ps) (h : rh o ps ps.length l) : l = arL o ps := kn hz (Nat.le_refl _) h (fa hz)
end
def ey (n : Nat) : List Int := (List.range n).map fun (i : Nat) => (i : Int)
theorem pe (n : Nat) : (ey n).length = n := by simp [ey]
theorem n7 (n : Nat) : ey (n + 1) = ey n ++ [(n : Int)] := by simp [ey, List.range_succ]
open Classical in
noncomputable def arR (o : Pt) (ps : List Pt) : List Int × Int := if (c5 o ∧ d7 ps) ∧ fU o ps then (arL o ps, 0) else ([], 1)
theorem lf {o : Pt} {ps : List Pt} (h1 : c5 o) (h2 : d7 ps) (h3 : fU o ps) : arR o ps = (arL o ps, 0) := if_pos ⟨⟨h1, h2⟩, h3⟩
theorem h7 {o : Pt} {ps : List Pt} (h : ¬ ((c5 o ∧ d7 ps) ∧ fU o ps)) : arR o ps = ([], 1) := if_neg h
theorem pc {o : Pt} {ps : List Pt} {k : Nat} (h0 : (k : Int) < ps.length) (h : gI ps (k : Int) = o) : ¬ fU o ps := fun hz => hz k (by omega) h
theorem nS {x : Int} (h1 : -2097152 ≤ x) (h2 : x ≤ 2097152) : 0 ≤ x * x ∧ x * x ≤ 4398046511104 := by
 have := ff (x := x) (y := x) (by omega) (by omega)
 constructor
 · rcases Int.le_total 0 x with h | h
   · exact Int.mul_nonneg h h
   · exact Int.mul_nonneg_of_nonpos_of_nonpos h h
 · rcases Int.le_total 0 x with h | h
   · exact Int.mul_le_mul h2 h2 h (by omega)
   · have e := Int.neg_mul_neg x x
     have : (-x) * (-x) ≤ 2097152 * 2097152 := Int.mul_le_mul (by omega) (by omega) (by omega) (by omega)
     omega
theorem tx {o : Pt} {ps : List Pt} {i : Int} (ho : c5 o) (hp : d7 ps) (h0 : 0 ≤ i) (h1 : i < ps.length) :
   (-2097152 ≤ (vA o ps i).1 ∧ (vA o ps i).1 ≤ 2097152) ∧ -2097152 ≤ (vA o ps i).2 ∧ (vA o ps i).2 ≤ 2097152 := by
 have := hp.2 _ (bf h0 h1)
 unfold c5 at this ho
 unfold vA aQ
 simp only
 omega
theorem rP {o : Pt} {ps : List Pt} {i : Int} (ho : c5 o) (hp : d7 ps) (h0 : 0 ≤ i) (h1 : i < ps.length) :
   ((0 ≤ (vA o ps i).1 * (vA o ps i).1 ∧ (vA o ps i).1 * (vA o ps i).1 ≤ 4398046511104) ∧ 0 ≤ (vA o ps i).2 * (vA o ps i).2 ∧ (vA o ps i).2 * (vA o ps i).2 ≤ 4398046511104) := by
 have ⟨⟨a, b⟩, c, d⟩ := tx ho hp h0 h1
 exact ⟨nS a b, nS c d⟩
section
variable {o : Pt} {ps : List Pt} {k : Nat} {l : List Int} {q : Int}
theorem mG (hz : fU o ps) (hk : k ≤ ps.length) (h : rh o ps k l) : l.length = k := by
 induction k generalizing l with
 | zero =>
   cases l with
   | nil => rfl
   | cons a t => have := (h.2 a).1 (by simp); omega
 | succ k ih =>
   obtain ⟨l0, hl0⟩ := lI hz k (by omega)
   obtain ⟨m, h0, h1, h2⟩ := ob l0 (ic o ps (k : Int)) l0.length (Nat.le_refl _) (fun j hj h => by omega)
   have := kn hz hk h (mn hz (by omega) hl0 h0 h1 h2)
   have hl := ih (by omega) hl0
   rw [this]
   simp [List.length_append, List.length_take, List.length_drop]
   omega
end
theorem jY {o : Pt} {ps : List Pt} (hz : fU o ps) {l : List Int} (hp : l.Perm (ey ps.length)) (hs : l.Pairwise fun x y => ¬ ic o ps y x) : l = arL o ps := by
  refine lh hz ⟨?_, fun x => ?_⟩
  · have hn : l.Nodup := hp.nodup_iff.2 (by unfold ey; exact List.Pairwise.map _ (fun (a b : Nat) (h : a ≠ b) (e : (a : Int) = (b : Int)) => h (by omega)) List.nodup_range)
    refine (List.Pairwise.and hs hn).imp ?_
    intro x y ⟨h1, h2⟩
    rcases ig (a := vA o ps x) (b := vA o ps y) (i := x) (k := y) h2 with q | q
    · exact q
    · exact absurd q h1
  · rw [hp.mem_iff]
    unfold ey
    simp only [List.mem_map, List.mem_range]
    constructor
    · rintro ⟨a, h, rfl⟩; omega
    · intro h
      exact ⟨x.toNat, by omega, by omega⟩
section
variable {o : Pt} {ps : List Pt}
theorem fT (hz : fU o ps) : (arL o ps).length = ps.length := mG hz (Nat.le_refl _) (fa hz)
theorem hZ (hz : fU o ps) {i : Int} (h0 : 0 ≤ i) (h1 : i < ps.length) : 0 ≤ gI (arL o ps) i ∧ gI (arL o ps) i < (ps.length : Int) :=
 ((fa hz).2 _).1 (bf h0 (by rw [fT hz]; exact h1))
theorem l7 (hz : fU o ps) {i j : Int} (h0 : 0 ≤ i) (hij : i < j) (h1 : j < ps.length) : ic o ps (gI (arL o ps) i) (gI (arL o ps) j) := by
 have hl := fT hz
 have := List.pairwise_iff_getElem.1 (fa hz).1 i.toNat j.toNat (by omega) (by omega) (by omega)
 have e1 := fI (xs := arL o ps) (i := i) h0 (by omega)
 have e2 := fI (xs := arL o ps) (i := j) (by omega) (by omega)
 rw [List.getElem?_eq_getElem (by omega)] at e1 e2
 rw [← Option.some.inj e1, ← Option.some.inj e2]
 exact this
theorem sy (hz : fU o ps) {i j : Int} (h0 : 0 ≤ i) (hij : i < j) (h1 : j < ps.length) : gI (arL o ps) i ≠ gI (arL o ps) j := fun e => by
 have := l7 hz h0 hij h1
 rw [e] at this
 exact eU _ _ this
end
end TL
/-
  TlFace: half-edges' next ones, faces.
  By an AI agent.
-/
set_option linter.all false
namespace TL
end TL
namespace TL
theorem eJ.low {seen : List Bool} {P : List Int} {n h : Int} (hi : eJ seen P n) (h0 : 0 ≤ h) (h1 : h < n) (hs : ¬ gI seen h = true) : h ∉ P := by
 have := hi.seen h h0 h1
 intro hm
 rw [this] at hs
 simp [hm] at hs
structure dw (out : List (List Int)) (g : dd) (k : Nat) : Prop where
  len : (out.length : Int) = g.1
  at_ : ∀ v, 0 ≤ v → v < g.1 → gI out v = gb g v k
theorem dw.start {g : dd} (h : 0 ≤ g.1) : dw (List.replicate g.1.toNat []) g 0 := ⟨by simp; omega, fun v h0 h1 => by rw [nZ h0 (by omega)]; simp [gb]⟩
theorem dw.next {out : List (List Int)} {g : dd} {k : Nat} (h : dw out g k) (h1 : 0 ≤ (gI g.2 k).1) (h2 : (gI g.2 k).1 < g.1) (h3 : 0 ≤ (gI g.2 k).2) (h4 : (gI g.2 k).2 < g.1) {a b : Int} (ha : a = 2 * (k : Int)) (hb : b = 2 * (k : Int) + 1) :
   dw ((out.set (gI g.2 k).1.toNat (gI out (gI g.2 k).1 ++ [a])).set (gI g.2 k).2.toNat (gI (out.set (gI g.2 k).1.toNat (gI out (gI g.2 k).1 ++ [a])) (gI g.2 k).2 ++ [b])) g (k + 1) := by
 have hl := h.len
 refine ⟨by simpa using hl, fun v h5 h6 => ?_⟩
 rw [hE h3 (by simp; omega) h5, hE h1 (by omega) h3, hE h1 (by omega) h5, lA, h.at_ _ h1 h2, h.at_ _ h3 h4, h.at_ v h5 h6, ha, hb]
 by_cases e2 : v = (gI g.2 (k : Int)).2
 · by_cases e1 : v = (gI g.2 (k : Int)).1
   · rw [← e1, ← e2]; simp
   · have e3 : ¬ (gI g.2 (k : Int)).2 = (gI g.2 (k : Int)).1 := fun h => e1 (e2.trans h)
     have e6 : ¬ (gI g.2 (k : Int)).1 = (gI g.2 (k : Int)).2 := fun h => e3 h.symm
     simp [e2, e3, e6]
 · have e4 : ¬ (gI g.2 (k : Int)).2 = v := fun h => e2 h.symm
   by_cases e1 : v = (gI g.2 (k : Int)).1
   · rw [if_neg e2, if_pos e1, if_neg e4, if_pos e1.symm, ← e1]; simp
   · have e5 : ¬ (gI g.2 (k : Int)).1 = v := fun h => e1 h.symm
     rw [if_neg e2, if_neg e1, if_neg e4, if_neg e5]; simp
end TL
namespace TL
end TL
/-
  TlWalk: going through a net breadth first, and its components, as the program does.
  By an AI agent.
-/
set_option linter.all false
namespace TL
end TL
namespace TL
def d3 (g : dd) (r : dR) : dR × Int := if cx g r = 0 then (dM r, 0) else ([], cx g r)
end TL
namespace TL
theorem dw.rl {out : List (List Int)} {g : dd} {k : Nat} (h : dw out g k) {v : Int} (h0 : 0 ≤ v) (h1 : v < g.1) : ((gI out v).length : Int) ≤ 2 * (k : Int) := by
 rw [h.at_ v h0 h1]
 have := je g v k
 omega
theorem dw.rl2 {out : List (List Int)} {g : dd} {k : Nat} (h : dw out g k) {u v : Int} (h2 : 0 ≤ u) (h3 : u < g.1) (h0 : 0 ≤ v) (h1 : v < g.1) (a : Int) : ((gI (out.set u.toNat (gI out u ++ [a])) v).length : Int) ≤ 2 * (k : Int) + 1 := by
 have hl := h.len
 rw [hE h2 (by omega) h0]
 split
 · have := h.rl h2 h3; simp; omega
 · have := h.rl h0 h1; omega
theorem dw.done {out : List (List Int)} {g : dd} {k : Nat} (h : dw out g k) (hk : k = g.2.length) : ∀ v, 0 ≤ v → v < g.1 → gI out v = cF g v := fun v h0 h1 => by
 subst hk; exact h.at_ v h0 h1
end TL
namespace TL
end TL
namespace TL
end TL
/-
  TlRotSame: lists that begin elsewhere are the same rotation.
  By an AI agent.
-/
set_option linter.all false
namespace TL
theorem kF {l : List Int} {x : Int} (hx : x ∈ l) (h : ∀ y ∈ l, x ≤ y) : d4 l = x := by
 have hl : l ≠ [] := fun e => by subst e; cases hx
 have h1 := h _ (iO hl)
 have h2 := lL hl hx
 omega
theorem rQ {A B : List Int} {p : Nat} (h : p ≤ A.length) : (A ++ B).drop p = A.drop p ++ B := List.drop_append_of_le_length h
theorem s7 {A B : List Int} {p : Nat} (h : p ≤ A.length) : (A ++ B).take p = A.take p := List.take_append_of_le_length h
theorem s3 {A B : List Int} {p : Nat} : (A ++ B).drop (A.length + p) = B.drop p := by
 rw [List.drop_append, List.drop_eq_nil_of_le (by omega), List.nil_append, show A.length + p - A.length = p by omega]
theorem rY {A B : List Int} {p : Nat} : (A ++ B).take (A.length + p) = A ++ B.take p := by
 rw [List.take_append, List.take_of_length_le (by omega), show A.length + p - A.length = p by omega]
theorem lu {A B : List Int} (hn : (A ++ B).Nodup) : gg (B ++ A) = gg (A ++ B) := by
 by_cases he : A ++ B = []
 · have h1 : A = [] := List.append_eq_nil_iff.1 he |>.1
   have h2 : B = [] := List.append_eq_nil_iff.1 he |>.2
   subst h1 h2; rfl
 · have he2 : B ++ A ≠ [] := fun e => he (by
     have h1 : B = [] := List.append_eq_nil_iff.1 e |>.1
     have h2 : A = [] := List.append_eq_nil_iff.1 e |>.2
     subst h1 h2; rfl)
   have hm := iO he
   have hmin : d4 (B ++ A) = d4 (A ++ B) := kF (by
     rcases List.mem_append.1 hm with h | h
     · exact List.mem_append.2 (.inr h)
     · exact List.mem_append.2 (.inl h)) (fun y hy => lL he (by
     rcases List.mem_append.1 hy with h | h
     · exact List.mem_append.2 (.inr h)
     · exact List.mem_append.2 (.inl h)))
   have hd := (List.nodup_append.1 hn).2.2
   unfold gg
   rw [if_neg he, if_neg he2, hmin]
   generalize d4 (A ++ B) = x at hm
   rw [List.idxOf_append, List.idxOf_append]
   by_cases ha : x ∈ A
   · have hb : x ∉ B := fun hb => hd x ha x hb rfl
     have hp := List.idxOf_lt_length_iff.2 ha
     rw [if_pos ha, if_neg hb]
     generalize A.idxOf x = p at hp
     rw [show p + B.length = B.length + p by omega]
     rw [s3, rY, rQ (by omega), s7 (by omega)]
     simp
   · have hb : x ∈ B := (List.mem_append.1 hm).resolve_left ha
     have hp := List.idxOf_lt_length_iff.2 hb
     rw [if_neg ha, if_pos hb]
     generalize B.idxOf x = p at hp
     rw [show p + A.length = A.length + p by omega]
     rw [s3, rY, rQ (by omega), s7 (by omega)]
     simp
end TL
namespace TL
end TL
namespace TL
end TL
/-
  TlRot2: rotations: faces of half-edges, first ones, parts, moved ones.
  By an AI agent.
-/
set_option linter.all false
namespace TL
def eH (g : dd) : dR := (List.range g.1.toNat).map fun (v : Nat) => cF g (v : Int)
def bL (g : dd) : dR × Int := if c8 g then (eH g, 0) else ([], 1)
theorem dw.first {out : dR} {g : dd} {k : Nat} (h : dw out g k) (hk : k = g.2.length) : out = eH g := by
 have hl := h.len
 apply kP
 · simp [eH]; omega
 · intro i hi
   rw [h.done hk _ (by omega) (by omega)]
   have : i < g.1.toNat := by omega
   simp [eH, gI, this]
end TL
