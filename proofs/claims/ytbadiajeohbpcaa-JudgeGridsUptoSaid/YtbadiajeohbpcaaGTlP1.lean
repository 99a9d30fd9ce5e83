/- Plain texts of this claim, part 1. By an AI agent. -/
import Derived.Test.YtbadiajeohbpcaaGTlP0
import Derived.Laws.StructEq
import Derived.OrdersHeld
/-
  TlDraw: regions that draw their order, taken operation by operation.
  By an AI agent.
-/
set_option linter.all false
namespace TL
open Go
def bX (n : Nat) (done : List Nat) : Array Bool := ((List.range n).map fun i => decide (i ∈ done)).toArray
theorem cI (n : Nat) (done : List Nat) (j : Nat) (d : Bool) : (bX n done).getD j d = if j < n then decide (j ∈ done) else d := by
 unfold bX
 by_cases h : j < n
 · simp [h]
 · simp [h]
theorem cT {n i : Nat} (done : List Nat) (hi : i < n) : (bX n done).setIfInBounds i true = bX n (i :: done) := by
 apply Array.ext
 · simp [bX]
 · intro j h1 h2
   have hj : j < n := by simpa [bX] using h2
   simp only [bX]
   by_cases hij : i = j
   · subst hij; simp
   · have : ¬ j = i := fun h => hij h.symm
     simp [Array.getElem_setIfInBounds, hij, this]
section
variable {P : Program} {ops : Array Oper} {Q : Exit → Act → World → Prop} {md : Region.Mode} {qs : Nat → Bool}
def iU (P : Program) (md : Region.Mode) (ops : Array Oper) (qs : Nat → Bool) (Q : Exit → Act → World → Prop) : Nat → Array Bool → Act → World → Prop
  | 0, listed, a, w => Region.ready md ops listed = [] ∧ Q .normal a w
  | fuel + 1, listed, a, w => (Region.ready md ops listed = [] → Q .normal a w) ∧
    ∀ i ∈ Region.ready md ops listed, if qs i then stOp P ops w i (fun a' => iU P md ops qs Q fuel (listed.setIfInBounds i true) a' w) a
      else wpOp P ops Q i (iU P md ops qs Q fuel (listed.setIfInBounds i true)) a w
theorem eI : ∀ (fuel : Nat) (listed : Array Bool) (a : Act) (w : World), iU P md ops qs Q fuel listed a w → wpAny P md ops Q fuel listed a w
 | 0, _, _, _, h => h
 | fuel + 1, listed, a, w, h => by
   refine ⟨h.1, fun i hi => ?_⟩
   have h2 := h.2 i hi
   cases hq : qs i with
   | true =>
     simp only [hq, if_true] at h2
     exact wpOp_of_stOp (fun a' h' => eI fuel _ a' w h') h2
   | false =>
     simp only [hq, Bool.false_eq_true, if_false] at h2
     exact wpOp_mono (fun a' w' h' => eI fuel _ a' w' h') h2
theorem kI {i : Nat} {oi : Oper} {v : Value} {w : World} {M D : Array Bool} (hi : ops[i]? = some oi) (hsel : ∀ (j : Nat) (o : Oper) cs b, ops[j]? = some o → o.op ≠ .select cs b) (hqi : qs i = true)
    (hM : ∀ j oj, ops[j]? = some oj → M.getD j false = false → j ≠ i → ∃ e ∈ oj.after, Region.binds md e = true ∧ M.getD e.on false = false)
    (hMq : ∀ j oj, ops[j]? = some oj → M.getD j false = true → D.getD j true = false → j ≠ i → qs j = true) :
    ∀ (fuel : Nat) (listed : Array Bool) (a : Act), listed.size = ops.size → (∀ j, listed.getD j false = true → M.getD j false = true) → (∀ j, listed.getD j true = false → D.getD j true = false) →
      (∀ j oj, ops[j]? = some oj → j ≠ i → listed.getD j true = false → (∀ e ∈ oj.after, Region.binds md e = true → e.on ≠ i) → oi.apart ops oj = true) →
      i ∈ Region.ready md ops listed → YieldsAt P ops w oi v a →
      iU P md ops qs Q fuel (listed.setIfInBounds i true) (a.put oi.dst v) w → iU P md ops qs Q (fuel + 1) listed a w := by
  intro fuel
  induction fuel with
  | zero =>
    intro listed a _ _ _ _ hr hy H
    refine ⟨fun h => (by rw [h] at hr; cases hr), fun j hj => ?_⟩
    by_cases hji : j = i
    · subst hji; rw [if_pos hqi]; exact hy.stOp hi H
    · have := ready_mono hj hji
      rw [H.1] at this
      cases this
  | succ fuel ih =>
    intro listed a hsz hsub hD hfree hr hy H
    refine ⟨fun h => (by rw [h] at hr; cases hr), fun j hj => ?_⟩
    by_cases hji : j = i
    · subst hji; rw [if_pos hqi]; exact hy.stOp hi H
    · obtain ⟨hjun, oj, hoj, hall⟩ := mem_ready.1 hj
      have hMj : M.getD j false = true := by
        cases hm : M.getD j false with
        | true => rfl
        | false =>
          obtain ⟨e, he, hb, hn⟩ := hM j oj hoj hm hji
          have := hsub _ (hall e he hb)
          rw [hn] at this; cases this
      have hqj := hMq j oj hoj hMj (hD j hjun) hji
      have h1 := H.2 j (ready_mono hj hji)
      rw [if_pos hqj] at h1 ⊢
      have hnot : ∀ e ∈ oj.after, Region.binds md e = true → e.on ≠ i := fun e he hb heq => by
        have h1 := hall e he hb
        have h0 := (mem_ready.1 hr).1
        rw [heq] at h1
        rw [getD_both h0] at h1
        cases h1
      have h2 := stOp_put hoj (hfree j oj hoj hji hjun hnot) (fun cs b => hsel i oi cs b hi) (fun cs b => hsel j oj cs b hoj) hy h1
      have hfree' : ∀ k ok, ops[k]? = some ok → k ≠ i → (listed.setIfInBounds j true).getD k true = false →
          (∀ e ∈ ok.after, Region.binds md e = true → e.on ≠ i) → oi.apart ops ok = true := fun k ok hk hki hun hno => by
        refine hfree k ok hk hki ?_ hno
        by_cases hjk : j = k
        · subst hjk; exact hjun
        · rw [getD_set_ne true hjk] at hun; exact hun
      have hsub' : ∀ k, (listed.setIfInBounds j true).getD k false = true → M.getD k false = true := fun k hk => by
        by_cases hjk : j = k
        · subst hjk; exact hMj
        · rw [getD_set_ne false hjk] at hk; exact hsub k hk
      have hD' : ∀ k, (listed.setIfInBounds j true).getD k true = false → D.getD k true = false := fun k hk => by
        by_cases hjk : j = k
        · subst hjk; exact hD j hjun
        · rw [getD_set_ne true hjk] at hk; exact hD k hk
      refine stOp_mono (fun a' h3 => ih (listed.setIfInBounds j true) a' (by simpa using hsz) hsub' hD' hfree' (ready_mono hr (Ne.symm hji)) h3.1 ?_) h2
      rw [Array.setIfInBounds_comm _ _ hji]
      exact h3.2
def aH {α : Type} (s : Sem α) : Prop := ∀ (P : Program) (w : World) (x : α) (w' : World), s.run P w = .ok x w' → cQ w.heap.size w w'
theorem aH.bind {α β : Type} {s : Sem α} {f : α → Sem β} (h : aH s) (hf : ∀ a, aH (f a)) : aH (s >>= f) := by
 intro P w x w' hr
 rw [Sem.run_bind] at hr
 cases h1 : s.run P w with
 | halt e w1 => rw [h1] at hr; cases hr
 | ok a w1 =>
   rw [h1] at hr
   have k1 := h P w a w1 h1
   have k2 := hf a P w1 x w' hr
   exact k1.trans (k2.mono k1.size)
theorem aH.pure {α : Type} (a : α) : aH (Pure.pure a : Sem α) := fun P w x w' h => by
 simp only [Sem.run_pure] at h
 cases h; exact cQ.refl _ _
theorem aH.halt {α : Type} (e : Halt) : aH (Sem.halt e : Sem α) := fun P w x w' h => by cases h
theorem aH.stuck {α : Type} (e : String) : aH (Go.stuck e : Sem α) := aH.halt _
theorem aH.unsupported {α : Type} (e : Unsupported) : aH (Go.unsupported e : Sem α) := aH.halt _
theorem aH.program : aH Go.program := fun P w x w' h => by
 simp only [run_program] at h
 cases h; exact cQ.refl _ _
theorem aH.new (o : Obj) : aH (newObj o) := fun P w x w' h => by
 simp only [run_newObj] at h
 cases h
 exact (cQ.refl _ w).alloc (Nat.le_refl _) o
theorem aH.typeInfo (t : TypeId) : aH (Go.typeInfo t) := aH.bind aH.program fun p => by
 cases p.info? t with
 | some i => exact aH.pure i
 | none => exact aH.stuck _
theorem aH.underlying (t : TypeId) : aH (Go.underlying t) := aH.bind aH.program fun p => by
 cases p.underlying t with
 | some i => exact aH.pure i
 | none => exact aH.stuck _
theorem aH.sizeOf (t : TypeId) : aH (Go.sizeOf t) := aH.bind (aH.typeInfo t) fun i => aH.pure _
theorem aH.zeroValue (t : TypeId) : aH (Go.zeroValue t) := aH.bind (aH.typeInfo t) fun i => by
 cases i.zero with
 | some v => exact aH.pure v
 | none => exact aH.unsupported _
theorem aH.newVar (t : TypeId) (v : Value) : aH (Go.newVar t v) := aH.bind (aH.new _) fun _ => aH.pure _
theorem hZ (t : TypeId) (len : Nat) (parts : Array (Nat × Value)) : aH (Instr.buildSlice t len parts) := by
 unfold Instr.buildSlice
 refine aH.bind (aH.underlying t) fun d => ?_
 split
 · refine aH.bind (aH.sizeOf _) fun size => ?_
   have tail : ∀ (elem : TypeId) (zero : Array Value), aH (match Instr.fill (fun i => some (i * size, size)) ((Array.range (len * size)).map (zero[· % zero.size]!)) parts.toList with
       | some cells => (do pure (Value.slice (some (← newRow elem cells)) len len) : Sem Value)
       | _ => Go.stuck "buildSlice: a part of the wrong size") := fun elem zero => by
     split
     · exact aH.bind (aH.bind (aH.new _) fun _ => aH.pure _) fun _ => aH.pure _
     · exact aH.stuck _
   by_cases h1 : len * size > 2 ^ 24
   · simp only [h1, if_true]
     refine aH.bind (aH.unsupported _) fun x => ?_
     by_cases h2 : len * size = 0
     · rw [if_pos h2]
       exact aH.bind (aH.pure _) fun zero => tail _ zero
     · simp only [h2, if_false]
       exact aH.bind (aH.zeroValue _) fun _ => aH.bind (aH.pure _) fun zero => tail _ zero
   · simp only [h1, if_false]
     by_cases h2 : len * size = 0
     · rw [if_pos h2]
       exact aH.bind (aH.pure _) fun zero => tail _ zero
     · simp only [h2, if_false]
       exact aH.bind (aH.zeroValue _) fun _ => aH.bind (aH.pure _) fun zero => tail _ zero
 · exact aH.stuck _
theorem nO {P : Program} {w w' : World} {s : Sem Value} {nx : Next} (h : (do pure (Next.value (← s)) : Sem Next).run P w = .ok nx w') : ∃ u, nx = .value u := by
 rw [Sem.run_bind] at h
 cases hs : s.run P w with
 | ok a w1 => rw [hs] at h; cases h; exact ⟨a, rfl⟩
 | halt e w1 => rw [hs] at h; cases h
theorem aH.load (a : Addr) (m : Mode) : aH (Go.load a m) := fun P w x w' h => by
 simp only [Go.load, Sem.run] at h
 split at h
 · cases h; exact cQ.refl _ _
 · split at h
   · cases h; exact cQ.refl _ _
   · cases h
theorem aH.cells (a : Addr) : ∀ (n i : Nat) (acc : Array Value), aH (loadCellsFrom a i n acc)
 | 0, _, _ => aH.pure _
 | n + 1, i, _ => aH.bind (aH.load _ _) fun _ => aH.cells a n (i + 1) _
theorem aH.isAgg (t : TypeId) : aH (Go.isAgg t) := aH.bind (aH.underlying t) fun d => by
 split <;> exact aH.pure _
theorem aH.error {α : Type} (m : String) : aH (runtimePanic (.error m) : Sem α) := aH.bind aH.program fun p => aH.halt _
theorem aH.asIntOf (v : Value) : aH (Go.asIntOf v) := by
 unfold Go.asIntOf
 split
 · exact aH.pure _
 · exact aH.unsupported _
 · exact aH.stuck _
theorem aH.asInt (v : Value) : aH (Go.asInt v) := aH.bind (aH.asIntOf v) fun _ => aH.pure _
theorem aH.choose (q : Question) : aH (Go.choose q) := fun P w x w' h => by
 simp only [Go.choose, Sem.run] at h
 split at h
 · cases h; exact cQ.refl _ _
 · cases h; exact ⟨rfl, rfl, rfl, Nat.le_refl _, fun _ _ => rfl, Nat.le_succ _⟩
theorem aH.room (n : Nat) : aH (askRoom n) := fun P w x w' h => by
 unfold askRoom at h
 split at h
 · simp only [Go.mark, Sem.run] at h
   cases h; exact ⟨rfl, rfl, rfl, Nat.le_refl _, fun _ _ => rfl, Nat.le_refl _⟩
 · cases h; exact cQ.refl _ _
theorem jq (t : TypeId) (a : Value) : aH (Instr.loadAt t a) := by
 unfold Instr.loadAt
 refine aH.bind ?_ fun b => ?_
 · unfold Instr.sureAddr
   split
   · exact aH.pure _
   · exact aH.stuck _
 · unfold loadVar
   refine aH.bind (aH.isAgg t) fun c => ?_
   split
   · exact aH.bind (aH.sizeOf t) fun n => aH.bind (aH.cells _ _ _ _) fun _ => aH.pure _
   · exact aH.load _ _
theorem i8 (t : TypeId) (a b : Value) : aH (Instr.makeSlice t a b) := by
 unfold Instr.makeSlice
 refine aH.bind (aH.underlying t) fun d => ?_
 split
 · refine aH.bind (aH.asInt _) fun l => aH.bind (aH.asInt _) fun c => aH.bind (aH.typeInfo _) fun i => ?_
   have tail : ∀ (c : Int) (l : Int) (elem : TypeId), aH (do
       let n := c.toNat * (← sizeOf elem)
       let zero ← if n = 0 then pure #[] else do pure (← zeroValue elem).cells
       let a ← newRow elem ((Array.range n).map (zero[· % zero.size]!))
       pure (Value.slice (some a) l.toNat c.toNat)) := fun c l elem => by
     refine aH.bind (aH.sizeOf _) fun n => ?_
     have last : ∀ zero : Array Value, aH (do
       let a ← newRow elem ((Array.range (c.toNat * n)).map (zero[· % zero.size]!))
       pure (Value.slice (some a) l.toNat c.toNat)) := fun zero => aH.bind (aH.bind (aH.new _) fun _ => aH.pure _) fun _ => aH.pure _
     by_cases h : c.toNat * n = 0
     · simp only [h, if_true]
       have := last #[]
       simp only [h] at this
       exact aH.bind (aH.pure _) fun _ => aH.bind (aH.bind (aH.new _) fun _ => aH.pure _) fun _ => aH.pure _
     · simp only [h, if_false]
       exact aH.bind (aH.zeroValue _) fun _ => aH.bind (aH.pure _) fun z => last z
   dsimp only
   repeat' (first
     | exact aH.error _
     | exact aH.choose _
     | exact aH.room _
     | exact tail _ _ _
     | exact aH.pure _
     | refine aH.bind ?_ fun _ => ?_
     | split)
 · exact aH.stuck _
def ft : Op → Bool
 | .alloc _ | .box .. | .buildSlice .. | .load .. | .makeSlice .. => true
 | _ => false
theorem l8 {ρ : Operand → Value} {o : Oper} (h : ft o.op = true) : aH (execOp ρ o) := by
 obtain ⟨dst, op, ty, pos, after, g⟩ := o
 cases op <;> simp only [ft, Bool.false_eq_true] at h
 case alloc e => exact aH.bind (aH.bind (aH.zeroValue _) fun _ => aH.bind (aH.newVar _ _) fun _ => aH.pure _) fun _ => aH.pure _
 case box e x => exact aH.bind (aH.bind (aH.newVar _ _) fun _ => aH.pure _) fun _ => aH.pure _
 case buildSlice t n ps => exact aH.bind (hZ _ _ _) fun _ => aH.pure _
 case load t a => exact aH.bind (jq _ _) fun _ => aH.pure _
 case makeSlice t a b => exact aH.bind (i8 _ _ _) fun _ => aH.pure _
theorem mB {i : Nat} {oi : Oper} {v : Value} {w0 : World} {M D : Array Bool} (hi : ops[i]? = some oi) (hsel : ∀ (j : Nat) (o : Oper) cs b, ops[j]? = some o → o.op ≠ .select cs b) (hqi : qs i = true)
    (hQ : ∀ c a w, Q (.panic c) (a.put oi.dst v) w → Q (.panic c) a w)
    (hM : ∀ j oj, ops[j]? = some oj → M.getD j false = false → j ≠ i → ∃ e ∈ oj.after, Region.binds md e = true ∧ M.getD e.on false = false)
    (hMq : ∀ j oj, ops[j]? = some oj → M.getD j false = true → D.getD j true = false → j ≠ i → qs j = true ∨ ft oj.op = true) :
    ∀ (fuel : Nat) (listed : Array Bool) (a : Act) (w : World), cQ w0.heap.size w0 w → (∀ j, listed.getD j false = true → M.getD j false = true) → (∀ j, listed.getD j true = false → D.getD j true = false) →
      (∀ j oj, ops[j]? = some oj → j ≠ i → listed.getD j true = false → (∀ e ∈ oj.after, Region.binds md e = true → e.on ≠ i) → oi.apart ops oj = true) →
      i ∈ Region.ready md ops listed → (∀ w, cQ w0.heap.size w0 w → YieldsAt P ops w oi v a) →
      iU P md ops qs Q fuel (listed.setIfInBounds i true) (a.put oi.dst v) w → iU P md ops qs Q (fuel + 1) listed a w := by
  intro fuel
  induction fuel with
  | zero =>
    intro listed a w hw _ _ _ hr hy H
    refine ⟨fun h => (by rw [h] at hr; cases hr), fun j hj => ?_⟩
    by_cases hji : j = i
    · subst hji; rw [if_pos hqi]; exact (hy w hw).stOp hi H
    · have := ready_mono hj hji
      rw [H.1] at this
      cases this
  | succ fuel ih =>
    intro listed a w hw hsub hD hfree hr hy H
    refine ⟨fun h => (by rw [h] at hr; cases hr), fun j hj => ?_⟩
    by_cases hji : j = i
    · subst hji; rw [if_pos hqi]; exact (hy w hw).stOp hi H
    · obtain ⟨hjun, oj, hoj, hall⟩ := mem_ready.1 hj
      have hMj : M.getD j false = true := by
        cases hm : M.getD j false with
        | true => rfl
        | false =>
          obtain ⟨e, he, hb, hn⟩ := hM j oj hoj hm hji
          have := hsub _ (hall e he hb)
          rw [hn] at this; cases this
      have hqj := hMq j oj hoj hMj (hD j hjun) hji
      have h1 := H.2 j (ready_mono hj hji)
      have hnot : ∀ e ∈ oj.after, Region.binds md e = true → e.on ≠ i := fun e he hb heq => by
        have h1 := hall e he hb
        have h0 := (mem_ready.1 hr).1
        rw [heq] at h1
        rw [getD_both h0] at h1
        cases h1
      have hap := hfree j oj hoj hji hjun hnot
      have hfree' : ∀ k ok, ops[k]? = some ok → k ≠ i → (listed.setIfInBounds j true).getD k true = false →
          (∀ e ∈ ok.after, Region.binds md e = true → e.on ≠ i) → oi.apart ops ok = true := fun k ok hk hki hun hno => by
        refine hfree k ok hk hki ?_ hno
        by_cases hjk : j = k
        · subst hjk; exact hjun
        · rw [getD_set_ne true hjk] at hun; exact hun
      have hsub' : ∀ k, (listed.setIfInBounds j true).getD k false = true → M.getD k false = true := fun k hk => by
        by_cases hjk : j = k
        · subst hjk; exact hMj
        · rw [getD_set_ne false hjk] at hk; exact hsub k hk
      have hD' : ∀ k, (listed.setIfInBounds j true).getD k true = false → D.getD k true = false := fun k hk => by
        by_cases hjk : j = k
        · subst hjk; exact hD j hjun
        · rw [getD_set_ne true hjk] at hk; exact hD k hk
      obtain ⟨g1, g2, g3⟩ := Oper.apart_spec hap
      have keep : ∀ u w, cQ w0.heap.size w0 w → YieldsAt P ops w oi v (a.put oj.dst u) := fun u w hw =>
        (hy w hw).of_same (execOp_put oi (fun cs b => hsel i oi cs b hi) a oj.dst u g3) (wanted_put oi a oj.dst u g3)
      cases hqj' : qs j with
      | true =>
        simp only [hqj', if_true] at h1 ⊢
        obtain ⟨u, hyu, hK⟩ := yieldsAt_of_stOp hoj h1
        have hyj : YieldsAt P ops w oj u a := by
          rcases hyu with ⟨k1, k2⟩ | ⟨k1, k2⟩
          · refine .inl ⟨by rw [← wanted_put oj a oi.dst v g1]; exact k1, ?_⟩
            rw [execOp_put oj (fun cs b => hsel j oj cs b hoj) a oi.dst v g1] at k2
            exact k2
          · exact .inr ⟨by rw [← wanted_put oj a oi.dst v g1]; exact k1, k2⟩
        refine hyj.stOp hoj (ih (listed.setIfInBounds j true) (a.put oj.dst u) w hw hsub' hD' hfree' (ready_mono hr (Ne.symm hji)) (keep u) ?_)
        rw [← Act.put_comm a v u g2, Array.setIfInBounds_comm _ _ hji]
        exact hK
      | false =>
        have hkk := hqj.resolve_left (by rw [hqj']; simp)
        simp only [hqj', Bool.false_eq_true, if_false] at h1 ⊢
        unfold wpOp at h1 ⊢
        simp only [hoj] at h1 ⊢
        rw [wanted_put oj a oi.dst v g1] at h1
        cases hwt : Region.wanted oj (yielded ops a.tmps) with
        | false =>
          simp only [hwt, Bool.false_eq_true, if_false] at h1 ⊢
          refine ih (listed.setIfInBounds j true) (a.put oj.dst undef) w hw hsub' hD' hfree' (ready_mono hr (Ne.symm hji)) (keep undef) ?_
          rw [← Act.put_comm a v undef g2, Array.setIfInBounds_comm _ _ hji]
          exact h1
        | true =>
          simp only [hwt, if_true] at h1 ⊢
          have hke := l8 (ρ := a.eval) hkk P w
          rcases h1 with h1 | ⟨h1, h2⟩
          · left
            unfold Oper.wp at h1 ⊢
            rw [execOp_put oj (fun cs b => hsel j oj cs b hoj) a oi.dst v g1] at h1
            obtain ⟨dst, op, ty, pos, after, gd⟩ := oj
            cases hrun : (execOp a.eval ⟨dst, op, ty, pos, after, gd⟩).run P w with
            | halt x w' =>
              rw [hrun] at h1
              cases x <;> simp only [Oper.upon] at h1 ⊢
              case panic u => exact hQ _ _ _ h1
            | ok nx w' =>
              rw [hrun] at h1
              have hb := hke nx w' hrun
              have hw' : cQ w0.heap.size w0 w' := hw.trans (hb.mono hw.size)
              -- these operations yield values alone
              have hval : ∃ u, nx = .value u := by
                cases op <;> simp only [ft, Bool.false_eq_true] at hkk
                all_goals exact nO hrun
              obtain ⟨u, rfl⟩ := hval
              simp only [Oper.upon] at h1 ⊢
              refine ih (listed.setIfInBounds j true) (a.put dst u) w' hw' hsub' hD' hfree' (ready_mono hr (Ne.symm hji)) (keep u) ?_
              have h3 := h1
              rw [show (a.put oi.dst v).put dst u = (a.put dst u).put oi.dst v from Act.put_comm a v u g2, Array.setIfInBounds_comm _ _ (Ne.symm hji)] at h3
              exact h3
          · right
            refine ⟨?_, h2⟩
            unfold Oper.asks at *
            rw [execOp_put oj (fun cs b => hsel j oj cs b hoj) a oi.dst v g1] at h1
            exact h1
theorem mx {i : Nat} {oi : Oper} {v : Value} (hi : ops[i]? = some oi) (hsel : ∀ (j : Nat) (o : Oper) cs b, ops[j]? = some o → o.op ≠ .select cs b) (hqi : qs i = true)
    (hQ : ∀ c a w, Q (.panic c) (a.put oi.dst v) w → Q (.panic c) a w) :
    ∀ (fuel : Nat) (listed : Array Bool) (a : Act) (w : World),
      (∀ j oj, ops[j]? = some oj → j ≠ i → listed.getD j true = false → (∀ e ∈ oj.after, Region.binds md e = true → e.on ≠ i) → oi.apart ops oj = true) →
      i ∈ Region.ready md ops listed → Yields P ops oi v a →
      iU P md ops qs Q fuel (listed.setIfInBounds i true) (a.put oi.dst v) w → iU P md ops qs Q (fuel + 1) listed a w := by
  have hat : ∀ {a : Act} {w : World}, Yields P ops oi v a → YieldsAt P ops w oi v a := fun {a w} hy => by
    rcases hy with ⟨h1, h2⟩ | ⟨h1, h2⟩
    · exact .inl ⟨h1, .inl (h2 w)⟩
    · exact .inr ⟨h1, h2⟩
  intro fuel
  induction fuel with
  | zero =>
    intro listed a w _ hr hy H
    refine ⟨fun h => (by rw [h] at hr; cases hr), fun j hj => ?_⟩
    by_cases hji : j = i
    · subst hji; rw [if_pos hqi]; exact (hat hy).stOp hi H
    · have := ready_mono hj hji
      rw [H.1] at this
      cases this
  | succ fuel ih =>
    intro listed a w hfree hr hy H
    refine ⟨fun h => (by rw [h] at hr; cases hr), fun j hj => ?_⟩
    by_cases hji : j = i
    · subst hji; rw [if_pos hqi]; exact (hat hy).stOp hi H
    · obtain ⟨hjun, oj, hoj, hall⟩ := mem_ready.1 hj
      have h1 := H.2 j (ready_mono hj hji)
      have hnot : ∀ e ∈ oj.after, Region.binds md e = true → e.on ≠ i := fun e he hb heq => by
        have h1 := hall e he hb
        have h0 := (mem_ready.1 hr).1
        rw [heq] at h1
        rw [getD_both h0] at h1
        cases h1
      have hap := hfree j oj hoj hji hjun hnot
      have hfree' : ∀ k ok, ops[k]? = some ok → k ≠ i → (listed.setIfInBounds j true).getD k true = false →
          (∀ e ∈ ok.after, Region.binds md e = true → e.on ≠ i) → oi.apart ops ok = true := fun k ok hk hki hun hno => by
        refine hfree k ok hk hki ?_ hno
        by_cases hjk : j = k
        · subst hjk; exact hjun
        · rw [getD_set_ne true hjk] at hun; exact hun
      cases hqj : qs j with
      | true =>
        simp only [hqj, if_true] at h1 ⊢
        -- a step that leaves the world
        have hy' := hy
        obtain ⟨g1, g2, g3⟩ := Oper.apart_spec hap
        have keep : ∀ (a : Act), Yields P ops oi v a → ∀ u, Yields P ops oi v (a.put oj.dst u) := fun a hy u =>
          hy.of_same (execOp_put oi (fun cs b => hsel i oi cs b hi) a oj.dst u g3) (wanted_put oi a oj.dst u g3)
        obtain ⟨u, hyu, hK⟩ := yieldsAt_of_stOp hoj h1
        have hyj : YieldsAt P ops w oj u a := by
          rcases hyu with ⟨k1, k2⟩ | ⟨k1, k2⟩
          · refine .inl ⟨by rw [← wanted_put oj a oi.dst v g1]; exact k1, ?_⟩
            rw [execOp_put oj (fun cs b => hsel j oj cs b hoj) a oi.dst v g1] at k2
            exact k2
          · exact .inr ⟨by rw [← wanted_put oj a oi.dst v g1]; exact k1, k2⟩
        refine hyj.stOp hoj (ih (listed.setIfInBounds j true) (a.put oj.dst u) w hfree' (ready_mono hr (Ne.symm hji)) (keep a hy u) ?_)
        rw [← Act.put_comm a v u g2, Array.setIfInBounds_comm _ _ hji]
        exact hK
      | false =>
        simp only [hqj, Bool.false_eq_true, if_false] at h1 ⊢
        have h2 := wpOp_put hoj hap (fun cs b => hsel i oi cs b hi) (fun cs b => hsel j oj cs b hoj) hQ hy h1
        refine wpOp_mono (fun a' w' h3 => ih (listed.setIfInBounds j true) a' w' hfree' (ready_mono hr (Ne.symm hji)) h3.1 ?_) h2
        rw [Array.setIfInBounds_comm _ _ hji]
        exact h3.2
end
section
variable {P : Program} {n : Nat} {l : List Oper} {qs : List Nat} {K : Fr → World → Prop} {f : Fr} {w : World} {done : List Nat} {fuel : Nat}
def jg (P : Program) (n : Nat) (l : List Oper) (qs : List Nat) (K : Fr → World → Prop) (fuel : Nat) (done : List Nat) (f : Fr) (w : World) : Prop :=
  ∀ a, Ag n a f → iU P .any l.toArray (fun i => decide (i ∈ qs)) (fun e a' w' => e = .normal ∧ ∃ f', Ag n a' f' ∧ K f' w') fuel (bX l.length done) a w
theorem eb {fid : Nat} {R : Ending → World → Prop} {k : List Item} {id : Nat} (γ : aP) (qs : List Nat) (hm : P.follows .mixedOrders = true)
   (h : ∀ w1, aO no γ w γ w1 → jg P n l qs (e8 P fid n R k) l.length [] f w1) : e8 P fid n R (.code (.region id l.toArray true) :: k) f w :=
 fH fun a ha => wp_region_any hm (by
   have h0 := eI _ _ _ _ (h _ (aO.refl _ _ _).drew a ha)
   have hmask : bX l.length [] = Array.replicate l.toArray.size false := by
     apply Array.ext
     · simp [bX]
     · intro j h1 h2; simp [bX]
   rw [hmask] at h0
   simpa using h0)
theorem kQ {fid : Nat} {R : Ending → World → Prop} {k : List Item} {id : Nat} {σ : Type} (Mid : σ → Fr → World → Prop) (γ : aP) (qs : List Nat) (hm : P.follows .mixedOrders = true)
    (h : (∀ s f w, Mid s f w → e8 P fid n R k f w) → ∀ w1, aO no γ w γ w1 → jg P n l qs (e8 P fid n R k) l.length [] f w1) (hk : ∀ s f w, Mid s f w → e8 P fid n R k f w) : e8 P fid n R (.code (.region id l.toArray true) :: k) f w :=
  eb γ qs hm (h hk)
def eM (l : List Oper) (done : List Nat) (i : Nat) : Bool :=
 !done.contains i && match l[i]? with
   | some o => o.after.all fun e => !Region.binds .any e || done.contains e.on && decide (e.on < l.length)
   | none => false
def fY (l : List Oper) (done : List Nat) (i : Nat) : Bool :=
 match l[i]? with
 | none => false
 | some oi => (List.range l.length).all fun j => j == i || done.contains j || match l[j]? with
     | some oj => oj.after.any (fun e => Region.binds .any e && e.on == i) || oi.apart l.toArray oj
     | none => true
def jF (l : List Oper) (qs done M : List Nat) (i : Nat) : Bool :=
  ((List.range l.length).all fun j => M.contains j || j == i || match l[j]? with
      | some oj => oj.after.any fun e => Region.binds .any e && !M.contains e.on
      | none => true) &&
  (M.all fun j => j == i || done.contains j || qs.contains j) && (done.all fun j => M.contains j && decide (j < l.length)) && M.all fun j => decide (j < l.length)
def f9 (l : List Oper) : Bool := Region.noSelect l.toArray
theorem eF {i : Nat} (h : eM l done i = true) : i < l.length ∧ i ∈ Region.ready .any l.toArray (bX l.length done) := by
 unfold eM at h
 simp only [Bool.and_eq_true, Bool.not_eq_true'] at h
 obtain ⟨h1, h2⟩ := h
 split at h2
 · rename_i o ho
   have hlt : i < l.length := (List.getElem?_eq_some_iff.1 ho).1
   refine ⟨hlt, mem_ready.2 ⟨by rw [cI]; simp [hlt]; simpa using h1, o, by simpa using ho, fun e he hb => ?_⟩⟩
   have h3 := Array.all_eq_true_iff_forall_mem.1 h2 e he
   simp only [hb, Bool.not_true, Bool.false_or, Bool.and_eq_true, decide_eq_true_eq] at h3
   rw [cI, if_pos h3.2]
   simpa using h3.1
 · cases h2
theorem fa {i : Nat} {oi : Oper} (hi : l[i]? = some oi) (h : fY l done i = true) (j : Nat) (oj : Oper) (hj : l.toArray[j]? = some oj) (hne : j ≠ i) (hun : (bX l.length done).getD j true = false)
   (hno : ∀ e ∈ oj.after, Region.binds .any e = true → e.on ≠ i) : oi.apart l.toArray oj = true := by
 have hj' : l[j]? = some oj := by simpa using hj
 have hlt : j < l.length := (List.getElem?_eq_some_iff.1 hj').1
 unfold fY at h
 simp only [hi, List.all_eq_true, List.mem_range] at h
 have h1 := h j hlt
 rw [cI, if_pos hlt] at hun
 have hd : done.contains j = false := by simpa using hun
 simp only [hj', Bool.or_eq_true, beq_iff_eq, hne, false_or, hd, Bool.false_eq_true] at h1
 rcases h1 with h1 | h1
 · obtain ⟨e, he, hb⟩ := Array.any_eq_true'.1 h1
   simp only [Bool.and_eq_true, beq_iff_eq] at hb
   exact absurd hb.2 (hno e he hb.1)
 · exact h1
theorem gB (h : f9 l = true) : ∀ (j : Nat) (o : Oper) cs b, l.toArray[j]? = some o → o.op ≠ .select cs b := Region.noSelect_spec h
theorem iK {i : Nat} (h : qs.contains i = true) : decide (i ∈ qs) = true := by simpa using h
variable {dst : Option Tmp} {op : Op} {ty : TypeId} {pos : String} {after : Array Edge} {g : Option (Nat × Bool)} {v : Value}
theorem sJ (i : Nat) (M : List Nat) (hi : l[i]? = some ⟨dst, op, ty, pos, after, g⟩) (hn : f9 l = true) (hc : (qs.contains i && eM l done i && fY l done i && jF l qs done M i && iV n ⟨dst, op, ty, pos, after, g⟩) = true)
    (hw : cq l ⟨dst, op, ty, pos, after, g⟩ f = true) (h : (execOp (ev f) ⟨dst, op, ty, pos, after, g⟩).run P w = .ok (.value v) w) (hk : jg P n l qs K fuel (i :: done) (eV f dst v) w) : jg P n l qs K (fuel + 1) done f w := by
  simp only [Bool.and_eq_true] at hc
  obtain ⟨⟨⟨⟨hq, hr⟩, hf⟩, hb⟩, hd⟩ := hc
  obtain ⟨hlt, hr'⟩ := eF hr
  intro a ha
  unfold jF at hb
  simp only [Bool.and_eq_true, List.all_eq_true, List.mem_range] at hb
  obtain ⟨⟨⟨b1, b2⟩, b3⟩, b4⟩ := hb
  have hgM : ∀ j, (bX l.length M).getD j false = true ↔ j ∈ M := fun j => by
    rw [cI]
    by_cases hjl : j < l.length
    · simp [hjl]
    · simp only [hjl, if_false, Bool.false_eq_true, false_iff]
      exact fun hm => hjl (by simpa using b4 j hm)
  refine kI (v := v) (M := bX l.length M) (D := bX l.length done) (by simpa using hi) (gB hn) (iK hq) (fun j oj hj hm hne => ?_) (fun j oj hj hm hD hne => ?_) fuel _ a (by simp [bX]) (fun j hj => ?_) (fun j hj => hj) (fa hi hf) hr' ?_ ?_
  · have hj' : l[j]? = some oj := by simpa using hj
    have hjl : j < l.length := (List.getElem?_eq_some_iff.1 hj').1
    have h1 := b1 j hjl
    have hmM : M.contains j = false := by
      cases hc : M.contains j with
      | false => rfl
      | true => have h9 := (hgM j).2 (by simpa using hc); rw [hm] at h9; cases h9
    simp only [hmM, hj', Bool.false_or, Bool.or_eq_true, beq_iff_eq, hne, false_or] at h1
    obtain ⟨e, he, hbb⟩ := Array.any_eq_true'.1 h1
    simp only [Bool.and_eq_true, Bool.not_eq_true'] at hbb
    refine ⟨e, he, hbb.1, ?_⟩
    cases hc : (bX l.length M).getD e.on false with
    | false => rfl
    | true =>
      have := (hgM _).1 hc
      have h2 := hbb.2
      simp [this] at h2
  · have h1 := b2 j ((hgM j).1 hm)
    have hj' : l[j]? = some oj := by simpa using hj
    have hjl : j < l.length := (List.getElem?_eq_some_iff.1 hj').1
    rw [cI, if_pos hjl] at hD
    have hd : done.contains j = false := by simpa using hD
    simp only [Bool.or_eq_true, beq_iff_eq, hne, hd, false_or, Bool.false_eq_true] at h1
    exact iK h1
  · rw [cI] at hj
    split at hj
    · have h1 := b3 j (by simpa using hj)
      exact (hgM j).2 (by simpa using h1.1)
    · cases hj
  · refine .inl ⟨?_, .inl ?_⟩
    · rw [ha.yielded]; exact hw
    · rw [ha.eval]; exact h
  · rw [cT done hlt]
    exact hk _ (ha.put hd v)
def jA (l : List Oper) (qs done M : List Nat) (i : Nat) : Bool :=
 ((List.range l.length).all fun j => M.contains j || j == i || match l[j]? with
     | some oj => oj.after.any fun e => Region.binds .any e && !M.contains e.on
     | none => true) &&
 (M.all fun j => j == i || done.contains j || qs.contains j || match l[j]? with
     | some oj => ft oj.op
     | none => false) && (done.all fun j => M.contains j && decide (j < l.length)) && M.all fun j => decide (j < l.length)
theorem rF (i : Nat) (M : List Nat) (hi : l[i]? = some ⟨dst, op, ty, pos, after, g⟩) (hn : f9 l = true) (hc : (qs.contains i && eM l done i && fY l done i && jA l qs done M i && iV n ⟨dst, op, ty, pos, after, g⟩) = true)
    (hw : cq l ⟨dst, op, ty, pos, after, g⟩ f = true) (h : ∀ w', cQ w.heap.size w w' → (execOp (ev f) ⟨dst, op, ty, pos, after, g⟩).run P w' = .ok (.value v) w') (hk : jg P n l qs K fuel (i :: done) (eV f dst v) w) : jg P n l qs K (fuel + 1) done f w := by
  simp only [Bool.and_eq_true] at hc
  obtain ⟨⟨⟨⟨hq, hr⟩, hf⟩, hb⟩, hd⟩ := hc
  obtain ⟨hlt, hr'⟩ := eF hr
  intro a ha
  unfold jA at hb
  simp only [Bool.and_eq_true, List.all_eq_true, List.mem_range] at hb
  obtain ⟨⟨⟨b1, b2⟩, b3⟩, b4⟩ := hb
  have hgM : ∀ j, (bX l.length M).getD j false = true ↔ j ∈ M := fun j => by
    rw [cI]
    by_cases hjl : j < l.length
    · simp [hjl]
    · simp only [hjl, if_false, Bool.false_eq_true, false_iff]
      exact fun hm => hjl (by simpa using b4 j hm)
  refine mB (v := v) (w0 := w) (M := bX l.length M) (D := bX l.length done) (by simpa using hi) (gB hn) (iK hq) (fun c a w h => by cases h.1) (fun j oj hj hm hne => ?_) (fun j oj hj hm hD hne => ?_) fuel _ a w (cQ.refl _ _) (fun j hj => ?_) (fun j hj => hj) (fa hi hf) hr' (fun w' hw' => ?_) ?_
  · have hj' : l[j]? = some oj := by simpa using hj
    have hjl : j < l.length := (List.getElem?_eq_some_iff.1 hj').1
    have h1 := b1 j hjl
    have hmM : M.contains j = false := by
      cases hc : M.contains j with
      | false => rfl
      | true => have h9 := (hgM j).2 (by simpa using hc); rw [hm] at h9; cases h9
    simp only [hmM, hj', Bool.false_or, Bool.or_eq_true, beq_iff_eq, hne, false_or] at h1
    obtain ⟨e, he, hbb⟩ := Array.any_eq_true'.1 h1
    simp only [Bool.and_eq_true, Bool.not_eq_true'] at hbb
    refine ⟨e, he, hbb.1, ?_⟩
    cases hc : (bX l.length M).getD e.on false with
    | false => rfl
    | true =>
      have := (hgM _).1 hc
      have h2 := hbb.2
      simp [this] at h2
  · have h1 := b2 j ((hgM j).1 hm)
    have hj' : l[j]? = some oj := by simpa using hj
    have hjl : j < l.length := (List.getElem?_eq_some_iff.1 hj').1
    rw [cI, if_pos hjl] at hD
    have hd : done.contains j = false := by simpa using hD
    simp only [hj', Bool.or_eq_true, beq_iff_eq, hne, hd, false_or, Bool.false_eq_true] at h1
    rcases h1 with h1 | h1
    · exact .inl (iK h1)
    · exact .inr h1
  · rw [cI] at hj
    split at hj
    · have h1 := b3 j (by simpa using hj)
      exact (hgM j).2 (by simpa using h1.1)
    · cases hj
  · refine .inl ⟨?_, .inl ?_⟩
    · rw [ha.yielded]; exact hw
    · rw [ha.eval]; exact h w' hw'
  · rw [cT done hlt]
    exact hk _ (ha.put hd v)
theorem rB (i : Nat) (hi : l[i]? = some ⟨dst, op, ty, pos, after, g⟩) (hn : f9 l = true) (hc : (qs.contains i && eM l done i && fY l done i && iV n ⟨dst, op, ty, pos, after, g⟩) = true)
    (hw : cq l ⟨dst, op, ty, pos, after, g⟩ f = true) (h : ∀ w, (execOp (ev f) ⟨dst, op, ty, pos, after, g⟩).run P w = .ok (.value v) w) (hk : jg P n l qs K fuel (i :: done) (eV f dst v) w) : jg P n l qs K (fuel + 1) done f w := by
  simp only [Bool.and_eq_true] at hc
  obtain ⟨⟨⟨hq, hr⟩, hf⟩, hd⟩ := hc
  obtain ⟨hlt, hr'⟩ := eF hr
  intro a ha
  refine mx (v := v) (by simpa using hi) (gB hn) (iK hq) (fun c a w h => by cases h.1) fuel _ a w (fa hi hf) hr' (.inl ⟨by rw [ha.yielded]; exact hw, fun w => by rw [ha.eval]; exact h w⟩) ?_
  rw [cT done hlt]
  exact hk _ (ha.put hd v)
theorem eE {i : Nat} {o : Oper} {a : Act} {K' : Act → World → Prop} {Q : Exit → Act → World → Prop} {N : Value → World → Prop} (ha : Ag n a f) (hi : l[i]? = some o) (hw : cq l o f = true) (h : eU P o f w N) (hN : ∀ v w', N v w' → K' (a.put o.dst v) w') : wpOp P l.toArray Q i K' a w := by
 unfold wpOp
 have hi' : l.toArray[i]? = some o := by simpa using hi
 simp only [hi']
 have hw' : Region.wanted o (yielded l.toArray a.tmps) = true := by rw [ha.yielded]; exact hw
 simp only [hw', if_true]
 refine .inl ?_
 unfold Oper.wp
 rw [ha.eval]
 unfold eU at h
 generalize (execOp (ev f) o).run P w = r at *
 cases r with
 | halt x w' => exact h.elim
 | ok nx w' =>
   cases nx <;> simp only [nh] at h <;> simp only [Oper.upon]
   case value v => exact hN _ _ h
   case skip => exact hN _ _ h
   case enter g args =>
     refine h.mono fun e w'' he => ?_
     cases e with
     | returned v => exact hN _ _ he
     | panicked c => exact he.elim
     | outgrown => exact he.elim
theorem dP (i : Nat) (hi : l[i]? = some ⟨dst, op, ty, pos, after, g⟩) (hc : (decide (Region.ready .any l.toArray (bX l.length done) = [i]) && !qs.contains i && iV n ⟨dst, op, ty, pos, after, g⟩) = true)
    (hw : cq l ⟨dst, op, ty, pos, after, g⟩ f = true) (h : eU P ⟨dst, op, ty, pos, after, g⟩ f w (fun v w' => jg P n l qs K fuel (i :: done) (eV f dst v) w')) : jg P n l qs K (fuel + 1) done f w := by
  simp only [Bool.and_eq_true, decide_eq_true_eq, Bool.not_eq_true'] at hc
  obtain ⟨⟨hr, hq⟩, hd⟩ := hc
  have hlt : i < l.length := (List.getElem?_eq_some_iff.1 hi).1
  intro a ha
  refine ⟨fun h0 => (by rw [hr] at h0; cases h0), fun j hj => ?_⟩
  rw [hr] at hj
  obtain rfl : j = i := by simpa using hj
  have hq' : decide (j ∈ qs) = false := by simpa using hq
  simp only [hq', Bool.false_eq_true, if_false]
  refine eE ha hi hw h fun v w' hk => ?_
  rw [cT done hlt]
  exact hk _ (ha.put hd v)
theorem ra (i j : Nat) {dst' : Option Tmp} {op' : Op} {ty' : TypeId} {pos' : String} {after' : Array Edge} {g' : Option (Nat × Bool)} (hi : l[i]? = some ⟨dst, op, ty, pos, after, g⟩) (hj : l[j]? = some ⟨dst', op', ty', pos', after', g'⟩)
    (hc : (decide (Region.ready .any l.toArray (bX l.length done) = [i, j]) && !qs.contains i && !qs.contains j && iV n ⟨dst, op, ty, pos, after, g⟩ && iV n ⟨dst', op', ty', pos', after', g'⟩) = true)
    (hw : cq l ⟨dst, op, ty, pos, after, g⟩ f = true) (hw' : cq l ⟨dst', op', ty', pos', after', g'⟩ f = true)
    (h : eU P ⟨dst, op, ty, pos, after, g⟩ f w (fun v w' => jg P n l qs K fuel (i :: done) (eV f dst v) w')) (h' : eU P ⟨dst', op', ty', pos', after', g'⟩ f w (fun v w' => jg P n l qs K fuel (j :: done) (eV f dst' v) w')) : jg P n l qs K (fuel + 1) done f w := by
  simp only [Bool.and_eq_true, decide_eq_true_eq, Bool.not_eq_true'] at hc
  obtain ⟨⟨⟨⟨hr, hq⟩, hq2⟩, hd⟩, hd'⟩ := hc
  have hlt : i < l.length := (List.getElem?_eq_some_iff.1 hi).1
  have hlt' : j < l.length := (List.getElem?_eq_some_iff.1 hj).1
  intro a ha
  refine ⟨fun h0 => (by rw [hr] at h0; cases h0), fun k hk => ?_⟩
  rw [hr] at hk
  have hk' : k = i ∨ k = j := by simpa using hk
  rcases hk' with rfl | rfl
  · have hq' : decide (k ∈ qs) = false := by simpa using hq
    simp only [hq', Bool.false_eq_true, if_false]
    refine eE ha hi hw h fun v w' hk => ?_
    rw [cT done hlt]
    exact hk _ (ha.put hd v)
  · have hq' : decide (k ∈ qs) = false := by simpa using hq2
    simp only [hq', Bool.false_eq_true, if_false]
    refine eE ha hj hw' h' fun v w' hk => ?_
    rw [cT done hlt']
    exact hk _ (ha.put hd' v)
theorem j6 (hr : decide (Region.ready .any l.toArray (bX l.length done) = []) = true) (h : K f w) : jg P n l qs K 0 done f w := fun _ ha => ⟨of_decide_eq_true hr, rfl, f, ha, h⟩
end
end TL
/-
  TlHold: regions that draw their order, where what is read stays: on the kit's OrdersHeld.
  By an AI agent.
-/
set_option linter.all false
namespace TL
open Go
section
variable {P : Program} {n : Nat} {l : List Oper} {S : World → Prop} {K : Fr → World → Prop} {f : Fr} {w : World} {done : List Nat} {fuel : Nat}
def mL (P : Program) (n : Nat) (l : List Oper) (S : World → Prop) (K : Fr → World → Prop) (fuel : Nat) (done : List Nat) (f : Fr) (w : World) : Prop :=
  ∀ a, Ag n a f → wpAnyH P .any l.toArray (fun e a' w' => e = .normal ∧ ∃ f', Ag n a' f' ∧ K f' w') S fuel (bX l.length done) a w
theorem aO.same {J : c8 → Prop} {γ γ' : aP} {w w' : World} (h : aO J γ w γ' w') : aO J γ w γ w' := ⟨h.os, h.tape, h.output, h.size, fun _ _ _ => rfl, h.keep, h.drawn⟩
theorem dH {fid : Nat} {R : Ending → World → Prop} {k : List Item} {id : Nat} (γ : aP) (J : c8 → Prop) (hm : P.follows .mixedOrders = true)
   (h : ∀ w1, aO no γ w γ w1 → mL P n l (fun w' => aO J γ w1 γ w') (e8 P fid n R k) l.length [] f w1) : e8 P fid n R (.code (.region id l.toArray true) :: k) f w :=
 fH fun a ha => wp_region_held hm (by
   have h0 := h _ (aO.refl _ _ _).drew a ha
   have hmask : bX l.length [] = Array.replicate l.toArray.size false := by
     apply Array.ext
     · simp [bX]
     · intro j h1 h2; simp [bX]
   rw [hmask] at h0
   simpa using h0)
theorem cR {fid : Nat} {R : Ending → World → Prop} {k : List Item} {id : Nat} {σ : Type} (Mid : σ → Fr → World → Prop) (γ : aP) (J : c8 → Prop) (hm : P.follows .mixedOrders = true)
    (h : (∀ s f w, Mid s f w → e8 P fid n R k f w) → ∀ w1, aO no γ w γ w1 → mL P n l (fun w' => aO J γ w1 γ w') (e8 P fid n R k) l.length [] f w1) (hk : ∀ s f w, Mid s f w → e8 P fid n R k f w) : e8 P fid n R (.code (.region id l.toArray true) :: k) f w :=
  dH γ J hm (h hk)
variable {dst : Option Tmp} {op : Op} {ty : TypeId} {pos : String} {after : Array Edge} {g : Option (Nat × Bool)} {v : Value}
theorem rp (i : Nat) (hi : l[i]? = some ⟨dst, op, ty, pos, after, g⟩) (hn : f9 l = true) (hc : (eM l done i && fY l done i && iV n ⟨dst, op, ty, pos, after, g⟩) = true)
   (hw : cq l ⟨dst, op, ty, pos, after, g⟩ f = true) (hS : S w) (h : ∀ w, S w → (execOp (ev f) ⟨dst, op, ty, pos, after, g⟩).run P w = .ok (.value v) w) (hk : mL P n l S K fuel (i :: done) (eV f dst v) w) : mL P n l S K (fuel + 1) done f w := by
 simp only [Bool.and_eq_true] at hc
 obtain ⟨⟨hr, hf⟩, hd⟩ := hc
 obtain ⟨hlt, hr'⟩ := eF hr
 intro a ha
 refine wpAnyH_first (v := v) (by simpa using hi) (gB hn) (fun c a w h => by cases h.1) fuel _ a w (fa hi hf) hr' (.inl ⟨by rw [ha.yielded]; exact hw, fun w hs => by rw [ha.eval]; exact h w hs⟩) hS ?_
 rw [cT done hlt]
 exact hk _ (ha.put hd v)
def rD (P : Program) (n : Nat) (l : List Oper) (S : World → Prop) (K : Fr → World → Prop) (fuel : Nat) (done : List Nat) (f : Fr) (w : World) (i : Nat) : Prop :=
  ∃ o, l[i]? = some o ∧ i < l.length ∧ (cq l o f = true ∧ iV n o = true ∧ eU P o f w (fun v w' => S w' ∧ mL P n l S K fuel (i :: done) (eV f o.dst v) w'))
theorem bl (i : Nat) (hi : l[i]? = some ⟨dst, op, ty, pos, after, g⟩) (hc : iV n ⟨dst, op, ty, pos, after, g⟩ = true) (hw : cq l ⟨dst, op, ty, pos, after, g⟩ f = true)
   (h : eU P ⟨dst, op, ty, pos, after, g⟩ f w (fun v w' => S w' ∧ mL P n l S K fuel (i :: done) (eV f dst v) w')) : rD P n l S K fuel done f w i :=
 ⟨_, hi, (List.getElem?_eq_some_iff.1 hi).1, hw, hc, h⟩
def pU (P : Program) (n : Nat) (l : List Oper) (S : World → Prop) (K : Fr → World → Prop) (fuel : Nat) (done : List Nat) (f : Fr) (w : World) : List Nat → Prop
 | [] => True
 | i :: r => rD P n l S K fuel done f w i ∧ pU P n l S K fuel done f w r
theorem pU.mem {L : List Nat} (h : pU P n l S K fuel done f w L) : ∀ i ∈ L, rD P n l S K fuel done f w i := by
 induction L with
 | nil => intro i hi; cases hi
 | cons j r ih =>
   intro i hi
   rcases List.mem_cons.1 hi with rfl | hi
   · exact h.1
   · exact ih h.2 i hi
theorem bx (i : Nat) (L : List Nat) (hr : decide (Region.ready .any l.toArray (bX l.length done) = i :: L) = true) (h : pU P n l S K fuel done f w (i :: L)) : mL P n l S K (fuel + 1) done f w := by
 have hr := of_decide_eq_true hr
 intro a ha
 refine ⟨fun h0 => (by rw [hr] at h0; cases h0), fun k hk => ?_⟩
 rw [hr] at hk
 obtain ⟨o, hi, hlt, hw, hd, ho⟩ := h.mem k (by simpa using hk)
 obtain ⟨dst, op, ty, pos, after, g⟩ := o
 refine eE ha hi hw ho fun v w' hk => ⟨hk.1, ?_⟩
 rw [cT done hlt]
 exact hk.2 _ (ha.put hd v)
theorem aB (i : Nat) (hi : l[i]? = some ⟨dst, op, ty, pos, after, g⟩) (hc : (decide (Region.ready .any l.toArray (bX l.length done) = [i]) && iV n ⟨dst, op, ty, pos, after, g⟩) = true)
   (hw : cq l ⟨dst, op, ty, pos, after, g⟩ f = true) (h : eU P ⟨dst, op, ty, pos, after, g⟩ f w (fun v w' => S w' ∧ mL P n l S K fuel (i :: done) (eV f dst v) w')) : mL P n l S K (fuel + 1) done f w := by
 simp only [Bool.and_eq_true] at hc
 exact bx i [] hc.1 ⟨bl i hi hc.2 hw h, trivial⟩
theorem bm (hr : decide (Region.ready .any l.toArray (bX l.length done) = []) = true) (h : K f w) : mL P n l S K 0 done f w := fun _ ha => ⟨of_decide_eq_true hr, rfl, f, ha, h⟩
end
end TL
namespace TL
open Go
end TL
/-
  TlNet: nets, and what layer 3 says of them, as plain functions.
  By an AI agent.
-/
set_option linter.all false
namespace TL
abbrev da := Int × List (Int × Int)
def oJ (n : Int) (e : Int × Int) : Prop := (0 ≤ e.1 ∧ e.1 < n) ∧ 0 ≤ e.2 ∧ e.2 < n
instance (n : Int) (e : Int × Int) : Decidable (oJ n e) := by unfold oJ; infer_instance
def ci (g : da) : Prop := 0 ≤ g.1 ∧ g.1 ≤ 1024 ∧ g.2.length ≤ 3072 ∧ ∀ e ∈ g.2, oJ g.1 e
instance (g : da) : Decidable (ci g) := by unfold ci; infer_instance
def el (g : da) : Bool := decide (ci g)
theorem mD {g : da} (h : ci g) : el g = true := decide_eq_true h
theorem dB {g : da} (h : ¬ ci g) : el g = false := decide_eq_false h
end TL
namespace TL
theorem hY {α : Type} [Inhabited α] {xs : List α} {i j : Int} {y : α} (hi : 0 ≤ i) (hi' : i < xs.length) (hj : 0 ≤ j) : gI (xs.set i.toNat y) j = if j = i then y else gI xs j := by
 unfold gI
 by_cases h : j = i
 · subst h
   have : j.toNat < xs.length := by omega
   simp [this]
 · have : i.toNat ≠ j.toNat := by omega
   simp [h, List.getElem?_set_ne this]
theorem nw {α : Type} [Inhabited α] {n : Nat} {x : α} {i : Int} (h0 : 0 ≤ i) (h1 : i < n) : gI (List.replicate n x) i = x := by
 have : i.toNat < n := by omega
 simp [gI, this]
end TL
namespace TL
end TL
namespace TL
end TL
namespace TL
def dE (g : da) (h : Int) : Int := pI (gI g.2 (h / 2)) (h % 2)
def fV (g : da) (v : Int) (k : Nat) : List Int := ((List.range (2 * k)).map (fun (i : Nat) => (i : Int))).filter fun h => decide (dE g h = v)
def cU (g : da) (v : Int) : List Int := fV g v g.2.length
theorem iz (g : da) (k : Nat) : dE g (2 * (k : Int)) = (gI g.2 k).1 := by
 unfold dE
 have h1 : 2 * (k : Int) / 2 = k := by omega
 have h2 : 2 * (k : Int) % 2 = 0 := by omega
 rw [h1, h2]; rfl
theorem jd (g : da) (k : Nat) : dE g (2 * (k : Int) + 1) = (gI g.2 k).2 := by
 unfold dE
 have h1 : (2 * (k : Int) + 1) / 2 = k := by omega
 have h2 : (2 * (k : Int) + 1) % 2 = 1 := by omega
 rw [h1, h2]; rfl
theorem la (g : da) (v : Int) (k : Nat) : fV g v (k + 1) = fV g v k ++ ((if (gI g.2 k).1 = v then [2 * (k : Int)] else []) ++ (if (gI g.2 k).2 = v then [2 * (k : Int) + 1] else [])) := by
 unfold fV
 rw [show 2 * (k + 1) = 2 * k + 1 + 1 by omega, List.range_succ, List.range_succ]
 simp only [List.map_append, List.filter_append, List.map_cons, List.map_nil, List.append_assoc]
 congr 1
 have e1 : ((2 * k : Nat) : Int) = 2 * (k : Int) := by omega
 have e2 : ((2 * k + 1 : Nat) : Int) = 2 * (k : Int) + 1 := by omega
 rw [e1, e2]
 congr 1
 · by_cases h : (gI g.2 (k : Int)).1 = v
   · simp [iz, h]
   · simp [iz, h]
 · by_cases h : (gI g.2 (k : Int)).2 = v
   · simp [jd, h]
   · simp [jd, h]
theorem j9 (g : da) (v : Int) (k : Nat) : (fV g v k).length ≤ 2 * k := by
 unfold fV
 have := List.length_filter_le (fun h => decide (dE g h = v)) ((List.range (2 * k)).map (fun (i : Nat) => (i : Int)))
 simpa using this
end TL
namespace TL
theorem kb {α : Type} [Inhabited α] {l l' : List α} (hl : l.length = l'.length) (h : ∀ i : Nat, i < l.length → gI l i = gI l' i) : l = l' := by
 apply List.ext_getElem hl
 intro i h1 h2
 have := h i h1
 simpa [gI, h1, h2] using this
end TL
namespace TL
def k9 (x : List Int) (i : Nat) : Int := ((x.take i).drop 1).foldl min (gI x 0)
def dm (x : List Int) : Int := k9 x x.length
theorem iF {x : List Int} {i : Nat} (h1 : 1 ≤ i) (hi : (i : Int) < x.length) : (x.take (i + 1)).drop 1 = (x.take i).drop 1 ++ [gI x i] := by
 rw [bU hi, List.drop_append_of_le_length (by simp; omega)]
theorem mF {x : List Int} {i : Nat} (h1 : 1 ≤ i) (hi : (i : Int) < x.length) : k9 x (i + 1) = min (k9 x i) (gI x i) := by
 unfold k9; rw [iF h1 hi]; simp
end TL
namespace TL
end TL
namespace TL
section
variable {l0 l1 : Int} {F : Int × Int → Int} {g : da} {k : Nat}
end
end TL
/-
  TlNetSums: degrees' sum; all edges, all nodes; moved there and back.
  By an AI agent.
-/
set_option linter.all false
namespace TL
def fW (n : Nat) : List Int := (List.range n).map fun (i : Nat) => (i : Int)
theorem n5 (n : Nat) : (fW n).length = n := by simp [fW]
theorem mA (n : Nat) : fW (n + 1) = fW n ++ [(n : Int)] := by simp [fW, List.range_succ]
theorem jT {n : Nat} {x : Int} : x ∈ fW n ↔ 0 ≤ x ∧ x < n := by
 unfold fW
 rw [List.mem_map]
 constructor
 · rintro ⟨i, hi, rfl⟩
   have := List.mem_range.1 hi
   omega
 · rintro ⟨h1, h2⟩
   exact ⟨x.toNat, List.mem_range.2 (by omega), by omega⟩
theorem kU (n : Nat) : (fW n).Nodup := by
 induction n with
 | zero => simp [fW]
 | succ n ih =>
   rw [mA, List.nodup_append]
   refine ⟨ih, by simp, fun a ha b hb => ?_⟩
   have := jT.1 ha
   have := List.mem_singleton.1 hb
   omega
theorem nH : ∀ (n : Nat) (l : List Int), l.Nodup → (∀ x ∈ l, 0 ≤ x ∧ x < (n : Int)) → l.length ≤ n
 | 0, l, _, h => by
   cases l with
   | nil => simp
   | cons a l => have := h a (by simp); omega
 | n + 1, l, hn, h => by
   have h1 : (l.erase (n : Int)).Nodup := hn.erase _
   have h2 := nH n (l.erase (n : Int)) h1 (fun x hx => by
     have h3 := hn.mem_erase_iff.1 hx
     have := h x h3.2
     omega)
   by_cases hm : (n : Int) ∈ l
   · have := List.length_erase_of_mem hm
     omega
   · rw [List.erase_of_not_mem hm] at h2
     omega
end TL
/-
  TlRef3: what the document's own answer of layer 3 goes through.
  By an AI agent.
-/
set_option linter.all false
namespace TL
theorem nL {g : da} (hm : ci g) {h : Int} (h0 : 0 ≤ h) (h1 : h < 2 * (g.2.length : Int)) : 0 ≤ dE g h ∧ dE g h < g.1 := by
 have hok := hm.2.2.2 _ (bq (xs := g.2) (i := h / 2) (by omega) (by omega))
 unfold oJ at hok
 unfold dE pI
 split <;> omega
end TL
/-
  TlKeep: rows of an own list given away one by one while the list stays readable; rows with a mark behind each.
  By an AI agent.
-/
set_option linter.all false
namespace TL
open Go
def j3 (q i k : Nat) : c8 → Prop := fun c => c.1 = q ∨ (c.1 = i ∧ c.2 = 0) ∨ c.1 = k
theorem aO.l3 {L : List Nat} {q i k : Nat} {γ γ' : aP} {w w' : World} (h : aO (j3 q i k) γ w γ' w') (h1 : L.contains q = true) (h2 : L.contains i = true) (h3 : L.contains k = true) : aO (bR L) γ w γ' w' := h.mono fun c hc => by
 unfold bR
 rcases hc with hc | hc | hc
 · rw [hc]; exact h1
 · rw [hc.1]; exact h2
 · rw [hc]; exact h3
section
variable {P : Program} {w : World} {t t' : TypeId} {f : Fr} {x y : Operand} {dst : Option Tmp} {ty : TypeId} {pos : String} {after : Array Edge} {g : Option (Nat × Bool)} {N : Value → World → Prop} {α : Type} [Rp α] {γ : aP} {v u : Value} {xss : List (List α)} {l : List α} {i k j : Nat}
end
section
variable {α : Type} [Rp α] [Fl α] {γ γ' : aP} {w w' : World} {v : Value} {us : List Vc} {xss : List (List α)} {i k j q : Nat}
end
inductive Rw where
  | mk (l : List Int) (m : Int)
  | pl (l : List Int)
instance : Inhabited Rw := ⟨.pl []⟩
theorem mh {α : Type} [Rp α] {γ : aP} {S : c8 → Prop} {w : World} {v : Value} {xs : List α} {m : α} (h : Sl γ S w (tc v) (xs ++ [m])) : ∃ a l c, v = .slice a l c := by
 rcases h with ⟨_, h0⟩ | ⟨b, off, cap, hv, _⟩
 · simp at h0
 · cases v <;> simp [tc] at hv
   exact ⟨_, _, _, rfl⟩
def sn (γ : aP) (S : c8 → Prop) (w : World) (v : Value) : Rw → Prop
  | .mk l m => Sl γ S w (tc v) (l ++ [m])
  | .pl l => Sl γ S w v l
theorem sn.one {γ : aP} {S : c8 → Prop} {w : World} {v : Value} {x : Rw} (h : sn γ S w v x) : v.oneCell' = true := by
 cases x with
 | mk l m =>
   obtain ⟨a, b, c, rfl⟩ := mh h
   rfl
 | pl l =>
   rcases h with ⟨⟨_, rfl⟩, _⟩ | ⟨b, off, cap, rfl, _⟩ <;> rfl
theorem sn.tr {γ γ' : aP} {S S' : c8 → Prop} {w w' : World} {v : Value} {x : Rw} (hsz : w.heap.size ≤ w'.heap.size) (h : ∀ b, b < w.heap.size → S (γ b) → w'.heap[b]? = w.heap[b]? ∧ S' (γ' b)) (hx : sn γ S w v x) : sn γ' S' w' v x := by
 cases x with
 | mk l m => exact Sl.tr h hx hsz
 | pl l => exact Sl.tr h hx hsz
instance : Rp Rw where
 sz := 1
 rep γ S w cs x := ∃ v, cs = [v] ∧ sn γ S w v x
 len := by rintro _ _ _ _ _ ⟨v, rfl, _⟩; rfl
 one := by
   rintro _ _ _ _ _ ⟨v, rfl, h⟩ u hu
   obtain rfl : u = v := by simpa using hu
   exact h.one
 tr := by
   rintro _ _ _ _ _ _ _ _ hs h ⟨v, rfl, hv⟩
   exact ⟨v, rfl, hv.tr hs h⟩
section
variable {P : Program} {w : World} {t t' : TypeId} {f : Fr} {x y : Operand} {dst : Option Tmp} {ty : TypeId} {pos : String} {after : Array Edge} {g : Option (Nat × Bool)} {N : Value → World → Prop} {γ : aP} {v u : Value} {xss : List (List Int)} {l : List Int} {i : Nat}
end
end TL
/-
  TlEq: structs compared; a pointer looked at for nil; a bit turned.
  By an AI agent.
-/
set_option linter.all false
namespace TL
open Go
section
variable {P : Program} {f : Fr} {w : World} {dst : Option Tmp} {ty : TypeId} {pos : String} {after : Array Edge} {g : Option (Nat × Bool)} {t t' e : TypeId} {x y : Operand}
theorem aE {a : Addr} (hx : ev f x = .pointer (some a)) : (execOp (ev f) ⟨dst, .nilCheck x, ty, pos, after, g⟩).run P w = .ok (.value (.pointer (some a))) w := by
 simp only [execOp, hx, Sem.run_pure]
inductive EqV (P : Program) (t : TypeId) : Value → Value → Bool → Prop
 | int {a b : Int} (h : P.underlying t = some (.int .i64)) : EqV P t (.int .i64 a) (.int .i64 b) (decide (a = b))
 | bool {a b : Bool} (h : P.underlying t = some .bool) : EqV P t (.bool a) (.bool b) (decide (a = b))
inductive EqF (P : Program) (xs ys : Array Value) : List Field → List Bool → Prop
 | nil : EqF P xs ys [] []
 | cons {fd : Field} {fs : List Field} {bs : List Bool} {a b z : Value} {r : Bool} {size bytes : Nat} (hn : (fd.name != "_") = true) (he : Tp P fd.type false size bytes z) (ha : xs[fd.offset]? = some a) (hb : ys[fd.offset]? = some b) (hq : EqV P fd.type a b r) (hr : EqF P xs ys fs bs) : EqF P xs ys (fd :: fs) (r :: bs)
theorem fc {xs ys : Array Value} {fs : List Field} {bs : List Bool} (h : EqF P xs ys fs bs) (d : Nat) : (Op.eqFields (d + 1) xs ys fs).run P w = .ok (bs.all id) w := by
 induction h with
 | nil => simp [Op.eqFields, Sem.run_pure]
 | @cons fd fs bs a b z r size bytes hn he ha hb hq hr ih =>
   have hn' : fd.name ≠ "_" := by simpa using hn
   have h1 := fo (P := P) (w := w) he ha
   have h2 := fo (P := P) (w := w) he hb
   have h3 : (Op.equalIn (d + 1) fd.type a b).run P w = .ok r w := by
     cases hq with
     | int h => simp [Op.equalIn, aZ h, Sem.run_pure]; rfl
     | bool h => simp [Op.equalIn, aZ h, Sem.run_pure]; rfl
   simp only [Op.eqFields, if_pos hn', Sem.run_bind, h1, h2, h3, Result.andThen_ok]
   cases r with
   | true => simp [ih]
   | false => simp [Sem.run_pure]
theorem dI {fs : Array Field} {xs ys : List Value} {bs : List Bool} {q : Bool} (ht : P.underlying t = some (.struct fs)) (hp : P.stoodInHeld t = false) (hg : P.eqGuardType P.depth t = false) (hx : ev f x = .agg xs.toArray) (hy : ev f y = .agg ys.toArray) (h : EqF P xs.toArray ys.toArray fs.toList bs) (hq : bs.all id = q) :
   (execOp (ev f) ⟨dst, .binOp .eql t x y t', ty, pos, after, g⟩).run P w = .ok (.value (.bool q)) w := by
 have e1 : P.fieldsOf t = fs := by simp [Program.fieldsOf, ht]
 have hr : (Op.equal t (.agg xs.toArray) (.agg ys.toArray)).run P w = .ok q w := by
   have := run_equalIn_struct (P := P) w 9999 t xs.toArray ys.toArray (by rw [e1]; exact ht) hp
   rw [e1, fc h 9998, hq] at this
   exact this
 exact rj .eql hx hy (by simp [eqGuard, hg]) (by simp [binOp, hr])
end
end TL
namespace TL
open Go
section
variable {P : Program} {f : Fr} {w : World} {dst : Option Tmp} {ty : TypeId} {pos : String} {after : Array Edge} {g : Option (Nat × Bool)} {t : TypeId} {x : Operand}
end
end TL
namespace TL
open Go
section
variable {P : Program} {f : Fr} {w : World} {dst : Option Tmp} {ty : TypeId} {pos : String} {after : Array Edge} {g : Option (Nat × Bool)} {t t' : TypeId} {x y : Operand} {m n : Int}
end
end TL
namespace TL
open Go
theorem sD {f : Fr} {x : Operand} {xs : List Operand} {v : Value} {vs : List Value} (h : ev f x = v) (h2 : xs.map (ev f) = vs) : (x :: xs).map (ev f) = v :: vs := by subst h h2; rfl
end TL
/-
  TlRot: rotations: which may be, turned to their iI, faces.
  By an AI agent.
-/
set_option linter.all false
namespace TL
abbrev dQ := List (List Int)
def gZ (g : da) (r : dQ) : Prop := (r.length : Int) = g.1 ∧ (∀ v : Nat, v < r.length → ∀ h ∈ gI r (v : Int), (0 ≤ h ∧ h < 2 * (g.2.length : Int)) ∧ dE g h = v) ∧ r.flatten.Nodup ∧ (r.flatten.length : Int) = 2 * g.2.length
instance (g : da) (r : dQ) : Decidable (gZ g r) := by unfold gZ; infer_instance
def cr (g : da) (r : dQ) : Int := if ci g then if gZ g r then 0 else 4 else 1
theorem oV {g : da} {r : dQ} (h : cr g r = 0) : ci g ∧ gZ g r := by
 unfold cr at h
 by_cases h1 : ci g
 · by_cases h2 : gZ g r
   · exact ⟨h1, h2⟩
   · rw [if_pos h1, if_neg h2] at h; cases h
 · rw [if_neg h1] at h; cases h
theorem kd {g : da} {r : dQ} (h1 : ci g) (h2 : gZ g r) : cr g r = 0 := by unfold cr; rw [if_pos h1, if_pos h2]
theorem fG {g : da} {r : dQ} (h1 : ci g) (h2 : ¬ gZ g r) : cr g r = 4 := by unfold cr; rw [if_pos h1, if_neg h2]
theorem nb {n : Int} {l : List Int} (h0 : 0 ≤ n) (hn : l.Nodup) (h : ∀ x ∈ l, 0 ≤ x ∧ x < n) : (l.length : Int) ≤ n := by
 have := nH n.toNat l hn (fun x hx => by have := h x hx; omega)
 omega
theorem eA {r : dQ} {k : Nat} (hk : (k : Int) < r.length) : (r.take (k + 1)).flatten = (r.take k).flatten ++ gI r (k : Int) := by
 rw [bU hk]; simp
structure eR (seen : List Bool) (P : List Int) (n : Int) : Prop where
  len : (seen.length : Int) = n
  seen : ∀ h, 0 ≤ h → h < n → gI seen h = decide (h ∈ P)
  nodup : P.Nodup
  rng : ∀ h ∈ P, 0 ≤ h ∧ h < n
theorem eR.start {n : Int} (hn : 0 ≤ n) : eR (List.replicate n.toNat false) [] n :=
 ⟨by simp; omega, fun h h0 h1 => by rw [nw h0 (by omega)]; simp, by simp, by simp⟩
theorem eR.next {seen : List Bool} {P : List Int} {n h : Int} (hi : eR seen P n) (h0 : 0 ≤ h) (h1 : h < n) (hs : gI seen h = false) : eR (seen.set h.toNat true) (P ++ [h]) n := by
 have hl := hi.len
 have hn : h ∉ P := by
   have := hi.seen h h0 h1
   rw [hs] at this
   simpa using this.symm
 refine ⟨by simpa using hl, fun x hx0 hx1 => ?_, ?_, fun x hx => ?_⟩
 · rw [hY h0 (by omega) hx0]
   by_cases e : x = h
   · subst e; simp
   · rw [if_neg e, hi.seen x hx0 hx1]; simp [e]
 · rw [List.nodup_append]
   refine ⟨hi.nodup, by simp, fun a ha b hb => ?_⟩
   obtain rfl := List.mem_singleton.1 hb
   intro e; subst e; exact hn ha
 · rcases List.mem_append.1 hx with hx | hx
   · exact hi.rng x hx
   · obtain rfl := List.mem_singleton.1 hx; exact ⟨h0, h1⟩
theorem eR.bd {seen : List Bool} {P : List Int} {n : Int} (hi : eR seen P n) : (P.length : Int) ≤ n := nb (by have := hi.len; omega) hi.nodup hi.rng
theorem eR.mem {seen : List Bool} {P : List Int} {n h : Int} (hi : eR seen P n) (h0 : 0 ≤ h) (h1 : h < n) (hs : gI seen h = true) : h ∈ P := by
 have := hi.seen h h0 h1
 rw [hs] at this
 simpa using this.symm
structure cJ (seen : List Bool) (n : Int) (g : da) (r : dQ) (k i : Nat) : Prop where
  rm : eR seen ((r.take k).flatten ++ (gI r (k : Int)).take i) (2 * (g.2.length : Int))
  n : n = (((r.take k).flatten ++ (gI r (k : Int)).take i).length : Int)
  ok : ∀ v : Nat, v < k → ∀ h ∈ gI r (v : Int), (0 ≤ h ∧ h < 2 * (g.2.length : Int)) ∧ dE g h = v
  row : ∀ h ∈ (gI r (k : Int)).take i, (0 ≤ h ∧ h < 2 * (g.2.length : Int)) ∧ dE g h = k
theorem cJ.start (g : da) (r : dQ) : cJ (List.replicate (2 * (g.2.length : Int)).toNat false) 0 g r 0 0 :=
 ⟨by simpa using eR.start (n := 2 * (g.2.length : Int)) (by omega), by simp, fun v hv => by omega, by simp⟩
section
variable {seen : List Bool} {n : Int} {g : da} {r : dQ} {k i : Nat}
theorem cJ.bd (h : cJ seen n g r k i) : 0 ≤ n ∧ n ≤ 2 * (g.2.length : Int) := by
 have h1 := h.rm.bd
 rw [h.n]
 exact ⟨by omega, h1⟩
theorem cJ.next (h : cJ seen n g r k i) (hi : (i : Int) < (gI r (k : Int)).length) (h0 : 0 ≤ gI (gI r (k : Int)) (i : Int)) (h1 : gI (gI r (k : Int)) (i : Int) < 2 * (g.2.length : Int)) (hs : gI seen (gI (gI r (k : Int)) (i : Int)) = false) (hf : dE g (gI (gI r (k : Int)) (i : Int)) = k) :
   cJ (seen.set (gI (gI r (k : Int)) (i : Int)).toNat true) (n + 1) g r k (i + 1) := by
 have e := bU hi
 refine ⟨?_, ?_, h.ok, fun x hx => ?_⟩
 · rw [e, ← List.append_assoc]; exact h.rm.next h0 h1 hs
 · rw [e, ← List.append_assoc, List.length_append, h.n]; simp
 · rw [e] at hx
   rcases List.mem_append.1 hx with hx | hx
   · exact h.row x hx
   · obtain rfl := List.mem_singleton.1 hx; exact ⟨⟨h0, h1⟩, hf⟩
theorem cJ.row_done (h : cJ seen n g r k i) (hk : (k : Int) < r.length) (hi : ¬ (i : Int) < (gI r (k : Int)).length) : cJ seen n g r (k + 1) 0 := by
 have e : (gI r (k : Int)).take i = gI r (k : Int) := List.take_of_length_le (by omega)
 have h1 := h.rm
 have h2 := h.n
 have h3 := h.row
 rw [e] at h1 h2 h3
 refine ⟨by rw [eA hk]; simpa using h1, by rw [eA hk]; simpa using h2, fun v hv x hx => ?_, by simp⟩
 by_cases hvk : v = k
 · subst hvk; exact h3 x hx
 · exact h.ok v (by omega) x hx
theorem cJ.bad (h : cJ seen n g r k i) (hk : (k : Int) < r.length) (hi : (i : Int) < (gI r (k : Int)).length) (hb : ¬ ((0 ≤ gI (gI r (k : Int)) (i : Int) ∧ gI (gI r (k : Int)) (i : Int) < 2 * (g.2.length : Int)) ∧ dE g (gI (gI r (k : Int)) (i : Int)) = k)) : ¬ gZ g r := fun hr =>
 hb (hr.2.1 k (by omega) _ (bq (by omega) hi))
theorem cJ.twice (h : cJ seen n g r k i) (hk : (k : Int) < r.length) (hi : (i : Int) < (gI r (k : Int)).length) (h0 : 0 ≤ gI (gI r (k : Int)) (i : Int)) (h1 : gI (gI r (k : Int)) (i : Int) < 2 * (g.2.length : Int)) (hs : gI seen (gI (gI r (k : Int)) (i : Int)) = true) : ¬ gZ g r := fun hr => by
 have hm := h.rm.mem h0 h1 hs
 have hn := hr.2.2.1
 have hsub : List.Sublist ((r.take k).flatten ++ (gI r (k : Int)).take i ++ [gI (gI r (k : Int)) (i : Int)]) r.flatten := by
   rw [List.append_assoc, ← bU hi]
   have e1 : r = r.take (k + 1) ++ r.drop (k + 1) := (List.take_append_drop _ _).symm
   have e2 : r.flatten = (r.take (k + 1)).flatten ++ (r.drop (k + 1)).flatten := by rw [← List.flatten_append, ← e1]
   rw [e2, eA hk]
   exact (List.Sublist.append_left (List.take_sublist _ _) _).trans (List.sublist_append_left _ _)
 have := hn.sublist hsub
 rw [List.nodup_append] at this
 exact this.2.2 _ hm _ (by simp) rfl
theorem cJ.fin (h : cJ seen n g r k i) (hl : (r.length : Int) = g.1) (hk : k = r.length) (hi : i = 0) : gZ g r ↔ n = 2 * (g.2.length : Int) := by
 subst hk hi
 have h1 := h.rm
 have h2 := h.n
 simp only [List.take_zero, List.append_nil, List.take_length] at h1 h2
 rw [h2]
 exact ⟨fun hr => hr.2.2.2, fun e => ⟨hl, h.ok, h1.nodup, e⟩⟩
end
def iJ (l : List Int) : List Int := if l = [] then [] else l.drop (l.idxOf (dm l)) ++ l.take (l.idxOf (dm l))
def ew (r : dQ) : dQ := r.map iJ
def cY (s : List Int) (v : Int) : Int := if v ∈ s then (s.idxOf v : Int) else -1
theorem mO {s : List Int} {v : Int} {i : Nat} (h : ∀ j : Nat, j < i → ¬ v = gI s (j : Int)) (hi : (i : Int) < s.length) (he : v = gI s (i : Int)) : (i : Int) = cY s v := by
 have hlt : i < s.length := by omega
 have e : gI s (i : Int) = s[i] := by simp [gI, hlt]
 have hm : v ∈ s := by rw [he]; exact bq (by omega) hi
 unfold cY
 rw [if_pos hm]
 have hlt2 := List.idxOf_lt_length_iff.2 hm
 have h1 : ¬ s.idxOf v < i := fun hlt' => h _ hlt' (by simp [gI, hlt2])
 have h2 : ¬ i < s.idxOf v := fun hlt' => by
   have := List.not_of_lt_findIdx (xs := s) (p := (· == v)) (i := i) hlt'
   simp at this
   exact this (by rw [← e, ← he])
 omega
theorem qS {s : List Int} {v : Int} {i : Nat} (h : ∀ j : Nat, j < i → ¬ v = gI s (j : Int)) (hi : ¬ (i : Int) < s.length) : (-1 : Int) = cY s v := by
 unfold cY
 rw [if_neg]
 intro hm
 obtain ⟨j, hj, e⟩ := List.mem_iff_getElem.1 hm
 exact h j (by omega) (by simp [gI, hj, e])
theorem fU : ∀ (l : List Int) (a : Int), l.foldl min a = a ∨ l.foldl min a ∈ l
 | [], a => .inl rfl
 | x :: l, a => by
   simp only [List.foldl_cons]
   rcases fU l (min a x) with h | h
   · rw [h]
     rcases Int.le_total a x with h1 | h1
     · rw [Int.min_eq_left h1]; exact .inl rfl
     · rw [Int.min_eq_right h1]; exact .inr (by simp)
   · exact .inr (by simp [h])
theorem pF {l : List Int} (hl : l ≠ []) : dm l = (l.drop 1).foldl min (gI l 0) := by
 unfold dm k9; rw [List.take_length]
theorem nE {l : List Int} (hl : l ≠ []) : dm l ∈ l := by
 rw [pF hl]
 cases l with
 | nil => exact absurd rfl hl
 | cons a l =>
   simp only [List.drop_succ_cons, List.drop_zero]
   rcases fU l (gI (a :: l) 0) with h | h
   · rw [h]; simp [gI]
   · exact List.mem_cons_of_mem _ h
theorem mt {l : List Int} (hl : l ≠ []) : iJ l = l.drop (cY l (dm l)).toNat ++ l.take (cY l (dm l)).toNat ∧ 0 ≤ cY l (dm l) ∧ cY l (dm l) < l.length := by
 have hm := nE hl
 unfold iJ cY
 rw [if_neg hl, if_pos hm]
 have := List.idxOf_lt_length_iff.2 hm
 exact ⟨by simp, by omega, by omega⟩
end TL
namespace TL
theorem n8 {α β : Type} [Inhabited α] {f : α → β} {r : List α} {k : Nat} {d y : β} (hk : (k : Int) < r.length) (hy : y = f (gI r (k : Int))) : (List.map f (List.take k r) ++ List.replicate (r.length - k) d).set (k : Int).toNat y = List.map f (List.take (k + 1) r) ++ List.replicate (r.length - (k + 1)) d := by
 have hl : (List.map f (List.take k r)).length = k := by simp; omega
 have e : r.length - k = (r.length - (k + 1)) + 1 := by omega
 rw [e, List.replicate_succ, bU hk, List.map_append, hy]
 simp only [Int.toNat_natCast]
 rw [List.set_append_right _ _ (by omega), hl]
 simp
theorem oC {α β : Type} [Inhabited α] {f : α → β} {r : List α} {k : Nat} {d : β} (hk : (k : Int) < r.length) (hy : f (gI r (k : Int)) = d) : (List.map f (List.take k r) ++ List.replicate (r.length - k) d) = List.map f (List.take (k + 1) r) ++ List.replicate (r.length - (k + 1)) d := by
 have e : r.length - k = (r.length - (k + 1)) + 1 := by omega
 rw [e, List.replicate_succ, bU hk, List.map_append, List.map_cons, hy]
 simp
end TL
/-
  TlShort: short names for the commonest steps (used by packed claims only).
  By an AI agent.
-/
set_option linter.all false
namespace TL
open Go
abbrev vi (x : Int) : Value := Value.int .i64 x
abbrev vp (b o : Nat) : Value := Value.pointer (some ⟨b, o, none⟩)
abbrev vn : Value := Value.slice none 0 0
abbrev vt (l : List Value) : Value := Value.tuple (List.toArray l)
abbrev vg (l : List Value) : Value := Value.agg (List.toArray l)
theorem cg (L : List Nat) {γ γ' : aP} {w w' : World} (h : aO (bR L) γ w γ' w') : aO (bR L) γ w γ' w' := h
theorem dt {p : Prop} [Decidable p] (h : p) : decide p = true := decide_eq_true h
theorem df {p : Prop} [Decidable p] (h : ¬ p) : decide p = false := decide_eq_false h
section
variable {P : Program} {all rest : List Oper} {K : Fr → World → Prop} {f : Fr} {w w' : World} {x : Operand}
variable {dst : Option Tmp} {op : Op} {ty : TypeId} {pos : String} {after : Array Edge} {g : Option (Nat × Bool)} {o : Oper}
theorem lv (v : Value) (hw : cq all ⟨dst, op, ty, pos, after, g⟩ f = true) (h : (execOp (ev f) ⟨dst, op, ty, pos, after, g⟩).run P w = .ok (.value v) w') (hk : fX P all rest K (eV f dst v) w') : fX P all (⟨dst, op, ty, pos, after, g⟩ :: rest) K f w := i4 hw h hk
theorem lx {v : Value} (h : (execOp (ev f) ⟨dst, op, ty, pos, after, none⟩).run P w = .ok (.value v) w') (hk : fX P all rest K (eV f dst v) w') : fX P all (⟨dst, op, ty, pos, after, none⟩ :: rest) K f w := i4 rfl h hk
theorem lw (v : Value) (h : (execOp (ev f) ⟨dst, op, ty, pos, after, none⟩).run P w = .ok (.value v) w') (hk : fX P all rest K (eV f dst v) w') : fX P all (⟨dst, op, ty, pos, after, none⟩ :: rest) K f w := i4 rfl h hk
theorem mv (v : Value) (hk : fX P all rest K (eV f dst v) w) (h : ev f x = v := by exact rfl) : fX P all (⟨dst, .move x, ty, pos, after, none⟩ :: rest) K f w := i4 rfl (aI h) hk
theorem ma (v : Value) (hk : fX P all rest K (eV f dst v) w) (h : ev f x = v := by exact rfl) : fX P all (⟨dst, .assign x, ty, pos, after, none⟩ :: rest) K f w := i4 rfl (bP h) hk
theorem mi (v : Int) (hk : fX P all rest K (eV f dst (.int .i64 v)) w) (h : ev f x = .int .i64 v := by exact rfl) : fX P all (⟨dst, .move x, ty, pos, after, none⟩ :: rest) K f w := i4 rfl (aI h) hk
theorem ai (v : Int) (hk : fX P all rest K (eV f dst (.int .i64 v)) w) (h : ev f x = .int .i64 v := by exact rfl) : fX P all (⟨dst, .assign x, ty, pos, after, none⟩ :: rest) K f w := i4 rfl (bP h) hk
theorem mz {v : Value} (h : ev f x = v) (hk : fX P all rest K (eV f dst v) w) : fX P all (⟨dst, .move x, ty, pos, after, none⟩ :: rest) K f w := i4 rfl (aI h) hk
theorem lo (h : eU P ⟨dst, op, ty, pos, after, none⟩ f w (fun v w' => fX P all rest K (eV f dst v) w')) : fX P all (⟨dst, op, ty, pos, after, none⟩ :: rest) K f w := bY rfl h
theorem wy {j : Nat} {x : Bool} {d : Nat} {b : Bool} (hx : b = x) (hg : o.guard = some (j, x) := by exact rfl) (hj : (all[j]?).bind (·.dst) = some d := by exact rfl) (hb : f d = .bool b := by exact rfl) : cq all o f = true := s8 hg hj hb hx
theorem wn {j : Nat} {x : Bool} {d : Nat} {b : Bool} (hx : b = !x) (hg : o.guard = some (j, x) := by exact rfl) (hj : (all[j]?).bind (·.dst) = some d := by exact rfl) (hb : f d = .bool b := by exact rfl) : cq all o f = false := rK hg hj hb hx
variable {C : World → Prop} {KQ : Fr → Prop}
theorem qv (v : Value) (h : ∀ w, C w → (execOp (ev f) ⟨dst, op, ty, pos, after, none⟩).run P w = .ok (.value v) w) (hk : iq P all C rest KQ (eV f dst v)) : iq P all C (⟨dst, op, ty, pos, after, none⟩ :: rest) KQ f := b6 rfl h hk
theorem qx {v : Value} (h : ∀ w, C w → (execOp (ev f) ⟨dst, op, ty, pos, after, none⟩).run P w = .ok (.value v) w) (hk : iq P all C rest KQ (eV f dst v)) : iq P all C (⟨dst, op, ty, pos, after, none⟩ :: rest) KQ f := b6 rfl h hk
theorem qm (v : Value) (hk : iq P all C rest KQ (eV f dst v)) (h : ev f x = v := by exact rfl) : iq P all C (⟨dst, .move x, ty, pos, after, none⟩ :: rest) KQ f := b6 rfl (fun _ _ => aI h) hk
theorem qz {v : Value} (h : ev f x = v) (hk : iq P all C rest KQ (eV f dst v)) : iq P all C (⟨dst, .move x, ty, pos, after, none⟩ :: rest) KQ f := b6 rfl (fun _ _ => aI h) hk
end
section
variable {P : Program} {n : Nat} {l : List Oper} {S : World → Prop} {K : Fr → World → Prop} {f : Fr} {w : World} {done : List Nat} {fuel : Nat} {qs : List Nat}
variable {dst : Option Tmp} {op : Op} {ty : TypeId} {pos : String} {after : Array Edge} {g : Option (Nat × Bool)} {v : Value}
theorem ht (i : Nat) (hi : l[i]? = some ⟨dst, op, ty, pos, after, none⟩) (hS : S w) (h : ∀ w, S w → (execOp (ev f) ⟨dst, op, ty, pos, after, none⟩).run P w = .ok (.value v) w) (hk : mL P n l S K fuel (i :: done) (eV f dst v) w) (hn : f9 l = true := by kernel_rfl) (hc : (eM l done i && fY l done i && iV n ⟨dst, op, ty, pos, after, none⟩) = true := by kernel_rfl) : mL P n l S K (fuel + 1) done f w := rp i hi hn hc rfl hS h hk
theorem xv (i : Nat) (M : List Nat) (hi : l[i]? = some ⟨dst, op, ty, pos, after, none⟩) (h : (execOp (ev f) ⟨dst, op, ty, pos, after, none⟩).run P w = .ok (.value v) w) (hk : jg P n l qs K fuel (i :: done) (eV f dst v) w) (hn : f9 l = true := by kernel_rfl) (hc : (qs.contains i && eM l done i && fY l done i && jF l qs done M i && iV n ⟨dst, op, ty, pos, after, none⟩) = true := by kernel_rfl) : jg P n l qs K (fuel + 1) done f w := sJ i M hi hn hc rfl h hk
theorem xh (i : Nat) (M : List Nat) (hi : l[i]? = some ⟨dst, op, ty, pos, after, none⟩) (h : ∀ w', cQ w.heap.size w w' → (execOp (ev f) ⟨dst, op, ty, pos, after, none⟩).run P w' = .ok (.value v) w') (hk : jg P n l qs K fuel (i :: done) (eV f dst v) w) (hn : f9 l = true := by kernel_rfl) (hc : (qs.contains i && eM l done i && fY l done i && jA l qs done M i && iV n ⟨dst, op, ty, pos, after, none⟩) = true := by kernel_rfl) : jg P n l qs K (fuel + 1) done f w := rF i M hi hn hc rfl h hk
theorem xp (i : Nat) (hi : l[i]? = some ⟨dst, op, ty, pos, after, none⟩) (h : ∀ w, (execOp (ev f) ⟨dst, op, ty, pos, after, none⟩).run P w = .ok (.value v) w) (hk : jg P n l qs K fuel (i :: done) (eV f dst v) w) (hn : f9 l = true := by kernel_rfl) (hc : (qs.contains i && eM l done i && fY l done i && iV n ⟨dst, op, ty, pos, after, none⟩) = true := by kernel_rfl) : jg P n l qs K (fuel + 1) done f w := rB i hi hn hc rfl h hk
end
section
variable {γ γ' : aP} {w w' : World} {v : Value} {j k : Nat} {L : List Nat}
theorem bf.ca {w0 : World} (h : bf w0 γ w) (hc : aO (bR L) γ w γ' w') (hj : L.contains 0 = false := by exact rfl) : bf w0 γ' w' := h.chg hc (bB hj)
theorem bf.ce {w0 : World} (h : bf w0 γ w) (hc : aO (is k) γ w γ' w') (hj : Nat.beq 0 k = false := by exact rfl) : bf w0 γ' w' := h.chg hc (ex hj)
theorem bf.cn {w0 : World} (h : bf w0 γ w) (hc : aO no γ w γ' w') : bf w0 γ' w' := h.chg hc (fu _)
theorem Bx.ca {b : Nat} {cs : List Value} (h : Bx γ (is j) w b cs) (hc : aO (bR L) γ w γ' w') (hj : L.contains j = false := by exact rfl) : Bx γ' (is j) w' b cs := h.chg hc (bB hj)
theorem Bx.ce {b : Nat} {cs : List Value} (h : Bx γ (is j) w b cs) (hc : aO (is k) γ w γ' w') (hj : Nat.beq j k = false := by exact rfl) : Bx γ' (is j) w' b cs := h.chg hc (ex hj)
theorem Bx.cn {J : c8 → Prop} {b : Nat} {cs : List Value} (h : Bx γ J w b cs) (hc : aO no γ w γ' w') : Bx γ' J w' b cs := h.chg hc (fu _)
theorem Sl.ca {α : Type} [Rp α] {xs : List α} (h : Sl γ (is j) w v xs) (hc : aO (bR L) γ w γ' w') (hj : L.contains j = false := by exact rfl) : Sl γ' (is j) w' v xs := h.chg hc (bB hj)
theorem Sl.ce {α : Type} [Rp α] {xs : List α} (h : Sl γ (is j) w v xs) (hc : aO (is k) γ w γ' w') (hj : Nat.beq j k = false := by exact rfl) : Sl γ' (is j) w' v xs := h.chg hc (ex hj)
theorem Sl.cn {α : Type} [Rp α] {S : c8 → Prop} {xs : List α} (h : Sl γ S w v xs) (hc : aO no γ w γ' w') : Sl γ' S w' v xs := h.chg hc (fu _)
theorem Ow.ca {α : Type} [Rp α] {xs : List α} (h : Ow γ (is j) (is j) w v xs) (hc : aO (bR L) γ w γ' w') (hj : L.contains j = false := by exact rfl) : Ow γ' (is j) (is j) w' v xs := h.chg hc (bB hj) (bB hj)
theorem Ow.ce {α : Type} [Rp α] {xs : List α} (h : Ow γ (is j) (is j) w v xs) (hc : aO (is k) γ w γ' w') (hj : Nat.beq j k = false := by exact rfl) : Ow γ' (is j) (is j) w' v xs := h.chg hc (ex hj) (ex hj)
theorem Ow.cn {α : Type} [Rp α] {J S : c8 → Prop} {xs : List α} (h : Ow γ J S w v xs) (hc : aO no γ w γ' w') : Ow γ' J S w' v xs := h.chg hc (fu _) (fu _)
theorem dJ.ca {α : Type} [Rp α] {xs : List (List α)} (h : dJ γ j w v xs) (hc : aO (bR L) γ w γ' w') (hj : L.contains j = false := by exact rfl) : dJ γ' j w' v xs := h.chg hc (bB hj)
theorem dJ.ce {α : Type} [Rp α] {xs : List (List α)} (h : dJ γ j w v xs) (hc : aO (is k) γ w γ' w') (hj : Nat.beq j k = false := by exact rfl) : dJ γ' j w' v xs := h.chg hc (ex hj)
theorem dJ.cn {α : Type} [Rp α] {xs : List (List α)} (h : dJ γ j w v xs) (hc : aO no γ w γ' w') : dJ γ' j w' v xs := h.chg hc (fu _)
theorem eK.ca {α : Type} [Rp α] {h0 : Nat} {xs : List (List α)} (h : eK γ j h0 w v xs) (hc : aO (bR L) γ w γ' w') (hj : L.contains j = false := by exact rfl) : eK γ' j h0 w' v xs := h.chg hc (bB hj)
theorem eK.ce {α : Type} [Rp α] {h0 : Nat} {xs : List (List α)} (h : eK γ j h0 w v xs) (hc : aO (is k) γ w γ' w') (hj : Nat.beq j k = false := by exact rfl) : eK γ' j h0 w' v xs := h.chg hc (ex hj)
theorem eK.cn {α : Type} [Rp α] {h0 : Nat} {xs : List (List α)} (h : eK γ j h0 w v xs) (hc : aO no γ w γ' w') : eK γ' j h0 w' v xs := h.chg hc (fu _)
def sW (δ g : aP) (w : World) (ren : Nat → Nat) : Prop := (∀ {α : Type} [Rp α] {i : Nat} {v : Value} {xs : List α}, Ow δ (is i) (is i) w v xs → ∀ k : Nat, Nat.beq i 0 = false → ren i = k → Ow g (is k) (is k) w v xs) ∧ (∀ {α : Type} [Rp α] {i : Nat} {v : Value} {xs : List (List α)}, dJ δ i w v xs → ∀ k : Nat, Nat.beq i 0 = false → ren i = k → dJ g k w v xs)
theorem m6 {δ : aP} (γ : aP) (fr : fB w δ w') (ren : Nat → Nat) : ∃ g, aO no γ w g w' ∧ sW δ g w' ren :=
 ⟨_, n9 fr.below γ δ ren, fun h k hi hr => h.glue fr.col hi hr, fun h k hi hr => h.glue fr.col hi hr⟩
theorem Ow.gl {α : Type} [Rp α] {δ g : aP} {ren : Nat → Nat} {i : Nat} {xs : List α} (h : Ow δ (is i) (is i) w v xs) (G : sW δ g w ren) (k : Nat) (hi : Nat.beq i 0 = false := by exact rfl) (hr : ren i = k := by exact rfl) : Ow g (is k) (is k) w v xs := G.1 h k hi hr
theorem dJ.gl {α : Type} [Rp α] {δ g : aP} {ren : Nat → Nat} {i : Nat} {xs : List (List α)} (h : dJ δ i w v xs) (G : sW δ g w ren) (k : Nat) (hi : Nat.beq i 0 = false := by exact rfl) (hr : ren i = k := by exact rfl) : dJ g k w v xs := G.2 h k hi hr
end
end TL
/-
  TlMap: maps that the call makes.
  By an AI agent.
-/
set_option linter.all false
namespace TL
open Go
class Ky (K : Type) where
  val : K → Value
structure ls (P : Program) (kt : TypeId) (K : Type) [DecidableEq K] [Ky K] : Prop where
 check : ∀ (b : Bool) (k : K) (w : World), (Instr.checkKey b 10000 kt (Ky.val k)).run P w = .ok () w
 find : ∀ (k : K) (es : List MapEntry) (ks : List K) (w : World), es.map (·.key) = ks.map Ky.val → (Instr.findKey kt (Ky.val k) es).run P w = .ok ((ks.findIdx? (· = k)).bind fun i => (es[i]?).map fun e => (i, e.val)) w
 bits : ∀ k : K, Instr.sameBits 10000 (Ky.val k) (Ky.val k) = true
section
variable {P : Program} {f : Fr} {w : World} {dst : Option Tmp} {ty : TypeId} {pos : String} {after : Array Edge} {g : Option (Nat × Bool)} {t : TypeId} {x y z : Operand} {N : Value → World → Prop}
theorem dj {r : Nat} {es : Array MapEntry} {clock : Nat} (h : w.heap[r]? = some (.map es clock)) : (getObj r).run P w = .ok (.map es clock) w := by
 simp [getObj, Sem.run, h]
theorem em {r : Nat} {es : Array MapEntry} {clock : Nat} {o : Obj} (h : w.heap[r]? = some (.map es clock)) : (setObj r o).run P w = .ok () { w with heap := w.heap.setIfInBounds r o } := by
 simp [setObj, Sem.run, h]
theorem gc (γ : aP) {r : Nat} (o : Obj) {J : c8 → Prop} (hJ : J (γ r)) : aO J γ w γ { w with heap := w.heap.setIfInBounds r o } :=
 ⟨rfl, rfl, rfl, by simp, fun _ _ _ => rfl, fun k _ hk => by
   have : r ≠ k := fun h => hk (h ▸ hJ)
   simp [Array.getElem?_setIfInBounds_ne this], Nat.le_refl _⟩
theorem fv {r : Nat} {o o' : Obj} (h : w.heap[r]? = some o') : ({ w with heap := w.heap.setIfInBounds r o } : World).heap[r]? = some o := by
 have := cu h
 simp [this]
end
instance : Ky Int where
 val k := .int .i64 k
instance : Ky (Int × Int) where
 val k := .agg (List.toArray [.int .i64 k.1, .int .i64 k.2])
end TL
namespace TL
open Go
end TL
/-
  TlGeom: points with whole coordinates: turns, segments, how they meet.
  By an AI agent.
-/
set_option linter.all false
namespace TL
abbrev Pt := Int × Int
def bE (x y : Int) : Int := if x < y then -1 else if y < x then 1 else 0
def dh (a b : Pt) : Int := a.1 * b.2 - a.2 * b.1
def aS (b a : Pt) : Pt := (b.1 - a.1, b.2 - a.2)
def bw (a b c : Pt) : Int := bE (dh (aS b a) (aS c a)) 0
theorem im (a b c : Pt) : -1 ≤ bw a b c ∧ bw a b c ≤ 1 := by unfold bw bE; split <;> (try split) <;> omega
def jn (a b p : Pt) : Prop := (min a.1 b.1 ≤ p.1 ∧ p.1 ≤ max a.1 b.1) ∧ min a.2 b.2 ≤ p.2 ∧ p.2 ≤ max a.2 b.2
instance (a b p : Pt) : Decidable (jn a b p) := by unfold jn; infer_instance
def bD (a b p : Pt) : Prop := bw a b p = 0 ∧ jn a b p
instance (a b p : Pt) : Decidable (bD a b p) := by unfold bD; infer_instance
def aM (a b : Pt) : Int := if bE a.1 b.1 ≠ 0 then bE a.1 b.1 else bE a.2 b.2
def aX (a b c d : Pt) : Int :=
 let a' := if 0 < aM a b then b else a
 let b' := if 0 < aM a b then a else b
 let c' := if 0 < aM c d then d else c
 let d' := if 0 < aM c d then c else d
 let low := if 0 < aM c' a' then c' else a'
 let high := if aM d' b' < 0 then d' else b'
 if 0 < aM low high then 0 else if aM low high = 0 then 2 else 3
def aR (a b c d : Pt) : Int :=
 if bw a b c = 0 ∧ bw a b d = 0 ∧ bw c d a = 0 ∧ bw c d b = 0 then aX a b c d
 else if bw a b c * bw a b d < 0 ∧ bw c d a * bw c d b < 0 then 1
 else if bD a b c ∨ bD a b d ∨ bD c d a ∨ bD c d b then 2 else 0
def key (p : Pt) : Int := p.1 * 1073741824 + p.2
def jJ (p : Pt) : Prop := (-4194304 ≤ p.1 ∧ p.1 ≤ 4194304) ∧ -4194304 ≤ p.2 ∧ p.2 ≤ 4194304
end TL
namespace TL
theorem fh {x y : Int} (h1 : -16777216 ≤ x ∧ x ≤ 16777216) (h2 : -16777216 ≤ y ∧ y ≤ 16777216) : -281474976710656 ≤ x * y ∧ x * y ≤ 281474976710656 := by
 have h := Int.natAbs_mul x y
 have a : x.natAbs ≤ 16777216 := by omega
 have b : y.natAbs ≤ 16777216 := by omega
 have c : x.natAbs * y.natAbs ≤ 16777216 * 16777216 := Nat.mul_le_mul a b
 omega
def su (p : Pt) : Prop := (-16777216 ≤ p.1 ∧ p.1 ≤ 16777216) ∧ -16777216 ≤ p.2 ∧ p.2 ≤ 16777216
theorem il {a b : Pt} (ha : jJ a) (hb : jJ b) : su (aS b a) := by
 unfold jJ at ha hb
 unfold su aS
 simp only
 omega
def c4 (p : Pt) : Prop := (-1048576 ≤ p.1 ∧ p.1 ≤ 1048576) ∧ -1048576 ≤ p.2 ∧ p.2 ≤ 1048576
instance (p : Pt) : Decidable (c4 p) := by unfold c4; infer_instance
theorem c4.bd {p : Pt} (h : c4 p) : jJ p := by unfold c4 at h; unfold jJ; omega
def cX (ps : List Pt) : Prop := ps.length ≤ 4096 ∧ ∀ p ∈ ps, c4 p
instance (ps : List Pt) : Decidable (cX ps) := by unfold cX; infer_instance
theorem rR {ps : List Pt} (h : ∀ j : Nat, j < ps.length → c4 (gI ps (j : Int))) : ∀ p ∈ ps, c4 p := fun p hp => by
 obtain ⟨i, hi, rfl⟩ := List.mem_iff_getElem.1 hp
 have := h i hi
 have e : gI ps (i : Int) = ps[i] := by simp [gI, hi]
 rwa [e] at this
def io : List Int → Int
 | [] => 0
 | x :: l => if x = 0 then io l else x
theorem nF (a b : Pt) : aM a b = io [bE a.1 b.1, bE a.2 b.2] := by
 unfold aM io
 by_cases h : bE a.1 b.1 = 0
 · rw [if_neg (by simp [h]), if_pos h]
   unfold io
   by_cases h2 : bE a.2 b.2 = 0
   · rw [if_pos h2, h2]; rfl
   · rw [if_neg h2]
 · rw [if_pos h, if_neg h]
theorem ox {l : List Int} {k : Nat} (h : ∀ j : Nat, j < k → gI l (j : Int) = 0) (hk : (k : Int) < l.length) (hx : gI l (k : Int) ≠ 0) : gI l (k : Int) = io l := by
 induction l generalizing k with
 | nil => simp at hk; omega
 | cons a l ih =>
   cases k with
   | zero =>
     have e : gI (a :: l) ((0 : Nat) : Int) = a := by simp [gI]
     rw [e] at hx ⊢
     unfold io; rw [if_neg hx]
   | succ k =>
     have e : ∀ j : Nat, gI (a :: l) ((j + 1 : Nat) : Int) = gI l (j : Int) := fun j => by simp [gI]
     have e0 : gI (a :: l) ((0 : Nat) : Int) = a := by simp [gI]
     have h0 := h 0 (by omega)
     rw [e0] at h0
     rw [e] at hx ⊢
     unfold io; rw [if_pos h0]
     exact ih (fun j hj => by rw [← e]; exact h (j + 1) (by omega)) (by simp at hk; omega) hx
theorem mY {l : List Int} {k : Nat} (h : ∀ j : Nat, j < k → gI l (j : Int) = 0) (hk : ¬ (k : Int) < l.length) : 0 = io l := by
 induction l generalizing k with
 | nil => rfl
 | cons a l ih =>
   have e : ∀ j : Nat, gI (a :: l) ((j + 1 : Nat) : Int) = gI l (j : Int) := fun j => by simp [gI]
   have e0 : gI (a :: l) ((0 : Nat) : Int) = a := by simp [gI]
   simp at hk
   have h0 := h 0 (by omega)
   rw [e0] at h0
   unfold io; rw [if_pos h0]
   exact ih (k := k - 1) (fun j hj => by rw [← e]; exact h (j + 1) (by omega)) (by omega)
def dO (a b c : Pt) : Bool × Int := if c4 a ∧ c4 b ∧ c4 c then (decide (bD a b c), 0) else (false, 1)
def cK (a b c d : Pt) : Int × Int := if (c4 a ∧ c4 b) ∧ c4 c ∧ c4 d then (aR a b c d, 0) else (0, 1)
theorem sS {a b c : Pt} : cX [a, b, c] ↔ c4 a ∧ c4 b ∧ c4 c := by simp [cX]
theorem sI {a b c d : Pt} : cX [a, b, c, d] ↔ (c4 a ∧ c4 b) ∧ c4 c ∧ c4 d := by simp [cX, and_assoc]
theorem s9 {a : Pt} : cX [a] ↔ c4 a := by simp [cX]
def bN (p : Pt) : Int := if 0 < p.1 ∨ p.1 = 0 ∧ 0 < p.2 then 0 else 1
section
variable {a b c d : Pt}
theorem kM (h1 : bw a b c = 0) (h2 : bw a b d = 0) (h3 : bw c d a = 0) (h4 : bw c d b = 0) : aX a b c d = aR a b c d := by
 unfold aR; rw [if_pos ⟨h1, h2, h3, h4⟩]
theorem eH (h1 : bw a b c * bw a b d < 0) (h2 : bw c d a * bw c d b < 0) : 1 = aR a b c d := by
 unfold aR
 rw [if_neg (fun h => by rw [h.1, Int.zero_mul] at h1; omega), if_pos ⟨h1, h2⟩]
theorem aY (h0 : ¬ (bw a b c = 0 ∧ bw a b d = 0 ∧ bw c d a = 0 ∧ bw c d b = 0)) (h1 : ¬ (bw a b c * bw a b d < 0 ∧ bw c d a * bw c d b < 0)) (h2 : bD a b c ∨ bD a b d ∨ bD c d a ∨ bD c d b) : 2 = aR a b c d := by
 unfold aR
 rw [if_neg h0, if_neg h1, if_pos h2]
theorem cS (h0 : ¬ (bw a b c = 0 ∧ bw a b d = 0 ∧ bw c d a = 0 ∧ bw c d b = 0)) (h1 : ¬ (bw a b c * bw a b d < 0 ∧ bw c d a * bw c d b < 0)) (h2 : ¬ (bD a b c ∨ bD a b d ∨ bD c d a ∨ bD c d b)) : 0 = aR a b c d := by
 unfold aR
 rw [if_neg h0, if_neg h1, if_neg h2]
end
end TL
/-
  TlGeomR: what is told of many points: areas, boxes, whether a polyline is simple.
  By an AI agent.
-/
set_option linter.all false
namespace TL
def kF (ps : List Pt) : Nat → Pt
 | 0 => gI ps 0
 | k + 1 => (min (kF ps k).1 (gI ps (k : Int)).1, min (kF ps k).2 (gI ps (k : Int)).2)
def kG (ps : List Pt) : Nat → Pt
 | 0 => gI ps 0
 | k + 1 => (max (kG ps k).1 (gI ps (k : Int)).1, max (kG ps k).2 (gI ps (k : Int)).2)
def bV (ps : List Pt) : Prop := 4 ≤ (ps.length : Int) ∧ gI ps 0 = gI ps ((ps.length : Int) - 1)
instance (ps : List Pt) : Decidable (bV ps) := by unfold bV; infer_instance
def eD (ps : List Pt) (i k : Nat) : Prop := k = i + 1 ∨ i = 0 ∧ (k : Int) = (ps.length : Int) - 2 ∧ bV ps
instance (ps : List Pt) (i k : Nat) : Decidable (eD ps i k) := by unfold eD; infer_instance
def sV (ps : List Pt) (i k : Nat) : Int := aR (gI ps (i : Int)) (gI ps ((i : Int) + 1)) (gI ps (k : Int)) (gI ps ((k : Int) + 1))
def fx (ps : List Pt) (i k : Nat) : Prop := eD ps i k ∧ sV ps i k = 3 ∨ ¬ eD ps i k ∧ sV ps i k ≠ 0
instance (ps : List Pt) (i k : Nat) : Decidable (fx ps i k) := by unfold fx; infer_instance
def kV (ps : List Pt) (i : Nat) : Prop := gI ps (i : Int) ≠ gI ps ((i : Int) + 1) ∧ ∀ k < ps.length, i < k → (k : Int) ≤ (ps.length : Int) - 2 → ¬ fx ps i k
instance (ps : List Pt) (i : Nat) : Decidable (kV ps i) := by unfold kV; infer_instance
def gk (ps : List Pt) : Prop := ∀ i < ps.length, (i : Int) ≤ (ps.length : Int) - 2 → kV ps i
instance (ps : List Pt) : Decidable (gk ps) := by unfold gk; infer_instance
def dn (ps : List Pt) : Bool × Int := if (ps.length : Int) = 0 ∨ ¬ cX ps then (false, 1) else (decide (gk ps), 0)
section
variable {ps : List Pt}
theorem gM (h : (ps.length : Int) = 0 ∨ ¬ cX ps) : dn ps = (false, 1) := by unfold dn; rw [if_pos h]
theorem cW (h0 : ¬ (ps.length : Int) = 0) (h : cX ps) : dn ps = (decide (gk ps), 0) := by unfold dn; rw [if_neg (by rintro (c | c); exact h0 c; exact c h)]
theorem s7 {i : Nat} (hi : (i : Int) ≤ (ps.length : Int) - 2) (h : gI ps (i : Int) = gI ps ((i : Int) + 1)) : false = decide (gk ps) :=
 (decide_eq_false fun hs => (hs i (by omega) hi).1 h).symm
theorem gJ {i k : Nat} (hi : (i : Int) ≤ (ps.length : Int) - 2) (hk : (k : Int) ≤ (ps.length : Int) - 2) (hik : i < k) (h : fx ps i k) : false = decide (gk ps) :=
 (decide_eq_false fun hs => (hs i (by omega) hi).2 k (by omega) hik hk h).symm
theorem qR {i : Nat} (h : ∀ j : Nat, j < i → kV ps j) (hi : ¬ (i : Int) ≤ (ps.length : Int) - 2) : true = decide (gk ps) :=
 (decide_eq_true fun j _ hj2 => h j (by omega)).symm
variable {i k : Nat}
theorem rf (h : (k : Int) = (i : Int) + 1) : eD ps i k := .inl (by omega)
theorem rc (h1 : (i : Int) = 0) (h2 : (k : Int) = (ps.length : Int) - 2) (h3 : decide (bV ps) = true) : eD ps i k := .inr ⟨by omega, h2, of_decide_eq_true h3⟩
theorem m4 (h : ¬ (k : Int) = (i : Int) + 1) (h1 : ¬ (i : Int) = 0) : ¬ eD ps i k := by
 rintro (c | ⟨c, _⟩) <;> omega
theorem lP (h : ¬ (k : Int) = (i : Int) + 1) (h1 : ¬ (k : Int) = (ps.length : Int) - 2) : ¬ eD ps i k := by
 rintro (c | ⟨_, c, _⟩) <;> omega
theorem lp (h : ¬ (k : Int) = (i : Int) + 1) (h1 : ¬ decide (bV ps) = true) : ¬ eD ps i k := by
 rintro (c | ⟨_, _, c⟩)
 · omega
 · exact h1 (decide_eq_true c)
theorem sH (hj : eD ps i k) (hm : aR (gI ps (i : Int)) (gI ps ((i : Int) + 1)) (gI ps (k : Int)) (gI ps ((k : Int) + 1)) = 3) : fx ps i k := .inl ⟨hj, hm⟩
theorem s5 (hj : ¬ eD ps i k) (hm : ¬ aR (gI ps (i : Int)) (gI ps ((i : Int) + 1)) (gI ps (k : Int)) (gI ps ((k : Int) + 1)) = 0) : fx ps i k := .inr ⟨hj, hm⟩
theorem rk (hj : eD ps i k) (hm : ¬ aR (gI ps (i : Int)) (gI ps ((i : Int) + 1)) (gI ps (k : Int)) (gI ps ((k : Int) + 1)) = 3) : ¬ fx ps i k := by
 rintro (⟨_, h⟩ | ⟨h, _⟩)
 · exact hm h
 · exact h hj
theorem nN (hj : ¬ eD ps i k) (hm : aR (gI ps (i : Int)) (gI ps ((i : Int) + 1)) (gI ps (k : Int)) (gI ps ((k : Int) + 1)) = 0) : ¬ fx ps i k := by
 rintro (⟨h, _⟩ | ⟨_, h⟩)
 · exact hj h
 · exact h hm
end
end TL
/-
  TlConv: whole numbers turned to another kind, a string's byte, functions that bear values.
  By an AI agent.
-/
set_option linter.all false
namespace TL
open Go
section
variable {P : Program} {w : World} {f : Fr} {dst : Option Tmp} {ty : TypeId} {pos : String} {after : Array Edge} {g : Option (Nat × Bool)} {x y : Operand} {s d t : TypeId} {m : Int} {k k0 : IntKind}
theorem iB {fid : Nat} {cs : List Operand} {vals : List Value} (h : cs.map (ev f) = vals) : (execOp (ev f) ⟨dst, .makeFunc (.func fid) #[] cs.toArray, ty, pos, after, g⟩).run P w = .ok (.value (.func (.func fid) #[] vals.toArray)) w := by
 have h : cs.toArray.map (ev f) = vals.toArray := by rw [← h]; simp
 simp [execOp, Instr.makeFunc, h]
theorem qp {fid : Nat} {fn : Func} {c : Operand} {args : List Operand} {at_ : Array TypeId} {vals caps : List Value} (hc : ev f c = .func (.func fid) #[] caps.toArray) (hf : P.funcs[fid]? = some fn) (hb : fn.body.isNone = false) (hn : (fn.name == "runtime.NumGoroutine") = false) (ha : args.map (ev f) = vals) :
   (execOp (ev f) ⟨dst, .call { callee := .value c, args := args.toArray, argTypes := at_ }, ty, pos, after, g⟩).run P w = .ok (.enter fid (vals ++ caps).toArray) w := by
 have ha : args.toArray.map (ev f) = vals.toArray := by rw [← ha]; simp
 simp only [execOp, resolve, hc, Deferred.ofValue, invoke, callFunc, ha, Sem.run_bind, Sem.run_pure, Result.andThen_ok, run_program, hf, hn, hb, Bool.false_eq_true, if_false, Array.append_empty, Array.empty_append]
 simp
end
end TL
namespace TL
open Go
section
variable {P : Program} {w : World} {f : Fr} {dst : Option Tmp} {ty : TypeId} {pos : String} {after : Array Edge} {g : Option (Nat × Bool)} {x y : Operand} {t t' : TypeId}
theorem fb {fs : Array Field} {xs ys : List Value} {bs : List Bool} {q : Bool} (ht : P.underlying t = some (.struct fs)) (hp : P.stoodInHeld t = false) (hg : P.eqGuardType P.depth t = false) (hx : ev f x = .agg xs.toArray) (hy : ev f y = .agg ys.toArray) (h : EqF P xs.toArray ys.toArray fs.toList bs) (hq : bs.all id = q) :
   (execOp (ev f) ⟨dst, .binOp .neq t x y t', ty, pos, after, g⟩).run P w = .ok (.value (.bool !q)) w := by
 have e1 : P.fieldsOf t = fs := by simp [Program.fieldsOf, ht]
 have hr : (Op.equal t (.agg xs.toArray) (.agg ys.toArray)).run P w = .ok q w := by
   have := run_equalIn_struct (P := P) w 9999 t xs.toArray ys.toArray (by rw [e1]; exact ht) hp
   rw [e1, fc h 9998, hq] at this
   exact this
 exact rj .neq hx hy (by simp [eqGuard, hg]) (by simp [binOp, hr])
end
end TL
namespace TL
open Go
section
variable {P : Program} {w : World} {f : Fr} {dst : Option Tmp} {ty : TypeId} {pos : String} {after : Array Edge} {g : Option (Nat × Bool)} {x y : Operand} {t t' : TypeId}
end
end TL
set_option linter.unusedVariables false
namespace TL
variable {a b c d : Int × Int}
theorem o1 {A B C D : Prop} [Decidable A] (h : decide A = true) : A ∨ B ∨ C ∨ D := .inl (of_decide_eq_true h)
theorem o2 {A B C D : Prop} [Decidable B] (h : decide B = true) : A ∨ B ∨ C ∨ D := .inr (.inl (of_decide_eq_true h))
theorem o3 {A B C D : Prop} [Decidable C] (h : decide C = true) : A ∨ B ∨ C ∨ D := .inr (.inr (.inl (of_decide_eq_true h)))
theorem o4 {A B C D : Prop} [Decidable D] (h : decide D = true) : A ∨ B ∨ C ∨ D := .inr (.inr (.inr (of_decide_eq_true h)))
theorem o5 {A B C D : Prop} [Decidable A] [Decidable B] [Decidable C] [Decidable D] (h1 : ¬ decide A = true) (h2 : ¬ decide B = true) (h3 : ¬ decide C = true) (h4 : ¬ decide D = true) : ¬ (A ∨ B ∨ C ∨ D) := by
 rintro (h | h | h | h)
 · exact h1 (decide_eq_true h)
 · exact h2 (decide_eq_true h)
 · exact h3 (decide_eq_true h)
 · exact h4 (decide_eq_true h)
end TL
/-
  TlGeomM: meeting segments: moved, turned, named another way about; what ends they share.
  By an AI agent.
-/
set_option linter.all false
namespace TL
section
variable {a b c d : Pt}
def dK (a b c d e : Pt) : Prop := bD a b e ∧ bD c d e
instance (a b c d e : Pt) : Decidable (dK a b c d e) := by unfold dK; infer_instance
def mZ (a b c d : Pt) : Prop := bw a b c * bw a b d < 0 ∧ bw c d a * bw c d b < 0
instance (a b c d : Pt) : Decidable (mZ a b c d) := by unfold mZ; infer_instance
end
end TL
/-
  TlGeomS: polylines gone back, and two of them named the other way about.
  By an AI agent.
-/
set_option linter.all false
namespace TL
abbrev Sg := Pt × Pt
def jM (ps : List Pt) : Nat → List Sg
 | 0 => []
 | k + 1 => jM ps k ++ [(gI ps (k : Int), gI ps ((k : Int) + 1))]
def qr (ps : List Pt) : List Sg := if ps.length = 1 then [(gI ps 0, gI ps 0)] else jM ps (ps.length - 1)
theorem eu {ps : List Pt} {s : Sg} : ∀ {k : Nat}, s ∈ jM ps k ↔ ∃ i : Nat, i < k ∧ s = (gI ps (i : Int), gI ps ((i : Int) + 1))
 | 0 => by simp [jM]
 | k + 1 => by
   rw [jM, List.mem_append, eu, List.mem_singleton]
   constructor
   · rintro (⟨i, hi, e⟩ | e)
     · exact ⟨i, by omega, e⟩
     · exact ⟨k, by omega, e⟩
   · rintro ⟨i, hi, e⟩
     by_cases c : i = k
     · subst c; exact .inr e
     · exact .inl ⟨i, by omega, e⟩
def rb (ps : List Pt) : Pt := gI ps ((ps.length : Int) - 1)
def s3 (ps : List Pt) (p : Pt) : Prop := p = gI ps 0 ∨ p = rb ps
instance (ps : List Pt) (p : Pt) : Decidable (s3 ps p) := by unfold s3; infer_instance
def qt (q : List Pt) (s t : Sg) (x : Pt) : Prop := s3 q x ∧ bD s.1 s.2 x ∧ bD t.1 t.2 x
instance (q : List Pt) (s t : Sg) (x : Pt) : Decidable (qt q s t x) := by unfold qt; infer_instance
def nG (p q : List Pt) (s t : Sg) : Prop := qt q s t (gI p 0) ∨ qt q s t (rb p)
instance (p q : List Pt) (s t : Sg) : Decidable (nG p q s t) := by unfold nG; infer_instance
def sg (p q : List Pt) (s t : Sg) : Prop := aR s.1 s.2 t.1 t.2 = 3 ∨ aR s.1 s.2 t.1 t.2 ≠ 0 ∧ ¬ nG p q s t
instance (p q : List Pt) (s t : Sg) : Decidable (sg p q s t) := by unfold sg; infer_instance
def sM (p q : List Pt) : Prop := ∀ s ∈ qr p, ∀ t ∈ qr q, ¬ sg p q s t
instance (p q : List Pt) : Decidable (sM p q) := by unfold sM; infer_instance
section
variable {p q : List Pt}
end
end TL
namespace TL
section
variable {p q : List Pt} {i k : Nat}
variable {s t : Sg}
end
end TL
namespace TL
section
variable {p q : List Pt} {s t : Sg} {i : Nat}
end
end TL
/-
  TlGeomX: polylines: the document's way and the code's.
  By an AI agent.
-/
set_option linter.all false
namespace TL
section
variable {a b c d : Pt}
end
section
variable {ps : List Pt} {i k : Nat}
end
def tf (but : List Pt) (s t : Sg) : Prop := aR s.1 s.2 t.1 t.2 = 3 ∨ (aR s.1 s.2 t.1 t.2 = 1 ∧ ¬ ∃ x ∈ but, dK s.1 s.2 t.1 t.2 x) ∨ ((aR s.1 s.2 t.1 t.2 ≠ 0 ∧ aR s.1 s.2 t.1 t.2 ≠ 1) ∧ ∃ e ∈ [s.1, s.2, t.1, t.2], dK s.1 s.2 t.1 t.2 e ∧ e ∉ but)
instance (but : List Pt) (s t : Sg) : Decidable (tf but s t) := by unfold tf; infer_instance
def sP (p q but : List Pt) : Prop := ∃ s ∈ qr p, ∃ t ∈ qr q, tf but s t
instance (p q but : List Pt) : Decidable (sP p q but) := by unfold sP; infer_instance
section
variable {p q B : List Pt}
end
end TL
namespace TL
section
variable {p q but : List Pt} {i k : Nat}
variable {s t : Sg}
end
end TL
/-
  TlAround: points round another one: the order, its laws, the list that is sorted by it.
  By an AI agent.
-/
set_option linter.all false
namespace TL
def qY (p : Pt) : Int := p.1 * p.1 + p.2 * p.2
def Up (p : Pt) : Prop := 0 < p.1 ∨ p.1 = 0 ∧ 0 < p.2
theorem rT (u v w : Pt) : v.1 * dh u w = w.1 * dh u v + u.1 * dh v w := by
 unfold dh; grind
theorem gp (u v : Pt) : dh v u = - dh u v := by unfold dh; grind
theorem pB (u : Pt) : dh u u = 0 := by unfold dh; grind
theorem nv {u v w : Pt} (hu : Up u) (hv : Up v) (hw : Up w) (c1 : dh u v ≤ 0) (c2 : dh v w ≤ 0) : dh u w ≤ 0 ∧ (dh u v < 0 ∨ dh v w < 0 → dh u w < 0) := by
 have hid := rT u v w
 have hu0 : 0 ≤ u.1 := by rcases hu with h | h <;> omega
 have hw0 : 0 ≤ w.1 := by rcases hw with h | h <;> omega
 rcases hv with hv | ⟨hv, hv2⟩
 · have hw1 : 0 < w.1 := by
     rcases hw with h | ⟨h, h2⟩
     · exact h
     · exfalso
       have : dh v w = v.1 * w.2 := by unfold dh; rw [h]; omega
       have := Int.mul_pos hv h2
       omega
   have k1 : w.1 * dh u v ≤ 0 := Int.mul_nonpos_of_nonneg_of_nonpos hw0 c1
   have k2 : u.1 * dh v w ≤ 0 := Int.mul_nonpos_of_nonneg_of_nonpos hu0 c2
   refine ⟨?_, ?_⟩
   · refine Int.not_lt.1 fun h => ?_
     have := Int.mul_pos hv h
     omega
   · intro hs
     refine Int.not_le.1 fun h => ?_
     have k3 : 0 ≤ v.1 * dh u w := Int.mul_nonneg (by omega) h
     rcases hs with hs | hs
     · have := Int.mul_neg_of_pos_of_neg hw1 hs
       omega
     · rcases hu with hu | ⟨hu, hu2⟩
       · have := Int.mul_neg_of_pos_of_neg hu hs
         omega
       · have e : dh u w = - (u.2 * w.1) := by unfold dh; rw [hu]; omega
         have := Int.mul_pos hu2 hw1
         omega
 · have e1 : dh u v = u.1 * v.2 := by unfold dh; rw [hv]; omega
   have hu1 : u.1 = 0 := by
     rcases hu with h | h
     · have := Int.mul_pos h hv2
       omega
     · exact h.1
   have hu2 : 0 < u.2 := by rcases hu with h | h <;> omega
   have e2 : dh u w = - (u.2 * w.1) := by unfold dh; rw [hu1]; omega
   have e3 : dh v w = - (v.2 * w.1) := by unfold dh; rw [hv]; omega
   have k1 := Int.mul_nonneg (Int.le_of_lt hu2) hw0
   refine ⟨by omega, ?_⟩
   rintro (h | h)
   · rw [e1, hu1] at h; omega
   · have : 0 < w.1 := by
       rcases hw with h' | h'
       · exact h'
       · rw [e3, h'.1] at h; omega
     have := Int.mul_pos hu2 this
     omega
def nz (p : Pt) : Prop := ¬ (p.1 = 0 ∧ p.2 = 0)
def sK (p : Pt) : Pt := (-p.1, -p.2)
theorem jy (u v : Pt) : dh (sK u) (sK v) = dh u v := by unfold dh sK; grind
theorem na {p : Pt} (h : nz p) : (bN p = 0 ∧ Up p) ∨ (bN p = 1 ∧ Up (sK p)) := by
 unfold bN Up sK
 unfold nz at h
 split
 · exact .inl ⟨rfl, by assumption⟩
 · refine .inr ⟨rfl, ?_⟩
   dsimp
   omega
theorem mX {u v w : Pt} (hu : nz u) (hv : nz v) (hw : nz w) (h1 : bN u = bN v) (h2 : bN v = bN w) (c1 : dh u v ≤ 0) (c2 : dh v w ≤ 0) : dh u w ≤ 0 ∧ (dh u v < 0 ∨ dh v w < 0 → dh u w < 0) := by
 rcases na hu with ⟨a1, a2⟩ | ⟨a1, a2⟩ <;> rcases na hv with ⟨b1, b2⟩ | ⟨b1, b2⟩ <;> rcases na hw with ⟨d1, d2⟩ | ⟨d1, d2⟩ <;> try (exfalso; omega)
 · exact nv a2 b2 d2 c1 c2
 · have := nv a2 b2 d2 (by rw [jy]; exact c1) (by rw [jy]; exact c2)
   simpa only [jy] using this
def nq (a b : Pt) (i k : Int) : Prop := bN a < bN b ∨ bN a = bN b ∧ (dh a b < 0 ∨ dh a b = 0 ∧ (qY a < qY b ∨ qY a = qY b ∧ i < k))
theorem eZ (a : Pt) (i : Int) : ¬ nq a a i i := by
 unfold nq; rw [pB]; omega
theorem ru {a b c : Pt} {i j k : Int} (ha : nz a) (hb : nz b) (hc : nz c) (h1 : nq a b i j) (h2 : nq b c j k) : nq a c i k := by
 unfold nq at *
 rcases h1 with h1 | ⟨h1, h1'⟩
 · rcases h2 with h2 | ⟨h2, _⟩
   · exact .inl (by omega)
   · exact .inl (by omega)
 · rcases h2 with h2 | ⟨h2, h2'⟩
   · exact .inl (by omega)
   · refine .inr ⟨by omega, ?_⟩
     have t := mX ha hb hc h1 h2 (by omega) (by omega)
     have t' := mX hc hb ha h2.symm h1.symm
     have a1 := gp a b
     have a2 := gp b c
     have a3 := gp a c
     rcases h1' with h1' | ⟨h1', h1''⟩
     · exact .inl (t.2 (.inl h1'))
     · rcases h2' with h2' | ⟨h2', h2''⟩
       · exact .inl (t.2 (.inr h2'))
       · have := t' (by omega) (by omega)
         exact .inr ⟨by omega, by omega⟩
theorem ie {a b : Pt} {i k : Int} (h : i ≠ k) : nq a b i k ∨ nq b a k i := by
 unfold nq
 have := gp a b
 omega
def vA (o : Pt) (ps : List Pt) (i : Int) : Pt := aS (gI ps i) o
def iQ (o : Pt) (ps : List Pt) (i k : Int) : Prop := nq (vA o ps i) (vA o ps k) i k
def ss (o : Pt) (ps : List Pt) (i k : Int) : Int := io [bE (bN (vA o ps i)) (bN (vA o ps k)), bE (dh (vA o ps i) (vA o ps k)) 0, bE (qY (vA o ps i)) (qY (vA o ps k)), bE i k]
theorem gA {x y : Int} : bE x y < 0 ↔ x < y := by unfold bE; split <;> (try split) <;> omega
theorem fL {x y : Int} : bE x y = 0 ↔ x = y := by unfold bE; split <;> (try split) <;> omega
theorem rY {o : Pt} {ps : List Pt} {i k : Int} : ss o ps i k < 0 ↔ iQ o ps i k := by
 unfold ss iQ nq
 generalize bN (vA o ps i) = a1
 generalize bN (vA o ps k) = a2
 generalize dh (vA o ps i) (vA o ps k) = b1
 generalize qY (vA o ps i) = c1
 generalize qY (vA o ps k) = c2
 have q1 := @gA a1 a2
 have q2 := @fL a1 a2
 have q3 := @gA b1 0
 have q4 := @fL b1 0
 have q5 := @gA c1 c2
 have q6 := @fL c1 c2
 have q7 := @gA i k
 have q8 := @fL i k
 simp only [io]
 split
 · split
   · split
     · split
       · omega
       · omega
     · omega
   · omega
 · omega
def gV (o : Pt) (ps : List Pt) : Prop := ∀ i : Nat, i < ps.length → gI ps (i : Int) ≠ o
theorem gV.nz {o : Pt} {ps : List Pt} (h : gV o ps) {i : Int} (h0 : 0 ≤ i) (h1 : i < ps.length) : nz (vA o ps i) := by
 have k := h i.toNat (by omega)
 rw [Int.toNat_of_nonneg h0] at k
 intro ⟨e1, e2⟩
 unfold vA aS at e1 e2
 simp only at e1 e2
 exact k (Prod.ext (by omega) (by omega))
def qG (o : Pt) (ps : List Pt) (k : Nat) (l : List Int) : Prop := l.Pairwise (iQ o ps) ∧ ∀ x, x ∈ l ↔ 0 ≤ x ∧ x < (k : Int)
theorem mS {α : Type} {R : α → α → Prop} : ∀ {l1 l2 : List α}, (∀ a, a ∈ l1 → ∀ b, b ∈ l1 → R a b → ¬ R b a) → l1.Pairwise R → l2.Pairwise R → (∀ x, x ∈ l1 ↔ x ∈ l2) → l1 = l2
 | [], [], _, _, _, _ => rfl
 | [], b :: t2, _, _, _, h => by have := (h b).2 (by simp); simp at this
 | a :: t1, [], _, _, _, h => by have := (h a).1 (by simp); simp at this
 | a :: t1, b :: t2, ha, h1, h2, h => by
   rw [List.pairwise_cons] at h1 h2
   have e : a = b := by
     rcases List.mem_cons.1 ((h a).1 (by simp)) with e | m1
     · exact e
     · rcases List.mem_cons.1 ((h b).2 (by simp)) with e | m2
       · exact e.symm
       · exact absurd (h2.1 a m1) (ha a (by simp) b (by simp [m2]) (h1.1 b m2))
   subst e
   have n1 : a ∉ t1 := fun m => ha a (by simp) a (by simp) (h1.1 a m) (h1.1 a m)
   have n2 : a ∉ t2 := fun m => ha a (by simp) a (by simp) (h2.1 a m) (h2.1 a m)
   have := mS (R := R) (l1 := t1) (l2 := t2) (fun x hx y hy => ha x (by simp [hx]) y (by simp [hy])) h1.2 h2.2 fun x => by
     constructor
     · intro m
       rcases List.mem_cons.1 ((h x).1 (by simp [m])) with e | m'
       · subst e; exact absurd m n1
       · exact m'
     · intro m
       rcases List.mem_cons.1 ((h x).2 (by simp [m])) with e | m'
       · subst e; exact absurd m n2
       · exact m'
   rw [this]
section
variable {o : Pt} {ps : List Pt} {k : Nat} {l l' : List Int}
theorem jt (hz : gV o ps) {i j k : Int} (hi : 0 ≤ i ∧ i < ps.length) (hj : 0 ≤ j ∧ j < ps.length) (hk : 0 ≤ k ∧ k < ps.length) (h1 : iQ o ps i j) (h2 : iQ o ps j k) : iQ o ps i k :=
 ru (hz.nz hi.1 hi.2) (hz.nz hj.1 hj.2) (hz.nz hk.1 hk.2) h1 h2
theorem ot (hz : gV o ps) {i j : Int} (hi : 0 ≤ i ∧ i < ps.length) (hj : 0 ≤ j ∧ j < ps.length) (h1 : iQ o ps i j) : ¬ iQ o ps j i := fun h2 => eZ _ _ (jt hz hi hj hi h1 h2)
theorem jQ (hz : gV o ps) (hk : k ≤ ps.length) (h : qG o ps k l) (h' : qG o ps k l') : l = l' :=
 mS (fun a ha b hb h1 => ot hz (by have := (h.2 a).1 ha; omega) (by have := (h.2 b).1 hb; omega) h1) h.1 h'.1 fun x => (h.2 x).trans (h'.2 x).symm
theorem lj (hz : gV o ps) (hk : k < ps.length) (h : qG o ps k l) {m : Nat} (hm : m ≤ l.length) (h1 : ∀ j : Nat, m ≤ j → j < l.length → iQ o ps (k : Int) (gI l (j : Int))) (h2 : m = 0 ∨ ¬ iQ o ps (k : Int) (gI l ((m : Int) - 1))) :
   qG o ps (k + 1) (l.take m ++ (k : Int) :: l.drop m) := by
 have hin : ∀ j : Nat, j < l.length → 0 ≤ gI l (j : Int) ∧ gI l (j : Int) < (k : Int) := fun j hj => (h.2 _).1 (bq (by omega) (by omega))
 constructor
 · have hs : (l.take m ++ l.drop m).Pairwise (iQ o ps) := by rw [List.take_append_drop]; exact h.1
   rw [List.pairwise_append] at hs ⊢
   refine ⟨hs.1, ?_, ?_⟩
   · rw [List.pairwise_cons]
     refine ⟨fun x hx => ?_, hs.2.1⟩
     obtain ⟨j, hj, rfl⟩ := List.mem_iff_getElem.1 hx
     rw [List.length_drop] at hj
     have := h1 (m + j) (by omega) (by omega)
     rw [List.getElem_drop]
     have e : gI l ((m + j : Nat) : Int) = l[m + j] := by simp only [gI]; rw [Int.toNat_natCast]; simp [show m + j < l.length by omega]
     rwa [e] at this
   · intro x hx y hy
     rcases List.mem_cons.1 hy with rfl | hy
     · -- x lies ahead of m
       obtain ⟨j, hj, rfl⟩ := List.mem_iff_getElem.1 hx
       have hj' : j < m ∧ j < l.length := by rw [List.length_take] at hj; omega
       rw [List.getElem_take]
       have e : ∀ q (hq : q < l.length), gI l (q : Int) = l[q] := fun q hq => by simp only [gI]; rw [Int.toNat_natCast]; simp [hq]
       have hlast : iQ o ps (gI l ((m : Int) - 1)) (k : Int) := by
         have hb := hin (m - 1) (by omega)
         rw [show ((m - 1 : Nat) : Int) = (m : Int) - 1 by omega] at hb
         rcases ie (a := vA o ps (k : Int)) (b := vA o ps (gI l ((m : Int) - 1))) (i := (k : Int)) (k := gI l ((m : Int) - 1)) (by omega) with q | q
         · exact absurd q (by rcases h2 with h2 | h2; (· omega); (· exact h2))
         · exact q
       by_cases hjm : j = m - 1
       · subst hjm
         rw [← e _ hj'.2, show ((m - 1 : Nat) : Int) = (m : Int) - 1 by omega]
         exact hlast
       · have hp := List.pairwise_iff_getElem.1 h.1 j (m - 1) hj'.2 (by omega) (by omega)
         rw [← e _ hj'.2, ← e (m - 1) (by omega)] at hp
         rw [← e _ hj'.2]
         have b1 := hin j hj'.2
         have b2 := hin (m - 1) (by omega)
         rw [show ((m - 1 : Nat) : Int) = (m : Int) - 1 by omega] at hp b2
         exact jt hz (by omega) (by omega) (by omega) hp hlast
     · exact hs.2.2 x hx y hy
 · intro x
   have : x ∈ l.take m ++ (k : Int) :: l.drop m ↔ x = (k : Int) ∨ x ∈ l := by
     conv => rhs; rw [← List.take_append_drop m l]
     simp only [List.mem_append, List.mem_cons]
     constructor
     · rintro (h | h | h) <;> simp [h]
     · rintro (h | h | h) <;> simp [h]
   rw [this, h.2 x]
   omega
theorem oa (l : List Int) (P : Int → Prop) : ∀ m : Nat, m ≤ l.length → (∀ j : Nat, m ≤ j → j < l.length → P (gI l (j : Int))) → ∃ m' : Nat, m' ≤ l.length ∧ (∀ j : Nat, m' ≤ j → j < l.length → P (gI l (j : Int))) ∧ (m' = 0 ∨ ¬ P (gI l ((m' : Int) - 1)))
 | 0, h0, h => ⟨0, h0, h, .inl rfl⟩
 | m + 1, h0, h => by
   by_cases hp : P (gI l (m : Int))
   · exact oa l P m (by omega) (fun j hj hl => by
       by_cases e : j = m
       · subst e; exact hp
       · exact h j (by omega) hl)
   · exact ⟨m + 1, h0, h, .inr (by rwa [show ((m + 1 : Nat) : Int) - 1 = (m : Int) by omega])⟩
theorem kJ (hz : gV o ps) : ∀ k : Nat, k ≤ ps.length → ∃ l, qG o ps k l
 | 0, _ => ⟨[], .nil, fun x => by simp⟩
 | k + 1, hk => by
   obtain ⟨l, hl⟩ := kJ hz k (by omega)
   obtain ⟨m, h0, h1, h2⟩ := oa l (iQ o ps (k : Int)) l.length (Nat.le_refl _) (fun j hj h => by omega)
   exact ⟨_, lj hz (by omega) hl h0 h1 h2⟩
open Classical in
noncomputable def arL (o : Pt) (ps : List Pt) : List Int := if h : ∃ l, qG o ps ps.length l then choose h else []
theorem hP (hz : gV o ps) : qG o ps ps.length (arL o ps) := by
 have h := kJ hz ps.length (Nat.le_refl _)
 unfold arL
 rw [dif_pos h]
 exact Classical.choose_spec h
theorem rv (hz : gV o ps) (h : qG o ps ps.length l) : l = arL o ps := jQ hz (Nat.le_refl _) h (hP hz)
end
def eC (n : Nat) : List Int := (List.range n).map fun (i : Nat) => (i : Int)
theorem o8 (n : Nat) : (eC n).length = n := by simp [eC]
theorem mq (n : Nat) : eC (n + 1) = eC n ++ [(n : Int)] := by simp [eC, List.range_succ]
open Classical in
noncomputable def arR (o : Pt) (ps : List Pt) : List Int × Int := if (c4 o ∧ cX ps) ∧ gV o ps then (arL o ps, 0) else ([], 1)
theorem kL {o : Pt} {ps : List Pt} (h1 : c4 o) (h2 : cX ps) (h3 : gV o ps) : arR o ps = (arL o ps, 0) := if_pos ⟨⟨h1, h2⟩, h3⟩
theorem h7 {o : Pt} {ps : List Pt} (h : ¬ ((c4 o ∧ cX ps) ∧ gV o ps)) : arR o ps = ([], 1) := if_neg h
theorem oD {o : Pt} {ps : List Pt} {k : Nat} (h0 : (k : Int) < ps.length) (h : gI ps (k : Int) = o) : ¬ gV o ps := fun hz => hz k (by omega) h
theorem nM {x : Int} (h1 : -2097152 ≤ x) (h2 : x ≤ 2097152) : 0 ≤ x * x ∧ x * x ≤ 4398046511104 := by
 have := fh (x := x) (y := x) (by omega) (by omega)
 constructor
 · rcases Int.le_total 0 x with h | h
   · exact Int.mul_nonneg h h
   · exact Int.mul_nonneg_of_nonpos_of_nonpos h h
 · rcases Int.le_total 0 x with h | h
   · exact Int.mul_le_mul h2 h2 h (by omega)
   · have e := Int.neg_mul_neg x x
     have : (-x) * (-x) ≤ 2097152 * 2097152 := Int.mul_le_mul (by omega) (by omega) (by omega) (by omega)
     omega
theorem sy {o : Pt} {ps : List Pt} {i : Int} (ho : c4 o) (hp : cX ps) (h0 : 0 ≤ i) (h1 : i < ps.length) :
   (-2097152 ≤ (vA o ps i).1 ∧ (vA o ps i).1 ≤ 2097152) ∧ -2097152 ≤ (vA o ps i).2 ∧ (vA o ps i).2 ≤ 2097152 := by
 have := hp.2 _ (bq h0 h1)
 unfold c4 at this ho
 unfold vA aS
 simp only
 omega
theorem re {o : Pt} {ps : List Pt} {i : Int} (ho : c4 o) (hp : cX ps) (h0 : 0 ≤ i) (h1 : i < ps.length) :
   ((0 ≤ (vA o ps i).1 * (vA o ps i).1 ∧ (vA o ps i).1 * (vA o ps i).1 ≤ 4398046511104) ∧ 0 ≤ (vA o ps i).2 * (vA o ps i).2 ∧ (vA o ps i).2 * (vA o ps i).2 ≤ 4398046511104) := by
 have ⟨⟨a, b⟩, c, d⟩ := sy ho hp h0 h1
 exact ⟨nM a b, nM c d⟩
section
variable {o : Pt} {ps : List Pt} {k : Nat} {l : List Int} {q : Int}
theorem ly (hz : gV o ps) (hk : k ≤ ps.length) (h : qG o ps k l) : l.length = k := by
 induction k generalizing l with
 | zero =>
   cases l with
   | nil => rfl
   | cons a t => have := (h.2 a).1 (by simp); omega
 | succ k ih =>
   obtain ⟨l0, hl0⟩ := kJ hz k (by omega)
   obtain ⟨m, h0, h1, h2⟩ := oa l0 (iQ o ps (k : Int)) l0.length (Nat.le_refl _) (fun j hj h => by omega)
   have := jQ hz hk h (lj hz (by omega) hl0 h0 h1 h2)
   have hl := ih (by omega) hl0
   rw [this]
   simp [List.length_append, List.length_take, List.length_drop]
   omega
end
theorem kj {o : Pt} {ps : List Pt} (hz : gV o ps) {l : List Int} (hp : l.Perm (eC ps.length)) (hs : l.Pairwise fun x y => ¬ iQ o ps y x) : l = arL o ps := by
  refine rv hz ⟨?_, fun x => ?_⟩
  · have hn : l.Nodup := hp.nodup_iff.2 (by unfold eC; exact List.Pairwise.map _ (fun (a b : Nat) (h : a ≠ b) (e : (a : Int) = (b : Int)) => h (by omega)) List.nodup_range)
    refine (List.Pairwise.and hs hn).imp ?_
    intro x y ⟨h1, h2⟩
    rcases ie (a := vA o ps x) (b := vA o ps y) (i := x) (k := y) h2 with q | q
    · exact q
    · exact absurd q h1
  · rw [hp.mem_iff]
    unfold eC
    simp only [List.mem_map, List.mem_range]
    constructor
    · rintro ⟨a, h, rfl⟩; omega
    · intro h
      exact ⟨x.toNat, by omega, by omega⟩
section
variable {o : Pt} {ps : List Pt}
theorem gL (hz : gV o ps) : (arL o ps).length = ps.length := ly hz (Nat.le_refl _) (hP hz)
theorem l4 (hz : gV o ps) {i : Int} (h0 : 0 ≤ i) (h1 : i < ps.length) : 0 ≤ gI (arL o ps) i ∧ gI (arL o ps) i < (ps.length : Int) :=
 ((hP hz).2 _).1 (bq h0 (by rw [gL hz]; exact h1))
theorem rO (hz : gV o ps) {i j : Int} (h0 : 0 ≤ i) (hij : i < j) (h1 : j < ps.length) : iQ o ps (gI (arL o ps) i) (gI (arL o ps) j) := by
 have hl := gL hz
 have := List.pairwise_iff_getElem.1 (hP hz).1 i.toNat j.toNat (by omega) (by omega) (by omega)
 have e1 := fm (xs := arL o ps) (i := i) h0 (by omega)
 have e2 := fm (xs := arL o ps) (i := j) (by omega) (by omega)
 rw [List.getElem?_eq_getElem (by omega)] at e1 e2
 rw [← Option.some.inj e1, ← Option.some.inj e2]
 exact this
theorem rt (hz : gV o ps) {i j : Int} (h0 : 0 ≤ i) (hij : i < j) (h1 : j < ps.length) : gI (arL o ps) i ≠ gI (arL o ps) j := fun e => by
 have := rO hz h0 hij h1
 rw [e] at this
 exact eZ _ _ this
end
end TL
/-
  TlFace: half-edges' next ones, faces.
  By an AI agent.
-/
set_option linter.all false
namespace TL
end TL
namespace TL
theorem eR.low {seen : List Bool} {P : List Int} {n h : Int} (hi : eR seen P n) (h0 : 0 ≤ h) (h1 : h < n) (hs : ¬ gI seen h = true) : h ∉ P := by
 have := hi.seen h h0 h1
 intro hm
 rw [this] at hs
 simp [hm] at hs
structure dq (out : List (List Int)) (g : da) (k : Nat) : Prop where
  len : (out.length : Int) = g.1
  at_ : ∀ v, 0 ≤ v → v < g.1 → gI out v = fV g v k
theorem dq.start {g : da} (h : 0 ≤ g.1) : dq (List.replicate g.1.toNat []) g 0 := ⟨by simp; omega, fun v h0 h1 => by rw [nw h0 (by omega)]; simp [fV]⟩
theorem dq.next {out : List (List Int)} {g : da} {k : Nat} (h : dq out g k) (h1 : 0 ≤ (gI g.2 k).1) (h2 : (gI g.2 k).1 < g.1) (h3 : 0 ≤ (gI g.2 k).2) (h4 : (gI g.2 k).2 < g.1) {a b : Int} (ha : a = 2 * (k : Int)) (hb : b = 2 * (k : Int) + 1) :
   dq ((out.set (gI g.2 k).1.toNat (gI out (gI g.2 k).1 ++ [a])).set (gI g.2 k).2.toNat (gI (out.set (gI g.2 k).1.toNat (gI out (gI g.2 k).1 ++ [a])) (gI g.2 k).2 ++ [b])) g (k + 1) := by
 have hl := h.len
 refine ⟨by simpa using hl, fun v h5 h6 => ?_⟩
 rw [hY h3 (by simp; omega) h5, hY h1 (by omega) h3, hY h1 (by omega) h5, la, h.at_ _ h1 h2, h.at_ _ h3 h4, h.at_ v h5 h6, ha, hb]
 by_cases e2 : v = (gI g.2 (k : Int)).2
 · by_cases e1 : v = (gI g.2 (k : Int)).1
   · rw [← e1, ← e2]; simp
   · have e3 : ¬ (gI g.2 (k : Int)).2 = (gI g.2 (k : Int)).1 := fun h => e1 (e2.trans h)
     have e6 : ¬ (gI g.2 (k : Int)).1 = (gI g.2 (k : Int)).2 := fun h => e3 h.symm
     simp [e2, e3, e6]
 · have e4 : ¬ (gI g.2 (k : Int)).2 = v := fun h => e2 h.symm
   by_cases e1 : v = (gI g.2 (k : Int)).1
   · rw [if_neg e2, if_pos e1, if_neg e4, if_pos e1.symm, ← e1]; simp
   · have e5 : ¬ (gI g.2 (k : Int)).1 = v := fun h => e1 h.symm
     rw [if_neg e2, if_neg e1, if_neg e4, if_neg e5]; simp
end TL
namespace TL
end TL
/-
  TlWalk: going through a net breadth first, and its components, as the program does.
  By an AI agent.
-/
set_option linter.all false
namespace TL
end TL
namespace TL
def cV (g : da) (r : dQ) : dQ × Int := if cr g r = 0 then (ew r, 0) else ([], cr g r)
end TL
namespace TL
theorem dq.rl {out : List (List Int)} {g : da} {k : Nat} (h : dq out g k) {v : Int} (h0 : 0 ≤ v) (h1 : v < g.1) : ((gI out v).length : Int) ≤ 2 * (k : Int) := by
 rw [h.at_ v h0 h1]
 have := j9 g v k
 omega
theorem dq.rl2 {out : List (List Int)} {g : da} {k : Nat} (h : dq out g k) {u v : Int} (h2 : 0 ≤ u) (h3 : u < g.1) (h0 : 0 ≤ v) (h1 : v < g.1) (a : Int) : ((gI (out.set u.toNat (gI out u ++ [a])) v).length : Int) ≤ 2 * (k : Int) + 1 := by
 have hl := h.len
 rw [hY h2 (by omega) h0]
 split
 · have := h.rl h2 h3; simp; omega
 · have := h.rl h0 h1; omega
theorem dq.done {out : List (List Int)} {g : da} {k : Nat} (h : dq out g k) (hk : k = g.2.length) : ∀ v, 0 ≤ v → v < g.1 → gI out v = cU g v := fun v h0 h1 => by
 subst hk; exact h.at_ v h0 h1
end TL
namespace TL
end TL
namespace TL
end TL
/-
  TlRot2: rotations: faces of half-edges, first ones, parts, moved ones.
  By an AI agent.
-/
set_option linter.all false
namespace TL
def eJ (g : da) : dQ := (List.range g.1.toNat).map fun (v : Nat) => cU g (v : Int)
def bK (g : da) : dQ × Int := if ci g then (eJ g, 0) else ([], 1)
theorem dq.first {out : dQ} {g : da} {k : Nat} (h : dq out g k) (hk : k = g.2.length) : out = eJ g := by
 have hl := h.len
 apply kb
 · simp [eJ]; omega
 · intro i hi
   rw [h.done hk _ (by omega) (by omega)]
   have : i < g.1.toNat := by omega
   simp [eJ, gI, this]
end TL
