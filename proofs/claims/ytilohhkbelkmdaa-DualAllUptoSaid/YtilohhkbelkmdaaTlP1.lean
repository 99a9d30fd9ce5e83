/- Plain texts of this claim, part 1. By an AI agent. -/
import Derived.Test.YtilohhkbelkmdaaTlP0
import Derived.Laws.StructEq
import Derived.OrdersHeld
/-
  TlDraw: regions that draw their order, taken operation by operation.
  By an AI agent.
-/
set_option linter.all false
namespace TL
open Go
def cB (n : Nat) (done : List Nat) : Array Bool := ((List.range n).map fun i => decide (i ∈ done)).toArray
theorem dh (n : Nat) (done : List Nat) (j : Nat) (d : Bool) : (cB n done).getD j d = if j < n then decide (j ∈ done) else d := by
 unfold cB
 by_cases h : j < n
 · simp [h]
 · simp [h]
theorem dz {n i : Nat} (done : List Nat) (hi : i < n) : (cB n done).setIfInBounds i true = cB n (i :: done) := by
 apply Array.ext
 · simp [cB]
 · intro j h1 h2
   have hj : j < n := by simpa [cB] using h2
   simp only [cB]
   by_cases hij : i = j
   · subst hij; simp
   · have : ¬ j = i := fun h => hij h.symm
     simp [Array.getElem_setIfInBounds, hij, this]
section
variable {P : Program} {ops : Array Oper} {Q : Exit → Act → World → Prop} {md : Region.Mode} {qs : Nat → Bool}
def lT (P : Program) (md : Region.Mode) (ops : Array Oper) (qs : Nat → Bool) (Q : Exit → Act → World → Prop) : Nat → Array Bool → Act → World → Prop
  | 0, listed, a, w => Region.ready md ops listed = [] ∧ Q .normal a w
  | fuel + 1, listed, a, w => (Region.ready md ops listed = [] → Q .normal a w) ∧
    ∀ i ∈ Region.ready md ops listed, if qs i then stOp P ops w i (fun a' => lT P md ops qs Q fuel (listed.setIfInBounds i true) a' w) a
      else wpOp P ops Q i (lT P md ops qs Q fuel (listed.setIfInBounds i true)) a w
theorem gk : ∀ (fuel : Nat) (listed : Array Bool) (a : Act) (w : World), lT P md ops qs Q fuel listed a w → wpAny P md ops Q fuel listed a w
 | 0, _, _, _, h => h
 | fuel + 1, listed, a, w, h => by
   refine ⟨h.1, fun i hi => ?_⟩
   have h2 := h.2 i hi
   cases hq : qs i with
   | true =>
     simp only [hq, if_true] at h2
     exact wpOp_of_stOp (fun a' h' => gk fuel _ a' w h') h2
   | false =>
     simp only [hq, Bool.false_eq_true, if_false] at h2
     exact wpOp_mono (fun a' w' h' => gk fuel _ a' w' h') h2
theorem oY {i : Nat} {oi : Oper} {v : Value} {w : World} {M D : Array Bool} (hi : ops[i]? = some oi) (hsel : ∀ (j : Nat) (o : Oper) cs b, ops[j]? = some o → o.op ≠ .select cs b) (hqi : qs i = true)
    (hM : ∀ j oj, ops[j]? = some oj → M.getD j false = false → j ≠ i → ∃ e ∈ oj.after, Region.binds md e = true ∧ M.getD e.on false = false)
    (hMq : ∀ j oj, ops[j]? = some oj → M.getD j false = true → D.getD j true = false → j ≠ i → qs j = true) :
    ∀ (fuel : Nat) (listed : Array Bool) (a : Act), listed.size = ops.size → (∀ j, listed.getD j false = true → M.getD j false = true) → (∀ j, listed.getD j true = false → D.getD j true = false) →
      (∀ j oj, ops[j]? = some oj → j ≠ i → listed.getD j true = false → (∀ e ∈ oj.after, Region.binds md e = true → e.on ≠ i) → oi.apart ops oj = true) →
      i ∈ Region.ready md ops listed → YieldsAt P ops w oi v a →
      lT P md ops qs Q fuel (listed.setIfInBounds i true) (a.put oi.dst v) w → lT P md ops qs Q (fuel + 1) listed a w := by
  intro fuel
  induction fuel with
  | zero =>
    intro listed a _ _ _ _ hr hy H
    refine ⟨fun h => (by rw [h] at hr; cases hr), fun j hj => ?_⟩
    by_cases hji : j = i
    · subst hji; rw [if_pos hqi]; exact hy.stOp hi H
    · have := ready_mono hj hji
      rw [H.1] at this
      cases this
  | succ fuel ih =>
    intro listed a hsz hsub hD hfree hr hy H
    refine ⟨fun h => (by rw [h] at hr; cases hr), fun j hj => ?_⟩
    by_cases hji : j = i
    · subst hji; rw [if_pos hqi]; exact hy.stOp hi H
    · obtain ⟨hjun, oj, hoj, hall⟩ := mem_ready.1 hj
      have hMj : M.getD j false = true := by
        cases hm : M.getD j false with
        | true => rfl
        | false =>
          obtain ⟨e, he, hb, hn⟩ := hM j oj hoj hm hji
          have := hsub _ (hall e he hb)
          rw [hn] at this; cases this
      have hqj := hMq j oj hoj hMj (hD j hjun) hji
      have h1 := H.2 j (ready_mono hj hji)
      rw [if_pos hqj] at h1 ⊢
      have hnot : ∀ e ∈ oj.after, Region.binds md e = true → e.on ≠ i := fun e he hb heq => by
        have h1 := hall e he hb
        have h0 := (mem_ready.1 hr).1
        rw [heq] at h1
        rw [getD_both h0] at h1
        cases h1
      have h2 := stOp_put hoj (hfree j oj hoj hji hjun hnot) (fun cs b => hsel i oi cs b hi) (fun cs b => hsel j oj cs b hoj) hy h1
      have hfree' : ∀ k ok, ops[k]? = some ok → k ≠ i → (listed.setIfInBounds j true).getD k true = false →
          (∀ e ∈ ok.after, Region.binds md e = true → e.on ≠ i) → oi.apart ops ok = true := fun k ok hk hki hun hno => by
        refine hfree k ok hk hki ?_ hno
        by_cases hjk : j = k
        · subst hjk; exact hjun
        · rw [getD_set_ne true hjk] at hun; exact hun
      have hsub' : ∀ k, (listed.setIfInBounds j true).getD k false = true → M.getD k false = true := fun k hk => by
        by_cases hjk : j = k
        · subst hjk; exact hMj
        · rw [getD_set_ne false hjk] at hk; exact hsub k hk
      have hD' : ∀ k, (listed.setIfInBounds j true).getD k true = false → D.getD k true = false := fun k hk => by
        by_cases hjk : j = k
        · subst hjk; exact hD j hjun
        · rw [getD_set_ne true hjk] at hk; exact hD k hk
      refine stOp_mono (fun a' h3 => ih (listed.setIfInBounds j true) a' (by simpa using hsz) hsub' hD' hfree' (ready_mono hr (Ne.symm hji)) h3.1 ?_) h2
      rw [Array.setIfInBounds_comm _ _ hji]
      exact h3.2
def aP {α : Type} (s : Sem α) : Prop := ∀ (P : Program) (w : World) (x : α) (w' : World), s.run P w = .ok x w' → dH w.heap.size w w'
theorem aP.bind {α β : Type} {s : Sem α} {f : α → Sem β} (h : aP s) (hf : ∀ a, aP (f a)) : aP (s >>= f) := by
 intro P w x w' hr
 rw [Sem.run_bind] at hr
 cases h1 : s.run P w with
 | halt e w1 => rw [h1] at hr; cases hr
 | ok a w1 =>
   rw [h1] at hr
   have k1 := h P w a w1 h1
   have k2 := hf a P w1 x w' hr
   exact k1.trans (k2.mono k1.size)
theorem aP.pure {α : Type} (a : α) : aP (Pure.pure a : Sem α) := fun P w x w' h => by
 simp only [Sem.run_pure] at h
 cases h; exact dH.refl _ _
theorem aP.halt {α : Type} (e : Halt) : aP (Sem.halt e : Sem α) := fun P w x w' h => by cases h
theorem aP.stuck {α : Type} (e : String) : aP (Go.stuck e : Sem α) := aP.halt _
theorem aP.unsupported {α : Type} (e : Unsupported) : aP (Go.unsupported e : Sem α) := aP.halt _
theorem aP.program : aP Go.program := fun P w x w' h => by
 simp only [run_program] at h
 cases h; exact dH.refl _ _
theorem aP.new (o : Obj) : aP (newObj o) := fun P w x w' h => by
 simp only [run_newObj] at h
 cases h
 exact (dH.refl _ w).alloc (Nat.le_refl _) o
theorem aP.typeInfo (t : TypeId) : aP (Go.typeInfo t) := aP.bind aP.program fun p => by
 cases p.info? t with
 | some i => exact aP.pure i
 | none => exact aP.stuck _
theorem aP.underlying (t : TypeId) : aP (Go.underlying t) := aP.bind aP.program fun p => by
 cases p.underlying t with
 | some i => exact aP.pure i
 | none => exact aP.stuck _
theorem aP.sizeOf (t : TypeId) : aP (Go.sizeOf t) := aP.bind (aP.typeInfo t) fun i => aP.pure _
theorem aP.zeroValue (t : TypeId) : aP (Go.zeroValue t) := aP.bind (aP.typeInfo t) fun i => by
 cases i.zero with
 | some v => exact aP.pure v
 | none => exact aP.unsupported _
theorem aP.newVar (t : TypeId) (v : Value) : aP (Go.newVar t v) := aP.bind (aP.new _) fun _ => aP.pure _
theorem k9 (t : TypeId) (len : Nat) (parts : Array (Nat × Value)) : aP (Instr.buildSlice t len parts) := by
 unfold Instr.buildSlice
 refine aP.bind (aP.underlying t) fun d => ?_
 split
 · refine aP.bind (aP.sizeOf _) fun size => ?_
   have tail : ∀ (elem : TypeId) (zero : Array Value), aP (match Instr.fill (fun i => some (i * size, size)) ((Array.range (len * size)).map (zero[· % zero.size]!)) parts.toList with
       | some cells => (do pure (Value.slice (some (← newRow elem cells)) len len) : Sem Value)
       | _ => Go.stuck "buildSlice: a part of the wrong size") := fun elem zero => by
     split
     · exact aP.bind (aP.bind (aP.new _) fun _ => aP.pure _) fun _ => aP.pure _
     · exact aP.stuck _
   by_cases h1 : len * size > 2 ^ 24
   · simp only [h1, if_true]
     refine aP.bind (aP.unsupported _) fun x => ?_
     by_cases h2 : len * size = 0
     · rw [if_pos h2]
       exact aP.bind (aP.pure _) fun zero => tail _ zero
     · simp only [h2, if_false]
       exact aP.bind (aP.zeroValue _) fun _ => aP.bind (aP.pure _) fun zero => tail _ zero
   · simp only [h1, if_false]
     by_cases h2 : len * size = 0
     · rw [if_pos h2]
       exact aP.bind (aP.pure _) fun zero => tail _ zero
     · simp only [h2, if_false]
       exact aP.bind (aP.zeroValue _) fun _ => aP.bind (aP.pure _) fun zero => tail _ zero
 · exact aP.stuck _
theorem si {P : Program} {w w' : World} {s : Sem Value} {nx : Next} (h : (do pure (Next.value (← s)) : Sem Next).run P w = .ok nx w') : ∃ u, nx = .value u := by
 rw [Sem.run_bind] at h
 cases hs : s.run P w with
 | ok a w1 => rw [hs] at h; cases h; exact ⟨a, rfl⟩
 | halt e w1 => rw [hs] at h; cases h
theorem aP.load (a : Addr) (m : Mode) : aP (Go.load a m) := fun P w x w' h => by
 simp only [Go.load, Sem.run] at h
 split at h
 · cases h; exact dH.refl _ _
 · split at h
   · cases h; exact dH.refl _ _
   · cases h
theorem aP.cells (a : Addr) : ∀ (n i : Nat) (acc : Array Value), aP (loadCellsFrom a i n acc)
 | 0, _, _ => aP.pure _
 | n + 1, i, _ => aP.bind (aP.load _ _) fun _ => aP.cells a n (i + 1) _
theorem aP.isAgg (t : TypeId) : aP (Go.isAgg t) := aP.bind (aP.underlying t) fun d => by
 split <;> exact aP.pure _
theorem aP.error {α : Type} (m : String) : aP (runtimePanic (.error m) : Sem α) := aP.bind aP.program fun p => aP.halt _
theorem aP.asIntOf (v : Value) : aP (Go.asIntOf v) := by
 unfold Go.asIntOf
 split
 · exact aP.pure _
 · exact aP.unsupported _
 · exact aP.stuck _
theorem aP.asInt (v : Value) : aP (Go.asInt v) := aP.bind (aP.asIntOf v) fun _ => aP.pure _
theorem aP.choose (q : Question) : aP (Go.choose q) := fun P w x w' h => by
 simp only [Go.choose, Sem.run] at h
 split at h
 · cases h; exact dH.refl _ _
 · cases h; exact ⟨rfl, rfl, rfl, Nat.le_refl _, fun _ _ => rfl, Nat.le_succ _⟩
theorem aP.room (n : Nat) : aP (askRoom n) := fun P w x w' h => by
 unfold askRoom at h
 split at h
 · simp only [Go.mark, Sem.run] at h
   cases h; exact ⟨rfl, rfl, rfl, Nat.le_refl _, fun _ _ => rfl, Nat.le_refl _⟩
 · cases h; exact dH.refl _ _
theorem mG (t : TypeId) (a : Value) : aP (Instr.loadAt t a) := by
 unfold Instr.loadAt
 refine aP.bind ?_ fun b => ?_
 · unfold Instr.sureAddr
   split
   · exact aP.pure _
   · exact aP.stuck _
 · unfold loadVar
   refine aP.bind (aP.isAgg t) fun c => ?_
   split
   · exact aP.bind (aP.sizeOf t) fun n => aP.bind (aP.cells _ _ _ _) fun _ => aP.pure _
   · exact aP.load _ _
theorem ko (t : TypeId) (a b : Value) : aP (Instr.makeSlice t a b) := by
 unfold Instr.makeSlice
 refine aP.bind (aP.underlying t) fun d => ?_
 split
 · refine aP.bind (aP.asInt _) fun l => aP.bind (aP.asInt _) fun c => aP.bind (aP.typeInfo _) fun i => ?_
   have tail : ∀ (c : Int) (l : Int) (elem : TypeId), aP (do
       let n := c.toNat * (← sizeOf elem)
       let zero ← if n = 0 then pure #[] else do pure (← zeroValue elem).cells
       let a ← newRow elem ((Array.range n).map (zero[· % zero.size]!))
       pure (Value.slice (some a) l.toNat c.toNat)) := fun c l elem => by
     refine aP.bind (aP.sizeOf _) fun n => ?_
     have last : ∀ zero : Array Value, aP (do
       let a ← newRow elem ((Array.range (c.toNat * n)).map (zero[· % zero.size]!))
       pure (Value.slice (some a) l.toNat c.toNat)) := fun zero => aP.bind (aP.bind (aP.new _) fun _ => aP.pure _) fun _ => aP.pure _
     by_cases h : c.toNat * n = 0
     · simp only [h, if_true]
       have := last #[]
       simp only [h] at this
       exact aP.bind (aP.pure _) fun _ => aP.bind (aP.bind (aP.new _) fun _ => aP.pure _) fun _ => aP.pure _
     · simp only [h, if_false]
       exact aP.bind (aP.zeroValue _) fun _ => aP.bind (aP.pure _) fun z => last z
   dsimp only
   repeat' (first
     | exact aP.error _
     | exact aP.choose _
     | exact aP.room _
     | exact tail _ _ _
     | exact aP.pure _
     | refine aP.bind ?_ fun _ => ?_
     | split)
 · exact aP.stuck _
def ij : Op → Bool
 | .alloc _ | .box .. | .buildSlice .. | .load .. | .makeSlice .. => true
 | _ => false
theorem oB {ρ : Operand → Value} {o : Oper} (h : ij o.op = true) : aP (execOp ρ o) := by
 obtain ⟨dst, op, ty, pos, after, g⟩ := o
 cases op <;> simp only [ij, Bool.false_eq_true] at h
 case alloc e => exact aP.bind (aP.bind (aP.zeroValue _) fun _ => aP.bind (aP.newVar _ _) fun _ => aP.pure _) fun _ => aP.pure _
 case box e x => exact aP.bind (aP.bind (aP.newVar _ _) fun _ => aP.pure _) fun _ => aP.pure _
 case buildSlice t n ps => exact aP.bind (k9 _ _ _) fun _ => aP.pure _
 case load t a => exact aP.bind (mG _ _) fun _ => aP.pure _
 case makeSlice t a b => exact aP.bind (ko _ _ _) fun _ => aP.pure _
theorem qS {i : Nat} {oi : Oper} {v : Value} {w0 : World} {M D : Array Bool} (hi : ops[i]? = some oi) (hsel : ∀ (j : Nat) (o : Oper) cs b, ops[j]? = some o → o.op ≠ .select cs b) (hqi : qs i = true)
    (hQ : ∀ c a w, Q (.panic c) (a.put oi.dst v) w → Q (.panic c) a w)
    (hM : ∀ j oj, ops[j]? = some oj → M.getD j false = false → j ≠ i → ∃ e ∈ oj.after, Region.binds md e = true ∧ M.getD e.on false = false)
    (hMq : ∀ j oj, ops[j]? = some oj → M.getD j false = true → D.getD j true = false → j ≠ i → qs j = true ∨ ij oj.op = true) :
    ∀ (fuel : Nat) (listed : Array Bool) (a : Act) (w : World), dH w0.heap.size w0 w → (∀ j, listed.getD j false = true → M.getD j false = true) → (∀ j, listed.getD j true = false → D.getD j true = false) →
      (∀ j oj, ops[j]? = some oj → j ≠ i → listed.getD j true = false → (∀ e ∈ oj.after, Region.binds md e = true → e.on ≠ i) → oi.apart ops oj = true) →
      i ∈ Region.ready md ops listed → (∀ w, dH w0.heap.size w0 w → YieldsAt P ops w oi v a) →
      lT P md ops qs Q fuel (listed.setIfInBounds i true) (a.put oi.dst v) w → lT P md ops qs Q (fuel + 1) listed a w := by
  intro fuel
  induction fuel with
  | zero =>
    intro listed a w hw _ _ _ hr hy H
    refine ⟨fun h => (by rw [h] at hr; cases hr), fun j hj => ?_⟩
    by_cases hji : j = i
    · subst hji; rw [if_pos hqi]; exact (hy w hw).stOp hi H
    · have := ready_mono hj hji
      rw [H.1] at this
      cases this
  | succ fuel ih =>
    intro listed a w hw hsub hD hfree hr hy H
    refine ⟨fun h => (by rw [h] at hr; cases hr), fun j hj => ?_⟩
    by_cases hji : j = i
    · subst hji; rw [if_pos hqi]; exact (hy w hw).stOp hi H
    · obtain ⟨hjun, oj, hoj, hall⟩ := mem_ready.1 hj
      have hMj : M.getD j false = true := by
        cases hm : M.getD j false with
        | true => rfl
        | false =>
          obtain ⟨e, he, hb, hn⟩ := hM j oj hoj hm hji
          have := hsub _ (hall e he hb)
          rw [hn] at this; cases this
      have hqj := hMq j oj hoj hMj (hD j hjun) hji
      have h1 := H.2 j (ready_mono hj hji)
      have hnot : ∀ e ∈ oj.after, Region.binds md e = true → e.on ≠ i := fun e he hb heq => by
        have h1 := hall e he hb
        have h0 := (mem_ready.1 hr).1
        rw [heq] at h1
        rw [getD_both h0] at h1
        cases h1
      have hap := hfree j oj hoj hji hjun hnot
      have hfree' : ∀ k ok, ops[k]? = some ok → k ≠ i → (listed.setIfInBounds j true).getD k true = false →
          (∀ e ∈ ok.after, Region.binds md e = true → e.on ≠ i) → oi.apart ops ok = true := fun k ok hk hki hun hno => by
        refine hfree k ok hk hki ?_ hno
        by_cases hjk : j = k
        · subst hjk; exact hjun
        · rw [getD_set_ne true hjk] at hun; exact hun
      have hsub' : ∀ k, (listed.setIfInBounds j true).getD k false = true → M.getD k false = true := fun k hk => by
        by_cases hjk : j = k
        · subst hjk; exact hMj
        · rw [getD_set_ne false hjk] at hk; exact hsub k hk
      have hD' : ∀ k, (listed.setIfInBounds j true).getD k true = false → D.getD k true = false := fun k hk => by
        by_cases hjk : j = k
        · subst hjk; exact hD j hjun
        · rw [getD_set_ne true hjk] at hk; exact hD k hk
      obtain ⟨g1, g2, g3⟩ := Oper.apart_spec hap
      have keep : ∀ u w, dH w0.heap.size w0 w → YieldsAt P ops w oi v (a.put oj.dst u) := fun u w hw =>
        (hy w hw).of_same (execOp_put oi (fun cs b => hsel i oi cs b hi) a oj.dst u g3) (wanted_put oi a oj.dst u g3)
      cases hqj' : qs j with
      | true =>
        simp only [hqj', if_true] at h1 ⊢
        obtain ⟨u, hyu, hK⟩ := yieldsAt_of_stOp hoj h1
        have hyj : YieldsAt P ops w oj u a := by
          rcases hyu with ⟨k1, k2⟩ | ⟨k1, k2⟩
          · refine .inl ⟨by rw [← wanted_put oj a oi.dst v g1]; exact k1, ?_⟩
            rw [execOp_put oj (fun cs b => hsel j oj cs b hoj) a oi.dst v g1] at k2
            exact k2
          · exact .inr ⟨by rw [← wanted_put oj a oi.dst v g1]; exact k1, k2⟩
        refine hyj.stOp hoj (ih (listed.setIfInBounds j true) (a.put oj.dst u) w hw hsub' hD' hfree' (ready_mono hr (Ne.symm hji)) (keep u) ?_)
        rw [← Act.put_comm a v u g2, Array.setIfInBounds_comm _ _ hji]
        exact hK
      | false =>
        have hkk := hqj.resolve_left (by rw [hqj']; simp)
        simp only [hqj', Bool.false_eq_true, if_false] at h1 ⊢
        unfold wpOp at h1 ⊢
        simp only [hoj] at h1 ⊢
        rw [wanted_put oj a oi.dst v g1] at h1
        cases hwt : Region.wanted oj (yielded ops a.tmps) with
        | false =>
          simp only [hwt, Bool.false_eq_true, if_false] at h1 ⊢
          refine ih (listed.setIfInBounds j true) (a.put oj.dst undef) w hw hsub' hD' hfree' (ready_mono hr (Ne.symm hji)) (keep undef) ?_
          rw [← Act.put_comm a v undef g2, Array.setIfInBounds_comm _ _ hji]
          exact h1
        | true =>
          simp only [hwt, if_true] at h1 ⊢
          have hke := oB (ρ := a.eval) hkk P w
          rcases h1 with h1 | ⟨h1, h2⟩
          · left
            unfold Oper.wp at h1 ⊢
            rw [execOp_put oj (fun cs b => hsel j oj cs b hoj) a oi.dst v g1] at h1
            obtain ⟨dst, op, ty, pos, after, gd⟩ := oj
            cases hrun : (execOp a.eval ⟨dst, op, ty, pos, after, gd⟩).run P w with
            | halt x w' =>
              rw [hrun] at h1
              cases x <;> simp only [Oper.upon] at h1 ⊢
              case panic u => exact hQ _ _ _ h1
            | ok nx w' =>
              rw [hrun] at h1
              have hb := hke nx w' hrun
              have hw' : dH w0.heap.size w0 w' := hw.trans (hb.mono hw.size)
              -- these operations yield values alone
              have hval : ∃ u, nx = .value u := by
                cases op <;> simp only [ij, Bool.false_eq_true] at hkk
                all_goals exact si hrun
              obtain ⟨u, rfl⟩ := hval
              simp only [Oper.upon] at h1 ⊢
              refine ih (listed.setIfInBounds j true) (a.put dst u) w' hw' hsub' hD' hfree' (ready_mono hr (Ne.symm hji)) (keep u) ?_
              have h3 := h1
              rw [show (a.put oi.dst v).put dst u = (a.put dst u).put oi.dst v from Act.put_comm a v u g2, Array.setIfInBounds_comm _ _ (Ne.symm hji)] at h3
              exact h3
          · right
            refine ⟨?_, h2⟩
            unfold Oper.asks at *
            rw [execOp_put oj (fun cs b => hsel j oj cs b hoj) a oi.dst v g1] at h1
            exact h1
theorem qn {i : Nat} {oi : Oper} {v : Value} (hi : ops[i]? = some oi) (hsel : ∀ (j : Nat) (o : Oper) cs b, ops[j]? = some o → o.op ≠ .select cs b) (hqi : qs i = true)
    (hQ : ∀ c a w, Q (.panic c) (a.put oi.dst v) w → Q (.panic c) a w) :
    ∀ (fuel : Nat) (listed : Array Bool) (a : Act) (w : World),
      (∀ j oj, ops[j]? = some oj → j ≠ i → listed.getD j true = false → (∀ e ∈ oj.after, Region.binds md e = true → e.on ≠ i) → oi.apart ops oj = true) →
      i ∈ Region.ready md ops listed → Yields P ops oi v a →
      lT P md ops qs Q fuel (listed.setIfInBounds i true) (a.put oi.dst v) w → lT P md ops qs Q (fuel + 1) listed a w := by
  have hat : ∀ {a : Act} {w : World}, Yields P ops oi v a → YieldsAt P ops w oi v a := fun {a w} hy => by
    rcases hy with ⟨h1, h2⟩ | ⟨h1, h2⟩
    · exact .inl ⟨h1, .inl (h2 w)⟩
    · exact .inr ⟨h1, h2⟩
  intro fuel
  induction fuel with
  | zero =>
    intro listed a w _ hr hy H
    refine ⟨fun h => (by rw [h] at hr; cases hr), fun j hj => ?_⟩
    by_cases hji : j = i
    · subst hji; rw [if_pos hqi]; exact (hat hy).stOp hi H
    · have := ready_mono hj hji
      rw [H.1] at this
      cases this
  | succ fuel ih =>
    intro listed a w hfree hr hy H
    refine ⟨fun h => (by rw [h] at hr; cases hr), fun j hj => ?_⟩
    by_cases hji : j = i
    · subst hji; rw [if_pos hqi]; exact (hat hy).stOp hi H
    · obtain ⟨hjun, oj, hoj, hall⟩ := mem_ready.1 hj
      have h1 := H.2 j (ready_mono hj hji)
      have hnot : ∀ e ∈ oj.after, Region.binds md e = true → e.on ≠ i := fun e he hb heq => by
        have h1 := hall e he hb
        have h0 := (mem_ready.1 hr).1
        rw [heq] at h1
        rw [getD_both h0] at h1
        cases h1
      have hap := hfree j oj hoj hji hjun hnot
      have hfree' : ∀ k ok, ops[k]? = some ok → k ≠ i → (listed.setIfInBounds j true).getD k true = false →
          (∀ e ∈ ok.after, Region.binds md e = true → e.on ≠ i) → oi.apart ops ok = true := fun k ok hk hki hun hno => by
        refine hfree k ok hk hki ?_ hno
        by_cases hjk : j = k
        · subst hjk; exact hjun
        · rw [getD_set_ne true hjk] at hun; exact hun
      cases hqj : qs j with
      | true =>
        simp only [hqj, if_true] at h1 ⊢
        -- a step that leaves the world
        have hy' := hy
        obtain ⟨g1, g2, g3⟩ := Oper.apart_spec hap
        have keep : ∀ (a : Act), Yields P ops oi v a → ∀ u, Yields P ops oi v (a.put oj.dst u) := fun a hy u =>
          hy.of_same (execOp_put oi (fun cs b => hsel i oi cs b hi) a oj.dst u g3) (wanted_put oi a oj.dst u g3)
        obtain ⟨u, hyu, hK⟩ := yieldsAt_of_stOp hoj h1
        have hyj : YieldsAt P ops w oj u a := by
          rcases hyu with ⟨k1, k2⟩ | ⟨k1, k2⟩
          · refine .inl ⟨by rw [← wanted_put oj a oi.dst v g1]; exact k1, ?_⟩
            rw [execOp_put oj (fun cs b => hsel j oj cs b hoj) a oi.dst v g1] at k2
            exact k2
          · exact .inr ⟨by rw [← wanted_put oj a oi.dst v g1]; exact k1, k2⟩
        refine hyj.stOp hoj (ih (listed.setIfInBounds j true) (a.put oj.dst u) w hfree' (ready_mono hr (Ne.symm hji)) (keep a hy u) ?_)
        rw [← Act.put_comm a v u g2, Array.setIfInBounds_comm _ _ hji]
        exact hK
      | false =>
        simp only [hqj, Bool.false_eq_true, if_false] at h1 ⊢
        have h2 := wpOp_put hoj hap (fun cs b => hsel i oi cs b hi) (fun cs b => hsel j oj cs b hoj) hQ hy h1
        refine wpOp_mono (fun a' w' h3 => ih (listed.setIfInBounds j true) a' w' hfree' (ready_mono hr (Ne.symm hji)) h3.1 ?_) h2
        rw [Array.setIfInBounds_comm _ _ hji]
        exact h3.2
end
section
variable {P : Program} {n : Nat} {l : List Oper} {qs : List Nat} {K : Fr → World → Prop} {f : Fr} {w : World} {done : List Nat} {fuel : Nat}
def mc (P : Program) (n : Nat) (l : List Oper) (qs : List Nat) (K : Fr → World → Prop) (fuel : Nat) (done : List Nat) (f : Fr) (w : World) : Prop :=
  ∀ a, Ag n a f → lT P .any l.toArray (fun i => decide (i ∈ qs)) (fun e a' w' => e = .normal ∧ ∃ f', Ag n a' f' ∧ K f' w') fuel (cB l.length done) a w
theorem ch {fid : Nat} {R : Ending → World → Prop} {k : List Item} {id : Nat} (γ : aE) (qs : List Nat) (hm : P.follows .mixedOrders = true)
   (h : ∀ w1, bq no γ w γ w1 → mc P n l qs (fa P fid n R k) l.length [] f w1) : fa P fid n R (.code (.region id l.toArray true) :: k) f w :=
 ip fun a ha => wp_region_any hm (by
   have h0 := gk _ _ _ _ (h _ (bq.refl _ _ _).drew a ha)
   have hmask : cB l.length [] = Array.replicate l.toArray.size false := by
     apply Array.ext
     · simp [cB]
     · intro j h1 h2; simp [cB]
   rw [hmask] at h0
   simpa using h0)
theorem el {fid : Nat} {R : Ending → World → Prop} {k : List Item} {id : Nat} {σ : Type} (Mid : σ → Fr → World → Prop) (γ : aE) (qs : List Nat) (hm : P.follows .mixedOrders = true)
    (h : (∀ s f w, Mid s f w → fa P fid n R k f w) → ∀ w1, bq no γ w γ w1 → mc P n l qs (fa P fid n R k) l.length [] f w1) (hk : ∀ s f w, Mid s f w → fa P fid n R k f w) : fa P fid n R (.code (.region id l.toArray true) :: k) f w :=
  ch γ qs hm (h hk)
def gh (l : List Oper) (done : List Nat) (i : Nat) : Bool :=
 !done.contains i && match l[i]? with
   | some o => o.after.all fun e => !Region.binds .any e || done.contains e.on && decide (e.on < l.length)
   | none => false
def iO (l : List Oper) (done : List Nat) (i : Nat) : Bool :=
 match l[i]? with
 | none => false
 | some oi => (List.range l.length).all fun j => j == i || done.contains j || match l[j]? with
     | some oj => oj.after.any (fun e => Region.binds .any e && e.on == i) || oi.apart l.toArray oj
     | none => true
def mF (l : List Oper) (qs done M : List Nat) (i : Nat) : Bool :=
  ((List.range l.length).all fun j => M.contains j || j == i || match l[j]? with
      | some oj => oj.after.any fun e => Region.binds .any e && !M.contains e.on
      | none => true) &&
  (M.all fun j => j == i || done.contains j || qs.contains j) && (done.all fun j => M.contains j && decide (j < l.length)) && M.all fun j => decide (j < l.length)
def gH (l : List Oper) : Bool := Region.noSelect l.toArray
theorem fU {i : Nat} (h : gh l done i = true) : i < l.length ∧ i ∈ Region.ready .any l.toArray (cB l.length done) := by
 unfold gh at h
 simp only [Bool.and_eq_true, Bool.not_eq_true'] at h
 obtain ⟨h1, h2⟩ := h
 split at h2
 · rename_i o ho
   have hlt : i < l.length := (List.getElem?_eq_some_iff.1 ho).1
   refine ⟨hlt, mem_ready.2 ⟨by rw [dh]; simp [hlt]; simpa using h1, o, by simpa using ho, fun e he hb => ?_⟩⟩
   have h3 := Array.all_eq_true_iff_forall_mem.1 h2 e he
   simp only [hb, Bool.not_true, Bool.false_or, Bool.and_eq_true, decide_eq_true_eq] at h3
   rw [dh, if_pos h3.2]
   simpa using h3.1
 · cases h2
theorem gT {i : Nat} {oi : Oper} (hi : l[i]? = some oi) (h : iO l done i = true) (j : Nat) (oj : Oper) (hj : l.toArray[j]? = some oj) (hne : j ≠ i) (hun : (cB l.length done).getD j true = false)
   (hno : ∀ e ∈ oj.after, Region.binds .any e = true → e.on ≠ i) : oi.apart l.toArray oj = true := by
 have hj' : l[j]? = some oj := by simpa using hj
 have hlt : j < l.length := (List.getElem?_eq_some_iff.1 hj').1
 unfold iO at h
 simp only [hi, List.all_eq_true, List.mem_range] at h
 have h1 := h j hlt
 rw [dh, if_pos hlt] at hun
 have hd : done.contains j = false := by simpa using hun
 simp only [hj', Bool.or_eq_true, beq_iff_eq, hne, false_or, hd, Bool.false_eq_true] at h1
 rcases h1 with h1 | h1
 · obtain ⟨e, he, hb⟩ := Array.any_eq_true'.1 h1
   simp only [Bool.and_eq_true, beq_iff_eq] at hb
   exact absurd hb.2 (hno e he hb.1)
 · exact h1
theorem j7 (h : gH l = true) : ∀ (j : Nat) (o : Oper) cs b, l.toArray[j]? = some o → o.op ≠ .select cs b := Region.noSelect_spec h
theorem lE {i : Nat} (h : qs.contains i = true) : decide (i ∈ qs) = true := by simpa using h
variable {dst : Option Tmp} {op : Op} {ty : TypeId} {pos : String} {after : Array Edge} {g : Option (Nat × Bool)} {v : Value}
theorem wV (i : Nat) (M : List Nat) (hi : l[i]? = some ⟨dst, op, ty, pos, after, g⟩) (hn : gH l = true) (hc : (qs.contains i && gh l done i && iO l done i && mF l qs done M i && lV n ⟨dst, op, ty, pos, after, g⟩) = true)
    (hw : cU l ⟨dst, op, ty, pos, after, g⟩ f = true) (h : (execOp (ev f) ⟨dst, op, ty, pos, after, g⟩).run P w = .ok (.value v) w) (hk : mc P n l qs K fuel (i :: done) (gp f dst v) w) : mc P n l qs K (fuel + 1) done f w := by
  simp only [Bool.and_eq_true] at hc
  obtain ⟨⟨⟨⟨hq, hr⟩, hf⟩, hb⟩, hd⟩ := hc
  obtain ⟨hlt, hr'⟩ := fU hr
  intro a ha
  unfold mF at hb
  simp only [Bool.and_eq_true, List.all_eq_true, List.mem_range] at hb
  obtain ⟨⟨⟨b1, b2⟩, b3⟩, b4⟩ := hb
  have hgM : ∀ j, (cB l.length M).getD j false = true ↔ j ∈ M := fun j => by
    rw [dh]
    by_cases hjl : j < l.length
    · simp [hjl]
    · simp only [hjl, if_false, Bool.false_eq_true, false_iff]
      exact fun hm => hjl (by simpa using b4 j hm)
  refine oY (v := v) (M := cB l.length M) (D := cB l.length done) (by simpa using hi) (j7 hn) (lE hq) (fun j oj hj hm hne => ?_) (fun j oj hj hm hD hne => ?_) fuel _ a (by simp [cB]) (fun j hj => ?_) (fun j hj => hj) (gT hi hf) hr' ?_ ?_
  · have hj' : l[j]? = some oj := by simpa using hj
    have hjl : j < l.length := (List.getElem?_eq_some_iff.1 hj').1
    have h1 := b1 j hjl
    have hmM : M.contains j = false := by
      cases hc : M.contains j with
      | false => rfl
      | true => have h9 := (hgM j).2 (by simpa using hc); rw [hm] at h9; cases h9
    simp only [hmM, hj', Bool.false_or, Bool.or_eq_true, beq_iff_eq, hne, false_or] at h1
    obtain ⟨e, he, hbb⟩ := Array.any_eq_true'.1 h1
    simp only [Bool.and_eq_true, Bool.not_eq_true'] at hbb
    refine ⟨e, he, hbb.1, ?_⟩
    cases hc : (cB l.length M).getD e.on false with
    | false => rfl
    | true =>
      have := (hgM _).1 hc
      have h2 := hbb.2
      simp [this] at h2
  · have h1 := b2 j ((hgM j).1 hm)
    have hj' : l[j]? = some oj := by simpa using hj
    have hjl : j < l.length := (List.getElem?_eq_some_iff.1 hj').1
    rw [dh, if_pos hjl] at hD
    have hd : done.contains j = false := by simpa using hD
    simp only [Bool.or_eq_true, beq_iff_eq, hne, hd, false_or, Bool.false_eq_true] at h1
    exact lE h1
  · rw [dh] at hj
    split at hj
    · have h1 := b3 j (by simpa using hj)
      exact (hgM j).2 (by simpa using h1.1)
    · cases hj
  · refine .inl ⟨?_, .inl ?_⟩
    · rw [ha.yielded]; exact hw
    · rw [ha.eval]; exact h
  · rw [dz done hlt]
    exact hk _ (ha.put hd v)
def n9 (l : List Oper) (qs done M : List Nat) (i : Nat) : Bool :=
 ((List.range l.length).all fun j => M.contains j || j == i || match l[j]? with
     | some oj => oj.after.any fun e => Region.binds .any e && !M.contains e.on
     | none => true) &&
 (M.all fun j => j == i || done.contains j || qs.contains j || match l[j]? with
     | some oj => ij oj.op
     | none => false) && (done.all fun j => M.contains j && decide (j < l.length)) && M.all fun j => decide (j < l.length)
theorem vO (i : Nat) (M : List Nat) (hi : l[i]? = some ⟨dst, op, ty, pos, after, g⟩) (hn : gH l = true) (hc : (qs.contains i && gh l done i && iO l done i && n9 l qs done M i && lV n ⟨dst, op, ty, pos, after, g⟩) = true)
    (hw : cU l ⟨dst, op, ty, pos, after, g⟩ f = true) (h : ∀ w', dH w.heap.size w w' → (execOp (ev f) ⟨dst, op, ty, pos, after, g⟩).run P w' = .ok (.value v) w') (hk : mc P n l qs K fuel (i :: done) (gp f dst v) w) : mc P n l qs K (fuel + 1) done f w := by
  simp only [Bool.and_eq_true] at hc
  obtain ⟨⟨⟨⟨hq, hr⟩, hf⟩, hb⟩, hd⟩ := hc
  obtain ⟨hlt, hr'⟩ := fU hr
  intro a ha
  unfold n9 at hb
  simp only [Bool.and_eq_true, List.all_eq_true, List.mem_range] at hb
  obtain ⟨⟨⟨b1, b2⟩, b3⟩, b4⟩ := hb
  have hgM : ∀ j, (cB l.length M).getD j false = true ↔ j ∈ M := fun j => by
    rw [dh]
    by_cases hjl : j < l.length
    · simp [hjl]
    · simp only [hjl, if_false, Bool.false_eq_true, false_iff]
      exact fun hm => hjl (by simpa using b4 j hm)
  refine qS (v := v) (w0 := w) (M := cB l.length M) (D := cB l.length done) (by simpa using hi) (j7 hn) (lE hq) (fun c a w h => by cases h.1) (fun j oj hj hm hne => ?_) (fun j oj hj hm hD hne => ?_) fuel _ a w (dH.refl _ _) (fun j hj => ?_) (fun j hj => hj) (gT hi hf) hr' (fun w' hw' => ?_) ?_
  · have hj' : l[j]? = some oj := by simpa using hj
    have hjl : j < l.length := (List.getElem?_eq_some_iff.1 hj').1
    have h1 := b1 j hjl
    have hmM : M.contains j = false := by
      cases hc : M.contains j with
      | false => rfl
      | true => have h9 := (hgM j).2 (by simpa using hc); rw [hm] at h9; cases h9
    simp only [hmM, hj', Bool.false_or, Bool.or_eq_true, beq_iff_eq, hne, false_or] at h1
    obtain ⟨e, he, hbb⟩ := Array.any_eq_true'.1 h1
    simp only [Bool.and_eq_true, Bool.not_eq_true'] at hbb
    refine ⟨e, he, hbb.1, ?_⟩
    cases hc : (cB l.length M).getD e.on false with
    | false => rfl
    | true =>
      have := (hgM _).1 hc
      have h2 := hbb.2
      simp [this] at h2
  · have h1 := b2 j ((hgM j).1 hm)
    have hj' : l[j]? = some oj := by simpa using hj
    have hjl : j < l.length := (List.getElem?_eq_some_iff.1 hj').1
    rw [dh, if_pos hjl] at hD
    have hd : done.contains j = false := by simpa using hD
    simp only [hj', Bool.or_eq_true, beq_iff_eq, hne, hd, false_or, Bool.false_eq_true] at h1
    rcases h1 with h1 | h1
    · exact .inl (lE h1)
    · exact .inr h1
  · rw [dh] at hj
    split at hj
    · have h1 := b3 j (by simpa using hj)
      exact (hgM j).2 (by simpa using h1.1)
    · cases hj
  · refine .inl ⟨?_, .inl ?_⟩
    · rw [ha.yielded]; exact hw
    · rw [ha.eval]; exact h w' hw'
  · rw [dz done hlt]
    exact hk _ (ha.put hd v)
theorem wo (i : Nat) (hi : l[i]? = some ⟨dst, op, ty, pos, after, g⟩) (hn : gH l = true) (hc : (qs.contains i && gh l done i && iO l done i && lV n ⟨dst, op, ty, pos, after, g⟩) = true)
    (hw : cU l ⟨dst, op, ty, pos, after, g⟩ f = true) (h : ∀ w, (execOp (ev f) ⟨dst, op, ty, pos, after, g⟩).run P w = .ok (.value v) w) (hk : mc P n l qs K fuel (i :: done) (gp f dst v) w) : mc P n l qs K (fuel + 1) done f w := by
  simp only [Bool.and_eq_true] at hc
  obtain ⟨⟨⟨hq, hr⟩, hf⟩, hd⟩ := hc
  obtain ⟨hlt, hr'⟩ := fU hr
  intro a ha
  refine qn (v := v) (by simpa using hi) (j7 hn) (lE hq) (fun c a w h => by cases h.1) fuel _ a w (gT hi hf) hr' (.inl ⟨by rw [ha.yielded]; exact hw, fun w => by rw [ha.eval]; exact h w⟩) ?_
  rw [dz done hlt]
  exact hk _ (ha.put hd v)
theorem fT {i : Nat} {o : Oper} {a : Act} {K' : Act → World → Prop} {Q : Exit → Act → World → Prop} {N : Value → World → Prop} (ha : Ag n a f) (hi : l[i]? = some o) (hw : cU l o f = true) (h : go P o f w N) (hN : ∀ v w', N v w' → K' (a.put o.dst v) w') : wpOp P l.toArray Q i K' a w := by
 unfold wpOp
 have hi' : l.toArray[i]? = some o := by simpa using hi
 simp only [hi']
 have hw' : Region.wanted o (yielded l.toArray a.tmps) = true := by rw [ha.yielded]; exact hw
 simp only [hw', if_true]
 refine .inl ?_
 unfold Oper.wp
 rw [ha.eval]
 unfold go at h
 generalize (execOp (ev f) o).run P w = r at *
 cases r with
 | halt x w' => exact h.elim
 | ok nx w' =>
   cases nx <;> simp only [s6] at h <;> simp only [Oper.upon]
   case value v => exact hN _ _ h
   case skip => exact hN _ _ h
   case enter g args =>
     refine h.mono fun e w'' he => ?_
     cases e with
     | returned v => exact hN _ _ he
     | panicked c => exact he.elim
     | outgrown => exact he.elim
theorem bM (i : Nat) (hi : l[i]? = some ⟨dst, op, ty, pos, after, g⟩) (hc : (decide (Region.ready .any l.toArray (cB l.length done) = [i]) && !qs.contains i && lV n ⟨dst, op, ty, pos, after, g⟩) = true)
    (hw : cU l ⟨dst, op, ty, pos, after, g⟩ f = true) (h : go P ⟨dst, op, ty, pos, after, g⟩ f w (fun v w' => mc P n l qs K fuel (i :: done) (gp f dst v) w')) : mc P n l qs K (fuel + 1) done f w := by
  simp only [Bool.and_eq_true, decide_eq_true_eq, Bool.not_eq_true'] at hc
  obtain ⟨⟨hr, hq⟩, hd⟩ := hc
  have hlt : i < l.length := (List.getElem?_eq_some_iff.1 hi).1
  intro a ha
  refine ⟨fun h0 => (by rw [hr] at h0; cases h0), fun j hj => ?_⟩
  rw [hr] at hj
  obtain rfl : j = i := by simpa using hj
  have hq' : decide (j ∈ qs) = false := by simpa using hq
  simp only [hq', Bool.false_eq_true, if_false]
  refine fT ha hi hw h fun v w' hk => ?_
  rw [dz done hlt]
  exact hk _ (ha.put hd v)
theorem gB (i j : Nat) {dst' : Option Tmp} {op' : Op} {ty' : TypeId} {pos' : String} {after' : Array Edge} {g' : Option (Nat × Bool)} (hi : l[i]? = some ⟨dst, op, ty, pos, after, g⟩) (hj : l[j]? = some ⟨dst', op', ty', pos', after', g'⟩)
    (hc : (decide (Region.ready .any l.toArray (cB l.length done) = [i, j]) && !qs.contains i && !qs.contains j && lV n ⟨dst, op, ty, pos, after, g⟩ && lV n ⟨dst', op', ty', pos', after', g'⟩) = true)
    (hw : cU l ⟨dst, op, ty, pos, after, g⟩ f = true) (hw' : cU l ⟨dst', op', ty', pos', after', g'⟩ f = true)
    (h : go P ⟨dst, op, ty, pos, after, g⟩ f w (fun v w' => mc P n l qs K fuel (i :: done) (gp f dst v) w')) (h' : go P ⟨dst', op', ty', pos', after', g'⟩ f w (fun v w' => mc P n l qs K fuel (j :: done) (gp f dst' v) w')) : mc P n l qs K (fuel + 1) done f w := by
  simp only [Bool.and_eq_true, decide_eq_true_eq, Bool.not_eq_true'] at hc
  obtain ⟨⟨⟨⟨hr, hq⟩, hq2⟩, hd⟩, hd'⟩ := hc
  have hlt : i < l.length := (List.getElem?_eq_some_iff.1 hi).1
  have hlt' : j < l.length := (List.getElem?_eq_some_iff.1 hj).1
  intro a ha
  refine ⟨fun h0 => (by rw [hr] at h0; cases h0), fun k hk => ?_⟩
  rw [hr] at hk
  have hk' : k = i ∨ k = j := by simpa using hk
  rcases hk' with rfl | rfl
  · have hq' : decide (k ∈ qs) = false := by simpa using hq
    simp only [hq', Bool.false_eq_true, if_false]
    refine fT ha hi hw h fun v w' hk => ?_
    rw [dz done hlt]
    exact hk _ (ha.put hd v)
  · have hq' : decide (k ∈ qs) = false := by simpa using hq2
    simp only [hq', Bool.false_eq_true, if_false]
    refine fT ha hj hw' h' fun v w' hk => ?_
    rw [dz done hlt']
    exact hk _ (ha.put hd' v)
theorem cO (hr : decide (Region.ready .any l.toArray (cB l.length done) = []) = true) (h : K f w) : mc P n l qs K 0 done f w := fun _ ha => ⟨of_decide_eq_true hr, rfl, f, ha, h⟩
end
end TL
/-
  TlHold: regions that draw their order, where what is read stays: on the kit's OrdersHeld.
  By an AI agent.
-/
set_option linter.all false
namespace TL
open Go
section
variable {P : Program} {n : Nat} {l : List Oper} {S : World → Prop} {K : Fr → World → Prop} {f : Fr} {w : World} {done : List Nat} {fuel : Nat}
def r9 (P : Program) (n : Nat) (l : List Oper) (S : World → Prop) (K : Fr → World → Prop) (fuel : Nat) (done : List Nat) (f : Fr) (w : World) : Prop :=
  ∀ a, Ag n a f → wpAnyH P .any l.toArray (fun e a' w' => e = .normal ∧ ∃ f', Ag n a' f' ∧ K f' w') S fuel (cB l.length done) a w
theorem bq.same {J : cv → Prop} {γ γ' : aE} {w w' : World} (h : bq J γ w γ' w') : bq J γ w γ w' := ⟨h.os, h.tape, h.output, h.size, fun _ _ _ => rfl, h.keep, h.drawn⟩
theorem cx {fid : Nat} {R : Ending → World → Prop} {k : List Item} {id : Nat} (γ : aE) (J : cv → Prop) (hm : P.follows .mixedOrders = true)
   (h : ∀ w1, bq no γ w γ w1 → r9 P n l (fun w' => bq J γ w1 γ w') (fa P fid n R k) l.length [] f w1) : fa P fid n R (.code (.region id l.toArray true) :: k) f w :=
 ip fun a ha => wp_region_held hm (by
   have h0 := h _ (bq.refl _ _ _).drew a ha
   have hmask : cB l.length [] = Array.replicate l.toArray.size false := by
     apply Array.ext
     · simp [cB]
     · intro j h1 h2; simp [cB]
   rw [hmask] at h0
   simpa using h0)
theorem dS {fid : Nat} {R : Ending → World → Prop} {k : List Item} {id : Nat} {σ : Type} (Mid : σ → Fr → World → Prop) (γ : aE) (J : cv → Prop) (hm : P.follows .mixedOrders = true)
    (h : (∀ s f w, Mid s f w → fa P fid n R k f w) → ∀ w1, bq no γ w γ w1 → r9 P n l (fun w' => bq J γ w1 γ w') (fa P fid n R k) l.length [] f w1) (hk : ∀ s f w, Mid s f w → fa P fid n R k f w) : fa P fid n R (.code (.region id l.toArray true) :: k) f w :=
  cx γ J hm (h hk)
variable {dst : Option Tmp} {op : Op} {ty : TypeId} {pos : String} {after : Array Edge} {g : Option (Nat × Bool)} {v : Value}
theorem wl (i : Nat) (hi : l[i]? = some ⟨dst, op, ty, pos, after, g⟩) (hn : gH l = true) (hc : (gh l done i && iO l done i && lV n ⟨dst, op, ty, pos, after, g⟩) = true)
   (hw : cU l ⟨dst, op, ty, pos, after, g⟩ f = true) (hS : S w) (h : ∀ w, S w → (execOp (ev f) ⟨dst, op, ty, pos, after, g⟩).run P w = .ok (.value v) w) (hk : r9 P n l S K fuel (i :: done) (gp f dst v) w) : r9 P n l S K (fuel + 1) done f w := by
 simp only [Bool.and_eq_true] at hc
 obtain ⟨⟨hr, hf⟩, hd⟩ := hc
 obtain ⟨hlt, hr'⟩ := fU hr
 intro a ha
 refine wpAnyH_first (v := v) (by simpa using hi) (j7 hn) (fun c a w h => by cases h.1) fuel _ a w (gT hi hf) hr' (.inl ⟨by rw [ha.yielded]; exact hw, fun w hs => by rw [ha.eval]; exact h w hs⟩) hS ?_
 rw [dz done hlt]
 exact hk _ (ha.put hd v)
def vZ (P : Program) (n : Nat) (l : List Oper) (S : World → Prop) (K : Fr → World → Prop) (fuel : Nat) (done : List Nat) (f : Fr) (w : World) (i : Nat) : Prop :=
  ∃ o, l[i]? = some o ∧ i < l.length ∧ (cU l o f = true ∧ lV n o = true ∧ go P o f w (fun v w' => S w' ∧ r9 P n l S K fuel (i :: done) (gp f o.dst v) w'))
theorem da (i : Nat) (hi : l[i]? = some ⟨dst, op, ty, pos, after, g⟩) (hc : lV n ⟨dst, op, ty, pos, after, g⟩ = true) (hw : cU l ⟨dst, op, ty, pos, after, g⟩ f = true)
   (h : go P ⟨dst, op, ty, pos, after, g⟩ f w (fun v w' => S w' ∧ r9 P n l S K fuel (i :: done) (gp f dst v) w')) : vZ P n l S K fuel done f w i :=
 ⟨_, hi, (List.getElem?_eq_some_iff.1 hi).1, hw, hc, h⟩
def sV (P : Program) (n : Nat) (l : List Oper) (S : World → Prop) (K : Fr → World → Prop) (fuel : Nat) (done : List Nat) (f : Fr) (w : World) : List Nat → Prop
 | [] => True
 | i :: r => vZ P n l S K fuel done f w i ∧ sV P n l S K fuel done f w r
theorem sV.mem {L : List Nat} (h : sV P n l S K fuel done f w L) : ∀ i ∈ L, vZ P n l S K fuel done f w i := by
 induction L with
 | nil => intro i hi; cases hi
 | cons j r ih =>
   intro i hi
   rcases List.mem_cons.1 hi with rfl | hi
   · exact h.1
   · exact ih h.2 i hi
theorem d8 (i : Nat) (L : List Nat) (hr : decide (Region.ready .any l.toArray (cB l.length done) = i :: L) = true) (h : sV P n l S K fuel done f w (i :: L)) : r9 P n l S K (fuel + 1) done f w := by
 have hr := of_decide_eq_true hr
 intro a ha
 refine ⟨fun h0 => (by rw [hr] at h0; cases h0), fun k hk => ?_⟩
 rw [hr] at hk
 obtain ⟨o, hi, hlt, hw, hd, ho⟩ := h.mem k (by simpa using hk)
 obtain ⟨dst, op, ty, pos, after, g⟩ := o
 refine fT ha hi hw ho fun v w' hk => ⟨hk.1, ?_⟩
 rw [dz done hlt]
 exact hk.2 _ (ha.put hd v)
theorem aW (i : Nat) (hi : l[i]? = some ⟨dst, op, ty, pos, after, g⟩) (hc : (decide (Region.ready .any l.toArray (cB l.length done) = [i]) && lV n ⟨dst, op, ty, pos, after, g⟩) = true)
   (hw : cU l ⟨dst, op, ty, pos, after, g⟩ f = true) (h : go P ⟨dst, op, ty, pos, after, g⟩ f w (fun v w' => S w' ∧ r9 P n l S K fuel (i :: done) (gp f dst v) w')) : r9 P n l S K (fuel + 1) done f w := by
 simp only [Bool.and_eq_true] at hc
 exact d8 i [] hc.1 ⟨da i hi hc.2 hw h, trivial⟩
theorem cA (hr : decide (Region.ready .any l.toArray (cB l.length done) = []) = true) (h : K f w) : r9 P n l S K 0 done f w := fun _ ha => ⟨of_decide_eq_true hr, rfl, f, ha, h⟩
end
end TL
namespace TL
open Go
theorem eM {α : Type} [Rp α] {γ : aE} {w : World} {v : Value} {xss : List (List α)} {S : cv → Prop} {r : Int} (hs : Sl γ S w v xss) (h0 : 0 ≤ r) (h1 : r < xss.length) :
    ∃ u, (∀ (J : cv → Prop) (w' : World), (∀ c, S c → ¬ J c) → bq J γ w γ w' → w'.cell? (ba v 1 r.toNat) = some u) ∧ Sl γ S w u (gI xss r) := by
  obtain ⟨u, h2, h3⟩ := co hs h0 h1
  refine ⟨u, fun J w' hJ hc => ?_, h3⟩
  have h4 := hs.chg hc hJ
  obtain ⟨u', h5, _⟩ := co h4 h0 h1
  rcases hs with ⟨⟨_, rfl⟩, rfl⟩ | ⟨b, off, cap, rfl, _, hx⟩
  · simp at h1; omega
  · obtain ⟨hb, hS, _⟩ := hx r.toNat _ (gC h0 h1)
    rw [← h2]
    exact fw (hc.keep b hb (hJ _ hS))
end TL
/-
  TlNet: nets, and what layer 3 says of them, as plain functions.
  By an AI agent.
-/
set_option linter.all false
namespace TL
abbrev bZ := Int × List (Int × Int)
def lQ (n : Int) (e : Int × Int) : Prop := (0 ≤ e.1 ∧ e.1 < n) ∧ 0 ≤ e.2 ∧ e.2 < n
instance (n : Int) (e : Int × Int) : Decidable (lQ n e) := by unfold lQ; infer_instance
def bx (g : bZ) : Prop := 0 ≤ g.1 ∧ g.1 ≤ 1024 ∧ g.2.length ≤ 3072 ∧ ∀ e ∈ g.2, lQ g.1 e
instance (g : bZ) : Decidable (bx g) := by unfold bx; infer_instance
def cD (g : bZ) : Bool := decide (bx g)
theorem mg {g : bZ} (h : bx g) : cD g = true := decide_eq_true h
theorem cG {g : bZ} (h : ¬ bx g) : cD g = false := decide_eq_false h
end TL
namespace TL
def ei (n : Int) : List Int → List Int → Int
  | [], _ => 0
  | i :: r, seen => if i < 0 ∨ n ≤ i then 2 else if i ∈ seen then 18 else ei n r (seen ++ [i])
def bN (l : List Int) (n : Int) : Int := ei n l []
structure dN (seen : List Bool) (l : List Int) (n : Int) (k : Nat) : Prop where
 len : (seen.length : Int) = n
 seen : ∀ i, 0 ≤ i → i < n → gI seen i = decide (i ∈ l.take k)
 rest : ei n (l.drop k) (l.take k) = bN l n
 all : ∀ i ∈ l.take k, 0 ≤ i ∧ i < n
theorem fZ {α : Type} [Inhabited α] {xs : List α} {k : Nat} (h : (k : Int) < xs.length) : xs.drop k = gI xs k :: xs.drop (k + 1) := by
 have h' : k < xs.length := by omega
 rw [List.drop_eq_getElem_cons h']
 simp [gI, h']
theorem cu {α : Type} [Inhabited α] {xs : List α} {i j : Int} {y : α} (hi : 0 ≤ i) (hi' : i < xs.length) (hj : 0 ≤ j) : gI (xs.set i.toNat y) j = if j = i then y else gI xs j := by
 unfold gI
 by_cases h : j = i
 · subst h
   have : j.toNat < xs.length := by omega
   simp [this]
 · have : i.toNat ≠ j.toNat := by omega
   simp [h, List.getElem?_set_ne this]
theorem eH {α : Type} [Inhabited α] {n : Nat} {x : α} {i : Int} (h0 : 0 ≤ i) (h1 : i < n) : gI (List.replicate n x) i = x := by
 have : i.toNat < n := by omega
 simp [gI, this]
theorem dN.start (l : List Int) (n : Int) (hn : 0 ≤ n) : dN (List.replicate n.toNat false) l n 0 :=
 ⟨by simp; omega, fun i h0 h1 => by rw [eH h0 (by omega)]; simp, by simp [bN], by simp⟩
theorem dN.next {seen : List Bool} {l : List Int} {n : Int} {k : Nat} (h : dN seen l n k) (hk : (k : Int) < l.length) (h0 : 0 ≤ gI l k) (h1 : gI l k < n) (hs : gI seen (gI l k) = false) : dN (seen.set (gI l k).toNat true) l n (k + 1) := by
 have ht := bh hk
 have hd := fZ hk
 have hl := h.len
 have hni : gI l k ∉ l.take k := by
   have := h.seen _ h0 h1
   rw [hs] at this
   simpa using this.symm
 refine ⟨by simpa using h.len, fun i h2 h3 => ?_, ?_, fun i hi => ?_⟩
 · rw [cu h0 (by omega) h2, ht]
   by_cases he : i = gI l k
   · subst he; simp
   · rw [if_neg he, h.seen i h2 h3]
     simp [he]
 · rw [← h.rest, hd, ht]
   simp only [ei]
   rw [if_neg (by omega), if_neg hni]
 · rw [ht] at hi
   rcases List.mem_append.1 hi with h' | h'
   · exact h.all i h'
   · obtain rfl := List.mem_singleton.1 h'
     exact ⟨h0, h1⟩
theorem dN.bad {seen : List Bool} {l : List Int} {n : Int} {k : Nat} (h : dN seen l n k) (hk : (k : Int) < l.length) (h0 : gI l k < 0 ∨ n ≤ gI l k) : (2 : Int) = bN l n := by
 rw [← h.rest, fZ hk]; simp only [ei]; rw [if_pos h0]
theorem dN.twice {seen : List Bool} {l : List Int} {n : Int} {k : Nat} (h : dN seen l n k) (hk : (k : Int) < l.length) (h0 : 0 ≤ gI l k) (h1 : gI l k < n) (hs : gI seen (gI l k) = true) : (18 : Int) = bN l n := by
 have hni : gI l k ∈ l.take k := by
   have := h.seen _ h0 h1
   rw [hs] at this
   simpa using this.symm
 rw [← h.rest, fZ hk]; simp only [ei]; rw [if_neg (by omega), if_pos hni]
theorem dN.done {seen : List Bool} {l : List Int} {n : Int} {k : Nat} (h : dN seen l n k) (hk : ¬ (k : Int) < l.length) : (0 : Int) = bN l n := by
 rw [← h.rest, List.drop_of_length_le (by omega)]; rfl
theorem iU {n : Int} : ∀ (l seen : List Int), ei n l seen = 0 → (∀ i ∈ l, 0 ≤ i ∧ i < n) ∧ l.Nodup ∧ ∀ i ∈ l, i ∉ seen
 | [], seen, _ => by simp
 | i :: r, seen, h => by
   simp only [ei] at h
   split at h
   · cases h
   · split at h
     · cases h
     · rename_i h1 h2
       obtain ⟨a, b, c⟩ := iU r (seen ++ [i]) h
       refine ⟨fun j hj => ?_, List.nodup_cons.2 ⟨fun hi => c i hi (by simp), b⟩, fun j hj => ?_⟩
       · rcases List.mem_cons.1 hj with rfl | hj
         · omega
         · exact a j hj
       · rcases List.mem_cons.1 hj with rfl | hj
         · exact h2
         · exact fun hs => c j hj (by simp [hs])
theorem gU {n : Int} {l : List Int} (h : bN l n = 0) : (∀ i ∈ l, 0 ≤ i ∧ i < n) ∧ l.Nodup := ⟨(iU l [] h).1, (iU l [] h).2.1⟩
def c8 (g : bZ) (keep : List Int) : bZ × Int :=
 if bx g then
   if bN keep g.2.length = 0 then ((g.1, keep.map (gI g.2)), 0) else ((0, []), bN keep g.2.length)
 else ((0, []), 1)
def ik (nodes : List Int) (v : Int) : Int := if v ∈ nodes then (nodes.idxOf v : Int) + 1 else 0
end TL
namespace TL
structure fC (T : List Int) (nodes : List Int) (n : Int) (k : Nat) : Prop where
 len : (T.length : Int) = n
 pos : ∀ v, 0 ≤ v → v < n → gI T v = ik (nodes.take k) v
theorem fC.start (nodes : List Int) (n : Int) (hn : 0 ≤ n) : fC (List.replicate n.toNat 0) nodes n 0 :=
 ⟨by simp; omega, fun v h0 h1 => by rw [eH h0 (by omega)]; simp [ik]⟩
theorem qF {l : List Int} {x v : Int} (hx : x ∉ l) : ik (l ++ [x]) v = if v = x then (l.length : Int) + 1 else ik l v := by
 unfold ik
 by_cases h : v = x
 · subst h
   simp [List.idxOf_append, hx]
 · by_cases hv : v ∈ l
   · simp [h, hv, List.idxOf_append]
   · simp [h, hv]
theorem fC.next {T nodes : List Int} {n : Int} {k : Nat} (h : fC T nodes n k) (hk : (k : Int) < nodes.length) (h0 : 0 ≤ gI nodes k) (h1 : gI nodes k < n) (hd : nodes.Nodup) : fC (T.set (gI nodes k).toNat ((k : Int) + 1)) nodes n (k + 1) := by
 have ht := bh hk
 have hl := h.len
 have hn : gI nodes k ∉ nodes.take k := by
   have h2 : (nodes.take (k + 1)).Nodup := hd.sublist (List.take_sublist _ _)
   rw [ht] at h2
   have := List.nodup_append.1 h2
   intro hm
   exact this.2.2 _ hm _ (by simp) rfl
 have hlk : (nodes.take k).length = k := by simp; omega
 refine ⟨by simpa using h.len, fun v h2 h3 => ?_⟩
 rw [cu h0 (by omega) h2, ht, qF hn, h.pos v h2 h3, hlk]
theorem kk (l : List Int) (v : Int) : 0 ≤ ik l v := by
 unfold ik; split <;> omega
theorem pv (l : List Int) (v : Int) : ik l v ≤ l.length := by
 unfold ik
 split
 · rename_i h
   have := List.idxOf_lt_length_iff.2 h
   omega
 · omega
end TL
namespace TL
end TL
namespace TL
def bp (g : bZ) (h : Int) : Int := pI (gI g.2 (h / 2)) (h % 2)
def ia (g : bZ) (v : Int) (k : Nat) : List Int := ((List.range (2 * k)).map (fun (i : Nat) => (i : Int))).filter fun h => decide (bp g h = v)
def cZ (g : bZ) (v : Int) : List Int := ia g v g.2.length
theorem lA (g : bZ) (k : Nat) : bp g (2 * (k : Int)) = (gI g.2 k).1 := by
 unfold bp
 have h1 : 2 * (k : Int) / 2 = k := by omega
 have h2 : 2 * (k : Int) % 2 = 0 := by omega
 rw [h1, h2]; rfl
theorem mq (g : bZ) (k : Nat) : bp g (2 * (k : Int) + 1) = (gI g.2 k).2 := by
 unfold bp
 have h1 : (2 * (k : Int) + 1) / 2 = k := by omega
 have h2 : (2 * (k : Int) + 1) % 2 = 1 := by omega
 rw [h1, h2]; rfl
theorem oO (g : bZ) (v : Int) (k : Nat) : ia g v (k + 1) = ia g v k ++ ((if (gI g.2 k).1 = v then [2 * (k : Int)] else []) ++ (if (gI g.2 k).2 = v then [2 * (k : Int) + 1] else [])) := by
 unfold ia
 rw [show 2 * (k + 1) = 2 * k + 1 + 1 by omega, List.range_succ, List.range_succ]
 simp only [List.map_append, List.filter_append, List.map_cons, List.map_nil, List.append_assoc]
 congr 1
 have e1 : ((2 * k : Nat) : Int) = 2 * (k : Int) := by omega
 have e2 : ((2 * k + 1 : Nat) : Int) = 2 * (k : Int) + 1 := by omega
 rw [e1, e2]
 congr 1
 · by_cases h : (gI g.2 (k : Int)).1 = v
   · simp [lA, h]
   · simp [lA, h]
 · by_cases h : (gI g.2 (k : Int)).2 = v
   · simp [mq, h]
   · simp [mq, h]
theorem qq (g : bZ) (v : Int) (k : Nat) : (ia g v k).length ≤ 2 * k := by
 unfold ia
 have := List.length_filter_le (fun h => decide (bp g h = v)) ((List.range (2 * k)).map (fun (i : Nat) => (i : Int)))
 simpa using this
end TL
namespace TL
theorem dj {α : Type} [Inhabited α] {l l' : List α} (hl : l.length = l'.length) (h : ∀ i : Nat, i < l.length → gI l i = gI l' i) : l = l' := by
 apply List.ext_getElem hl
 intro i h1 h2
 have := h i h1
 simpa [gI, h1, h2] using this
end TL
namespace TL
def ol (x : List Int) (i : Nat) : Int := ((x.take i).drop 1).foldl min (gI x 0)
def dJ (x : List Int) : Int := ol x x.length
theorem lm {x : List Int} {i : Nat} (h1 : 1 ≤ i) (hi : (i : Int) < x.length) : (x.take (i + 1)).drop 1 = (x.take i).drop 1 ++ [gI x i] := by
 rw [bh hi, List.drop_append_of_le_length (by simp; omega)]
theorem ql {x : List Int} {i : Nat} (h1 : 1 ≤ i) (hi : (i : Int) < x.length) : ol x (i + 1) = min (ol x i) (gI x i) := by
 unfold ol; rw [lm h1 hi]; simp
end TL
namespace TL
end TL
namespace TL
section
variable {l0 l1 : Int} {F : Int × Int → Int} {g : bZ} {k : Nat}
end
end TL
/-
  TlNetLaws: what follows of nets: parts of parts, subs of subs.
  By an AI agent.
-/
set_option linter.all false
namespace TL
theorem py {g : bZ} {keep : List Int} (h : (c8 g keep).2 = 0) : bx g ∧ bN keep g.2.length = 0 ∧ c8 g keep = ((g.1, keep.map (gI g.2)), 0) := by
 unfold c8 at h ⊢
 by_cases hm : bx g
 · by_cases hc : bN keep g.2.length = 0
   · simp [hm, hc]
   · simp [hm, hc] at h
 · simp [hm] at h
theorem iY {α β : Type} [Inhabited α] [Inhabited β] (f : α → β) {l : List α} {i : Int} (h0 : 0 ≤ i) (h1 : i < l.length) : gI (l.map f) i = f (gI l i) := by
 have : i.toNat < l.length := by omega
 simp [gI, this]
theorem rb {l : List Int} (h : l.Nodup) {i j : Int} (hi0 : 0 ≤ i) (hi : i < l.length) (hj0 : 0 ≤ j) (hj : j < l.length) (he : gI l i = gI l j) : i = j := by
 have h1 : i.toNat < l.length := by omega
 have h2 : j.toNat < l.length := by omega
 simp [gI, h1, h2] at he
 have := (List.getElem_inj h).1 he
 omega
end TL
/-
  TlNet2: nets copied, renamed, moved, joined, split, merged: what they come to.
  By an AI agent.
-/
set_option linter.all false
namespace TL
def x3 (to : List Int) (e : Int × Int) : Int × Int := (gI to e.1, gI to e.2)
def x5 (g : bZ) (to : List Int) (n : Int) : bZ := (n, g.2.map (x3 to))
def oG (g : bZ) (to : List Int) : bZ × Int :=
 if bx g then
   if (to.length : Int) = g.1 then
     if ∀ v ∈ to, 0 ≤ v ∧ v < g.1 then
       if bN to g.1 = 0 then (x5 g to g.1, 0) else ((0, []), bN to g.1)
     else ((0, []), 2)
   else ((0, []), 2)
 else ((0, []), 1)
end TL
namespace TL
structure eG (l : List Int) (n : Int) (k : Nat) : Prop where
  rest : ei n (l.drop k) (l.take k) = bN l n
theorem eG.start (l : List Int) (n : Int) : eG l n 0 := ⟨by simp [bN]⟩
theorem eG.next {l : List Int} {n : Int} {k : Nat} (h : eG l n k) (hk : (k : Int) < l.length) (h0 : 0 ≤ gI l k) (h1 : gI l k < n) (h2 : gI l k ∉ l.take k) : eG l n (k + 1) := by
 refine ⟨?_⟩
 rw [← h.rest, fZ hk, bh hk]
 simp only [ei]
 rw [if_neg (by omega), if_neg h2]
theorem eG.bad {l : List Int} {n : Int} {k : Nat} (h : eG l n k) (hk : (k : Int) < l.length) (h0 : gI l k < 0 ∨ n ≤ gI l k) : 2 = bN l n := by
 rw [← h.rest, fZ hk]
 simp only [ei]
 rw [if_pos h0]
theorem eG.twice {l : List Int} {n : Int} {k : Nat} (h : eG l n k) (hk : (k : Int) < l.length) (h0 : 0 ≤ gI l k) (h1 : gI l k < n) (h2 : gI l k ∈ l.take k) : 18 = bN l n := by
 rw [← h.rest, fZ hk]
 simp only [ei]
 rw [if_neg (by omega), if_pos h2]
theorem eG.done {l : List Int} {n : Int} {k : Nat} (h : eG l n k) (hk : ¬ (k : Int) < l.length) : 0 = bN l n := by
 rw [← h.rest, List.drop_eq_nil_of_le (by omega)]
 rfl
theorem nz {l : List Int} {j i : Nat} (hj : j < i) (hi : (i : Int) < l.length) : gI l (j : Int) ∈ l.take i := by
 have h1 : j < l.length := by omega
 have : gI l (j : Int) = l[j] := by simp [gI, h1]
 rw [this, List.mem_take_iff_getElem]
 exact ⟨j, by omega, rfl⟩
end TL
/-
  TlNetSums: degrees' sum; all edges, all nodes; moved there and back.
  By an AI agent.
-/
set_option linter.all false
namespace TL
def c7 (n : Nat) : List Int := (List.range n).map fun (i : Nat) => (i : Int)
theorem cP (n : Nat) : (c7 n).length = n := by simp [c7]
theorem ew (n : Nat) : c7 (n + 1) = c7 n ++ [(n : Int)] := by simp [c7, List.range_succ]
theorem cQ {n : Nat} {x : Int} : x ∈ c7 n ↔ 0 ≤ x ∧ x < n := by
 unfold c7
 rw [List.mem_map]
 constructor
 · rintro ⟨i, hi, rfl⟩
   have := List.mem_range.1 hi
   omega
 · rintro ⟨h1, h2⟩
   exact ⟨x.toNat, List.mem_range.2 (by omega), by omega⟩
theorem gD (n : Nat) : (c7 n).Nodup := by
 induction n with
 | zero => simp [c7]
 | succ n ih =>
   rw [ew, List.nodup_append]
   refine ⟨ih, by simp, fun a ha b hb => ?_⟩
   have := cQ.1 ha
   have := List.mem_singleton.1 hb
   omega
theorem nh {n : Nat} {i : Int} (h0 : 0 ≤ i) (h1 : i < n) : gI (c7 n) i = i := by
 have : i.toNat < n := by omega
 simp [gI, c7, this]
 omega
theorem oL : ∀ (n : Nat) (l : List Int), l.Nodup → (∀ x ∈ l, 0 ≤ x ∧ x < (n : Int)) → l.length ≤ n
 | 0, l, _, h => by
   cases l with
   | nil => simp
   | cons a l => have := h a (by simp); omega
 | n + 1, l, hn, h => by
   have h1 : (l.erase (n : Int)).Nodup := hn.erase _
   have h2 := oL n (l.erase (n : Int)) h1 (fun x hx => by
     have h3 := hn.mem_erase_iff.1 hx
     have := h x h3.2
     omega)
   by_cases hm : (n : Int) ∈ l
   · have := List.length_erase_of_mem hm
     omega
   · rw [List.erase_of_not_mem hm] at h2
     omega
theorem m9 {n : Nat} {l : List Int} (hn : l.Nodup) (h : ∀ x ∈ l, 0 ≤ x ∧ x < (n : Int)) (hl : l.length = n) {u : Int} (h0 : 0 ≤ u) (h1 : u < n) : u ∈ l := by
 by_cases hu : u ∈ l
 · exact hu
 · have := oL n (u :: l) (List.nodup_cons.2 ⟨hu, hn⟩) (fun x hx => by
     rcases List.mem_cons.1 hx with rfl | hx
     · exact ⟨h0, h1⟩
     · exact h x hx)
   simp at this
   omega
end TL
/-
  TlNet3: nets split, merged, bared: what they come to.
  By an AI agent.
-/
set_option linter.all false
namespace TL
def aM (g : bZ) (e : Int) : bZ × Int :=
 if bx g then
   if 0 ≤ e ∧ e < (g.2.length : Int) then
     if g.1 < 1024 ∧ g.2.length < 3072 then ((g.1 + 1, g.2.set e.toNat ((gI g.2 e).1, g.1) ++ [(g.1, (gI g.2 e).2)]), 0) else ((0, []), 3)
   else ((0, []), 2)
 else ((0, []), 1)
end TL
namespace TL
section
variable {left : List Int} {out : List (Int × Int)} {F : Int × Int → Int} {g : bZ} {k : Nat}
end
end TL
/-
  TlNetChg: degrees behind a split and a merge; a bare net is simple, and bare again the same.
  By an AI agent.
-/
set_option linter.all false
namespace TL
theorem qE {α : Type} [Inhabited α] {l : List α} {i : Int} (h0 : 0 ≤ i) (h1 : i < l.length) (x : α) : l.set i.toNat x = l.take i.toNat ++ x :: l.drop (i.toNat + 1) ∧ l = l.take i.toNat ++ gI l i :: l.drop (i.toNat + 1) := by
 have hi : i.toNat < l.length := by omega
 refine ⟨List.set_eq_take_append_cons_drop .. ▸ by simp [hi], ?_⟩
 have e : gI l i = l[i.toNat] := by simp [gI, hi]
 rw [e, ← List.drop_eq_getElem_cons hi, List.take_append_drop]
theorem eW {g : bZ} {e : Int} (h : (aM g e).2 = 0) : bx g ∧ (0 ≤ e ∧ e < (g.2.length : Int)) ∧ (g.1 < 1024 ∧ g.2.length < 3072) ∧ aM g e = ((g.1 + 1, g.2.set e.toNat ((gI g.2 e).1, g.1) ++ [(g.1, (gI g.2 e).2)]), 0) := by
 unfold aM at h ⊢
 by_cases h1 : bx g
 · by_cases h2 : 0 ≤ e ∧ e < (g.2.length : Int)
   · by_cases h3 : g.1 < 1024 ∧ g.2.length < 3072
     · rw [if_pos h1, if_pos h2, if_pos h3]; exact ⟨h1, h2, h3, rfl⟩
     · rw [if_pos h1, if_pos h2, if_neg h3] at h; simp at h
   · rw [if_pos h1, if_neg h2] at h; simp at h
 · rw [if_neg h1] at h; simp at h
theorem ml {g : bZ} {e : Int} (h : (aM g e).2 = 0) : bx (aM g e).1 := by
 obtain ⟨hm, he, hs, h4⟩ := eW h
 obtain ⟨m1, m2, m3, m4⟩ := hm
 rw [h4]
 refine ⟨by show 0 ≤ g.1 + 1; omega, by show g.1 + 1 ≤ 1024; omega, by simp; omega, fun d hd => ?_⟩
 have hok := m4 _ (bu (xs := g.2) he.1 he.2)
 unfold lQ at hok
 show lQ (g.1 + 1) d
 rcases List.mem_append.1 hd with hd | hd
 · rcases List.mem_or_eq_of_mem_set hd with hd | rfl
   · have := m4 d hd
     unfold lQ at this ⊢; omega
   · unfold lQ; simp only; omega
 · obtain rfl := List.mem_singleton.1 hd
   unfold lQ; simp only; omega
end TL
namespace TL
end TL
namespace TL
end TL
/-
  TlRef3: what the document's own answer of layer 3 goes through.
  By an AI agent.
-/
set_option linter.all false
namespace TL
def na (g : bZ) (v : Int) (h : Nat) : List Int := ((List.range h).map (fun (i : Nat) => (i : Int))).filter fun h => decide (bp g h = v)
theorem qp (g : bZ) (v : Int) (h : Nat) : na g v (h + 1) = if bp g h = v then na g v h ++ [(h : Int)] else na g v h := by
 unfold na
 rw [List.range_succ, List.map_append, List.filter_append]
 by_cases e : bp g (h : Int) = v
 · rw [if_pos e]; simp [e]
 · rw [if_neg e]; simp [e]
theorem sq (g : bZ) (v : Int) (h : Nat) : (na g v h).length ≤ h := by
 unfold na
 have := List.length_filter_le (fun h => decide (bp g h = v)) ((List.range h).map (fun (i : Nat) => (i : Int)))
 simpa using this
theorem rA (g : bZ) (v : Int) {h : Nat} (hh : h = 2 * g.2.length) : na g v h = cZ g v := by subst hh; rfl
theorem nV {g : bZ} (hm : bx g) {h : Int} (h0 : 0 ≤ h) (h1 : h < 2 * (g.2.length : Int)) : 0 ≤ bp g h ∧ bp g h < g.1 := by
 have hok := hm.2.2.2 _ (bu (xs := g.2) (i := h / 2) (by omega) (by omega))
 unfold lQ at hok
 unfold bp pI
 split <;> omega
theorem iv {g : bZ} (hm : bx g) {e : Int} (he : 0 ≤ e ∧ e < (g.2.length : Int)) : bx (g.1 + 1, g.2.set e.toNat ((gI g.2 e).1, g.1) ++ [(g.1, (gI g.2 e).2)]) ↔ g.1 < 1024 ∧ g.2.length < 3072 := by
 constructor
 · rintro ⟨h1, h2, h3, h4⟩
   simp only [List.length_append, List.length_set, List.length_cons, List.length_nil] at h2 h3
   omega
 · intro hs
   have h : (aM g e).2 = 0 := by unfold aM; rw [if_pos hm, if_pos he, if_pos hs]
   have := ml h
   unfold aM at this
   rwa [if_pos hm, if_pos he, if_pos hs] at this
end TL
/-
  TlInts: lists that are kept, written full, and read again.
  By an AI agent.
-/
set_option linter.all false
namespace TL
def e8 (K : List (List Int)) (s : Int) : Prop := (K.length : Int) ≤ s ∧ s ≤ 1048576 ∧ ∀ l ∈ K, l.length ≤ 1048576
theorem e8.nil : e8 [] 0 := ⟨by simp, by omega, by simp⟩
theorem e8.add {K : List (List Int)} {s n : Int} {l : List Int} (h : e8 K s) (h0 : 0 < n) (h1 : s + n ≤ 1048576) (hl : (l.length : Int) ≤ n) : e8 (K ++ [l]) (s + n) := by
 obtain ⟨a, b, c⟩ := h
 refine ⟨by simp; omega, h1, fun x hx => ?_⟩
 rcases List.mem_append.1 hx with hx | hx
 · exact c x hx
 · obtain rfl := List.mem_singleton.1 hx
   omega
theorem e8.len {K : List (List Int)} {s : Int} (h : e8 K s) : (K.length : Int) ≤ s ∧ s ≤ 1048576 ∧ 0 ≤ s := by
 obtain ⟨a, b, c⟩ := h
 omega
structure ke (L : List (List Int)) (i : Nat) : Prop where
  le : (i : Int) ≤ L.length
  few : L.length ≤ 1048576
  done : ∀ r : Nat, r < i → ∀ q : Nat, q < (gI L r).length → gI (gI L (r : Int)) (q : Int) = -1000 - (r : Int)
  rest : ∀ r : Nat, i ≤ r → r < L.length → (gI L (r : Int)).length ≤ 1048576
theorem e8.ap {K : List (List Int)} {s : Int} (h : e8 K s) : ke K 0 := by
 obtain ⟨a, b, c⟩ := h
 refine ⟨by simp, by omega, fun r hr => by omega, fun r _ hr => c _ (bu (by omega) (by omega))⟩
structure gY (L1 L : List (List Int)) (i : Nat) (n : Int) : Prop where
  len : L1.length = L.length
  le : ((gI L1 i).length : Int) ≤ 1050577
  other : ∀ r : Nat, r ≠ i → gI L1 (r : Int) = gI L (r : Int)
theorem gY.start {L : List (List Int)} {i : Nat} {n : Int} (h : ke L i) (hi : (i : Int) < L.length) : gY L L i n := ⟨rfl, by have := h.rest i (Nat.le_refl _) (by omega); omega, fun r _ => rfl⟩
theorem eK {α : Type} [Inhabited α] {L : List α} {i r : Nat} {x : α} (h : r ≠ i) : gI (L.set i x) (r : Int) = gI L (r : Int) := by
 simp [gI, List.getElem?_set_ne (Ne.symm h)]
theorem fm {α : Type} [Inhabited α] {L : List α} {i : Nat} {x : α} (h : (i : Int) < L.length) : gI (L.set i x) (i : Int) = x := by
 simp [gI, show i < L.length by omega]
theorem gY.next {L1 L : List (List Int)} {i : Nat} {n : Int} (h : gY L1 L i n) (hi : (i : Int) < L.length) (hn : ((gI L1 i).length : Int) < n) (hb : n ≤ 1050577) : gY (L1.set (i : Int).toNat (gI L1 i ++ [0])) L i n := by
 have hl := h.len
 refine ⟨by simpa using hl, ?_, fun r hr => ?_⟩
 · simp only [Int.toNat_natCast]
   rw [fm (by omega)]; simp; omega
 · simp only [Int.toNat_natCast]
   rw [eK hr, h.other r hr]
theorem gY.meas {L1 L : List (List Int)} {i : Nat} {n : Int} (h : gY L1 L i n) (hi : (i : Int) < L.length) : ((gI (L1.set (i : Int).toNat (gI L1 i ++ [0])) i).length : Int) = (gI L1 i).length + 1 := by
 have hl := h.len
 simp only [Int.toNat_natCast]
 rw [fm (by omega)]; simp
structure ka (L2 L : List (List Int)) (i : Nat) (k : Nat) : Prop where
  len : L2.length = L.length
  le : (k : Int) ≤ (gI L2 (i : Int)).length
  few : ((gI L2 i).length : Int) ≤ 1050577
  done : ∀ q : Nat, q < k → gI (gI L2 (i : Int)) (q : Int) = -1000 - (i : Int)
  other : ∀ r : Nat, r ≠ i → gI L2 (r : Int) = gI L (r : Int)
theorem gY.wr {L1 L : List (List Int)} {i : Nat} {n : Int} (h : gY L1 L i n) : ka L1 L i 0 := ⟨h.len, by simp, h.le, fun q hq => by omega, h.other⟩
theorem ka.next {L2 L : List (List Int)} {i k : Nat} (h : ka L2 L i k) (hi : (i : Int) < L.length) (hk : (k : Int) < (gI L2 i).length) : ka (L2.set (i : Int).toNat ((gI L2 i).set (k : Int).toNat (-1000 - (i : Int)))) L i (k + 1) ∧ (gI (L2.set (i : Int).toNat ((gI L2 i).set (k : Int).toNat (-1000 - (i : Int)))) (i : Int)).length = (gI L2 (i : Int)).length := by
 have hl := h.len
 simp only [Int.toNat_natCast]
 have e : gI (L2.set i ((gI L2 (i : Int)).set k (-1000 - (i : Int)))) (i : Int) = (gI L2 (i : Int)).set k (-1000 - (i : Int)) := fm (by omega)
 refine ⟨⟨by simpa using hl, by rw [e]; simp; omega, by rw [e]; simpa using h.few, fun q hq => ?_, fun r hr => by rw [eK hr, h.other r hr]⟩, by rw [e]; simp⟩
 rw [e]
 by_cases hq2 : q = k
 · subst hq2; exact fm hk
 · rw [eK hq2]; exact h.done q (by omega)
theorem ka.fin {L2 L : List (List Int)} {i k : Nat} (h : ka L2 L i k) (ha : ke L i) (hi : (i : Int) < L.length) (hk : ¬ (k : Int) < (gI L2 i).length) : ke L2 (i + 1) := by
 have hl := h.len
 have hle := h.le
 refine ⟨by omega, by have := ha.few; omega, fun r hr q hq => ?_, fun r h1 h2 => ?_⟩
 · by_cases e : r = i
   · subst e; exact h.done q (by omega)
   · rw [h.other r e] at hq ⊢; exact ha.done r (by omega) q hq
 · rw [h.other r (by omega)]; exact ha.rest r (by omega) (by omega)
theorem ke.read {L : List (List Int)} {m i k : Nat} (h : ke L m) (hm : (m : Int) = L.length) (hi : (i : Int) < L.length) (hk : (k : Int) < (gI L i).length) : gI (gI L (i : Int)) (k : Int) = -1000 - (i : Int) := h.done i (by omega) k (by omega)
end TL
namespace TL
end TL
namespace TL
end TL
/-
  TlKeep: rows of an own list given away one by one while the list stays readable; rows with a mark behind each.
  By an AI agent.
-/
set_option linter.all false
namespace TL
open Go
def gv (i k j : Nat) : cv → Prop := fun c => (c.1 = i ∧ c.2 ≠ 0) ∨ (c.1 = k ∧ 1 ≤ c.2 ∧ c.2 ≤ j)
def j3 (q i k : Nat) : cv → Prop := fun c => c.1 = q ∨ (c.1 = i ∧ c.2 = 0) ∨ c.1 = k
def jr (q i k r : Nat) : cv → Prop := fun c => c.1 = q ∨ (c.1 = i ∧ c.2 = 0) ∨ (c.1 = k ∧ c.2 = r)
theorem wU {q i k r : Nat} : ∀ c, jr q i k r c → j3 q i k c := fun c h => h.elim .inl fun h => h.elim (fun h => .inr (.inl h)) fun h => .inr (.inr h.1)
theorem wQ {j q i k : Nat} (h1 : Nat.beq j q = false) (h2 : Nat.beq j i = false) (h3 : Nat.beq j k = false) : ∀ c, is j c → ¬ j3 q i k c := fun c h h' => by
 have e : c.1 = j := h
 rcases h' with h' | h' | h'
 · exact dY h1 (e.symm.trans h')
 · exact dY h2 (e.symm.trans h'.1)
 · exact dY h3 (e.symm.trans h')
theorem dK {m q i k : Nat} (h1 : Nat.beq m q = false) (h2 : Nat.beq m i = false) (h3 : Nat.beq m k = false) (h4 : Nat.beq i q = false) (h5 : Nat.beq i k = false) : ∀ c, lS m i c → ¬ j3 q i k c := fun c h h' => by
 rcases h with h | ⟨h, hn⟩
 · exact wQ h1 h2 h3 c h h'
 · have e : c.1 = i := h
   rcases h' with h' | h' | h'
   · exact dY h4 (e.symm.trans h')
   · exact hn h'.2
   · exact dY h5 (e.symm.trans h')
theorem bq.l3 {L : List Nat} {q i k : Nat} {γ γ' : aE} {w w' : World} (h : bq (j3 q i k) γ w γ' w') (h1 : L.contains q = true) (h2 : L.contains i = true) (h3 : L.contains k = true) : bq (bW L) γ w γ' w' := h.mono fun c hc => by
 unfold bW
 rcases hc with hc | hc | hc
 · rw [hc]; exact h1
 · rw [hc.1]; exact h2
 · rw [hc]; exact h3
def jY (γ : aE) (k r : Nat) (c : cv) : aE := fun b => if γ b = (k, r) then c else γ b
section
variable {P : Program} {w : World} {t t' : TypeId} {f : Fr} {x y : Operand} {dst : Option Tmp} {ty : TypeId} {pos : String} {after : Array Edge} {g : Option (Nat × Bool)} {N : Value → World → Prop} {α : Type} [Rp α] {γ : aE} {v u : Value} {xss : List (List α)} {l : List α} {i k j : Nat}
theorem mQ [Fl α] {S' : cv → Prop} {tv : Value} {c : Vc} (hcv : c.v = u) {e bytes : Nat} {z : Value} (ht : P.underlying t = some (.slice e)) (he : Tp P e false 1 bytes z) (hzc : z.cells.size = 1) (hx : ev f x = v) (hy : ev f y = tv)
    (hn : cj γ i w v xss) (htv : Sl γ S' w tv [c]) (hu : Ow γ (row k (j + 1)) (row k (j + 1)) w u l) (hk : Nat.beq k i = false) (hby : bytes ≤ 128) (hlen : xss.length + 1 ≤ 1099511627776)
    (hN : ∀ γ' w' v', bq (fun c => row i 0 c ∨ row k (j + 1) c) γ w γ' w' → cj γ' i w' v' (xss ++ [l]) → Sl γ' (gv i k (j + 1)) w' u l → N v' w') : go P ⟨dst, .call { callee := .builtin .append, args := #[x, y], argTypes := #[t, t] }, ty, pos, after, g⟩ f w N := by
  obtain ⟨us, h2, h3, h4⟩ := hn
  have hki := dY hk
  refine aR γ (J := row i 0) (S := row i 0) (i, 0) rfl ht he (Nat.zero_lt_one) hzc hx hy h2 htv hby (by simpa [h3] using hlen) fun γ1 w1 v1 hc ho => ?_
  have hrw : ∀ q b, row i q (γ1 b) → row i q (jY γ1 k (j + 1) (i, xss.length + 1) b) := fun q b hq => by
    unfold row at hq
    unfold jY
    rw [if_neg (by rw [hq]; intro h; exact hki (congrArg Prod.fst h).symm)]
    exact hq
  have hch := hu.chg hc (qb hk) (qb hk)
  have hto : ∀ b, row k (j + 1) (γ1 b) → row i (xss.length + 1) (jY γ1 k (j + 1) (i, xss.length + 1) b) := fun b hb => by
    unfold row at hb
    unfold jY row
    rw [if_pos hb]
  have hrow := hch.recol hto hto
  refine hN (jY γ1 k (j + 1) (i, xss.length + 1)) w1 v1 ?_ ⟨us ++ [c], ho.recol (hrw 0) (hrw 0), by simp [h3], fun r u' x hu' hx' => ?_⟩ (hrow.flat.mono fun c h => .inl ⟨cS c h, by unfold row at h; rw [h]; simp⟩)
  · refine ⟨hc.os, hc.tape, hc.output, hc.size, fun b hb hn => ?_, fun b hb hn => hc.keep b hb fun hj => hn (.inl hj), hc.drawn⟩
    have h5 := hc.col b hb fun hj => hn (.inl hj)
    unfold jY
    rw [h5]
    rw [if_neg (show ¬ γ b = (k, j + 1) from fun h => hn (.inr h))]
  · by_cases hr : r < us.length
    · rw [List.getElem?_append_left hr] at hu'
      rw [List.getElem?_append_left (by omega)] at hx'
      exact ((h4 r u' x hu' hx').chg hc (dT (by omega)) (dT (by omega))).recol (hrw _) (hrw _)
    · rw [List.getElem?_append_right (by omega)] at hu' hx'
      have e0 : r - us.length = 0 := by
        have := (List.getElem?_eq_some_iff.1 hu').1
        simp at this; omega
      have er : r = xss.length := by omega
      rw [e0] at hu'
      rw [← h3, e0] at hx'
      obtain rfl : c = u' := by simpa using hu'
      obtain rfl : l = x := by simpa using hx'
      subst er
      rw [hcv]; exact hrow
end
section
variable {α : Type} [Rp α] [Fl α] {γ γ' : aE} {w w' : World} {v : Value} {us : List Vc} {xss : List (List α)} {i k j q : Nat}
structure iL (γ : aE) (i k j : Nat) (w : World) (v : Value) (us : List Vc) (xss : List (List α)) : Prop where
  heads : Ow γ (row k 0) (row k 0) w v us
  len : us.length = xss.length
  rows : ∀ (r : Nat) (u : Vc) (x : List α), us[r]? = some u → xss[r]? = some x → (r < j → Sl γ (gv i k j) w u.v x) ∧ (¬ r < j → Ow γ (row k (r + 1)) (row k (r + 1)) w u.v x)
theorem iL.start (h : cj γ k w v xss) : ∃ us, iL γ i k 0 w v us xss := by
 obtain ⟨us, h1, h2, h3⟩ := h
 exact ⟨us, h1, h2, fun r u x hu hx => ⟨fun h => by omega, fun _ => h3 r u x hu hx⟩⟩
theorem iL.next (h : iL γ i k j w v us xss) (hc : bq (jr q i k (j + 1)) γ w γ' w') (hqk : Nat.beq k q = false) (hik : Nat.beq k i = false) (hqi : Nat.beq i q = false) {u : Vc} {x : List α} (hu : us[j]? = some u) (hx : xss[j]? = some x) (hs : Sl γ' (gv i k (j + 1)) w' u.v x) : iL γ' i k (j + 1) w' v us xss := by
 have a1 := dY hqk
 have a2 := dY hik
 have a3 := dY hqi
 have rowk : ∀ r, r ≠ j + 1 → ∀ c, row k r c → ¬ jr q i k (j + 1) c := fun r hr c h1 h2 => by
   unfold row at h1
   subst h1
   rcases h2 with h2 | h2 | h2
   · exact a1 h2
   · exact a2 h2.1
   · exact hr h2.2
 refine ⟨h.heads.chg hc (rowk 0 (by omega)) (rowk 0 (by omega)), h.len, fun r u' x' hu' hx' => ⟨fun hr => ?_, fun hr => ?_⟩⟩
 · by_cases e : r = j
   · subst e
     rw [hu] at hu'
     rw [hx] at hx'
     obtain rfl := Option.some.inj hu'
     obtain rfl := Option.some.inj hx'
     exact hs
   · have h1 := (h.rows r u' x' hu' hx').1 (by omega)
     refine (h1.chg hc fun c h2 h3 => ?_).mono fun c h2 => ?_
     · rcases h2 with ⟨h4, h5⟩ | ⟨h4, h5, h6⟩
       · rcases h3 with h3 | h3 | h3
         · exact a3 (h4.symm.trans h3)
         · exact h5 h3.2
         · exact a2 (h3.1.symm.trans h4)
       · rcases h3 with h3 | h3 | h3
         · exact a1 (h4.symm.trans h3)
         · exact a2 (h4.symm.trans h3.1)
         · have := h3.2; omega
     · rcases h2 with h2 | ⟨h4, h5, h6⟩
       · exact .inl h2
       · exact .inr ⟨h4, h5, by omega⟩
 · have h1 := (h.rows r u' x' hu' hx').2 (by omega)
   exact h1.chg hc (rowk _ (by omega)) (rowk _ (by omega))
theorem vq {S : cv → Prop} (h : Sl γ S w v us) (hl : us.length = xss.length) (hr : ∀ (r : Nat) (u : Vc) (x : List α), us[r]? = some u → xss[r]? = some x → Sl γ S w u.v x) : Sl γ S w v xss := by
  rcases h with ⟨h0, rfl⟩ | ⟨b, off, cap, rfl, hc, hx⟩
  · have : xss = [] := List.eq_nil_of_length_eq_zero (by simpa using hl.symm)
    subst this
    exact .inl ⟨h0, rfl⟩
  · refine .inr ⟨b, off, cap, by rw [hl], by rw [← hl]; exact hc, fun r x hrx => ?_⟩
    have hlt : r < us.length := by rw [hl]; exact (List.getElem?_eq_some_iff.1 hrx).1
    have hu : us[r]? = some us[r] := List.getElem?_eq_getElem hlt
    obtain ⟨h1, h2, cs, hcs, hrep⟩ := hx r _ hu
    have hrep' : cs = [us[r].v] := hrep
    exact ⟨h1, h2, cs, hcs, us[r].v, hrep', hr r _ x hu hrx⟩
theorem iL.done (h : iL γ i k j w v us xss) (hj : xss.length ≤ j) : Sl γ (lS k i) w v xss := by
 refine vq ((h.heads.flat).mono fun c hc => ?_) h.len fun r u x hu hx => ?_
 · exact .inl (cS c hc)
 · have hlt := (List.getElem?_eq_some_iff.1 hx).1
   refine ((h.rows r u x hu hx).1 (by omega)).mono fun c hc => ?_
   rcases hc with hc | hc
   · exact .inr hc
   · exact .inl hc.1
end
inductive Rw where
  | mk (l : List Int) (m : Int)
  | pl (l : List Int)
instance : Inhabited Rw := ⟨.pl []⟩
theorem qo {α : Type} [Rp α] {γ : aE} {S : cv → Prop} {w : World} {v : Value} {xs : List α} {m : α} (h : Sl γ S w (ft v) (xs ++ [m])) : ∃ a l c, v = .slice a l c := by
 rcases h with ⟨_, h0⟩ | ⟨b, off, cap, hv, _⟩
 · simp at h0
 · cases v <;> simp [ft] at hv
   exact ⟨_, _, _, rfl⟩
def uy (γ : aE) (S : cv → Prop) (w : World) (v : Value) : Rw → Prop
  | .mk l m => Sl γ S w (ft v) (l ++ [m])
  | .pl l => Sl γ S w v l
theorem uy.one {γ : aE} {S : cv → Prop} {w : World} {v : Value} {x : Rw} (h : uy γ S w v x) : v.oneCell' = true := by
 cases x with
 | mk l m =>
   obtain ⟨a, b, c, rfl⟩ := qo h
   rfl
 | pl l =>
   rcases h with ⟨⟨_, rfl⟩, _⟩ | ⟨b, off, cap, rfl, _⟩ <;> rfl
theorem uy.tr {γ γ' : aE} {S S' : cv → Prop} {w w' : World} {v : Value} {x : Rw} (hsz : w.heap.size ≤ w'.heap.size) (h : ∀ b, b < w.heap.size → S (γ b) → w'.heap[b]? = w.heap[b]? ∧ S' (γ' b)) (hx : uy γ S w v x) : uy γ' S' w' v x := by
 cases x with
 | mk l m => exact Sl.tr h hx hsz
 | pl l => exact Sl.tr h hx hsz
instance : Rp Rw where
 sz := 1
 rep γ S w cs x := ∃ v, cs = [v] ∧ uy γ S w v x
 len := by rintro _ _ _ _ _ ⟨v, rfl, _⟩; rfl
 one := by
   rintro _ _ _ _ _ ⟨v, rfl, h⟩ u hu
   obtain rfl : u = v := by simpa using hu
   exact h.one
 tr := by
   rintro _ _ _ _ _ _ _ _ hs h ⟨v, rfl, hv⟩
   exact ⟨v, rfl, hv.tr hs h⟩
def kK (r : List (List Int)) : List Rw := r.map (fun l => Rw.mk l (-77)) ++ [Rw.pl [-78]]
def jC (γ : aE) (S : cv → Prop) (w : World) (us : List Vc) (rs : List Rw) : Prop := us.length = rs.length ∧ ∀ (k : Nat) (u : Vc) (x : Rw), us[k]? = some u → rs[k]? = some x → uy γ S w u.v x
theorem jC.nil {γ : aE} {S : cv → Prop} {w : World} : jC γ S w [] [] := ⟨rfl, fun k u x h => by simp at h⟩
theorem jC.chg {γ γ' : aE} {S K : cv → Prop} {w w' : World} {us : List Vc} {rs : List Rw} (h : jC γ S w us rs) (hc : bq K γ w γ' w') (hK : ∀ c, S c → ¬ K c) : jC γ' S w' us rs :=
 ⟨h.1, fun k u x hu hx => (h.2 k u x hu hx).tr hc.size fun b hb hS => ⟨hc.keep b hb (hK _ hS), by rw [hc.col b hb (hK _ hS)]; exact hS⟩⟩
theorem jC.recol {γ γ' : aE} {S S' : cv → Prop} {w : World} {us : List Vc} {rs : List Rw} (h : jC γ S w us rs) (hc : ∀ b, S (γ b) → S' (γ' b)) : jC γ' S' w us rs :=
 ⟨h.1, fun k u x hu hx => (h.2 k u x hu hx).tr (Nat.le_refl _) fun b _ hS => ⟨rfl, hc b hS⟩⟩
theorem jC.snoc {γ : aE} {S : cv → Prop} {w : World} {us : List Vc} {rs : List Rw} {c : Vc} {x : Rw} (h : jC γ S w us rs) (hx : uy γ S w c.v x) : jC γ S w (us ++ [c]) (rs ++ [x]) := by
 have hl := h.1
 refine ⟨by simp [hl], fun k u y hu hy => ?_⟩
 by_cases hk : k < us.length
 · rw [List.getElem?_append_left hk] at hu
   rw [List.getElem?_append_left (by omega)] at hy
   exact h.2 k u y hu hy
 · rw [List.getElem?_append_right (by omega)] at hu hy
   have e0 : k - us.length = 0 := by
     have := (List.getElem?_eq_some_iff.1 hu).1
     simp at this; omega
   rw [e0] at hu
   rw [← hl, e0] at hy
   obtain rfl : c = u := by simpa using hu
   obtain rfl : x = y := by simpa using hy
   exact hx
theorem wR {γ : aE} {J S0 S : cv → Prop} {w : World} {v : Value} {us : List Vc} {rs : List Rw} (h : Ow γ J S0 w v us) (hr : jC γ S w us rs) : Ow γ J S w v rs := by
 rcases h with ⟨rfl, rfl⟩ | ⟨b, cap, c, e, rfl, hc, hm, hJ, hb, hcs, hx⟩
 · have : rs = [] := List.eq_nil_of_length_eq_zero (by simpa using hr.1.symm)
   subst this; exact Ow.nil
 · refine .inr ⟨b, cap, c, e, by rw [hr.1], by rw [← hr.1]; exact hc, hm, hJ, hb, hcs, fun i x hi => ?_⟩
   have hlt : i < us.length := by rw [hr.1]; exact (List.getElem?_eq_some_iff.1 hi).1
   have hu : us[i]? = some us[i] := List.getElem?_eq_getElem hlt
   obtain ⟨cs, hcs', hrep⟩ := hx i _ hu
   have hrep' : cs = [us[i].v] := hrep
   exact ⟨cs, hcs', us[i].v, hrep', hr.2 i _ x hu hi⟩
theorem nM {α : Type} [Rp α] {γ : aE} {S : cv → Prop} {w : World} {v : Value} {xss : List (List α)} {r : Int} (hs : Sl γ S w v xss) (h0 : 0 ≤ r) (h1 : r < xss.length) :
    ∃ u, (∀ {K : cv → Prop} {γ' : aE} {w' : World}, bq K γ w γ' w' → (∀ c, S c → ¬ K c) → w'.cell? (ba v 1 r.toNat) = some u) ∧ Sl γ S w u (gI xss r) := by
  rcases hs with ⟨_, rfl⟩ | ⟨b, off, cap, rfl, hc, hx⟩
  · simp at h1; omega
  · obtain ⟨hb, hS, cs, hcs, u, rfl, hu⟩ := hx r.toNat _ (gC h0 h1)
    refine ⟨u, fun {K γ' w'} h hK => ?_, hu⟩
    have h2 := hcs 0 (Nat.zero_lt_one)
    have h3 := h.keep b hb (hK _ hS)
    simp only [Rp.sz, Nat.mul_one, Nat.add_zero] at h2
    have e : ba (Value.slice (some ⟨b, off, none⟩) xss.length cap) 1 r.toNat = ⟨b, off + r.toNat, none⟩ := by simp [ba, Addr.add]
    rw [e]
    simp only [World.cell?] at h2 ⊢
    rw [h3]
    simpa using h2
theorem nC (v : Value) (n k : Nat) : ba (ft v) n k = ba v n k := by
 cases v with
 | slice a l c => cases a <;> rfl
 | _ => rfl
theorem Ow.sl_same {α : Type} [Rp α] {γ : aE} {S : cv → Prop} {w : World} {v : Value} {xs : List α} (hs : Ow γ S S w v xs) : Sl γ S w v xs := by
 rcases hs with hs | ⟨b, cap, c, e, rfl, hc, hm, hJb, hb, hcs, hx⟩
 · exact .inl ⟨⟨_, hs.1⟩, hs.2⟩
 · refine .inr ⟨b, 0, cap, rfl, hc, fun i x hi => ?_⟩
   obtain ⟨cs, hcs', hr⟩ := hx i x hi
   refine ⟨eg hb, hJb, cs, fun j hj => ?_, hr⟩
   rw [← hcs' j hj]
   simp [World.cell?, hb]
theorem vW {γ : aE} {S : cv → Prop} {w : World} {v : Value} {r : List (List Int)} (h : Sl γ S w (ft v) (kK r)) : Sl γ S w v r := by
  have hlen : (kK r).length = r.length + 1 := by simp [kK]
  rcases h with ⟨_, h0⟩ | ⟨b, off, cap, hv, hc, hx⟩
  · rw [h0] at hlen; simp at hlen
  · cases v <;> simp [ft] at hv
    rename_i a l c
    obtain ⟨rfl, hl, rfl⟩ := hv
    rw [hlen] at hl hc
    obtain rfl : l = r.length := by omega
    refine .inr ⟨b, off, c, rfl, by omega, fun i x hi => ?_⟩
    have hlt := (List.getElem?_eq_some_iff.1 hi).1
    have hi2 : (kK r)[i]? = some (Rw.mk x (-77)) := by
      unfold kK
      rw [List.getElem?_append_left (by simpa using hlt), List.getElem?_map, hi]; rfl
    obtain ⟨h1, h2, cs, hcs, u, rfl, hu⟩ := hx i _ hi2
    exact ⟨h1, h2, _, hcs, u, rfl, pG hu⟩
theorem rz {γ : aE} {S : cv → Prop} {w : World} {v : Value} {rs : List Rw} {k : Nat} {x : Rw} (h : Sl γ S w (ft v) rs) (hk : rs[k]? = some x) : ∃ u, w.cell? (ba v 1 k) = some u ∧ uy γ S w u x := by
  obtain ⟨cs, hcs, u, rfl, hu⟩ := h.elem hk
  have := hcs 0 (Nat.zero_lt_one)
  rw [jS] at this
  simp only [Nat.add_zero, ← jO] at this
  rw [show Rp.sz Rw = 1 from rfl, nC] at this
  exact ⟨u, by simpa using this, hu⟩
def kn (c : Nat) : cv → Prop := fun q => q.1 = 0 ∨ (q.1 = c ∧ q.2 ≠ 0)
def lR (γ : aE) (c : Nat) (w : World) (v : Value) (xss : List (List Int)) : Prop :=
 ∃ us : List Vc, Ow γ (row c 0) (row c 0) w v us ∧ us.length = xss.length ∧ ∀ (r : Nat) (u : Vc) (x : List Int), us[r]? = some u → xss[r]? = some x → Sl γ (kn c) w u.v x
theorem lR.chg {γ γ' : aE} {c : Nat} {w w' : World} {v : Value} {xss : List (List Int)} {K : cv → Prop} (h : lR γ c w v xss) (hc : bq K γ w γ' w') (hK : ∀ q, is c q → ¬ K q) (h0 : ∀ q, is 0 q → ¬ K q) : lR γ' c w' v xss := by
 obtain ⟨us, h1, h2, h3⟩ := h
 exact ⟨us, h1.chg hc (fun q hq => hK q (cS q hq)) (fun q hq => hK q (cS q hq)), h2, fun r u x hu hx => (h3 r u x hu hx).chg hc fun q hq => hq.elim (h0 q) fun hq => hK q hq.1⟩
theorem lR.sl {γ : aE} {c : Nat} {w : World} {v : Value} {xss : List (List Int)} (h : lR γ c w v xss) : Sl γ any w v xss := by
 obtain ⟨us, h1, h2, h3⟩ := h
 exact vq (h1.flat.mono fun _ _ => trivial) h2 fun r u x hu hx => (h3 r u x hu hx).mono fun _ _ => trivial
section
variable {P : Program} {w : World} {t t' : TypeId} {f : Fr} {x y : Operand} {dst : Option Tmp} {ty : TypeId} {pos : String} {after : Array Edge} {g : Option (Nat × Bool)} {N : Value → World → Prop} {γ : aE} {v u : Value} {xss : List (List Int)} {l : List Int} {i : Nat}
theorem qL (γ : aE) (i : Nat) {e bytes : Nat} {z : Value} {kl kc : IntKind} {n cp : Int} (ht : P.underlying t = some (.slice e)) (he : Tp P e false 1 bytes z) (hz : z = .slice none 0 0)
   (hx : ev f x = .int kl n) (hy : ev f y = .int kc cp) (h0 : 0 ≤ n) (hlc : n ≤ cp) (hc : cp * bytes ≤ 281474976710656) (hc2 : cp ≤ 1099511627776)
   (hk : ∀ γ' w' v, bq no γ w γ' w' → lR γ' i w' v (List.replicate n.toNat []) → N v w') : go P ⟨dst, .makeSlice t x y, ty, pos, after, g⟩ f w N := by
 subst hz
 refine dE γ (row i 0) (row i 0) (i, 0) rfl vr ht he rfl hx hy h0 hlc hc hc2 fun γ' w' v hch ho _ => hk γ' w' v hch ⟨_, ho, by simp, fun r u x hu hx => ?_⟩
 have hu' := List.getElem?_eq_some_iff.1 hu
 have hx' := List.getElem?_eq_some_iff.1 hx
 obtain ⟨_, rfl⟩ := hu'
 obtain ⟨_, rfl⟩ := hx'
 simp only [List.getElem_replicate]
 exact Sl.nil
theorem oP {bytes : Nat} {z : Value} {r : Int} (ht : Tp P t false 1 bytes z) (hx : ev f x = .pointer (some (ba v 1 r.toNat))) (hy : ev f y = u) (hn : lR γ i w v xss) (hu : Sl γ (is 0) w u l) (hi : Nat.beq 0 i = false) (h0 : 0 ≤ r) (h1 : r < xss.length)
    (hN : ∀ w', bq (is i) γ w γ w' → lR γ i w' v (xss.set r.toNat l) → N undef w') : go P ⟨dst, .store t x y, ty, pos, after, g⟩ f w N := by
  obtain ⟨us, h2, h3, h4⟩ := hn
  have hone : u.oneCell' = true := bm hu
  have hcl := c6 hu
  obtain ⟨b, o, cur, e, ha, hb, hle, hc, hov⟩ := lO (u := u) (y := (⟨u, hone⟩ : Vc)) h2 (i := r.toNat) (by omega) (by rw [hcl]; rfl)
  replace ha : ba v 1 r.toNat = ⟨b, o, none⟩ := ha
  rw [ha] at hx
  have hne : ∀ q, kn i q → ¬ row i 0 q := fun q h1 h2 => by
    unfold row at h2
    subst h2
    rcases h1 with h1 | h1
    · exact dY hi h1.symm
    · exact h1.2 rfl
  refine fD (eZ ht hx hy hb (by rw [hcl]; rfl) hle (fun q hq => ?_)) (hN _ (hc.mono cS) ⟨us.set r.toNat ⟨u, hone⟩, hov, by simp [h3], fun k u' x' hu' hx' => ?_⟩)
  · rw [hcl] at hq
    obtain rfl : q = u := by simpa using hq
    exact hone
  · by_cases e : k = r.toNat
    · subst e
      rw [List.getElem?_set_self (by omega)] at hu' hx'
      obtain rfl := Option.some.inj hu'
      obtain rfl := Option.some.inj hx'
      exact (hu.mono fun q hq => .inl hq).chg hc hne
    · rw [List.getElem?_set_ne (Ne.symm e)] at hu' hx'
      exact (h4 k u' x' hu' hx').chg hc hne
end
end TL
/-
  TlEq: structs compared; a pointer looked at for nil; a bit turned.
  By an AI agent.
-/
set_option linter.all false
namespace TL
open Go
section
variable {P : Program} {f : Fr} {w : World} {dst : Option Tmp} {ty : TypeId} {pos : String} {after : Array Edge} {g : Option (Nat × Bool)} {t t' e : TypeId} {x y : Operand}
theorem bA {a : Addr} (hx : ev f x = .pointer (some a)) : (execOp (ev f) ⟨dst, .nilCheck x, ty, pos, after, g⟩).run P w = .ok (.value (.pointer (some a))) w := by
 simp only [execOp, hx, Sem.run_pure]
inductive EqV (P : Program) (t : TypeId) : Value → Value → Bool → Prop
 | int {a b : Int} (h : P.underlying t = some (.int .i64)) : EqV P t (.int .i64 a) (.int .i64 b) (decide (a = b))
 | bool {a b : Bool} (h : P.underlying t = some .bool) : EqV P t (.bool a) (.bool b) (decide (a = b))
inductive EqF (P : Program) (xs ys : Array Value) : List Field → List Bool → Prop
 | nil : EqF P xs ys [] []
 | cons {fd : Field} {fs : List Field} {bs : List Bool} {a b z : Value} {r : Bool} {size bytes : Nat} (hn : (fd.name != "_") = true) (he : Tp P fd.type false size bytes z) (ha : xs[fd.offset]? = some a) (hb : ys[fd.offset]? = some b) (hq : EqV P fd.type a b r) (hr : EqF P xs ys fs bs) : EqF P xs ys (fd :: fs) (r :: bs)
theorem mP {xs ys : Array Value} {fs : List Field} {bs : List Bool} (h : EqF P xs ys fs bs) (d : Nat) : (Op.eqFields (d + 1) xs ys fs).run P w = .ok (bs.all id) w := by
 induction h with
 | nil => simp [Op.eqFields, Sem.run_pure]
 | @cons fd fs bs a b z r size bytes hn he ha hb hq hr ih =>
   have hn' : fd.name ≠ "_" := by simpa using hn
   have h1 := gu (P := P) (w := w) he ha
   have h2 := gu (P := P) (w := w) he hb
   have h3 : (Op.equalIn (d + 1) fd.type a b).run P w = .ok r w := by
     cases hq with
     | int h => simp [Op.equalIn, bF h, Sem.run_pure]; rfl
     | bool h => simp [Op.equalIn, bF h, Sem.run_pure]; rfl
   simp only [Op.eqFields, if_pos hn', Sem.run_bind, h1, h2, h3, Result.andThen_ok]
   cases r with
   | true => simp [ih]
   | false => simp [Sem.run_pure]
theorem ji {fs : Array Field} {xs ys : List Value} {bs : List Bool} {q : Bool} (ht : P.underlying t = some (.struct fs)) (hp : P.stoodInHeld t = false) (hg : P.eqGuardType P.depth t = false) (hx : ev f x = .agg xs.toArray) (hy : ev f y = .agg ys.toArray) (h : EqF P xs.toArray ys.toArray fs.toList bs) (hq : bs.all id = q) :
   (execOp (ev f) ⟨dst, .binOp .eql t x y t', ty, pos, after, g⟩).run P w = .ok (.value (.bool q)) w := by
 have e1 : P.fieldsOf t = fs := by simp [Program.fieldsOf, ht]
 have hr : (Op.equal t (.agg xs.toArray) (.agg ys.toArray)).run P w = .ok q w := by
   have := run_equalIn_struct (P := P) w 9999 t xs.toArray ys.toArray (by rw [e1]; exact ht) hp
   rw [e1, mP h 9998, hq] at this
   exact this
 exact ph .eql hx hy (by simp [eqGuard, hg]) (by simp [binOp, hr])
def bK (h : Int) : Int := if h % 2 = 0 then h + 1 else h - 1
theorem nK (n : Nat) : n ^^^ 1 = if n % 2 = 0 then n + 1 else n - 1 := by
 apply Nat.eq_of_testBit_eq
 intro i
 rw [Nat.testBit_xor]
 cases i with
 | zero =>
   by_cases h : n % 2 = 0
   · rw [if_pos h, Nat.testBit_zero, Nat.testBit_zero, Nat.testBit_zero]
     have e1 : ¬ n % 2 = 1 := by omega
     have e2 : (n + 1) % 2 = 1 := by omega
     simp [e1, e2, h]
   · rw [if_neg h, Nat.testBit_zero, Nat.testBit_zero, Nat.testBit_zero]
     have e1 : n % 2 = 1 := by omega
     have e2 : (n - 1) % 2 = 0 := by omega
     simp [e1, e2]
 | succ i =>
   by_cases h : n % 2 = 0
   · rw [if_pos h]
     have e : (n + 1) / 2 = n / 2 := by omega
     simp [Nat.testBit_succ, e]
   · rw [if_neg h]
     have e : (n - 1) / 2 = n / 2 := by omega
     simp [Nat.testBit_succ, e]
theorem tX {h : Int} (h0 : 0 ≤ h) (h1 : h < 4611686018427387904) : bits .xor .i64 h 1 = bK h := by
 obtain ⟨n, rfl⟩ := Int.eq_ofNat_of_zero_le h0
 have hn : n < 4611686018427387904 := by omega
 have hx : (BitVec.ofInt 64 (n : Int)).toNat = n := by
   rw [BitVec.ofInt_natCast, BitVec.toNat_ofNat]; exact Nat.mod_eq_of_lt (by omega)
 have hy : (BitVec.ofInt 64 (1 : Int)).toNat = 1 := by rfl
 show IntKind.i64.wrap ((BitVec.ofInt 64 (n : Int) ^^^ BitVec.ofInt 64 (1 : Int)).toNat : Int) = _
 rw [BitVec.toNat_xor, hx, hy, nK]
 unfold bK
 by_cases hp : n % 2 = 0
 · rw [if_pos hp, if_pos (by omega), iy ⟨by omega, by omega⟩]; omega
 · rw [if_neg hp, if_neg (by omega), iy ⟨by omega, by omega⟩]; omega
theorem wI {m : Int} (hx : ev f x = .int .i64 m) (hy : ev f y = .int .i64 1) (h0 : 0 ≤ m) (h1 : m < 4611686018427387904) : (execOp (ev f) ⟨dst, .binOp .xor t x y t', ty, pos, after, g⟩).run P w = .ok (.value (.int .i64 (bK m))) w :=
 cI .xor x y hx hy (by simp [binOp, intBits_xor, tX h0 h1, Sem.run_pure])
end
end TL
namespace TL
open Go
section
variable {P : Program} {f : Fr} {w : World} {dst : Option Tmp} {ty : TypeId} {pos : String} {after : Array Edge} {g : Option (Nat × Bool)} {t : TypeId} {x : Operand}
end
end TL
namespace TL
open Go
section
variable {P : Program} {f : Fr} {w : World} {dst : Option Tmp} {ty : TypeId} {pos : String} {after : Array Edge} {g : Option (Nat × Bool)} {t t' : TypeId} {x y : Operand} {m n : Int}
end
end TL
namespace TL
open Go
theorem sY {f : Fr} {x : Operand} {xs : List Operand} {v : Value} {vs : List Value} (h : ev f x = v) (h2 : xs.map (ev f) = vs) : (x :: xs).map (ev f) = v :: vs := by subst h h2; rfl
end TL
/-
  TlRot: rotations: which may be, turned to their rx, faces.
  By an AI agent.
-/
set_option linter.all false
namespace TL
abbrev bj := List (List Int)
def cf (g : bZ) (r : bj) : Prop := (r.length : Int) = g.1 ∧ (∀ v : Nat, v < r.length → ∀ h ∈ gI r (v : Int), (0 ≤ h ∧ h < 2 * (g.2.length : Int)) ∧ bp g h = v) ∧ r.flatten.Nodup ∧ (r.flatten.length : Int) = 2 * g.2.length
instance (g : bZ) (r : bj) : Decidable (cf g r) := by unfold cf; infer_instance
def aK (g : bZ) (r : bj) : Int := if bx g then if cf g r then 0 else 4 else 1
theorem dD {g : bZ} {r : bj} (h : aK g r = 0) : bx g ∧ cf g r := by
 unfold aK at h
 by_cases h1 : bx g
 · by_cases h2 : cf g r
   · exact ⟨h1, h2⟩
   · rw [if_pos h1, if_neg h2] at h; cases h
 · rw [if_neg h1] at h; cases h
theorem br {g : bZ} {r : bj} (h1 : bx g) (h2 : cf g r) : aK g r = 0 := by unfold aK; rw [if_pos h1, if_pos h2]
theorem eb {g : bZ} {r : bj} (h1 : bx g) (h2 : ¬ cf g r) : aK g r = 4 := by unfold aK; rw [if_pos h1, if_neg h2]
theorem fk {n : Int} {l : List Int} (h0 : 0 ≤ n) (hn : l.Nodup) (h : ∀ x ∈ l, 0 ≤ x ∧ x < n) : (l.length : Int) ≤ n := by
 have := oL n.toNat l hn (fun x hx => by have := h x hx; omega)
 omega
theorem eP {r : bj} {k : Nat} (hk : (k : Int) < r.length) : (r.take (k + 1)).flatten = (r.take k).flatten ++ gI r (k : Int) := by
 rw [bh hk]; simp
structure fv (seen : List Bool) (P : List Int) (n : Int) : Prop where
  len : (seen.length : Int) = n
  seen : ∀ h, 0 ≤ h → h < n → gI seen h = decide (h ∈ P)
  nodup : P.Nodup
  rng : ∀ h ∈ P, 0 ≤ h ∧ h < n
theorem fv.start {n : Int} (hn : 0 ≤ n) : fv (List.replicate n.toNat false) [] n :=
 ⟨by simp; omega, fun h h0 h1 => by rw [eH h0 (by omega)]; simp, by simp, by simp⟩
theorem fv.next {seen : List Bool} {P : List Int} {n h : Int} (hi : fv seen P n) (h0 : 0 ≤ h) (h1 : h < n) (hs : gI seen h = false) : fv (seen.set h.toNat true) (P ++ [h]) n := by
 have hl := hi.len
 have hn : h ∉ P := by
   have := hi.seen h h0 h1
   rw [hs] at this
   simpa using this.symm
 refine ⟨by simpa using hl, fun x hx0 hx1 => ?_, ?_, fun x hx => ?_⟩
 · rw [cu h0 (by omega) hx0]
   by_cases e : x = h
   · subst e; simp
   · rw [if_neg e, hi.seen x hx0 hx1]; simp [e]
 · rw [List.nodup_append]
   refine ⟨hi.nodup, by simp, fun a ha b hb => ?_⟩
   obtain rfl := List.mem_singleton.1 hb
   intro e; subst e; exact hn ha
 · rcases List.mem_append.1 hx with hx | hx
   · exact hi.rng x hx
   · obtain rfl := List.mem_singleton.1 hx; exact ⟨h0, h1⟩
theorem fv.bd {seen : List Bool} {P : List Int} {n : Int} (hi : fv seen P n) : (P.length : Int) ≤ n := fk (by have := hi.len; omega) hi.nodup hi.rng
theorem fv.mem {seen : List Bool} {P : List Int} {n h : Int} (hi : fv seen P n) (h0 : 0 ≤ h) (h1 : h < n) (hs : gI seen h = true) : h ∈ P := by
 have := hi.seen h h0 h1
 rw [hs] at this
 simpa using this.symm
structure cN (seen : List Bool) (n : Int) (g : bZ) (r : bj) (k i : Nat) : Prop where
  rm : fv seen ((r.take k).flatten ++ (gI r (k : Int)).take i) (2 * (g.2.length : Int))
  n : n = (((r.take k).flatten ++ (gI r (k : Int)).take i).length : Int)
  ok : ∀ v : Nat, v < k → ∀ h ∈ gI r (v : Int), (0 ≤ h ∧ h < 2 * (g.2.length : Int)) ∧ bp g h = v
  row : ∀ h ∈ (gI r (k : Int)).take i, (0 ≤ h ∧ h < 2 * (g.2.length : Int)) ∧ bp g h = k
theorem cN.start (g : bZ) (r : bj) : cN (List.replicate (2 * (g.2.length : Int)).toNat false) 0 g r 0 0 :=
 ⟨by simpa using fv.start (n := 2 * (g.2.length : Int)) (by omega), by simp, fun v hv => by omega, by simp⟩
section
variable {seen : List Bool} {n : Int} {g : bZ} {r : bj} {k i : Nat}
theorem cN.bd (h : cN seen n g r k i) : 0 ≤ n ∧ n ≤ 2 * (g.2.length : Int) := by
 have h1 := h.rm.bd
 rw [h.n]
 exact ⟨by omega, h1⟩
theorem cN.next (h : cN seen n g r k i) (hi : (i : Int) < (gI r (k : Int)).length) (h0 : 0 ≤ gI (gI r (k : Int)) (i : Int)) (h1 : gI (gI r (k : Int)) (i : Int) < 2 * (g.2.length : Int)) (hs : gI seen (gI (gI r (k : Int)) (i : Int)) = false) (hf : bp g (gI (gI r (k : Int)) (i : Int)) = k) :
   cN (seen.set (gI (gI r (k : Int)) (i : Int)).toNat true) (n + 1) g r k (i + 1) := by
 have e := bh hi
 refine ⟨?_, ?_, h.ok, fun x hx => ?_⟩
 · rw [e, ← List.append_assoc]; exact h.rm.next h0 h1 hs
 · rw [e, ← List.append_assoc, List.length_append, h.n]; simp
 · rw [e] at hx
   rcases List.mem_append.1 hx with hx | hx
   · exact h.row x hx
   · obtain rfl := List.mem_singleton.1 hx; exact ⟨⟨h0, h1⟩, hf⟩
theorem cN.row_done (h : cN seen n g r k i) (hk : (k : Int) < r.length) (hi : ¬ (i : Int) < (gI r (k : Int)).length) : cN seen n g r (k + 1) 0 := by
 have e : (gI r (k : Int)).take i = gI r (k : Int) := List.take_of_length_le (by omega)
 have h1 := h.rm
 have h2 := h.n
 have h3 := h.row
 rw [e] at h1 h2 h3
 refine ⟨by rw [eP hk]; simpa using h1, by rw [eP hk]; simpa using h2, fun v hv x hx => ?_, by simp⟩
 by_cases hvk : v = k
 · subst hvk; exact h3 x hx
 · exact h.ok v (by omega) x hx
theorem cN.bad (h : cN seen n g r k i) (hk : (k : Int) < r.length) (hi : (i : Int) < (gI r (k : Int)).length) (hb : ¬ ((0 ≤ gI (gI r (k : Int)) (i : Int) ∧ gI (gI r (k : Int)) (i : Int) < 2 * (g.2.length : Int)) ∧ bp g (gI (gI r (k : Int)) (i : Int)) = k)) : ¬ cf g r := fun hr =>
 hb (hr.2.1 k (by omega) _ (bu (by omega) hi))
theorem cN.twice (h : cN seen n g r k i) (hk : (k : Int) < r.length) (hi : (i : Int) < (gI r (k : Int)).length) (h0 : 0 ≤ gI (gI r (k : Int)) (i : Int)) (h1 : gI (gI r (k : Int)) (i : Int) < 2 * (g.2.length : Int)) (hs : gI seen (gI (gI r (k : Int)) (i : Int)) = true) : ¬ cf g r := fun hr => by
 have hm := h.rm.mem h0 h1 hs
 have hn := hr.2.2.1
 have hsub : List.Sublist ((r.take k).flatten ++ (gI r (k : Int)).take i ++ [gI (gI r (k : Int)) (i : Int)]) r.flatten := by
   rw [List.append_assoc, ← bh hi]
   have e1 : r = r.take (k + 1) ++ r.drop (k + 1) := (List.take_append_drop _ _).symm
   have e2 : r.flatten = (r.take (k + 1)).flatten ++ (r.drop (k + 1)).flatten := by rw [← List.flatten_append, ← e1]
   rw [e2, eP hk]
   exact (List.Sublist.append_left (List.take_sublist _ _) _).trans (List.sublist_append_left _ _)
 have := hn.sublist hsub
 rw [List.nodup_append] at this
 exact this.2.2 _ hm _ (by simp) rfl
theorem cN.fin (h : cN seen n g r k i) (hl : (r.length : Int) = g.1) (hk : k = r.length) (hi : i = 0) : cf g r ↔ n = 2 * (g.2.length : Int) := by
 subst hk hi
 have h1 := h.rm
 have h2 := h.n
 simp only [List.take_zero, List.append_nil, List.take_length] at h1 h2
 rw [h2]
 exact ⟨fun hr => hr.2.2.2, fun e => ⟨hl, h.ok, h1.nodup, e⟩⟩
end
def fK (l : List Int) : List Int := if l = [] then [] else l.drop (l.idxOf (dJ l)) ++ l.take (l.idxOf (dJ l))
def ct (r : bj) : bj := r.map fK
def bf (s : List Int) (v : Int) : Int := if v ∈ s then (s.idxOf v : Int) else -1
theorem l7 {s : List Int} {v : Int} {i : Nat} (h : ∀ j : Nat, j < i → ¬ v = gI s (j : Int)) (hi : (i : Int) < s.length) (he : v = gI s (i : Int)) : (i : Int) = bf s v := by
 have hlt : i < s.length := by omega
 have e : gI s (i : Int) = s[i] := by simp [gI, hlt]
 have hm : v ∈ s := by rw [he]; exact bu (by omega) hi
 unfold bf
 rw [if_pos hm]
 have hlt2 := List.idxOf_lt_length_iff.2 hm
 have h1 : ¬ s.idxOf v < i := fun hlt' => h _ hlt' (by simp [gI, hlt2])
 have h2 : ¬ i < s.idxOf v := fun hlt' => by
   have := List.not_of_lt_findIdx (xs := s) (p := (· == v)) (i := i) hlt'
   simp at this
   exact this (by rw [← e, ← he])
 omega
theorem px {s : List Int} {v : Int} {i : Nat} (h : ∀ j : Nat, j < i → ¬ v = gI s (j : Int)) (hi : ¬ (i : Int) < s.length) : (-1 : Int) = bf s v := by
 unfold bf
 rw [if_neg]
 intro hm
 obtain ⟨j, hj, e⟩ := List.mem_iff_getElem.1 hm
 exact h j (by omega) (by simp [gI, hj, e])
theorem iN : ∀ (l : List Int) (a : Int), l.foldl min a = a ∨ l.foldl min a ∈ l
 | [], a => .inl rfl
 | x :: l, a => by
   simp only [List.foldl_cons]
   rcases iN l (min a x) with h | h
   · rw [h]
     rcases Int.le_total a x with h1 | h1
     · rw [Int.min_eq_left h1]; exact .inl rfl
     · rw [Int.min_eq_right h1]; exact .inr (by simp)
   · exact .inr (by simp [h])
theorem j5 : ∀ (l : List Int) (a : Int), l.foldl min a ≤ a ∧ ∀ x ∈ l, l.foldl min a ≤ x
 | [], a => ⟨Int.le_refl _, by simp⟩
 | y :: l, a => by
   obtain ⟨h1, h2⟩ := j5 l (min a y)
   simp only [List.foldl_cons]
   refine ⟨by omega, fun x hx => ?_⟩
   rcases List.mem_cons.1 hx with rfl | hx
   · omega
   · exact h2 x hx
theorem qe {l : List Int} (hl : l ≠ []) : dJ l = (l.drop 1).foldl min (gI l 0) := by
 unfold dJ ol; rw [List.take_length]
theorem nF {l : List Int} (hl : l ≠ []) : dJ l ∈ l := by
 rw [qe hl]
 cases l with
 | nil => exact absurd rfl hl
 | cons a l =>
   simp only [List.drop_succ_cons, List.drop_zero]
   rcases iN l (gI (a :: l) 0) with h | h
   · rw [h]; simp [gI]
   · exact List.mem_cons_of_mem _ h
theorem uK {l : List Int} (hl : l ≠ []) {x : Int} (hx : x ∈ l) : dJ l ≤ x := by
 rw [qe hl]
 cases l with
 | nil => exact absurd rfl hl
 | cons a l =>
   simp only [List.drop_succ_cons, List.drop_zero]
   obtain ⟨h1, h2⟩ := j5 l (gI (a :: l) 0)
   rcases List.mem_cons.1 hx with rfl | hx
   · simpa [gI] using h1
   · exact h2 x hx
theorem mh {l : List Int} (hl : l ≠ []) : fK l = l.drop (bf l (dJ l)).toNat ++ l.take (bf l (dJ l)).toNat ∧ 0 ≤ bf l (dJ l) ∧ bf l (dJ l) < l.length := by
 have hm := nF hl
 unfold fK bf
 rw [if_neg hl, if_pos hm]
 have := List.idxOf_lt_length_iff.2 hm
 exact ⟨by simp, by omega, by omega⟩
structure dL (at_ : Int) (l : List Int) (i : Nat) : Prop where
  lo : 0 ≤ at_
  hi : at_ < l.length ∨ at_ = 0 ∧ l = []
  le : ∀ q : Nat, q < i → q < l.length → gI l at_ ≤ gI l (q : Int)
  lt : ∀ q : Nat, (q : Int) < at_ → gI l at_ < gI l (q : Int)
theorem dL.start (l : List Int) : dL 0 l 0 := by
 refine ⟨by omega, ?_, fun q hq => by omega, fun q hq => by omega⟩
 cases l with
 | nil => exact .inr ⟨rfl, rfl⟩
 | cons a l => left; simp
theorem dL.yes {at_ : Int} {l : List Int} {i : Nat} (h : dL at_ l i) (hi : (i : Int) < l.length) (hc : gI l (i : Int) < gI l at_) : dL (i : Int) l (i + 1) :=
 ⟨by omega, .inl hi, fun q hq hl => by
   by_cases e : q = i
   · subst e; omega
   · have := h.le q (by omega) hl; omega, fun q hq => by
   have := h.le q (by omega) (by omega); omega⟩
theorem dL.no {at_ : Int} {l : List Int} {i : Nat} (h : dL at_ l i) (hc : ¬ gI l (i : Int) < gI l at_) : dL at_ l (i + 1) :=
 ⟨h.lo, h.hi, fun q hq hl => by
   by_cases e : q = i
   · subst e; omega
   · exact h.le q (by omega) hl, h.lt⟩
theorem dL.done {at_ : Int} {l : List Int} {i : Nat} (h : dL at_ l i) (hi : ¬ (i : Int) < l.length) : l.drop at_.toNat ++ l.take at_.toNat = fK l := by
 rcases h.hi with hh | ⟨rfl, rfl⟩
 · have hl : l ≠ [] := fun e => by subst e; simp at hh; have := h.lo; omega
   obtain ⟨e1, e2, e3⟩ := mh hl
   have hlo := h.lo
   have hmin : dJ l = gI l at_ := by
     have h1 := uK hl (bu (xs := l) hlo hh)
     obtain ⟨j, hj, ej⟩ := List.mem_iff_getElem.1 (nF hl)
     have h2 := h.le j (by omega) hj
     have e : gI l (j : Int) = l[j] := by simp [gI, hj]
     rw [e, ej] at h2
     omega
   have hat : bf l (dJ l) = at_ := by
     have := l7 (s := l) (v := dJ l) (i := at_.toNat) (fun j hj => by
       rw [hmin]
       have := h.lt j (by omega)
       omega) (by omega) (by rw [hmin, show ((at_.toNat : Nat) : Int) = at_ by omega])
     omega
   rw [e1, hat]
 · simp [fK]
end TL
namespace TL
theorem j6 {α β : Type} [Inhabited α] {f : α → β} {r : List α} {k : Nat} {d y : β} (hk : (k : Int) < r.length) (hy : y = f (gI r (k : Int))) : (List.map f (List.take k r) ++ List.replicate (r.length - k) d).set (k : Int).toNat y = List.map f (List.take (k + 1) r) ++ List.replicate (r.length - (k + 1)) d := by
 have hl : (List.map f (List.take k r)).length = k := by simp; omega
 have e : r.length - k = (r.length - (k + 1)) + 1 := by omega
 rw [e, List.replicate_succ, bh hk, List.map_append, hy]
 simp only [Int.toNat_natCast]
 rw [List.set_append_right _ _ (by omega), hl]
 simp
theorem sx {α β : Type} [Inhabited α] {f : α → β} {r : List α} {k : Nat} {d : β} (hk : (k : Int) < r.length) (hy : f (gI r (k : Int)) = d) : (List.map f (List.take k r) ++ List.replicate (r.length - k) d) = List.map f (List.take (k + 1) r) ++ List.replicate (r.length - (k + 1)) d := by
 have e : r.length - k = (r.length - (k + 1)) + 1 := by omega
 rw [e, List.replicate_succ, bh hk, List.map_append, List.map_cons, hy]
 simp
end TL
/-
  TlShort: short names for the commonest steps (used by packed claims only).
  By an AI agent.
-/
set_option linter.all false
namespace TL
open Go
abbrev vi (x : Int) : Value := Value.int .i64 x
abbrev vp (b o : Nat) : Value := Value.pointer (some ⟨b, o, none⟩)
abbrev vn : Value := Value.slice none 0 0
abbrev vt (l : List Value) : Value := Value.tuple (List.toArray l)
abbrev vg (l : List Value) : Value := Value.agg (List.toArray l)
theorem cg (L : List Nat) {γ γ' : aE} {w w' : World} (h : bq (bW L) γ w γ' w') : bq (bW L) γ w γ' w' := h
theorem dt {p : Prop} [Decidable p] (h : p) : decide p = true := decide_eq_true h
theorem df {p : Prop} [Decidable p] (h : ¬ p) : decide p = false := decide_eq_false h
section
variable {P : Program} {all rest : List Oper} {K : Fr → World → Prop} {f : Fr} {w w' : World} {x : Operand}
variable {dst : Option Tmp} {op : Op} {ty : TypeId} {pos : String} {after : Array Edge} {g : Option (Nat × Bool)} {o : Oper}
theorem lv (v : Value) (hw : cU all ⟨dst, op, ty, pos, after, g⟩ f = true) (h : (execOp (ev f) ⟨dst, op, ty, pos, after, g⟩).run P w = .ok (.value v) w') (hk : io P all rest K (gp f dst v) w') : io P all (⟨dst, op, ty, pos, after, g⟩ :: rest) K f w := kg hw h hk
theorem lx {v : Value} (h : (execOp (ev f) ⟨dst, op, ty, pos, after, none⟩).run P w = .ok (.value v) w') (hk : io P all rest K (gp f dst v) w') : io P all (⟨dst, op, ty, pos, after, none⟩ :: rest) K f w := kg rfl h hk
theorem lw (v : Value) (h : (execOp (ev f) ⟨dst, op, ty, pos, after, none⟩).run P w = .ok (.value v) w') (hk : io P all rest K (gp f dst v) w') : io P all (⟨dst, op, ty, pos, after, none⟩ :: rest) K f w := kg rfl h hk
theorem mv (v : Value) (hk : io P all rest K (gp f dst v) w) (h : ev f x = v := by exact rfl) : io P all (⟨dst, .move x, ty, pos, after, none⟩ :: rest) K f w := kg rfl (au h) hk
theorem ma (v : Value) (hk : io P all rest K (gp f dst v) w) (h : ev f x = v := by exact rfl) : io P all (⟨dst, .assign x, ty, pos, after, none⟩ :: rest) K f w := kg rfl (bz h) hk
theorem mi (v : Int) (hk : io P all rest K (gp f dst (.int .i64 v)) w) (h : ev f x = .int .i64 v := by exact rfl) : io P all (⟨dst, .move x, ty, pos, after, none⟩ :: rest) K f w := kg rfl (au h) hk
theorem ai (v : Int) (hk : io P all rest K (gp f dst (.int .i64 v)) w) (h : ev f x = .int .i64 v := by exact rfl) : io P all (⟨dst, .assign x, ty, pos, after, none⟩ :: rest) K f w := kg rfl (bz h) hk
theorem mz {v : Value} (h : ev f x = v) (hk : io P all rest K (gp f dst v) w) : io P all (⟨dst, .move x, ty, pos, after, none⟩ :: rest) K f w := kg rfl (au h) hk
theorem lo (h : go P ⟨dst, op, ty, pos, after, none⟩ f w (fun v w' => io P all rest K (gp f dst v) w')) : io P all (⟨dst, op, ty, pos, after, none⟩ :: rest) K f w := cr rfl h
theorem wy {j : Nat} {x : Bool} {d : Nat} {b : Bool} (hx : b = x) (hg : o.guard = some (j, x) := by exact rfl) (hj : (all[j]?).bind (·.dst) = some d := by exact rfl) (hb : f d = .bool b := by exact rfl) : cU all o f = true := vC hg hj hb hx
theorem wn {j : Nat} {x : Bool} {d : Nat} {b : Bool} (hx : b = !x) (hg : o.guard = some (j, x) := by exact rfl) (hj : (all[j]?).bind (·.dst) = some d := by exact rfl) (hb : f d = .bool b := by exact rfl) : cU all o f = false := wD hg hj hb hx
variable {C : World → Prop} {KQ : Fr → Prop}
theorem qv (v : Value) (h : ∀ w, C w → (execOp (ev f) ⟨dst, op, ty, pos, after, none⟩).run P w = .ok (.value v) w) (hk : ks P all C rest KQ (gp f dst v)) : ks P all C (⟨dst, op, ty, pos, after, none⟩ :: rest) KQ f := bE rfl h hk
theorem qx {v : Value} (h : ∀ w, C w → (execOp (ev f) ⟨dst, op, ty, pos, after, none⟩).run P w = .ok (.value v) w) (hk : ks P all C rest KQ (gp f dst v)) : ks P all C (⟨dst, op, ty, pos, after, none⟩ :: rest) KQ f := bE rfl h hk
theorem qm (v : Value) (hk : ks P all C rest KQ (gp f dst v)) (h : ev f x = v := by exact rfl) : ks P all C (⟨dst, .move x, ty, pos, after, none⟩ :: rest) KQ f := bE rfl (fun _ _ => au h) hk
theorem qz {v : Value} (h : ev f x = v) (hk : ks P all C rest KQ (gp f dst v)) : ks P all C (⟨dst, .move x, ty, pos, after, none⟩ :: rest) KQ f := bE rfl (fun _ _ => au h) hk
end
section
variable {P : Program} {n : Nat} {l : List Oper} {S : World → Prop} {K : Fr → World → Prop} {f : Fr} {w : World} {done : List Nat} {fuel : Nat} {qs : List Nat}
variable {dst : Option Tmp} {op : Op} {ty : TypeId} {pos : String} {after : Array Edge} {g : Option (Nat × Bool)} {v : Value}
theorem ht (i : Nat) (hi : l[i]? = some ⟨dst, op, ty, pos, after, none⟩) (hS : S w) (h : ∀ w, S w → (execOp (ev f) ⟨dst, op, ty, pos, after, none⟩).run P w = .ok (.value v) w) (hk : r9 P n l S K fuel (i :: done) (gp f dst v) w) (hn : gH l = true := by kernel_rfl) (hc : (gh l done i && iO l done i && lV n ⟨dst, op, ty, pos, after, none⟩) = true := by kernel_rfl) : r9 P n l S K (fuel + 1) done f w := wl i hi hn hc rfl hS h hk
theorem xv (i : Nat) (M : List Nat) (hi : l[i]? = some ⟨dst, op, ty, pos, after, none⟩) (h : (execOp (ev f) ⟨dst, op, ty, pos, after, none⟩).run P w = .ok (.value v) w) (hk : mc P n l qs K fuel (i :: done) (gp f dst v) w) (hn : gH l = true := by kernel_rfl) (hc : (qs.contains i && gh l done i && iO l done i && mF l qs done M i && lV n ⟨dst, op, ty, pos, after, none⟩) = true := by kernel_rfl) : mc P n l qs K (fuel + 1) done f w := wV i M hi hn hc rfl h hk
theorem xh (i : Nat) (M : List Nat) (hi : l[i]? = some ⟨dst, op, ty, pos, after, none⟩) (h : ∀ w', dH w.heap.size w w' → (execOp (ev f) ⟨dst, op, ty, pos, after, none⟩).run P w' = .ok (.value v) w') (hk : mc P n l qs K fuel (i :: done) (gp f dst v) w) (hn : gH l = true := by kernel_rfl) (hc : (qs.contains i && gh l done i && iO l done i && n9 l qs done M i && lV n ⟨dst, op, ty, pos, after, none⟩) = true := by kernel_rfl) : mc P n l qs K (fuel + 1) done f w := vO i M hi hn hc rfl h hk
theorem xp (i : Nat) (hi : l[i]? = some ⟨dst, op, ty, pos, after, none⟩) (h : ∀ w, (execOp (ev f) ⟨dst, op, ty, pos, after, none⟩).run P w = .ok (.value v) w) (hk : mc P n l qs K fuel (i :: done) (gp f dst v) w) (hn : gH l = true := by kernel_rfl) (hc : (qs.contains i && gh l done i && iO l done i && lV n ⟨dst, op, ty, pos, after, none⟩) = true := by kernel_rfl) : mc P n l qs K (fuel + 1) done f w := wo i hi hn hc rfl h hk
end
section
variable {γ γ' : aE} {w w' : World} {v : Value} {j k : Nat} {L : List Nat}
theorem b9.ca {w0 : World} (h : b9 w0 γ w) (hc : bq (bW L) γ w γ' w') (hj : L.contains 0 = false := by exact rfl) : b9 w0 γ' w' := h.chg hc (bQ hj)
theorem b9.ce {w0 : World} (h : b9 w0 γ w) (hc : bq (is k) γ w γ' w') (hj : Nat.beq 0 k = false := by exact rfl) : b9 w0 γ' w' := h.chg hc (cY hj)
theorem b9.cn {w0 : World} (h : b9 w0 γ w) (hc : bq no γ w γ' w') : b9 w0 γ' w' := h.chg hc (gf _)
theorem Bx.ca {b : Nat} {cs : List Value} (h : Bx γ (is j) w b cs) (hc : bq (bW L) γ w γ' w') (hj : L.contains j = false := by exact rfl) : Bx γ' (is j) w' b cs := h.chg hc (bQ hj)
theorem Bx.ce {b : Nat} {cs : List Value} (h : Bx γ (is j) w b cs) (hc : bq (is k) γ w γ' w') (hj : Nat.beq j k = false := by exact rfl) : Bx γ' (is j) w' b cs := h.chg hc (cY hj)
theorem Bx.cn {J : cv → Prop} {b : Nat} {cs : List Value} (h : Bx γ J w b cs) (hc : bq no γ w γ' w') : Bx γ' J w' b cs := h.chg hc (gf _)
theorem Sl.ca {α : Type} [Rp α] {xs : List α} (h : Sl γ (is j) w v xs) (hc : bq (bW L) γ w γ' w') (hj : L.contains j = false := by exact rfl) : Sl γ' (is j) w' v xs := h.chg hc (bQ hj)
theorem Sl.ce {α : Type} [Rp α] {xs : List α} (h : Sl γ (is j) w v xs) (hc : bq (is k) γ w γ' w') (hj : Nat.beq j k = false := by exact rfl) : Sl γ' (is j) w' v xs := h.chg hc (cY hj)
theorem Sl.cn {α : Type} [Rp α] {S : cv → Prop} {xs : List α} (h : Sl γ S w v xs) (hc : bq no γ w γ' w') : Sl γ' S w' v xs := h.chg hc (gf _)
theorem Ow.ca {α : Type} [Rp α] {xs : List α} (h : Ow γ (is j) (is j) w v xs) (hc : bq (bW L) γ w γ' w') (hj : L.contains j = false := by exact rfl) : Ow γ' (is j) (is j) w' v xs := h.chg hc (bQ hj) (bQ hj)
theorem Ow.ce {α : Type} [Rp α] {xs : List α} (h : Ow γ (is j) (is j) w v xs) (hc : bq (is k) γ w γ' w') (hj : Nat.beq j k = false := by exact rfl) : Ow γ' (is j) (is j) w' v xs := h.chg hc (cY hj) (cY hj)
theorem Ow.cn {α : Type} [Rp α] {J S : cv → Prop} {xs : List α} (h : Ow γ J S w v xs) (hc : bq no γ w γ' w') : Ow γ' J S w' v xs := h.chg hc (gf _) (gf _)
theorem cj.ca {α : Type} [Rp α] {xs : List (List α)} (h : cj γ j w v xs) (hc : bq (bW L) γ w γ' w') (hj : L.contains j = false := by exact rfl) : cj γ' j w' v xs := h.chg hc (bQ hj)
theorem cj.ce {α : Type} [Rp α] {xs : List (List α)} (h : cj γ j w v xs) (hc : bq (is k) γ w γ' w') (hj : Nat.beq j k = false := by exact rfl) : cj γ' j w' v xs := h.chg hc (cY hj)
theorem cj.cn {α : Type} [Rp α] {xs : List (List α)} (h : cj γ j w v xs) (hc : bq no γ w γ' w') : cj γ' j w' v xs := h.chg hc (gf _)
theorem fR.ca {α : Type} [Rp α] {h0 : Nat} {xs : List (List α)} (h : fR γ j h0 w v xs) (hc : bq (bW L) γ w γ' w') (hj : L.contains j = false := by exact rfl) : fR γ' j h0 w' v xs := h.chg hc (bQ hj)
theorem fR.ce {α : Type} [Rp α] {h0 : Nat} {xs : List (List α)} (h : fR γ j h0 w v xs) (hc : bq (is k) γ w γ' w') (hj : Nat.beq j k = false := by exact rfl) : fR γ' j h0 w' v xs := h.chg hc (cY hj)
theorem fR.cn {α : Type} [Rp α] {h0 : Nat} {xs : List (List α)} (h : fR γ j h0 w v xs) (hc : bq no γ w γ' w') : fR γ' j h0 w' v xs := h.chg hc (gf _)
theorem lR.ca {xs : List (List Int)} (h : lR γ j w v xs) (hc : bq (bW L) γ w γ' w') (hj : L.contains j = false := by exact rfl) (h0 : L.contains 0 = false := by exact rfl) : lR γ' j w' v xs := h.chg hc (bQ hj) (bQ h0)
theorem lR.ce {xs : List (List Int)} (h : lR γ j w v xs) (hc : bq (is k) γ w γ' w') (hj : Nat.beq j k = false := by exact rfl) (h0 : Nat.beq 0 k = false := by exact rfl) : lR γ' j w' v xs := h.chg hc (cY hj) (cY h0)
theorem lR.cn {xs : List (List Int)} (h : lR γ j w v xs) (hc : bq no γ w γ' w') : lR γ' j w' v xs := h.chg hc (gf _) (gf _)
theorem jC.cn {S : cv → Prop} {us : List Vc} {rs : List Rw} (h : jC γ S w us rs) (hc : bq no γ w γ' w') : jC γ' S w' us rs := h.chg hc (gf _)
theorem jC.ca {us : List Vc} {rs : List Rw} (h : jC γ (is j) w us rs) (hc : bq (bW L) γ w γ' w') (hj : L.contains j = false := by exact rfl) : jC γ' (is j) w' us rs := h.chg hc (bQ hj)
theorem jC.ce {us : List Vc} {rs : List Rw} (h : jC γ (is j) w us rs) (hc : bq (is k) γ w γ' w') (hj : Nat.beq j k = false := by exact rfl) : jC γ' (is j) w' us rs := h.chg hc (cY hj)
def x4 (δ g : aE) (w : World) (ren : Nat → Nat) : Prop := (∀ {α : Type} [Rp α] {i : Nat} {v : Value} {xs : List α}, Ow δ (is i) (is i) w v xs → ∀ k : Nat, Nat.beq i 0 = false → ren i = k → Ow g (is k) (is k) w v xs) ∧ (∀ {α : Type} [Rp α] {i : Nat} {v : Value} {xs : List (List α)}, cj δ i w v xs → ∀ k : Nat, Nat.beq i 0 = false → ren i = k → cj g k w v xs)
theorem dw {δ : aE} (γ : aE) (fr : cC w δ w') (ren : Nat → Nat) : ∃ g, bq no γ w g w' ∧ x4 δ g w' ren :=
 ⟨_, ry fr.below γ δ ren, fun h k hi hr => h.glue fr.col hi hr, fun h k hi hr => h.glue fr.col hi hr⟩
theorem Ow.gl {α : Type} [Rp α] {δ g : aE} {ren : Nat → Nat} {i : Nat} {xs : List α} (h : Ow δ (is i) (is i) w v xs) (G : x4 δ g w ren) (k : Nat) (hi : Nat.beq i 0 = false := by exact rfl) (hr : ren i = k := by exact rfl) : Ow g (is k) (is k) w v xs := G.1 h k hi hr
theorem cj.gl {α : Type} [Rp α] {δ g : aE} {ren : Nat → Nat} {i : Nat} {xs : List (List α)} (h : cj δ i w v xs) (G : x4 δ g w ren) (k : Nat) (hi : Nat.beq i 0 = false := by exact rfl) (hr : ren i = k := by exact rfl) : cj g k w v xs := G.2 h k hi hr
end
end TL
/-
  TlMap: maps that the call makes.
  By an AI agent.
-/
set_option linter.all false
namespace TL
open Go
class Ky (K : Type) where
  val : K → Value
section
variable {P : Program} {f : Fr} {w : World} {dst : Option Tmp} {ty : TypeId} {pos : String} {after : Array Edge} {g : Option (Nat × Bool)} {t : TypeId} {x y z : Operand} {N : Value → World → Prop}
end
instance : Ky Int where
 val k := .int .i64 k
instance : Ky (Int × Int) where
 val k := .agg (List.toArray [.int .i64 k.1, .int .i64 k.2])
end TL
namespace TL
open Go
end TL
/-
  TlFace: half-edges' next ones, faces.
  By an AI agent.
-/
set_option linter.all false
namespace TL
def et (r : bj) (h : Int) : Int :=
  match r.find? (fun l => decide (h ∈ l)) with
  | some l => gI l ((((l.idxOf h : Nat) : Int) + 1) % (l.length : Int))
  | none => 0
def aw (g : bZ) (r : bj) : List Int := (c7 (2 * g.2.length)).map fun k => et r (bK k)
theorem iA {h : Int} (h0 : 0 ≤ h) : bK (bK h) = h := by
 unfold bK
 by_cases e : h % 2 = 0
 · rw [if_pos e, if_neg (by omega)]; omega
 · rw [if_neg e, if_pos (by omega)]; omega
theorem eJ {n h : Int} (h0 : 0 ≤ h) (h1 : h < 2 * n) : 0 ≤ bK h ∧ bK h < 2 * n := by
 unfold bK
 split <;> omega
theorem tI {a b : Int} (ha : 0 ≤ a) (hb : 0 ≤ b) (h : bK a = bK b) : a = b := by
 have := congrArg bK h
 rwa [iA ha, iA hb] at this
theorem pT {g : bZ} {r : bj} (hr : cf g r) {v : Nat} (hv : (v : Int) < r.length) {h : Int} (hh : h ∈ gI r (v : Int)) : r.find? (fun l => decide (h ∈ l)) = some (gI r (v : Int)) := by
 have hlt : v < r.length := by omega
 have e : gI r (v : Int) = r[v] := by simp [gI, hlt]
 rw [e] at hh ⊢
 refine List.find?_eq_some_iff_getElem.2 ⟨by simpa using hh, v, hlt, rfl, fun j hj => ?_⟩
 have hj' : j < r.length := by omega
 have h1 := (hr.2.1 v hlt h (by rw [e]; exact hh)).2
 simp only [Bool.not_eq_true', decide_eq_false_iff_not]
 intro hm
 have ej : gI r (j : Int) = r[j] := by simp [gI, hj']
 have h2 := (hr.2.1 j hj' h (by rw [ej]; exact hm)).2
 omega
theorem fl : ∀ {r : bj} {l : List Int}, l ∈ r → List.Sublist l r.flatten
 | a :: r, l, h => by
   rcases List.mem_cons.1 h with rfl | h
   · rw [List.flatten_cons]; exact List.sublist_append_left _ _
   · rw [List.flatten_cons]; exact (fl h).trans (List.sublist_append_right _ _)
theorem lY {g : bZ} {r : bj} (hr : cf g r) {v : Nat} (hv : (v : Int) < r.length) : (gI r (v : Int)).Nodup := by
 have hm := bu (xs := r) (i := (v : Int)) (by omega) hv
 exact hr.2.2.1.sublist (fl hm)
theorem sj {l : List Int} (hn : l.Nodup) {i : Nat} (hi : (i : Int) < l.length) : l.idxOf (gI l (i : Int)) = i := by
 have hlt : i < l.length := by omega
 have e : gI l (i : Int) = l[i] := by simp [gI, hlt]
 rw [e]
 exact hn.idxOf_getElem i hlt
theorem lI {g : bZ} {r : bj} (hr : cf g r) {v i : Nat} (hv : (v : Int) < r.length) (hi : (i : Int) < (gI r (v : Int)).length) : et r (gI (gI r (v : Int)) (i : Int)) = gI (gI r (v : Int)) (((i : Int) + 1) % ((gI r (v : Int)).length : Int)) := by
 unfold et
 rw [pT hr hv (bu (by omega) hi)]
 simp only
 rw [sj (lY hr hv) hi]
theorem kz {g : bZ} {r : bj} (hr : cf g r) {h : Int} (h0 : 0 ≤ h) (h1 : h < 2 * (g.2.length : Int)) : ∃ v i : Nat, (v : Int) < r.length ∧ (i : Int) < (gI r (v : Int)).length ∧ gI (gI r (v : Int)) (i : Int) = h := by
 obtain ⟨a, b, c, d⟩ := hr
 have hm := m9 c (n := 2 * g.2.length) (fun x hx => by
   obtain ⟨l, hl, hxl⟩ := List.mem_flatten.1 hx
   obtain ⟨v, hv, e⟩ := List.mem_iff_getElem.1 hl
   have ev : gI r (v : Int) = l := by rw [← e]; simp [gI, hv]
   have := (b v hv x (by rw [ev]; exact hxl)).1
   omega) (by omega) h0 (by omega)
 obtain ⟨l, hl, hxl⟩ := List.mem_flatten.1 hm
 obtain ⟨v, hv, e⟩ := List.mem_iff_getElem.1 hl
 have ev : gI r (v : Int) = l := by rw [← e]; simp [gI, hv]
 obtain ⟨i, hi, e2⟩ := List.mem_iff_getElem.1 hxl
 exact ⟨v, i, by omega, by rw [ev]; omega, by rw [ev]; simp [gI, hi, e2]⟩
theorem tL {g : bZ} {r : bj} (hr : cf g r) {h : Int} (h0 : 0 ≤ h) (h1 : h < 2 * (g.2.length : Int)) : 0 ≤ et r h ∧ et r h < 2 * (g.2.length : Int) := by
 obtain ⟨v, i, hv, hi, rfl⟩ := kz hr h0 h1
 rw [lI hr hv hi]
 have hm : 0 ≤ ((i : Int) + 1) % ((gI r (v : Int)).length : Int) ∧ ((i : Int) + 1) % ((gI r (v : Int)).length : Int) < ((gI r (v : Int)).length : Int) := ⟨Int.emod_nonneg _ (by omega), Int.emod_lt_of_pos _ (by omega)⟩
 exact (hr.2.1 v (by omega) _ (bu hm.1 hm.2)).1
theorem dW (g : bZ) (r : bj) : ((aw g r).length : Int) = 2 * (g.2.length : Int) := by simp [aw, cP]
theorem jj {g : bZ} {r : bj} {k : Int} (h0 : 0 ≤ k) (h1 : k < 2 * (g.2.length : Int)) : gI (aw g r) k = et r (bK k) := by
 unfold aw
 rw [iY _ h0 (by rw [cP]; omega), nh h0 (by omega)]
theorem lf {g : bZ} {r : bj} (hr : cf g r) {k : Int} (h0 : 0 ≤ k) (h1 : k < 2 * (g.2.length : Int)) : 0 ≤ gI (aw g r) k ∧ gI (aw g r) k < 2 * (g.2.length : Int) := by
 rw [jj h0 h1]
 have := eJ h0 h1
 exact tL hr this.1 this.2
structure fJ (l : List Int) (g : bZ) (r : bj) (k i : Nat) : Prop where
  len : (l.length : Int) = 2 * (g.2.length : Int)
  old : ∀ v j : Nat, v < k → (v : Int) < r.length → (j : Int) < (gI r (v : Int)).length → gI l (bK (gI (gI r (v : Int)) (j : Int))) = et r (gI (gI r (v : Int)) (j : Int))
  row : ∀ j : Nat, j < i → (j : Int) < (gI r (k : Int)).length → gI l (bK (gI (gI r (k : Int)) (j : Int))) = et r (gI (gI r (k : Int)) (j : Int))
theorem fJ.start (g : bZ) (r : bj) : fJ (List.replicate (2 * (g.2.length : Int)).toNat 0) g r 0 0 := ⟨by simp; omega, fun v j hv => by omega, fun j hj => by omega⟩
theorem fJ.next {l : List Int} {g : bZ} {r : bj} {k i : Nat} (h : fJ l g r k i) (hr : cf g r) (hk : (k : Int) < r.length) (hi : (i : Int) < (gI r (k : Int)).length) :
   fJ (l.set (bK (gI (gI r (k : Int)) (i : Int))).toNat (gI (gI r (k : Int)) (((i : Int) + 1) % ((gI r (k : Int)).length : Int)))) g r k (i + 1) := by
 have hl := h.len
 have hin := (hr.2.1 k (by omega) _ (bu (xs := gI r (k : Int)) (i := (i : Int)) (by omega) hi)).1
 have ht := eJ hin.1 hin.2
 have key : ∀ x : Int, 0 ≤ x → x < 2 * (g.2.length : Int) → gI l (bK x) = et r x ∨ x = gI (gI r (k : Int)) (i : Int) → gI (l.set (bK (gI (gI r (k : Int)) (i : Int))).toNat (gI (gI r (k : Int)) (((i : Int) + 1) % ((gI r (k : Int)).length : Int)))) (bK x) = et r x := by
   intro x hx0 hx1 hx
   have htx := eJ hx0 hx1
   rw [cu ht.1 (by omega) htx.1]
   by_cases e : x = gI (gI r (k : Int)) (i : Int)
   · rw [if_pos (by rw [e]), e, lI hr hk hi]
   · rw [if_neg fun h => e (tI hx0 hin.1 h)]
     exact hx.resolve_right e
 refine ⟨by simpa using hl, fun v j hv hvr hj => ?_, fun j hj hjr => ?_⟩
 · have hx := (hr.2.1 v (by omega) _ (bu (xs := gI r (v : Int)) (i := (j : Int)) (by omega) hj)).1
   exact key _ hx.1 hx.2 (.inl (h.old v j hv hvr hj))
 · have hx := (hr.2.1 k (by omega) _ (bu (xs := gI r (k : Int)) (i := (j : Int)) (by omega) hjr)).1
   refine key _ hx.1 hx.2 ?_
   by_cases e : j = i
   · subst e; exact .inr rfl
   · exact .inl (h.row j (by omega) hjr)
theorem fJ.row_done {l : List Int} {g : bZ} {r : bj} {k i : Nat} (h : fJ l g r k i) (hi : ¬ (i : Int) < (gI r (k : Int)).length) : fJ l g r (k + 1) 0 := by
 refine ⟨h.len, fun v j hv hvr hj => ?_, fun j hj => by omega⟩
 by_cases e : v = k
 · subst e; exact h.row j (by omega) hj
 · exact h.old v j (by omega) hvr hj
theorem fJ.done {l : List Int} {g : bZ} {r : bj} {k i : Nat} (h : fJ l g r k i) (hr : cf g r) (hk : ¬ (k : Int) < r.length) : l = aw g r := by
 have hl := h.len
 have hn := dW g r
 apply dj
 · omega
 · intro q hq
   have hq1 : (q : Int) < 2 * (g.2.length : Int) := by omega
   rw [jj (by omega) hq1]
   have ht := eJ (n := (g.2.length : Int)) (h := (q : Int)) (by omega) hq1
   obtain ⟨v, j, hv, hj, e⟩ := kz hr ht.1 ht.2
   have := h.old v j (by omega) hv hj
   rw [e, iA (by omega)] at this
   exact this
def fG (nx : List Int) : Nat → List Int → Int → List Int
 | 0, _, _ => []
 | n + 1, seen, k => if k ∈ seen then [] else k :: fG nx n (seen ++ [k]) (gI nx k)
def ey (nx : List Int) (seen : List Int) (k : Int) : List Int := fG nx (nx.length - seen.length) seen k
def cm (nx : List Int) : List Int → List Int → List (List Int)
 | [], _ => []
 | h :: hs, seen => if h ∈ seen then cm nx hs seen else ey nx seen h :: cm nx hs (seen ++ ey nx seen h)
def ax (nx : List Int) (r : bj) : List (List Int) := cm nx (c7 nx.length) [] ++ (r.filter fun l => decide (l.length = 0)).map fun _ => []
theorem nD {nx seen : List Int} {k : Int} (h : k ∈ seen) : ey nx seen k = [] := by
 unfold ey
 cases nx.length - seen.length with
 | zero => rfl
 | succ n => simp [fG, h]
theorem pe {nx seen : List Int} {k : Int} (h : k ∉ seen) (hl : seen.length < nx.length) : ey nx seen k = k :: ey nx (seen ++ [k]) (gI nx k) := by
 unfold ey
 rw [show nx.length - seen.length = (nx.length - (seen ++ [k]).length) + 1 by simp; omega]
 simp [fG, h]
end TL
namespace TL
theorem fv.low {seen : List Bool} {P : List Int} {n h : Int} (hi : fv seen P n) (h0 : 0 ≤ h) (h1 : h < n) (hs : ¬ gI seen h = true) : h ∉ P := by
 have := hi.seen h h0 h1
 intro hm
 rw [this] at hs
 simp [hm] at hs
structure dX (seen : List Bool) (l : List (List Int)) (nx : List Int) (S : List Int) (q : Nat) : Prop where
  rm : fv seen S nx.length
  eq : l ++ cm nx ((c7 nx.length).drop q) S = cm nx (c7 nx.length) []
  le : l.length ≤ q
theorem dX.start (nx : List Int) : dX (List.replicate nx.length false) [] nx [] 0 := by
 refine ⟨by simpa using fv.start (n := (nx.length : Int)) (by omega), by simp, by simp⟩
theorem mo {n q : Nat} (h : (q : Int) < n) : (c7 n).drop q = (q : Int) :: (c7 n).drop (q + 1) := by
 have := fZ (xs := c7 n) (k := q) (by rw [cP]; exact h)
 rw [nh (by omega) h] at this
 exact this
structure fh (seen : List Bool) (f : List Int) (nx : List Int) (S : List Int) (q : Nat) (k : Int) : Prop where
  rm : fv seen (S ++ f) nx.length
  eq : f ++ ey nx (S ++ f) k = ey nx S (q : Int)
  k0 : 0 ≤ k
  k1 : k < nx.length
theorem fh.start {seen : List Bool} {l : List (List Int)} {nx S : List Int} {q : Nat} (h : dX seen l nx S q) (hq : (q : Int) < nx.length) : fh seen [] nx S q (q : Int) :=
 ⟨by simpa using h.rm, by simp, by omega, hq⟩
theorem fh.next {seen : List Bool} {f nx S : List Int} {q : Nat} {k : Int} (h : fh seen f nx S q k) (hs : ¬ gI seen k = true) (hin : 0 ≤ gI nx k ∧ gI nx k < nx.length) : fh (seen.set k.toNat true) (f ++ [k]) nx S q (gI nx k) ∧ f.length < nx.length := by
 have hk := h.rm.low h.k0 h.k1 hs
 have h1 := h.rm.next h.k0 h.k1 (Bool.eq_false_iff.2 hs)
 have h2 := h1.bd
 simp only [List.length_append, List.length_cons, List.length_nil] at h2
 refine ⟨⟨by rw [← List.append_assoc]; exact h1, ?_, hin.1, hin.2⟩, by omega⟩
 have h3 := h.eq
 rw [pe hk (by simp only [List.length_append]; omega)] at h3
 rw [← h3]
 simp [List.append_assoc]
theorem fh.done {seen : List Bool} {f nx S : List Int} {q : Nat} {k : Int} (h : fh seen f nx S q k) (hs : gI seen k = true) : f = ey nx S (q : Int) := by
 have hk := h.rm.mem h.k0 h.k1 hs
 have h3 := h.eq
 rw [nD hk, List.append_nil] at h3
 exact h3
theorem dX.yes {seen0 seen : List Bool} {l : List (List Int)} {nx S f : List Int} {q : Nat} {k : Int} (h : dX seen0 l nx S q) (ho : fh seen f nx S q k) (hs : gI seen k = true) (hf : 0 < (f.length : Int)) (hq : (q : Int) < nx.length) : dX seen (l ++ [f]) nx (S ++ f) (q + 1) := by
 have e := ho.done hs
 have hq2 : (q : Int) ∉ S := fun hm => by rw [nD hm] at e; subst e; simp at hf
 refine ⟨ho.rm, ?_, by have := h.le; simp; omega⟩
 rw [← h.eq, mo hq]
 simp only [cm]
 rw [if_neg hq2, ← e]
 simp [List.append_assoc]
theorem dX.no {seen0 seen : List Bool} {l : List (List Int)} {nx S f : List Int} {q : Nat} {k : Int} (h : dX seen0 l nx S q) (ho : fh seen f nx S q k) (hs : gI seen k = true) (hf : ¬ 0 < (f.length : Int)) (hq : (q : Int) < nx.length) : dX seen l nx S (q + 1) := by
 have e := ho.done hs
 have hf0 : f = [] := List.eq_nil_of_length_eq_zero (by omega)
 subst hf0
 have hq2 : (q : Int) ∈ S := by
   by_cases hm : (q : Int) ∈ S
   · exact hm
   · have hb := h.rm
     have h1 := hb.next (h := (q : Int)) (by omega) hq (by
       have := hb.seen (q : Int) (by omega) hq
       rw [this]; simpa using hm)
     have h2 := h1.bd
     simp only [List.length_append, List.length_cons, List.length_nil] at h2
     rw [pe hm (by omega)] at e
     cases e
 refine ⟨by simpa using ho.rm, ?_, by have := h.le; omega⟩
 rw [← h.eq, mo hq]
 simp only [cm]
 rw [if_pos hq2]
theorem dX.done {seen : List Bool} {l : List (List Int)} {nx S : List Int} {q : Nat} (h : dX seen l nx S q) (hq : ¬ (q : Int) < nx.length) : l = cm nx (c7 nx.length) [] := by
 have := h.eq
 rw [List.drop_of_length_le (by rw [cP]; omega)] at this
 simpa [cm] using this
theorem mA {r : bj} {p : Nat} {l L0 : List (List Int)} (hp : (p : Int) < r.length) (h : l = L0 ++ ((r.take p).filter fun l => decide (l.length = 0)).map fun _ => []) (he : ((gI r (p : Int)).length : Int) = 0) : l ++ [[]] = L0 ++ ((r.take (p + 1)).filter fun l => decide (l.length = 0)).map fun _ => [] := by
  have he' : gI r (p : Int) = [] := List.eq_nil_of_length_eq_zero (by omega)
  rw [bh hp, List.filter_append, h, he']
  simp
theorem nO {r : bj} {p : Nat} {l L0 : List (List Int)} (hp : (p : Int) < r.length) (h : l = L0 ++ ((r.take p).filter fun l => decide (l.length = 0)).map fun _ => []) (he : ¬ ((gI r (p : Int)).length : Int) = 0) : l = L0 ++ ((r.take (p + 1)).filter fun l => decide (l.length = 0)).map fun _ => [] := by
 have he' : ¬ gI r (p : Int) = [] := fun e => he (by rw [e]; rfl)
 rw [bh hp, List.filter_append, h]
 simp [he']
theorem mw {r : bj} {p : Nat} {l L0 : List (List Int)} (h : l = L0 ++ ((r.take p).filter fun l => decide (l.length = 0)).map fun _ => []) : l.length ≤ L0.length + p := by
 rw [h, List.length_append, List.length_map]
 have h1 := List.length_filter_le (fun l : List Int => decide (l.length = 0)) (r.take p)
 have h2 := List.length_take_le p r
 omega
structure dZ (out : List (List Int)) (g : bZ) (k : Nat) : Prop where
  len : (out.length : Int) = g.1
  at_ : ∀ v, 0 ≤ v → v < g.1 → gI out v = ia g v k
theorem dZ.start {g : bZ} (h : 0 ≤ g.1) : dZ (List.replicate g.1.toNat []) g 0 := ⟨by simp; omega, fun v h0 h1 => by rw [eH h0 (by omega)]; simp [ia]⟩
theorem dZ.next {out : List (List Int)} {g : bZ} {k : Nat} (h : dZ out g k) (h1 : 0 ≤ (gI g.2 k).1) (h2 : (gI g.2 k).1 < g.1) (h3 : 0 ≤ (gI g.2 k).2) (h4 : (gI g.2 k).2 < g.1) {a b : Int} (ha : a = 2 * (k : Int)) (hb : b = 2 * (k : Int) + 1) :
   dZ ((out.set (gI g.2 k).1.toNat (gI out (gI g.2 k).1 ++ [a])).set (gI g.2 k).2.toNat (gI (out.set (gI g.2 k).1.toNat (gI out (gI g.2 k).1 ++ [a])) (gI g.2 k).2 ++ [b])) g (k + 1) := by
 have hl := h.len
 refine ⟨by simpa using hl, fun v h5 h6 => ?_⟩
 rw [cu h3 (by simp; omega) h5, cu h1 (by omega) h3, cu h1 (by omega) h5, oO, h.at_ _ h1 h2, h.at_ _ h3 h4, h.at_ v h5 h6, ha, hb]
 by_cases e2 : v = (gI g.2 (k : Int)).2
 · by_cases e1 : v = (gI g.2 (k : Int)).1
   · rw [← e1, ← e2]; simp
   · have e3 : ¬ (gI g.2 (k : Int)).2 = (gI g.2 (k : Int)).1 := fun h => e1 (e2.trans h)
     have e6 : ¬ (gI g.2 (k : Int)).1 = (gI g.2 (k : Int)).2 := fun h => e3 h.symm
     simp [e2, e3, e6]
 · have e4 : ¬ (gI g.2 (k : Int)).2 = v := fun h => e2 h.symm
   by_cases e1 : v = (gI g.2 (k : Int)).1
   · rw [if_neg e2, if_pos e1, if_neg e4, if_pos e1.symm, ← e1]; simp
   · have e5 : ¬ (gI g.2 (k : Int)).1 = v := fun h => e1 h.symm
     rw [if_neg e2, if_neg e1, if_neg e4, if_neg e5]; simp
end TL
namespace TL
theorem mU {g : bZ} {r : bj} (hr : cf g r) {k : Nat} (hk : (k : Int) < r.length) : ((gI r (k : Int)).length : Int) ≤ 2 * (g.2.length : Int) := by
 have := (fl (bu (xs := r) (i := (k : Int)) (by omega) hk)).length_le
 have h2 := hr.2.2.2
 omega
end TL
