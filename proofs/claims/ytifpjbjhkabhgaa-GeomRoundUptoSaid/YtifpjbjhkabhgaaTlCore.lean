/-
  TlCore: a run of one function, seen as what is left to do (a list of items), a frame that is a function from slots to values, and a world.
  By an AI agent.
-/
import Derived.StillTail
import Derived.Deep.Quiet
import Derived.Below
import Derived.Laws.Sem
set_option linter.all false
namespace TL
open Go

/-- a frame as a function -/
abbrev Fr := Nat → Value

def upd (f : Fr) (d : Option Nat) (v : Value) : Fr :=
  match d with
  | some d => fun i => bif Nat.beq i d then v else f i
  | none => f

def ev (f : Fr) : Operand → Value
  | .tmp t => f t
  | .const v => v
  | .global g => .pointer (some ⟨g, 0, none⟩)
  | .func g => .func (.func g) #[] #[]

structure Ag (n : Nat) (a : Act) (f : Fr) : Prop where
  defers : a.defers = []
  size : a.tmps.size = n
  get : ∀ i, a.tmps.getD i undef = f i

theorem Ag.eval {n : Nat} {a : Act} {f : Fr} (h : Ag n a f) : a.eval = ev f := by
  funext x
  cases x <;> simp [Act.eval, ev]
  rename_i t
  have := h.get t
  simpa using this

def dok (n : Nat) (o : Oper) : Bool :=
  match o.dst with
  | some d => Nat.blt d n
  | none => true

theorem Ag.put {n : Nat} {a : Act} {f : Fr} (h : Ag n a f) {o : Oper} (ho : dok n o = true) (v : Value) : Ag n (a.put o.dst v) (upd f o.dst v) := by
  unfold dok at ho
  cases hd : o.dst with
  | none => simpa [Act.put, upd] using h
  | some d =>
    rw [hd] at ho
    have hlt : d < n := by simpa using ho
    refine ⟨by simpa [Act.put] using h.defers, by simpa [Act.put] using h.size, fun i => ?_⟩
    have hs := h.size
    have hg := h.get i
    simp only [Act.put, upd]
    by_cases hi : i = d
    · subst hi
      simp [hs, hlt]
    · have hb : Nat.beq i d = false := by
        cases hb : Nat.beq i d with
        | false => rfl
        | true => exact absurd (Nat.eq_of_beq_eq_true hb) hi
      simp only [hb, cond_false]
      rw [← hg]
      simp [Array.getElem?_setIfInBounds_ne (Ne.symm hi)]

/-- what the guard's operation has yielded -/
def yF (all : List Oper) (f : Fr) (j : Nat) : Option Bool :=
  match (all[j]?).bind (·.dst) with
  | some d => match f d with
    | .bool b => some b
    | _ => none
  | none => none

theorem Ag.yielded {n : Nat} {a : Act} {f : Fr} (h : Ag n a f) (all : List Oper) : Go.yielded all.toArray a.tmps = yF all f := by
  funext j
  simp only [Go.yielded, yF, List.getElem?_toArray]
  cases hd : (all[j]?).bind (·.dst) with
  | none => simp
  | some d =>
    simp only [Option.bind_some]
    have hg := h.get d
    cases ht : a.tmps[d]? with
    | none =>
      simp [ht] at hg
      simp [← hg, undef]
    | some v =>
      simp only [Array.getD_eq_getD_getElem?, ht, Option.getD_some] at hg
      rw [← hg]
      cases v <;> rfl

def wantF (all : List Oper) (o : Oper) (f : Fr) : Bool := Region.wanted o (yF all f)

/-- one operation's outcome -/
def uponF (P : Program) (N : Value → World → Prop) : Result Next → Prop
  | .ok (.value v) w' => N v w'
  | .ok .skip w' => N undef w'
  | .ok (.enter g args) w' => Calls P g args w' fun
      | .returned v, w'' => N v w''
      | _, _ => False
  | _ => False

def opT (P : Program) (o : Oper) (f : Fr) (w : World) (N : Value → World → Prop) : Prop := uponF P N ((execOp (ev f) o).run P w)

/-- the operations in the text's order -/
def wpL (P : Program) (all : List Oper) : List Oper → (Fr → World → Prop) → Fr → World → Prop
  | [], K, f, w => K f w
  | o :: rest, K, f, w =>
    if wantF all o f then opT P o f w (fun v w' => wpL P all rest K (upd f o.dst v) w')
    else wpL P all rest K (upd f o.dst undef) w

theorem wpList_of_wpL {P : Program} {n : Nat} {all : List Oper} {K : Fr → World → Prop} : ∀ (rest : List Oper) (_ : rest.all (dok n) = true) (a : Act) (f : Fr) (w : World), Ag n a f →
    wpL P all rest K f w → wpList P all.toArray (fun e a' w' => e = .normal ∧ ∃ f', Ag n a' f' ∧ K f' w') rest a w
  | [], _, a, f, w, h, hk => ⟨rfl, f, h, hk⟩
  | o :: rest, hall, a, f, w, h, hk => by
    simp only [List.all_cons, Bool.and_eq_true] at hall
    simp only [wpL] at hk
    simp only [wpList]
    have hw : Region.wanted o (Go.yielded all.toArray a.tmps) = wantF all o f := by rw [h.yielded]; rfl
    rw [hw]
    cases hb : wantF all o f with
    | false =>
      simp only [hb, Bool.false_eq_true, if_false] at hk ⊢
      exact wpList_of_wpL rest hall.2 _ _ _ (h.put hall.1 _) hk
    | true =>
      simp only [hb, if_true] at hk ⊢
      refine .inl ?_
      unfold Oper.wp
      rw [h.eval]
      unfold opT at hk
      generalize (execOp (ev f) o).run P w = r at *
      cases r with
      | halt x w' => exact hk.elim
      | ok nx w' =>
        cases nx <;> simp only [uponF] at hk <;> simp only [Oper.upon]
        case value v => exact wpList_of_wpL rest hall.2 _ _ _ (h.put hall.1 _) hk
        case skip => exact wpList_of_wpL rest hall.2 _ _ _ (h.put hall.1 _) hk
        case enter g args =>
          refine hk.mono fun e w'' he => ?_
          cases e with
          | returned v => exact wpList_of_wpL rest hall.2 _ _ _ (h.put hall.1 _) he
          | panicked c => exact he.elim
          | outgrown => exact he.elim

/-- the operations in the text's order, each yielding one value in every world of a class -/
def wpQ (P : Program) (all : List Oper) (C : World → Prop) : List Oper → (Fr → Prop) → Fr → Prop
  | [], K, f => K f
  | o :: rest, K, f =>
    if wantF all o f then ∃ v, (∀ w, C w → Oper.quietUpon P C w v ((execOp (ev f) o).run P w)) ∧ wpQ P all C rest K (upd f o.dst v)
    else wpQ P all C rest K (upd f o.dst undef)

theorem wpQuiet_of_wpQ {P : Program} {n : Nat} {all : List Oper} {C : World → Prop} {K : Fr → Prop} {Q : Act → Prop} (hQ : ∀ a f, Ag n a f → K f → Q a) : ∀ (rest : List Oper) (_ : rest.all (dok n) = true) (a : Act) (f : Fr), Ag n a f →
    wpQ P all C rest K f → wpQuiet P all.toArray C Q rest a
  | [], _, a, f, h, hk => hQ a f h hk
  | o :: rest, hall, a, f, h, hk => by
    simp only [List.all_cons, Bool.and_eq_true] at hall
    simp only [wpQ] at hk
    simp only [wpQuiet]
    have hw : Region.wanted o (Go.yielded all.toArray a.tmps) = wantF all o f := by rw [h.yielded]; rfl
    rw [hw]
    cases hb : wantF all o f with
    | false =>
      simp only [hb, Bool.false_eq_true, if_false] at hk ⊢
      exact wpQuiet_of_wpQ hQ rest hall.2 _ _ (h.put hall.1 _) hk
    | true =>
      simp only [hb, if_true] at hk ⊢
      obtain ⟨v, h1, h2⟩ := hk
      refine ⟨v, fun w hw => ?_, wpQuiet_of_wpQ hQ rest hall.2 _ _ (h.put hall.1 _) h2⟩
      unfold Oper.quietAt
      rw [h.eval]
      exact h1 w hw

theorem wpStill_of_wpQ {P : Program} {n : Nat} {all : List Oper} {w : World} {K : Fr → Prop} {Q : Act → Prop} (hQ : ∀ a f, Ag n a f → K f → Q a) : ∀ (rest : List Oper) (_ : rest.all (dok n) = true) (a : Act) (f : Fr), Ag n a f →
    wpQ P all (fun w' => w' = w) rest K f → wpStill P all.toArray w Q rest a
  | [], _, a, f, h, hk => hQ a f h hk
  | o :: rest, hall, a, f, h, hk => by
    simp only [List.all_cons, Bool.and_eq_true] at hall
    simp only [wpQ] at hk
    simp only [wpStill]
    have hw : Region.wanted o (Go.yielded all.toArray a.tmps) = wantF all o f := by rw [h.yielded]; rfl
    rw [hw]
    cases hb : wantF all o f with
    | false =>
      simp only [hb, Bool.false_eq_true, if_false] at hk ⊢
      exact wpStill_of_wpQ hQ rest hall.2 _ _ (h.put hall.1 _) hk
    | true =>
      simp only [hb, if_true] at hk ⊢
      obtain ⟨v, h1, h2⟩ := hk
      have h3 := h1 w rfl
      have h4 := wpStill_of_wpQ hQ rest hall.2 _ _ (h.put hall.1 v) h2
      unfold Oper.still
      rw [h.eval]
      generalize (execOp (ev f) o).run P w = r at *
      cases r with
      | halt x w' => exact h3.elim
      | ok nx w' =>
        cases nx <;> simp only [Oper.quietUpon] at h3 <;> simp only [Oper.stillUpon]
        case value u => obtain ⟨e1, rfl⟩ := h3; exact ⟨e1, h4⟩
        case skip => obtain ⟨e1, rfl⟩ := h3; exact ⟨e1, h4⟩
        case enter g args => obtain ⟨rfl, hc⟩ := h3; exact ⟨rfl, v, hc, h4⟩

def frame0 (fid : FuncId) : Frame := { (default : Frame) with fn := fid, kind := .normal }

/-- from here on (what is left to do, frame, world) the call ends as R says -/
def Run (P : Program) (fid n : Nat) (R : Ending → World → Prop) (k : List Item) (f : Fr) (w : World) : Prop :=
  ∀ a, Ag n a f → ∀ cs, ∃ e w' fr, R e w' ∧ Comes P (lone ((frame0 fid).at a k) cs w) (lone fr cs w') e ∧ fr.fn = fid ∧ fr.leaving P w' e

section
variable {P : Program} {fid n : Nat} {R : Ending → World → Prop} {k : List Item} {f : Fr} {w : World}

theorem run_step {k' : List Item} {w' : World} (hs : ∀ a cs, Ag n a f → step P (lone ((frame0 fid).at a k) cs w) = .next (lone ((frame0 fid).at a k') cs w')) (h : Run P fid n R k' f w') : Run P fid n R k f w := by
  intro a ha cs
  obtain ⟨e, w2, fr, hR, hc, hf, hl⟩ := h a ha cs
  exact ⟨e, w2, fr, hR, hc.of_steps (.one (hs a cs ha)), hf, hl⟩

theorem run_seq {x y : Code} (h : Run P fid n R (.code x :: .code y :: k) f w) : Run P fid n R (.code (.seq x y) :: k) f w := run_step (fun _ _ _ => step_seq) h
theorem run_skip (h : Run P fid n R k f w) : Run P fid n R (.code .skip :: k) f w := run_step (fun _ _ _ => step_skip) h
theorem run_label {l : Nat} (h : Run P fid n R k f w) : Run P fid n R (.code (.label l) :: k) f w := run_step (fun _ _ _ => step_label) h
theorem run_block {id : Nat} {c : Code} (h : Run P fid n R (.code c :: .inBlock id :: k) f w) : Run P fid n R (.code (.block id c) :: k) f w := run_step (fun _ _ _ => step_block) h
theorem run_inBlock {id : Nat} (h : Run P fid n R k f w) : Run P fid n R (.inBlock id :: k) f w := run_step (fun _ _ _ => step_inBlock) h
theorem run_exit {id : Nat} {k' : List Item} (hk : exitTo id k = some k') (h : Run P fid n R k' f w) : Run P fid n R (.code (.exit id) :: k) f w := run_step (fun _ _ _ => step_exit hk) h
theorem run_cond {c : Operand} {x y : Code} {t : Bool} (hc : ev f c = .bool t) (h : Run P fid n R (.code (if t then x else y) :: k) f w) : Run P fid n R (.code (.cond c x y) :: k) f w :=
  run_step (fun a _ ha => step_cond (by rw [ha.eval]; exact hc)) h
theorem run_cond_t {c : Operand} {x y : Code} {t : Bool} (hc : ev f c = .bool t) (ht : t = true) (h : Run P fid n R (.code x :: k) f w) : Run P fid n R (.code (.cond c x y) :: k) f w := by
  subst ht; exact run_cond hc h
theorem run_cond_f {c : Operand} {x y : Code} {t : Bool} (hc : ev f c = .bool t) (ht : t = false) (h : Run P fid n R (.code y :: k) f w) : Run P fid n R (.code (.cond c x y) :: k) f w := by
  subst ht; exact run_cond hc h
theorem run_if {c : Operand} {x y : Code} {t : Bool} (hc : ev f c = .bool t) (h1 : t = true → Run P fid n R (.code x :: k) f w) (h2 : t = false → Run P fid n R (.code y :: k) f w) : Run P fid n R (.code (.cond c x y) :: k) f w := by
  cases t with
  | true => exact run_cond_t hc rfl (h1 rfl)
  | false => exact run_cond_f hc rfl (h2 rfl)
theorem run_loop0 {c : Code} (h : Run P fid n R (.code c :: .inLoop c :: k) f w) : Run P fid n R (.code (.loop c) :: k) f w := run_step (fun _ _ _ => step_loop) h
theorem run_inLoop {c : Code} (h : Run P fid n R (.code c :: .inLoop c :: k) f w) : Run P fid n R (.inLoop c :: k) f w := run_step (fun _ _ _ => step_inLoop) h

/-- a loop: an invariant with ghosts, a measure -/
theorem run_loop {σ : Type} {c : Code} (I : σ → Fr → World → Prop) (μ : σ → Nat) (s0 : σ) (h0 : I s0 f w)
    (round : ∀ s f w, I s f w → (∀ s' f' w', I s' f' w' → μ s' < μ s → Run P fid n R (.inLoop c :: k) f' w') → Run P fid n R (.code c :: .inLoop c :: k) f w) :
    Run P fid n R (.code (.loop c) :: k) f w := by
  refine run_loop0 ?_
  have key : ∀ m s f w, μ s = m → I s f w → Run P fid n R (.code c :: .inLoop c :: k) f w := by
    intro m
    induction m using Nat.strongRecOn with
    | _ m ih =>
      intro s f w hm hI
      exact round s f w hI fun s' f' w' hI' hlt => run_inLoop (ih (μ s') (hm ▸ hlt) s' f' w' rfl hI')
  exact key _ s0 f w rfl h0

theorem run_of_wp {c : Code} (h : ∀ a, Ag n a f → c.wp P (fun e a' w' => e = .normal ∧ ∃ f', Ag n a' f' ∧ Run P fid n R k f' w') a w) : Run P fid n R (.code c :: k) f w := by
  intro a ha cs
  obtain ⟨e, a', w', ⟨rfl, f', ha', hrun⟩, harr⟩ := h a ha (frame0 fid) k cs
  obtain ⟨e2, w2, fr, hR, hc, hf, hl⟩ := hrun a' ha' cs
  exact ⟨e2, w2, fr, hR, hc.of_steps harr, hf, hl⟩

theorem run_region {id : Nat} {l : List Oper} (hd : l.all (dok n) = true) (h : wpL P l l (Run P fid n R k) f w) : Run P fid n R (.code (.region id l.toArray false) :: k) f w :=
  run_of_wp fun a ha => wp_region_lit (wpList_of_wpL l hd a f w ha h)

/-- a region that draws its order and only reads (calls that make memory may stand in it) -/
theorem run_region_q {id : Nat} {l : List Oper} (C : World → Prop) (hd : l.all (dok n) = true) (hm : P.follows .mixedOrders = true) (hB : Region.lexB .any l.toArray = true) (hC : C { w with drawn := w.drawn + 1 })
    (h : wpQ P l C l (fun f' => ∀ w', C w' → Run P fid n R k f' w') f) : Run P fid n R (.code (.region id l.toArray true) :: k) f w :=
  run_of_wp fun a ha => wp_region_quiet hm hB hC (by
    have := wpQuiet_of_wpQ (P := P) (n := n) (all := l) (C := C) (Q := fun a' => ∀ w', C w' → (Exit.normal = Exit.normal ∧ ∃ f', Ag n a' f' ∧ Run P fid n R k f' w')) (fun a' f' ha' hk w' hw' => ⟨rfl, f', ha', hk w' hw'⟩) l hd a f ha h
    simpa using this)

/-- a region that draws its order: m operations that leave the world alone, then the others in one order -/
theorem run_region_t {id : Nat} {l : List Oper} (m : Nat) (hd : l.all (dok n) = true) (hm : P.follows .mixedOrders = true) (hB : Region.lexTailB .any l.toArray m = true)
    (h : wpQ P l (fun w' => w' = { w with drawn := w.drawn + 1 }) (l.take m) (fun f' => wpL P l (l.drop m) (Run P fid n R k) f' { w with drawn := w.drawn + 1 }) f) : Run P fid n R (.code (.region id l.toArray true) :: k) f w :=
  run_of_wp fun a ha => wp_region_still_tail m hm hB (wpStill_of_wpQ (n := n) (fun a' f' ha' hk => wpList_of_wpL (l.drop m) (List.all_eq_true.2 fun o ho => List.all_eq_true.1 hd o (List.mem_of_mem_drop ho)) a' f' _ ha' hk) (l.take m)
    (List.all_eq_true.2 fun o ho => List.all_eq_true.1 hd o (List.mem_of_mem_take ho)) a f ha h)
end

/-! ### steps over operations -/
section
variable {P : Program} {all rest : List Oper} {K : Fr → World → Prop} {f : Fr} {w w' : World} {v : Value}
variable {dst : Option Tmp} {op : Op} {ty : TypeId} {pos : String} {after : Array Edge} {g : Option (Nat × Bool)} {o : Oper}

theorem want_y {j : Nat} {x : Bool} {d : Nat} {b : Bool} (hg : o.guard = some (j, x)) (hj : (all[j]?).bind (·.dst) = some d) (hb : f d = .bool b) (hx : b = x) : wantF all o f = true := by
  simp [wantF, Region.wanted, hg, yF, hj, hb, hx]
theorem want_n {j : Nat} {x : Bool} {d : Nat} {b : Bool} (hg : o.guard = some (j, x)) (hj : (all[j]?).bind (·.dst) = some d) (hb : f d = .bool b) (hx : b = !x) : wantF all o f = false := by
  simp [wantF, Region.wanted, hg, yF, hj, hb, hx]
theorem want_u {j : Nat} {x : Bool} {d : Nat} (hg : o.guard = some (j, x)) (hj : (all[j]?).bind (·.dst) = some d) (hb : f d = undef) : wantF all o f = false := by
  simp [wantF, Region.wanted, hg, yF, hj, hb, undef]

theorem l_nil (h : K f w) : wpL P all [] K f w := h
theorem l_op (hw : wantF all ⟨dst, op, ty, pos, after, g⟩ f = true) (h : opT P ⟨dst, op, ty, pos, after, g⟩ f w (fun v w' => wpL P all rest K (upd f dst v) w')) : wpL P all (⟨dst, op, ty, pos, after, g⟩ :: rest) K f w := by
  simp only [wpL, hw, if_true]; exact h
theorem l_val (hw : wantF all ⟨dst, op, ty, pos, after, g⟩ f = true) (h : (execOp (ev f) ⟨dst, op, ty, pos, after, g⟩).run P w = .ok (.value v) w') (hk : wpL P all rest K (upd f dst v) w') : wpL P all (⟨dst, op, ty, pos, after, g⟩ :: rest) K f w :=
  l_op hw (by unfold opT; rw [h]; exact hk)
theorem l_eff (hw : wantF all ⟨dst, op, ty, pos, after, g⟩ f = true) (h : (execOp (ev f) ⟨dst, op, ty, pos, after, g⟩).run P w = .ok .skip w') (hk : wpL P all rest K (upd f dst undef) w') : wpL P all (⟨dst, op, ty, pos, after, g⟩ :: rest) K f w :=
  l_op hw (by unfold opT; rw [h]; exact hk)
theorem l_skip (hw : wantF all ⟨dst, op, ty, pos, after, g⟩ f = false) (hk : wpL P all rest K (upd f dst undef) w) : wpL P all (⟨dst, op, ty, pos, after, g⟩ :: rest) K f w := by
  simp only [wpL, hw, Bool.false_eq_true, if_false]; exact hk
/-- a call whose result is known -/
theorem l_call {fid : Nat} {args : Array Value} {S : World → Prop} (hw : wantF all ⟨dst, op, ty, pos, after, g⟩ f = true) (h : (execOp (ev f) ⟨dst, op, ty, pos, after, g⟩).run P w = .ok (.enter fid args) w') (hc : Calls P fid args w' fun e w'' => e = .returned v ∧ S w'')
    (hk : ∀ w'', S w'' → wpL P all rest K (upd f dst v) w'') : wpL P all (⟨dst, op, ty, pos, after, g⟩ :: rest) K f w :=
  l_op hw (by
    unfold opT; rw [h]
    refine hc.mono fun e w'' he => ?_
    obtain ⟨rfl, hs⟩ := he
    exact hk w'' hs)
/-- a call of whose result this and that is known -/
theorem l_callx {σ : Type} {fid : Nat} {args : Array Value} {V : σ → Value} {S : σ → World → Prop} (hw : wantF all ⟨dst, op, ty, pos, after, g⟩ f = true) (h : (execOp (ev f) ⟨dst, op, ty, pos, after, g⟩).run P w = .ok (.enter fid args) w') (hc : Calls P fid args w' fun e w'' => ∃ x, e = .returned (V x) ∧ S x w'')
    (hk : ∀ x w'', S x w'' → wpL P all rest K (upd f dst (V x)) w'') : wpL P all (⟨dst, op, ty, pos, after, g⟩ :: rest) K f w :=
  l_op hw (by
    unfold opT; rw [h]
    refine hc.mono fun e w'' he => ?_
    obtain ⟨x, rfl, hs⟩ := he
    exact hk x w'' hs)

variable {C : World → Prop} {KQ : Fr → Prop} {w1 : World}
theorem q_nil (h : KQ f) : wpQ P all C [] KQ f := h
theorem q_val (hw : wantF all ⟨dst, op, ty, pos, after, g⟩ f = true) (h : ∀ w, C w → (execOp (ev f) ⟨dst, op, ty, pos, after, g⟩).run P w = .ok (.value v) w) (hk : wpQ P all C rest KQ (upd f dst v)) : wpQ P all C (⟨dst, op, ty, pos, after, g⟩ :: rest) KQ f := by
  simp only [wpQ, hw, if_true]
  exact ⟨v, fun w hw => by rw [h w hw]; exact ⟨rfl, rfl⟩, hk⟩
theorem t_val (hw : wantF all ⟨dst, op, ty, pos, after, g⟩ f = true) (h : (execOp (ev f) ⟨dst, op, ty, pos, after, g⟩).run P w1 = .ok (.value v) w1) (hk : wpQ P all (fun w' => w' = w1) rest KQ (upd f dst v)) : wpQ P all (fun w' => w' = w1) (⟨dst, op, ty, pos, after, g⟩ :: rest) KQ f :=
  q_val hw (fun w hw => by rw [hw]; exact h) hk
theorem q_skip (hw : wantF all ⟨dst, op, ty, pos, after, g⟩ f = false) (hk : wpQ P all C rest KQ (upd f dst undef)) : wpQ P all C (⟨dst, op, ty, pos, after, g⟩ :: rest) KQ f := by
  simp only [wpQ, hw, Bool.false_eq_true, if_false]; exact hk
theorem q_call {fid : Nat} {args : Array Value} (hw : wantF all ⟨dst, op, ty, pos, after, g⟩ f = true) (h : ∀ w, C w → (execOp (ev f) ⟨dst, op, ty, pos, after, g⟩).run P w = .ok (.enter fid args) w)
    (hc : ∀ w, C w → Calls P fid args w fun e w' => e = .returned v ∧ C w') (hk : wpQ P all C rest KQ (upd f dst v)) : wpQ P all C (⟨dst, op, ty, pos, after, g⟩ :: rest) KQ f := by
  simp only [wpQ, hw, if_true]
  exact ⟨v, fun w hw => by rw [h w hw]; exact ⟨rfl, hc w hw⟩, hk⟩
end

/-! ### a call -/
/-- the frame in which a function begins -/
def frameOf (args : Array Value) : Fr := fun i => args.getD i undef

theorem calls_of_run {P : Program} {fid : FuncId} {fn : Func} {c : Code} {args : Array Value} {w : World} {R : Ending → World → Prop} (hf : P.funcs[fid]? = some fn) (hb : fn.body = some c) (hn : args.size ≤ fn.ntmps)
    (h : Run P fid fn.ntmps R [.code c] (frameOf args) w) : Calls P fid args w R := by
  intro cs
  have henter : Frame.enter P fid args .normal = (frame0 fid).at { tmps := args ++ Array.replicate (fn.ntmps - args.size) undef, defers := [] } [.code c] := by
    simp [Frame.enter, Frame.at, hf, hb, frame0]
  rw [henter]
  refine h _ ⟨rfl, by simp; omega, fun i => ?_⟩ cs
  simp only [frameOf, Array.getD_eq_getD_getElem?, Array.getElem?_append, Array.getElem?_replicate]
  by_cases hi : i < args.size
  · simp [hi]
  · rw [if_neg hi, Array.getElem?_eq_none (by omega)]
    split <;> rfl

/-! ### the end -/
section
variable {P : Program} {fid n : Nat} {R : Ending → World → Prop} {k : List Item} {f : Fr} {w : World} {fn : Func} {v : Value}

/-- the results, as the frame and the world hold them -/
inductive ResIs (P : Program) (w : World) (f : Fr) : List ResultVar → List Value → Prop
  | nil : ResIs P w f [] []
  | tmp {t : Nat} {rs : List ResultVar} {vs : List Value} {v : Value} (h : f t = v) (hr : ResIs P w f rs vs) : ResIs P w f (.tmp t :: rs) (v :: vs)
  | cell {a t : Nat} {p : Addr} {rs : List ResultVar} {vs : List Value} {v : Value} (h : f a = .pointer (some p)) (hv : (loadVar t p).run P w = .ok v w) (hr : ResIs P w f rs vs) : ResIs P w f (.cell a t :: rs) (v :: vs)

def resS (a : Act) : ResultVar → Sem Value
  | .tmp t => pure (a.tmps.getD t undef)
  | .cell p t => do loadVar t (← asAddr (a.tmps.getD p undef))

theorem run_resList {a : Act} (ha : Ag n a f) {rs : List ResultVar} {vs : List Value} (h : ResIs P w f rs vs) :
    (rs.mapM (m := Sem) (resS a)).run P w = .ok vs w := by
  induction h with
  | nil => simp [Sem.run_pure]
  | @tmp t rs vs v h hr ih =>
    have e : (resS a (.tmp t)).run P w = .ok v w := by simp only [resS, ha.get, h, Sem.run_pure]
    simp only [List.mapM_cons, Sem.run_bind, Sem.run_pure, Result.andThen_ok, ih, e]
  | @cell p t q rs vs v h hv hr ih =>
    have e : (resS a (.cell p t)).run P w = .ok v w := by simp only [resS, ha.get, h, asAddr, Sem.run_bind, Sem.run_pure, Result.andThen_ok, hv]
    simp only [List.mapM_cons, Sem.run_bind, Sem.run_pure, Result.andThen_ok, ih, e]

theorem run_results {a : Act} (ha : Ag n a f) {vs : List Value} (h : ResIs P w f fn.results.toList vs) :
    (results fn a.tmps).run P w = .ok (if h : vs.length = 1 then vs[0] else .tuple vs.toArray) w := by
  have e : (fn.results.mapM (m := Sem) (resS a)).run P w = .ok vs.toArray w := by
    rw [Array.mapM_eq_mapM_toList]
    simp only [Sem.run_bind, map_eq_pure_bind]
    rw [run_resList ha h]
    simp only [Result.andThen_ok, Sem.run_pure]
  have e2 : (results fn a.tmps) = (do let vs ← fn.results.mapM (m := Sem) (resS a); pure (if h : vs.size = 1 then vs[0] else .tuple vs)) := by
    unfold results resS; rfl
  rw [e2]
  simp only [Sem.run_bind, e, Result.andThen_ok, Sem.run_pure]
  simp

theorem run_ret {vs : List Value} (hf : P.funcs[fid]? = some fn) (hr : ResIs P w f fn.results.toList vs)
    (h : R (.returned (if h : vs.length = 1 then vs[0] else .tuple vs.toArray)) w) : Run P fid n R (.code .ret :: k) f w := by
  intro a ha cs
  refine ⟨_, w, { (frame0 fid).at a (.code .ret :: k) with mode := .returning }, h, ?_, rfl, ?_⟩
  · exact Steps.one step_ret
  · exact ⟨rfl, ha.defers, rfl, fn, hf, run_results ha hr⟩

theorem run_end {vs : List Value} (hf : P.funcs[fid]? = some fn) (hr : ResIs P w f fn.results.toList vs)
    (h : R (.returned (if h : vs.length = 1 then vs[0] else .tuple vs.toArray)) w) : Run P fid n R [] f w := by
  intro a ha cs
  refine ⟨_, w, { (frame0 fid).at a [] with mode := .returning }, h, ?_, rfl, ?_⟩
  · exact Steps.one step_end
  · exact ⟨rfl, ha.defers, rfl, fn, hf, run_results ha hr⟩
end
end TL
