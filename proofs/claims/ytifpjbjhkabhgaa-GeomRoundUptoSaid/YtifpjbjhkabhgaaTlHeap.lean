/-
  TlHeap: what values stand for in a world. Colours tell which object a block belongs to, so that writes to one object leave the others.
  By an AI agent.
-/
import Derived.Test.YtifpjbjhkabhgaaTlCore
import Derived.Laws.AppendOwn
import Derived.Laws.MakeOwn
set_option linter.all false
namespace TL
open Go

abbrev Col := Nat × Nat
abbrev Cmap := Nat → Col
/-- object number i -/
def is (i : Nat) : Col → Prop := fun c => c.1 = i
/-- the k-th row of object number i -/
def row (i k : Nat) : Col → Prop := fun c => c = (i, k)
/-- the rows of object number i below k -/
def rows (i k : Nat) : Col → Prop := fun c => c.1 = i ∧ c.2 < k
def any : Col → Prop := fun _ => True
def no : Col → Prop := fun _ => False
def c0 : Cmap := fun _ => (0, 0)

/-- `RowKit.Below`, and the draws only go on -/
structure Bel (B : Nat) (w w' : World) : Prop where
  os : w'.os = w.os
  tape : w'.tape = w.tape
  output : w'.output = w.output
  size : w.heap.size ≤ w'.heap.size
  block : ∀ k, k < B → w'.heap[k]? = w.heap[k]?
  drawn : w.drawn ≤ w'.drawn
theorem Bel.kit {B : Nat} {w w' : World} (h : Bel B w w') : RowKit.Below B w w' := ⟨h.os, h.tape, h.output, h.size, h.block⟩
theorem Bel.refl (B : Nat) (w : World) : Bel B w w := ⟨rfl, rfl, rfl, Nat.le_refl _, fun _ _ => rfl, Nat.le_refl _⟩
theorem Bel.trans {B : Nat} {a b c : World} (h : Bel B a b) (k : Bel B b c) : Bel B a c :=
  ⟨k.os.trans h.os, k.tape.trans h.tape, k.output.trans h.output, Nat.le_trans h.size k.size, fun i hi => (k.block i hi).trans (h.block i hi), Nat.le_trans h.drawn k.drawn⟩
theorem Bel.mono {B B' : Nat} {w w' : World} (h : Bel B w w') (hB : B' ≤ B) : Bel B' w w' := ⟨h.os, h.tape, h.output, h.size, fun k hk => h.block k (Nat.lt_of_lt_of_le hk hB), h.drawn⟩
theorem Bel.alloc {B : Nat} {a w : World} (h : Bel B a w) (hB : B ≤ w.heap.size) (o : Obj) : Bel B a (w.alloc o) :=
  have k := h.kit.alloc hB o
  ⟨k.os, k.tape, k.output, k.size, k.block, h.drawn⟩

/-- blocks of colours J may have changed, new ones may have come -/
structure Chg (J : Col → Prop) (γ : Cmap) (w : World) (γ' : Cmap) (w' : World) : Prop where
  os : w'.os = w.os
  tape : w'.tape = w.tape
  output : w'.output = w.output
  size : w.heap.size ≤ w'.heap.size
  col : ∀ b, b < w.heap.size → ¬ J (γ b) → γ' b = γ b
  keep : ∀ b, b < w.heap.size → ¬ J (γ b) → w'.heap[b]? = w.heap[b]?
  drawn : w.drawn ≤ w'.drawn

theorem Chg.refl (J : Col → Prop) (γ : Cmap) (w : World) : Chg J γ w γ w := ⟨rfl, rfl, rfl, Nat.le_refl _, fun _ _ _ => rfl, fun _ _ _ => rfl, Nat.le_refl _⟩
theorem Chg.trans {J J1 J2 : Col → Prop} {γ γ1 γ2 : Cmap} {w w1 w2 : World} (h : Chg J1 γ w γ1 w1) (h' : Chg J2 γ1 w1 γ2 w2) (hJ : ∀ b, b < w.heap.size → J1 (γ b) ∨ J2 (γ b) → J (γ b)) : Chg J γ w γ2 w2 :=
  ⟨h'.os.trans h.os, h'.tape.trans h.tape, h'.output.trans h.output, Nat.le_trans h.size h'.size, fun b hb hn => by
    have h1 : ¬ J1 (γ b) := fun hj => hn (hJ b hb (.inl hj))
    have h2 : ¬ J2 (γ b) := fun hj => hn (hJ b hb (.inr hj))
    have h3 := h.col b hb h1
    exact (h'.col b (Nat.lt_of_lt_of_le hb h.size) (by rw [h3]; exact h2)).trans h3, fun b hb hn => by
    have h1 : ¬ J1 (γ b) := fun hj => hn (hJ b hb (.inl hj))
    have h2 : ¬ J2 (γ b) := fun hj => hn (hJ b hb (.inr hj))
    have h3 := h'.keep b (Nat.lt_of_lt_of_le hb h.size) (by rw [h.col b hb h1]; exact h2)
    exact h3.trans (h.keep b hb h1), Nat.le_trans h.drawn h'.drawn⟩
theorem Chg.drew {J : Col → Prop} {γ : Cmap} {w w' : World} (h : Chg J γ w γ w') : Chg J γ w γ { w' with drawn := w'.drawn + 1 } := ⟨h.os, h.tape, h.output, h.size, h.col, h.keep, Nat.le_succ_of_le h.drawn⟩

/-- all old memory is as it was; its colour is 0 -/
structure Base (w0 : World) (γ : Cmap) (w : World) : Prop where
  os : w.os = w0.os
  tape : w.tape = w0.tape
  output : w.output = w0.output
  size : w0.heap.size ≤ w.heap.size
  col : ∀ b, b < w0.heap.size → (γ b).1 = 0
  keep : ∀ b, b < w0.heap.size → w.heap[b]? = w0.heap[b]?
  drawn : w0.drawn ≤ w.drawn

theorem Base.start (w : World) : Base w c0 w := ⟨rfl, rfl, rfl, Nat.le_refl _, fun _ _ => rfl, fun _ _ => rfl, Nat.le_refl _⟩
theorem Base.chg {J : Col → Prop} {γ γ' : Cmap} {w0 w w' : World} (h : Base w0 γ w) (h' : Chg J γ w γ' w') (hJ : ∀ c, is 0 c → ¬ J c) : Base w0 γ' w' :=
  ⟨h'.os.trans h.os, h'.tape.trans h.tape, h'.output.trans h.output, Nat.le_trans h.size h'.size, fun b hb => by rw [h'.col b (Nat.lt_of_lt_of_le hb h.size) (hJ _ (h.col b hb))]; exact h.col b hb,
    fun b hb => (h'.keep b (Nat.lt_of_lt_of_le hb h.size) (hJ _ (h.col b hb))).trans (h.keep b hb), Nat.le_trans h.drawn h'.drawn⟩
theorem Base.below {γ : Cmap} {w0 w : World} (h : Base w0 γ w) : Bel w0.heap.size w0 w := ⟨h.os, h.tape, h.output, h.size, h.keep, h.drawn⟩

theorem is_ne {i j : Nat} (h : Nat.beq i j = false) : ∀ c, is i c → ¬ is j c := fun c h1 h2 => by
  have : i = j := h1.symm.trans h2
  subst this
  simp at h
theorem not_no (S : Col → Prop) : ∀ c, S c → ¬ no c := fun _ _ h => h

/-- A type whose values lie in a fixed number of cells. -/
class Rp (α : Type) where
  sz : Nat
  rep : Cmap → (Col → Prop) → World → List Value → α → Prop
  len : ∀ {γ S w cs x}, rep γ S w cs x → cs.length = sz
  one : ∀ {γ S w cs x}, rep γ S w cs x → ∀ v ∈ cs, v.oneCell' = true
  tr : ∀ {γ γ' : Cmap} {S S' : Col → Prop} {w w' : World} {cs : List Value} {x : α}, w.heap.size ≤ w'.heap.size → (∀ b, b < w.heap.size → S (γ b) → w'.heap[b]? = w.heap[b]? ∧ S' (γ' b)) → rep γ S w cs x → rep γ' S' w' cs x

/-- flat types: the cells are known -/
class Fl (α : Type) [Rp α] where
  cells : α → List Value
  rep_iff : ∀ {γ S w cs} {x : α}, Rp.rep γ S w cs x ↔ cs = cells x

instance : Rp Int where
  sz := 1
  rep _ _ _ cs x := cs = [.int .i64 x]
  len h := by subst h; rfl
  one h := by subst h; simp [Value.oneCell']
  tr _ _ h := h
instance : Fl Int where
  cells x := [.int .i64 x]
  rep_iff := Iff.rfl
instance : Rp Bool where
  sz := 1
  rep _ _ _ cs x := cs = [.bool x]
  len h := by subst h; rfl
  one h := by subst h; simp [Value.oneCell']
  tr _ _ h := h
instance : Fl Bool where
  cells x := [.bool x]
  rep_iff := Iff.rfl

instance {α β : Type} [Rp α] [Rp β] : Rp (α × β) where
  sz := Rp.sz α + Rp.sz β
  rep γ S w cs x := ∃ c1 c2, cs = c1 ++ c2 ∧ Rp.rep γ S w c1 x.1 ∧ Rp.rep γ S w c2 x.2
  len := by rintro _ _ _ _ _ ⟨c1, c2, rfl, h1, h2⟩; simp [Rp.len h1, Rp.len h2]
  one := by
    rintro _ _ _ _ _ ⟨c1, c2, rfl, h1, h2⟩ v hv
    rcases List.mem_append.1 hv with h | h
    · exact Rp.one h1 v h
    · exact Rp.one h2 v h
  tr := by
    rintro _ _ _ _ _ _ _ _ hs h ⟨c1, c2, rfl, h1, h2⟩
    exact ⟨c1, c2, rfl, Rp.tr hs h h1, Rp.tr hs h h2⟩
instance {α β : Type} [Rp α] [Rp β] [Fl α] [Fl β] : Fl (α × β) where
  cells x := Fl.cells x.1 ++ Fl.cells x.2
  rep_iff := by
    intro γ S w cs x
    constructor
    · rintro ⟨c1, c2, rfl, h1, h2⟩
      rw [Fl.rep_iff.1 h1, Fl.rep_iff.1 h2]
    · intro h
      exact ⟨_, _, h, Fl.rep_iff.2 rfl, Fl.rep_iff.2 rfl⟩

theorem heap_lt {w : World} {b : Nat} {o : Obj} (h : w.heap[b]? = some o) : b < w.heap.size := (Array.getElem?_eq_some_iff.1 h).1
theorem cell_lt {w : World} {a : Addr} {v : Value} (h : w.cell? a = some v) : a.block < w.heap.size := by
  unfold World.cell? at h
  split at h
  · rename_i hb; exact heap_lt hb
  · cases h
theorem cell_of_heap {w w' : World} {a : Addr} (h : w'.heap[a.block]? = w.heap[a.block]?) : w'.cell? a = w.cell? a := by simp [World.cell?, h]

/-- a slice value that reads as a list -/
def Sl {α : Type} [Rp α] (γ : Cmap) (S : Col → Prop) (w : World) (v : Value) (xs : List α) : Prop :=
  ((∃ a, v = .slice a 0 0) ∧ xs = []) ∨ ∃ b off cap, v = .slice (some ⟨b, off, none⟩) xs.length cap ∧ (xs.length ≤ cap ∧ xs.length ≤ 1099511627776) ∧ ∀ i x, xs[i]? = some x → b < w.heap.size ∧ S (γ b) ∧
    ∃ cs, (∀ j, j < Rp.sz α → w.cell? ⟨b, off + i * Rp.sz α + j, none⟩ = cs[j]?) ∧ Rp.rep γ S w cs x

theorem Sl.tr {α : Type} [Rp α] {γ γ' : Cmap} {S S' : Col → Prop} {w w' : World} {v : Value} {xs : List α} (h : ∀ b, b < w.heap.size → S (γ b) → w'.heap[b]? = w.heap[b]? ∧ S' (γ' b)) (hs : Sl γ S w v xs) (hsz : w.heap.size ≤ w'.heap.size) : Sl γ' S' w' v xs := by
  rcases hs with hs | ⟨b, off, cap, rfl, hc, hx⟩
  · exact .inl hs
  · refine .inr ⟨b, off, cap, rfl, hc, fun i x hi => ?_⟩
    obtain ⟨hb, hS, cs, hcs, hr⟩ := hx i x hi
    obtain ⟨h1, h2⟩ := h b hb hS
    exact ⟨Nat.lt_of_lt_of_le hb hsz, h2, cs, fun j hj => by rw [cell_of_heap (w := w) h1]; exact hcs j hj, Rp.tr hsz h hr⟩

theorem Sl.chg {α : Type} [Rp α] {γ γ' : Cmap} {S J : Col → Prop} {w w' : World} {v : Value} {xs : List α} (hs : Sl γ S w v xs) (h : Chg J γ w γ' w') (hJ : ∀ c, S c → ¬ J c) : Sl γ' S w' v xs :=
  hs.tr (fun b hb hS => ⟨h.keep b hb (hJ _ hS), by rw [h.col b hb (hJ _ hS)]; exact hS⟩) h.size

/-- forgetting colours -/
def Ro {α : Type} [Rp α] (w : World) (v : Value) (xs : List α) : Prop := Sl c0 any w v xs
theorem Sl.ro {α : Type} [Rp α] {γ : Cmap} {S : Col → Prop} {w : World} {v : Value} {xs : List α} (hs : Sl γ S w v xs) : Ro w v xs := hs.tr (fun _ _ _ => ⟨rfl, trivial⟩) (Nat.le_refl _)
theorem Ro.sl {α : Type} [Rp α] {w : World} {v : Value} {xs : List α} (hs : Ro w v xs) : Sl c0 (is 0) w v xs := Sl.tr (fun _ _ _ => ⟨rfl, rfl⟩) hs (Nat.le_refl _)
theorem Ro.below {α : Type} [Rp α] {w w' : World} {v : Value} {xs : List α} (hs : Ro w v xs) (h : Bel w.heap.size w w') : Ro w' v xs := Sl.tr (fun b hb _ => ⟨h.block b hb, trivial⟩) hs h.size

instance {α : Type} [Rp α] : Rp (List α) where
  sz := 1
  rep γ S w cs x := ∃ v, cs = [v] ∧ Sl γ S w v x
  len := by rintro _ _ _ _ _ ⟨v, rfl, _⟩; rfl
  one := by
    rintro _ _ _ _ _ ⟨v, rfl, h⟩ u hu
    obtain rfl : u = v := by simpa using hu
    rcases h with ⟨⟨_, rfl⟩, _⟩ | ⟨b, off, cap, rfl, _⟩ <;> rfl
  tr := by
    rintro _ _ _ _ _ _ _ _ hs h ⟨v, rfl, hv⟩
    exact ⟨v, rfl, hv.tr h hs⟩

/-- the address and the number of a slice value -/
def sAddr : Value → Option Addr
  | .slice a _ _ => a
  | _ => none
def sCap : Value → Nat
  | .slice _ _ c => c
  | _ => 0
theorem Sl.form {α : Type} [Rp α] {γ : Cmap} {S : Col → Prop} {w : World} {v : Value} {xs : List α} (h : Sl γ S w v xs) : v = .slice (sAddr v) xs.length (sCap v) := by
  rcases h with ⟨⟨_, rfl⟩, rfl⟩ | ⟨b, off, cap, rfl, _⟩ <;> rfl
theorem Sl.cap {α : Type} [Rp α] {γ : Cmap} {S : Col → Prop} {w : World} {v : Value} {xs : List α} (h : Sl γ S w v xs) : xs.length ≤ sCap v := by
  rcases h with ⟨⟨_, rfl⟩, rfl⟩ | ⟨b, off, cap, rfl, h, _⟩
  · simp
  · exact h.1
theorem Sl.small {α : Type} [Rp α] {γ : Cmap} {S : Col → Prop} {w : World} {v : Value} {xs : List α} (h : Sl γ S w v xs) : xs.length ≤ 1099511627776 := by
  rcases h with ⟨⟨_, rfl⟩, rfl⟩ | ⟨b, off, cap, rfl, h, _⟩
  · simp
  · exact h.2

/-- where element i of a slice lies -/
def eAddr (v : Value) (sz i : Nat) : Addr :=
  match v with
  | .slice (some a) _ _ => ⟨a.block, a.off + i * sz, none⟩
  | _ => ⟨0, 0, none⟩

theorem Sl.elem {α : Type} [Rp α] {γ : Cmap} {S : Col → Prop} {w : World} {v : Value} {xs : List α} (h : Sl γ S w v xs) {i : Nat} {x : α} (hx : xs[i]? = some x) :
    ∃ cs, (∀ j, j < Rp.sz α → w.cell? ((eAddr v (Rp.sz α) i).add j) = cs[j]?) ∧ Rp.rep γ S w cs x := by
  rcases h with ⟨⟨_, rfl⟩, rfl⟩ | ⟨b, off, cap, rfl, _, h⟩
  · simp at hx
  · obtain ⟨_, _, cs, hcs, hr⟩ := h i x hx
    refine ⟨cs, fun j hj => ?_, hr⟩
    rw [← hcs j hj]
    congr 1
    unfold Addr.add eAddr
    split
    · rename_i h0; subst h0; rfl
    · rfl
theorem Sl.addr {α : Type} [Rp α] {γ : Cmap} {S : Col → Prop} {w : World} {v : Value} {xs : List α} (h : Sl γ S w v xs) (h0 : 0 < xs.length) : ∃ a, v = .slice (some a) xs.length (sCap v) ∧ a.spot = none := by
  rcases h with ⟨⟨_, rfl⟩, rfl⟩ | ⟨b, off, cap, rfl, _, h⟩
  · simp at h0
  · exact ⟨_, rfl, rfl⟩

/-- a slice that the call owns: it may be written and grown. Its block has a colour in J, what its elements reach has colours in S. -/
def Ow {α : Type} [Rp α] (γ : Cmap) (J S : Col → Prop) (w : World) (v : Value) (xs : List α) : Prop :=
  (v = .slice none 0 0 ∧ xs = []) ∨ ∃ b cap c e, v = .slice (some ⟨b, 0, none⟩) xs.length cap ∧ (xs.length ≤ cap ∧ xs.length ≤ 1099511627776) ∧ cap ≤ maxLen ∧ J (γ b) ∧ w.heap[b]? = some (.cells c e (0, 0)) ∧ c.size = cap * Rp.sz α ∧
    ∀ i x, xs[i]? = some x → ∃ cs, (∀ j, j < Rp.sz α → c[i * Rp.sz α + j]? = cs[j]?) ∧ Rp.rep γ S w cs x

theorem Ow.tr {α : Type} [Rp α] {γ γ' : Cmap} {J J' S S' : Col → Prop} {w w' : World} {v : Value} {xs : List α} (hsz : w.heap.size ≤ w'.heap.size) (h : ∀ b, b < w.heap.size → S (γ b) → w'.heap[b]? = w.heap[b]? ∧ S' (γ' b))
    (hj : ∀ b, b < w.heap.size → J (γ b) → w'.heap[b]? = w.heap[b]? ∧ J' (γ' b)) (hs : Ow γ J S w v xs) : Ow γ' J' S' w' v xs := by
  rcases hs with hs | ⟨b, cap, c, e, rfl, hc, hm, hJ, hb, hcs, hx⟩
  · exact .inl hs
  · obtain ⟨h1, h2⟩ := hj b (heap_lt hb) hJ
    refine .inr ⟨b, cap, c, e, rfl, hc, hm, h2, by rw [h1]; exact hb, hcs, fun i x hi => ?_⟩
    obtain ⟨cs, hcs, hr⟩ := hx i x hi
    exact ⟨cs, hcs, Rp.tr hsz h hr⟩
theorem Ow.chg {α : Type} [Rp α] {γ γ' : Cmap} {J S K : Col → Prop} {w w' : World} {v : Value} {xs : List α} (hs : Ow γ J S w v xs) (h : Chg K γ w γ' w') (hJ : ∀ c, J c → ¬ K c) (hS : ∀ c, S c → ¬ K c) : Ow γ' J S w' v xs :=
  hs.tr h.size (fun b hb hS' => ⟨h.keep b hb (hS _ hS'), by rw [h.col b hb (hS _ hS')]; exact hS'⟩) (fun b hb hJ' => ⟨h.keep b hb (hJ _ hJ'), by rw [h.col b hb (hJ _ hJ')]; exact hJ'⟩)
theorem Ow.sl {α : Type} [Rp α] {γ : Cmap} {J S T : Col → Prop} {w : World} {v : Value} {xs : List α} (hs : Ow γ J S w v xs) (hJ : ∀ c, J c → T c) (hS : ∀ c, S c → T c) : Sl γ T w v xs := by
  rcases hs with hs | ⟨b, cap, c, e, rfl, hc, hm, hJb, hb, hcs, hx⟩
  · exact .inl ⟨⟨_, hs.1⟩, hs.2⟩
  · refine .inr ⟨b, 0, cap, rfl, hc, fun i x hi => ?_⟩
    obtain ⟨cs, hcs', hr⟩ := hx i x hi
    refine ⟨heap_lt hb, hJ _ hJb, cs, fun j hj => ?_, Rp.tr (Nat.le_refl _) (fun b _ hS' => ⟨rfl, hS _ hS'⟩) hr⟩
    rw [← hcs' j hj]
    simp [World.cell?, hb]

/-- a flat owned slice: nothing is asked of what its elements reach -/
abbrev Owf {α : Type} [Rp α] (γ : Cmap) (i : Nat) (w : World) (v : Value) (xs : List α) : Prop := Ow γ (is i) (is i) w v xs

theorem Ow.refit {α : Type} [Rp α] [Fl α] {γ : Cmap} {J S T : Col → Prop} {w : World} {v : Value} {xs : List α} (hs : Ow γ J S w v xs) : Ow γ J T w v xs := by
  rcases hs with hs | ⟨b, cap, c, e, rfl, hc, hm, hJb, hb, hcs, hx⟩
  · exact .inl hs
  · refine .inr ⟨b, cap, c, e, rfl, hc, hm, hJb, hb, hcs, fun i x hi => ?_⟩
    obtain ⟨cs, hcs', hr⟩ := hx i x hi
    exact ⟨cs, hcs', Fl.rep_iff.2 (Fl.rep_iff.1 hr)⟩

/-- a variable of the call's own: its cells -/
def Bx (γ : Cmap) (J : Col → Prop) (w : World) (b : Nat) (cs : List Value) : Prop := J (γ b) ∧ ∃ e, w.heap[b]? = some (.cells cs.toArray e (0, 0))
theorem Bx.chg {γ γ' : Cmap} {J K : Col → Prop} {w w' : World} {b : Nat} {cs : List Value} (hs : Bx γ J w b cs) (h : Chg K γ w γ' w') (hJ : ∀ c, J c → ¬ K c) : Bx γ' J w' b cs := by
  obtain ⟨h1, e, h2⟩ := hs
  exact ⟨by rw [h.col b (heap_lt h2) (hJ _ h1)]; exact h1, e, by rw [h.keep b (heap_lt h2) (hJ _ h1)]; exact h2⟩
theorem Bx.cell {γ : Cmap} {J : Col → Prop} {w : World} {b : Nat} {cs : List Value} (hs : Bx γ J w b cs) (i : Nat) : w.cell? ⟨b, i, none⟩ = cs[i]? := by
  obtain ⟨h1, e, h2⟩ := hs
  simp [World.cell?, h2]
theorem Bx.lt {γ : Cmap} {J : Col → Prop} {w : World} {b : Nat} {cs : List Value} (hs : Bx γ J w b cs) : b < w.heap.size := heap_lt hs.2.choose_spec

/-- the colour map with one block more -/
def cset (γ : Cmap) (b : Nat) (c : Col) : Cmap := fun k => if k = b then c else γ k
theorem chg_alloc (γ : Cmap) (w : World) (o : Obj) (c : Col) : Chg no γ w (cset γ w.heap.size c) (w.alloc o) :=
  ⟨rfl, rfl, rfl, by simp, fun b hb _ => by simp [cset, Nat.ne_of_lt hb], fun b hb _ => RowKit.Below.heap_alloc w o b hb, Nat.le_refl _⟩
theorem heap_alloc_new' (w : World) (o : Obj) : (w.alloc o).heap[w.heap.size]? = some o := heap_alloc_new w o
theorem bx_alloc (γ : Cmap) (w : World) (cs : Array Value) (e : TypeId) (c : Col) {J : Col → Prop} (hJ : J c) : Bx (cset γ w.heap.size c) J (w.alloc (.cells cs e)) w.heap.size cs.toList :=
  ⟨by simpa [cset] using hJ, e, by rw [heap_alloc_new']⟩

/-- after a call: the colours of what it has made -/
def glue (B : Nat) (γ δ : Cmap) (ren : Nat → Nat) : Cmap := fun b => if b < B then γ b else (ren (δ b).1, (δ b).2)
theorem chg_glue {w w' : World} (h : Bel w.heap.size w w') (γ δ : Cmap) (ren : Nat → Nat) : Chg no γ w (glue w.heap.size γ δ ren) w' :=
  ⟨h.os, h.tape, h.output, h.size, fun b hb _ => by simp [glue, hb], fun b hb _ => h.block b hb, h.drawn⟩
theorem chg_below {w w' : World} (h : Bel w.heap.size w w') (γ : Cmap) : Chg no γ w γ w' := ⟨h.os, h.tape, h.output, h.size, fun _ _ _ => rfl, fun b hb _ => h.block b hb, h.drawn⟩
theorem glue_is {B : Nat} {γ δ : Cmap} {ren : Nat → Nat} {i k : Nat} (hδ : ∀ b, b < B → (δ b).1 = 0) (hi : Nat.beq i 0 = false) (hr : ren i = k) : ∀ b, is i (δ b) → is k (glue B γ δ ren b) := by
  intro b hb
  have h0 : ¬ b < B := fun h => by
    have h1 := hδ b h
    have : i = 0 := hb.symm.trans h1
    subst this
    simp at hi
  have hb' : (δ b).1 = i := hb
  simp [glue, h0, is, hb', hr]
theorem Sl.glue {α : Type} [Rp α] {B : Nat} {γ δ : Cmap} {ren : Nat → Nat} {i k : Nat} {w : World} {v : Value} {xs : List α} (h : Sl δ (is i) w v xs) (hδ : ∀ b, b < B → (δ b).1 = 0) (hi : Nat.beq i 0 = false) (hr : ren i = k) : Sl (TL.glue B γ δ ren) (is k) w v xs :=
  h.tr (fun b _ hb => ⟨rfl, glue_is hδ hi hr b hb⟩) (Nat.le_refl _)
theorem Ow.glue {α : Type} [Rp α] {B : Nat} {γ δ : Cmap} {ren : Nat → Nat} {i k : Nat} {w : World} {v : Value} {xs : List α} (h : Ow δ (is i) (is i) w v xs) (hδ : ∀ b, b < B → (δ b).1 = 0) (hi : Nat.beq i 0 = false) (hr : ren i = k) : Ow (TL.glue B γ δ ren) (is k) (is k) w v xs :=
  h.tr (Nat.le_refl _) (fun b _ hb => ⟨rfl, glue_is hδ hi hr b hb⟩) (fun b _ hb => ⟨rfl, glue_is hδ hi hr b hb⟩)
theorem bel_tr {γ : Cmap} {S : Col → Prop} {w w' : World} (h : Bel w.heap.size w w') : ∀ b, b < w.heap.size → S (γ b) → w'.heap[b]? = w.heap[b]? ∧ S (γ b) := fun b hb hS => ⟨h.block b hb, hS⟩
theorem Sl.bel {α : Type} [Rp α] {γ : Cmap} {S : Col → Prop} {w w' : World} {v : Value} {xs : List α} (hs : Sl γ S w v xs) (h : Bel w.heap.size w w') : Sl γ S w' v xs := hs.tr (bel_tr h) h.size
theorem Ow.bel {α : Type} [Rp α] {γ : Cmap} {J S : Col → Prop} {w w' : World} {v : Value} {xs : List α} (hs : Ow γ J S w v xs) (h : Bel w.heap.size w w') : Ow γ J S w' v xs := hs.tr h.size (bel_tr h) (bel_tr h)
theorem Bx.bel {γ : Cmap} {J : Col → Prop} {w w' : World} {b : Nat} {cs : List Value} (hs : Bx γ J w b cs) (h : Bel w.heap.size w w') : Bx γ J w' b cs := by
  obtain ⟨h1, e, h2⟩ := hs
  exact ⟨h1, e, by rw [h.block b (heap_lt h2)]; exact h2⟩
theorem Ow.flat {α : Type} [Rp α] [Fl α] {γ : Cmap} {J S : Col → Prop} {w : World} {v : Value} {xs : List α} (hs : Ow γ J S w v xs) : Sl γ J w v xs := by
  rcases hs with hs | ⟨b, cap, c, e, rfl, hc, hm, hJb, hb, hcs, hx⟩
  · exact .inl ⟨⟨_, hs.1⟩, hs.2⟩
  · refine .inr ⟨b, 0, cap, rfl, hc, fun i x hi => ?_⟩
    obtain ⟨cs, hcs', hr⟩ := hx i x hi
    refine ⟨heap_lt hb, hJb, cs, fun j hj => ?_, Fl.rep_iff.2 (Fl.rep_iff.1 hr)⟩
    rw [← hcs' j hj]
    simp [World.cell?, hb]
theorem Ow.nil {α : Type} [Rp α] {γ : Cmap} {J S : Col → Prop} {w : World} : Ow (α := α) γ J S w (.slice none 0 0) [] := .inl ⟨rfl, rfl⟩
theorem Sl.nil {α : Type} [Rp α] {γ : Cmap} {S : Col → Prop} {w : World} : Sl (α := α) γ S w (.slice none 0 0) [] := .inl ⟨⟨_, rfl⟩, rfl⟩

/-- what a call of a function that only makes memory leaves -/
structure Fresh (w0 : World) (δ : Cmap) (w : World) : Prop where
  below : Bel w0.heap.size w0 w
  col : ∀ b, b < w0.heap.size → (δ b).1 = 0
/-- the colours at a call's end -/
def fin (w0 : World) (γ : Cmap) (ren : Nat → Nat) : Cmap := glue w0.heap.size c0 γ ren
theorem Base.fresh {w0 w : World} {γ : Cmap} (h : Base w0 γ w) (ren : Nat → Nat) : Fresh w0 (fin w0 γ ren) w := ⟨h.below, fun b hb => by simp [fin, TL.glue, hb, c0]⟩

section
variable {P : Program} {fid n : Nat} {R : Ending → World → Prop} {k : List Item} {f : Fr} {w : World} {id : Nat} {l : List Oper}
/-- a region that draws its order and only reads -/
theorem region_q (γ : Cmap) (hd : l.all (dok n) = true) (hm : P.follows .mixedOrders = true) (hB : Region.lexB .any l.toArray = true)
    (h : ∀ w1, Chg no γ w γ w1 → wpQ P l (fun w' => Bel w1.heap.size w1 w') l (fun f' => ∀ w', Bel w1.heap.size w1 w' → Run P fid n R k f' w') f) : Run P fid n R (.code (.region id l.toArray true) :: k) f w :=
  run_region_q (fun w' => Bel w.heap.size { w with drawn := w.drawn + 1 } w') hd hm hB (Bel.refl _ _) (h _ (Chg.refl _ _ _).drew)
/-- a region that draws its order: m operations that leave the world alone, then the others in one order -/
theorem region_t (γ : Cmap) (m : Nat) (hd : l.all (dok n) = true) (hm : P.follows .mixedOrders = true) (hB : Region.lexTailB .any l.toArray m = true)
    (h : ∀ w1, Chg no γ w γ w1 → wpQ P l (fun w' => w' = w1) (l.take m) (fun f' => wpL P l (l.drop m) (Run P fid n R k) f' w1) f) : Run P fid n R (.code (.region id l.toArray true) :: k) f w :=
  run_region_t m hd hm hB (h _ (Chg.refl _ _ _).drew)
end
end TL
