/-
  TlHold: regions that draw their order, where what is read stays: on the kit's OrdersHeld.
  By an AI agent.
-/
import Derived.Test.YtifpjbjhkabhgaaTlNest
import Derived.Test.YtifpjbjhkabhgaaTlDraw
import Derived.OrdersHeld
set_option linter.all false
namespace TL
open Go
section
variable {P : Program} {n : Nat} {l : List Oper} {S : World → Prop} {K : Fr → World → Prop} {f : Fr} {w : World} {done : List Nat} {fuel : Nat}
/-- the operations of a region, in whatever order is drawn; S holds behind each -/
def wpH (P : Program) (n : Nat) (l : List Oper) (S : World → Prop) (K : Fr → World → Prop) (fuel : Nat) (done : List Nat) (f : Fr) (w : World) : Prop :=
  ∀ a, Ag n a f → wpAnyH P .any l.toArray (fun e a' w' => e = .normal ∧ ∃ f', Ag n a' f' ∧ K f' w') S fuel (maskOf l.length done) a w
theorem Chg.same {J : Col → Prop} {γ γ' : Cmap} {w w' : World} (h : Chg J γ w γ' w') : Chg J γ w γ w' := ⟨h.os, h.tape, h.output, h.size, fun _ _ _ => rfl, h.keep, h.drawn⟩
theorem run_region_h {fid : Nat} {R : Ending → World → Prop} {k : List Item} {id : Nat} (γ : Cmap) (J : Col → Prop) (hm : P.follows .mixedOrders = true)
    (h : ∀ w1, Chg no γ w γ w1 → wpH P n l (fun w' => Chg J γ w1 γ w') (Run P fid n R k) l.length [] f w1) : Run P fid n R (.code (.region id l.toArray true) :: k) f w :=
  run_of_wp fun a ha => wp_region_held hm (by
    have h0 := h _ (Chg.refl _ _ _).drew a ha
    have hmask : maskOf l.length [] = Array.replicate l.toArray.size false := by
      apply Array.ext
      · simp [maskOf]
      · intro j h1 h2; simp [maskOf]
    rw [hmask] at h0
    simpa using h0)
/-- several orders end in one middle -/
theorem region_midh {fid : Nat} {R : Ending → World → Prop} {k : List Item} {id : Nat} {σ : Type} (Mid : σ → Fr → World → Prop) (γ : Cmap) (J : Col → Prop) (hm : P.follows .mixedOrders = true)
    (h : (∀ s f w, Mid s f w → Run P fid n R k f w) → ∀ w1, Chg no γ w γ w1 → wpH P n l (fun w' => Chg J γ w1 γ w') (Run P fid n R k) l.length [] f w1) (hk : ∀ s f w, Mid s f w → Run P fid n R k f w) : Run P fid n R (.code (.region id l.toArray true) :: k) f w :=
  run_region_h γ J hm (h hk)
variable {dst : Option Tmp} {op : Op} {ty : TypeId} {pos : String} {after : Array Edge} {g : Option (Nat × Bool)} {v : Value}
theorem h_take (i : Nat) (hi : l[i]? = some ⟨dst, op, ty, pos, after, g⟩) (hn : noSelX l = true) (hc : (readyX l done i && freeX l done i && dok n ⟨dst, op, ty, pos, after, g⟩) = true)
    (hw : wantF l ⟨dst, op, ty, pos, after, g⟩ f = true) (hS : S w) (h : ∀ w, S w → (execOp (ev f) ⟨dst, op, ty, pos, after, g⟩).run P w = .ok (.value v) w) (hk : wpH P n l S K fuel (i :: done) (upd f dst v) w) : wpH P n l S K (fuel + 1) done f w := by
  simp only [Bool.and_eq_true] at hc
  obtain ⟨⟨hr, hf⟩, hd⟩ := hc
  obtain ⟨hlt, hr'⟩ := readyX_spec hr
  intro a ha
  refine wpAnyH_first (v := v) (by simpa using hi) (sel_spec hn) (fun c a w h => by cases h.1) fuel _ a w (freeX_spec hi hf) hr' (.inl ⟨by rw [ha.yielded]; exact hw, fun w hs => by rw [ha.eval]; exact h w hs⟩) hS ?_
  rw [maskOf_cons done hlt]
  exact hk _ (ha.put hd v)
theorem h_skip (i : Nat) (hi : l[i]? = some ⟨dst, op, ty, pos, after, g⟩) (hn : noSelX l = true) (hc : (readyX l done i && freeX l done i && dok n ⟨dst, op, ty, pos, after, g⟩) = true)
    (hw : wantF l ⟨dst, op, ty, pos, after, g⟩ f = false) (hS : S w) (hk : wpH P n l S K fuel (i :: done) (upd f dst undef) w) : wpH P n l S K (fuel + 1) done f w := by
  simp only [Bool.and_eq_true] at hc
  obtain ⟨⟨hr, hf⟩, hd⟩ := hc
  obtain ⟨hlt, hr'⟩ := readyX_spec hr
  intro a ha
  refine wpAnyH_first (v := undef) (by simpa using hi) (sel_spec hn) (fun c a w h => by cases h.1) fuel _ a w (freeX_spec hi hf) hr' (.inr ⟨by rw [ha.yielded]; exact hw, rfl⟩) hS ?_
  rw [maskOf_cons done hlt]
  exact hk _ (ha.put hd undef)
/-- one of several operations that may come now -/
def HOne (P : Program) (n : Nat) (l : List Oper) (S : World → Prop) (K : Fr → World → Prop) (fuel : Nat) (done : List Nat) (f : Fr) (w : World) (i : Nat) : Prop :=
  ∃ o, l[i]? = some o ∧ i < l.length ∧ (wantF l o f = true ∧ dok n o = true ∧ opT P o f w (fun v w' => S w' ∧ wpH P n l S K fuel (i :: done) (upd f o.dst v) w'))
theorem h_of (i : Nat) (hi : l[i]? = some ⟨dst, op, ty, pos, after, g⟩) (hc : dok n ⟨dst, op, ty, pos, after, g⟩ = true) (hw : wantF l ⟨dst, op, ty, pos, after, g⟩ f = true)
    (h : opT P ⟨dst, op, ty, pos, after, g⟩ f w (fun v w' => S w' ∧ wpH P n l S K fuel (i :: done) (upd f dst v) w')) : HOne P n l S K fuel done f w i :=
  ⟨_, hi, (List.getElem?_eq_some_iff.1 hi).1, hw, hc, h⟩
def HAll (P : Program) (n : Nat) (l : List Oper) (S : World → Prop) (K : Fr → World → Prop) (fuel : Nat) (done : List Nat) (f : Fr) (w : World) : List Nat → Prop
  | [] => True
  | i :: r => HOne P n l S K fuel done f w i ∧ HAll P n l S K fuel done f w r
theorem HAll.mem {L : List Nat} (h : HAll P n l S K fuel done f w L) : ∀ i ∈ L, HOne P n l S K fuel done f w i := by
  induction L with
  | nil => intro i hi; cases hi
  | cons j r ih =>
    intro i hi
    rcases List.mem_cons.1 hi with rfl | hi
    · exact h.1
    · exact ih h.2 i hi
theorem h_many (i : Nat) (L : List Nat) (hr : decide (Region.ready .any l.toArray (maskOf l.length done) = i :: L) = true) (h : HAll P n l S K fuel done f w (i :: L)) : wpH P n l S K (fuel + 1) done f w := by
  have hr := of_decide_eq_true hr
  intro a ha
  refine ⟨fun h0 => (by rw [hr] at h0; cases h0), fun k hk => ?_⟩
  rw [hr] at hk
  obtain ⟨o, hi, hlt, hw, hd, ho⟩ := h.mem k (by simpa using hk)
  obtain ⟨dst, op, ty, pos, after, g⟩ := o
  refine wpOp_of_opT ha hi hw ho fun v w' hk => ⟨hk.1, ?_⟩
  rw [maskOf_cons done hlt]
  exact hk.2 _ (ha.put hd v)
theorem h_one (i : Nat) (hi : l[i]? = some ⟨dst, op, ty, pos, after, g⟩) (hc : (decide (Region.ready .any l.toArray (maskOf l.length done) = [i]) && dok n ⟨dst, op, ty, pos, after, g⟩) = true)
    (hw : wantF l ⟨dst, op, ty, pos, after, g⟩ f = true) (h : opT P ⟨dst, op, ty, pos, after, g⟩ f w (fun v w' => S w' ∧ wpH P n l S K fuel (i :: done) (upd f dst v) w')) : wpH P n l S K (fuel + 1) done f w := by
  simp only [Bool.and_eq_true] at hc
  exact h_many i [] hc.1 ⟨h_of i hi hc.2 hw h, trivial⟩
theorem h_skip1 (i : Nat) (hi : l[i]? = some ⟨dst, op, ty, pos, after, g⟩) (hc : (decide (Region.ready .any l.toArray (maskOf l.length done) = [i]) && dok n ⟨dst, op, ty, pos, after, g⟩) = true)
    (hw : wantF l ⟨dst, op, ty, pos, after, g⟩ f = false) (hS : S w) (hk : wpH P n l S K fuel (i :: done) (upd f dst undef) w) : wpH P n l S K (fuel + 1) done f w := by
  simp only [Bool.and_eq_true, decide_eq_true_eq] at hc
  obtain ⟨hr, hd⟩ := hc
  have hlt : i < l.length := (List.getElem?_eq_some_iff.1 hi).1
  intro a ha
  refine ⟨fun h0 => (by rw [hr] at h0; cases h0), fun j hj => ?_⟩
  rw [hr] at hj
  obtain rfl : j = i := by simpa using hj
  unfold wpOp
  have hi' : l.toArray[j]? = some ⟨dst, op, ty, pos, after, g⟩ := by simpa using hi
  simp only [hi']
  have hw' : Region.wanted ⟨dst, op, ty, pos, after, g⟩ (yielded l.toArray a.tmps) = false := by rw [ha.yielded]; exact hw
  simp only [hw', Bool.false_eq_true, if_false]
  refine ⟨hS, ?_⟩
  rw [maskOf_cons done hlt]
  exact hk _ (ha.put hd undef)
theorem h_nil (hr : decide (Region.ready .any l.toArray (maskOf l.length done) = []) = true) (h : K f w) : wpH P n l S K 0 done f w := fun _ ha => ⟨of_decide_eq_true hr, rfl, f, ha, h⟩
end
end TL
namespace TL
open Go
theorem isr_nl {L : List Nat} {k i : Nat} (hk : L.contains k = false) (hi : L.contains i = false) : ∀ c, isr k i c → ¬ inl L c := fun c h => by
  rcases h with h | h
  · exact is_nl hk c h
  · exact is_nl hi c h.1
/-- an element of a list of lists, in every world where it stays -/
theorem sl_rowh {α : Type} [Rp α] {γ : Cmap} {w : World} {v : Value} {xss : List (List α)} {S : Col → Prop} {r : Int} (hs : Sl γ S w v xss) (h0 : 0 ≤ r) (h1 : r < xss.length) :
    ∃ u, (∀ (J : Col → Prop) (w' : World), (∀ c, S c → ¬ J c) → Chg J γ w γ w' → w'.cell? (eAddr v 1 r.toNat) = some u) ∧ Sl γ S w u (gI xss r) := by
  obtain ⟨u, h2, h3⟩ := sl_row hs h0 h1
  refine ⟨u, fun J w' hJ hc => ?_, h3⟩
  have h4 := hs.chg hc hJ
  obtain ⟨u', h5, _⟩ := sl_row h4 h0 h1
  rcases hs with ⟨⟨_, rfl⟩, rfl⟩ | ⟨b, off, cap, rfl, _, hx⟩
  · simp at h1; omega
  · obtain ⟨hb, hS, _⟩ := hx r.toNat _ (gI_get h0 h1)
    rw [← h2]
    exact cell_of_heap (hc.keep b hb (hJ _ hS))
theorem nst_rowh {α : Type} [Rp α] [Fl α] {γ : Cmap} {i : Nat} {w : World} {v : Value} {xss : List (List α)} {r : Int} (hn : Nst γ i w v xss) (h0 : 0 ≤ r) (h1 : r < xss.length) :
    ∃ u, (∀ (J : Col → Prop) (w' : World), (∀ c, is i c → ¬ J c) → Chg J γ w γ w' → w'.cell? (eAddr v 1 r.toNat) = some u) ∧ Ow γ (row i (r.toNat + 1)) (row i (r.toNat + 1)) w u (gI xss r) := by
  obtain ⟨u, h2, h3⟩ := sl_rowh hn.sl h0 h1
  obtain ⟨u', h4, h5⟩ := nst_row hn h0 h1
  have h6 := h2 no w (fun _ _ h => h) (Chg.refl _ _ _)
  rw [h4] at h6
  obtain rfl := Option.some.inj h6
  exact ⟨u', h2, h5⟩
end TL
