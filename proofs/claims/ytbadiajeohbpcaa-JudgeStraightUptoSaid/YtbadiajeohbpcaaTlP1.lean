/- Plain texts of this claim, part 1. By an AI agent. -/
import Derived.Test.YtbadiajeohbpcaaTlP0
import Derived.Laws.StructEq
/-
  TlEq: structs compared; a pointer looked at for nil; a bit turned.
  By an AI agent.
-/
set_option linter.all false
namespace TL
open Go
section
variable {P : Program} {f : Fr} {w : World} {dst : Option Tmp} {ty : TypeId} {pos : String} {after : Array Edge} {g : Option (Nat × Bool)} {t t' e : TypeId} {x y : Operand}
theorem aK {a : Addr} (hx : ev f x = .pointer (some a)) : (execOp (ev f) ⟨dst, .nilCheck x, ty, pos, after, g⟩).run P w = .ok (.value (.pointer (some a))) w := by
 simp only [execOp, hx, Sem.run_pure]
inductive EqV (P : Program) (t : TypeId) : Value → Value → Bool → Prop
 | int {a b : Int} (h : P.underlying t = some (.int .i64)) : EqV P t (.int .i64 a) (.int .i64 b) (decide (a = b))
 | bool {a b : Bool} (h : P.underlying t = some .bool) : EqV P t (.bool a) (.bool b) (decide (a = b))
inductive EqF (P : Program) (xs ys : Array Value) : List Field → List Bool → Prop
 | nil : EqF P xs ys [] []
 | cons {fd : Field} {fs : List Field} {bs : List Bool} {a b z : Value} {r : Bool} {size bytes : Nat} (hn : (fd.name != "_") = true) (he : Tp P fd.type false size bytes z) (ha : xs[fd.offset]? = some a) (hb : ys[fd.offset]? = some b) (hq : EqV P fd.type a b r) (hr : EqF P xs ys fs bs) : EqF P xs ys (fd :: fs) (r :: bs)
theorem fg {xs ys : Array Value} {fs : List Field} {bs : List Bool} (h : EqF P xs ys fs bs) (d : Nat) : (Op.eqFields (d + 1) xs ys fs).run P w = .ok (bs.all id) w := by
 induction h with
 | nil => simp [Op.eqFields, Sem.run_pure]
 | @cons fd fs bs a b z r size bytes hn he ha hb hq hr ih =>
   have hn' : fd.name ≠ "_" := by simpa using hn
   have h1 := fK (P := P) (w := w) he ha
   have h2 := fK (P := P) (w := w) he hb
   have h3 : (Op.equalIn (d + 1) fd.type a b).run P w = .ok r w := by
     cases hq with
     | int h => simp [Op.equalIn, b6 h, Sem.run_pure]; rfl
     | bool h => simp [Op.equalIn, b6 h, Sem.run_pure]; rfl
   simp only [Op.eqFields, if_pos hn', Sem.run_bind, h1, h2, h3, Result.andThen_ok]
   cases r with
   | true => simp [ih]
   | false => simp [Sem.run_pure]
theorem dH {fs : Array Field} {xs ys : List Value} {bs : List Bool} {q : Bool} (ht : P.underlying t = some (.struct fs)) (hp : P.stoodInHeld t = false) (hg : P.eqGuardType P.depth t = false) (hx : ev f x = .agg xs.toArray) (hy : ev f y = .agg ys.toArray) (h : EqF P xs.toArray ys.toArray fs.toList bs) (hq : bs.all id = q) :
   (execOp (ev f) ⟨dst, .binOp .eql t x y t', ty, pos, after, g⟩).run P w = .ok (.value (.bool q)) w := by
 have e1 : P.fieldsOf t = fs := by simp [Program.fieldsOf, ht]
 have hr : (Op.equal t (.agg xs.toArray) (.agg ys.toArray)).run P w = .ok q w := by
   have := run_equalIn_struct (P := P) w 9999 t xs.toArray ys.toArray (by rw [e1]; exact ht) hp
   rw [e1, fg h 9998, hq] at this
   exact this
 exact nP .eql hx hy (by simp [eqGuard, hg]) (by simp [binOp, hr])
end
end TL
namespace TL
open Go
section
variable {P : Program} {f : Fr} {w : World} {dst : Option Tmp} {ty : TypeId} {pos : String} {after : Array Edge} {g : Option (Nat × Bool)} {t : TypeId} {x : Operand}
end
end TL
namespace TL
open Go
section
variable {P : Program} {f : Fr} {w : World} {dst : Option Tmp} {ty : TypeId} {pos : String} {after : Array Edge} {g : Option (Nat × Bool)} {t t' : TypeId} {x y : Operand} {m n : Int}
end
end TL
namespace TL
open Go
theorem t8 {f : Fr} {x : Operand} {xs : List Operand} {v : Value} {vs : List Value} (h : ev f x = v) (h2 : xs.map (ev f) = vs) : (x :: xs).map (ev f) = v :: vs := by subst h h2; rfl
end TL
/-
  TlRot: rotations: which may be, turned to their least, faces.
  By an AI agent.
-/
set_option linter.all false
namespace TL
abbrev dQ := List (List Int)
def hZ (g : d5) (r : dQ) : Prop := (r.length : Int) = g.1 ∧ (∀ v : Nat, v < r.length → ∀ h ∈ gI r (v : Int), (0 ≤ h ∧ h < 2 * (g.2.length : Int)) ∧ dG g h = v) ∧ r.flatten.Nodup ∧ (r.flatten.length : Int) = 2 * g.2.length
instance (g : d5) (r : dQ) : Decidable (hZ g r) := by unfold hZ; infer_instance
def cB (g : d5) (r : dQ) : Int := if c7 g then if hZ g r then 0 else 4 else 1
theorem rb {g : d5} {r : dQ} (h : cB g r = 0) : c7 g ∧ hZ g r := by
 unfold cB at h
 by_cases h1 : c7 g
 · by_cases h2 : hZ g r
   · exact ⟨h1, h2⟩
   · rw [if_pos h1, if_neg h2] at h; cases h
 · rw [if_neg h1] at h; cases h
theorem kz {g : d5} {r : dQ} (h1 : c7 g) (h2 : hZ g r) : cB g r = 0 := by unfold cB; rw [if_pos h1, if_pos h2]
theorem fR {g : d5} {r : dQ} (h1 : c7 g) (h2 : ¬ hZ g r) : cB g r = 4 := by unfold cB; rw [if_pos h1, if_neg h2]
theorem nL {n : Int} {l : List Int} (h0 : 0 ≤ n) (hn : l.Nodup) (h : ∀ x ∈ l, 0 ≤ x ∧ x < n) : (l.length : Int) ≤ n := by
 have := oJ n.toNat l hn (fun x hx => by have := h x hx; omega)
 omega
theorem em {r : dQ} {k : Nat} (hk : (k : Int) < r.length) : (r.take (k + 1)).flatten = (r.take k).flatten ++ gI r (k : Int) := by
 rw [bP hk]; simp
structure eY (seen : List Bool) (P : List Int) (n : Int) : Prop where
  len : (seen.length : Int) = n
  seen : ∀ h, 0 ≤ h → h < n → gI seen h = decide (h ∈ P)
  nodup : P.Nodup
  rng : ∀ h ∈ P, 0 ≤ h ∧ h < n
theorem eY.start {n : Int} (hn : 0 ≤ n) : eY (List.replicate n.toNat false) [] n :=
 ⟨by simp; omega, fun h h0 h1 => by rw [l6 h0 (by omega)]; simp, by simp, by simp⟩
theorem eY.next {seen : List Bool} {P : List Int} {n h : Int} (hi : eY seen P n) (h0 : 0 ≤ h) (h1 : h < n) (hs : gI seen h = false) : eY (seen.set h.toNat true) (P ++ [h]) n := by
 have hl := hi.len
 have hn : h ∉ P := by
   have := hi.seen h h0 h1
   rw [hs] at this
   simpa using this.symm
 refine ⟨by simpa using hl, fun x hx0 hx1 => ?_, ?_, fun x hx => ?_⟩
 · rw [gr h0 (by omega) hx0]
   by_cases e : x = h
   · subst e; simp
   · rw [if_neg e, hi.seen x hx0 hx1]; simp [e]
 · rw [List.nodup_append]
   refine ⟨hi.nodup, by simp, fun a ha b hb => ?_⟩
   obtain rfl := List.mem_singleton.1 hb
   intro e; subst e; exact hn ha
 · rcases List.mem_append.1 hx with hx | hx
   · exact hi.rng x hx
   · obtain rfl := List.mem_singleton.1 hx; exact ⟨h0, h1⟩
theorem eY.bd {seen : List Bool} {P : List Int} {n : Int} (hi : eY seen P n) : (P.length : Int) ≤ n := nL (by have := hi.len; omega) hi.nodup hi.rng
theorem eY.mem {seen : List Bool} {P : List Int} {n h : Int} (hi : eY seen P n) (h0 : 0 ≤ h) (h1 : h < n) (hs : gI seen h = true) : h ∈ P := by
 have := hi.seen h h0 h1
 rw [hs] at this
 simpa using this.symm
structure cN (seen : List Bool) (n : Int) (g : d5) (r : dQ) (k i : Nat) : Prop where
  rm : eY seen ((r.take k).flatten ++ (gI r (k : Int)).take i) (2 * (g.2.length : Int))
  n : n = (((r.take k).flatten ++ (gI r (k : Int)).take i).length : Int)
  ok : ∀ v : Nat, v < k → ∀ h ∈ gI r (v : Int), (0 ≤ h ∧ h < 2 * (g.2.length : Int)) ∧ dG g h = v
  row : ∀ h ∈ (gI r (k : Int)).take i, (0 ≤ h ∧ h < 2 * (g.2.length : Int)) ∧ dG g h = k
theorem cN.start (g : d5) (r : dQ) : cN (List.replicate (2 * (g.2.length : Int)).toNat false) 0 g r 0 0 :=
 ⟨by simpa using eY.start (n := 2 * (g.2.length : Int)) (by omega), by simp, fun v hv => by omega, by simp⟩
section
variable {seen : List Bool} {n : Int} {g : d5} {r : dQ} {k i : Nat}
theorem cN.bd (h : cN seen n g r k i) : 0 ≤ n ∧ n ≤ 2 * (g.2.length : Int) := by
 have h1 := h.rm.bd
 rw [h.n]
 exact ⟨by omega, h1⟩
theorem cN.next (h : cN seen n g r k i) (hi : (i : Int) < (gI r (k : Int)).length) (h0 : 0 ≤ gI (gI r (k : Int)) (i : Int)) (h1 : gI (gI r (k : Int)) (i : Int) < 2 * (g.2.length : Int)) (hs : gI seen (gI (gI r (k : Int)) (i : Int)) = false) (hf : dG g (gI (gI r (k : Int)) (i : Int)) = k) :
   cN (seen.set (gI (gI r (k : Int)) (i : Int)).toNat true) (n + 1) g r k (i + 1) := by
 have e := bP hi
 refine ⟨?_, ?_, h.ok, fun x hx => ?_⟩
 · rw [e, ← List.append_assoc]; exact h.rm.next h0 h1 hs
 · rw [e, ← List.append_assoc, List.length_append, h.n]; simp
 · rw [e] at hx
   rcases List.mem_append.1 hx with hx | hx
   · exact h.row x hx
   · obtain rfl := List.mem_singleton.1 hx; exact ⟨⟨h0, h1⟩, hf⟩
theorem cN.row_done (h : cN seen n g r k i) (hk : (k : Int) < r.length) (hi : ¬ (i : Int) < (gI r (k : Int)).length) : cN seen n g r (k + 1) 0 := by
 have e : (gI r (k : Int)).take i = gI r (k : Int) := List.take_of_length_le (by omega)
 have h1 := h.rm
 have h2 := h.n
 have h3 := h.row
 rw [e] at h1 h2 h3
 refine ⟨by rw [em hk]; simpa using h1, by rw [em hk]; simpa using h2, fun v hv x hx => ?_, by simp⟩
 by_cases hvk : v = k
 · subst hvk; exact h3 x hx
 · exact h.ok v (by omega) x hx
theorem cN.bad (h : cN seen n g r k i) (hk : (k : Int) < r.length) (hi : (i : Int) < (gI r (k : Int)).length) (hb : ¬ ((0 ≤ gI (gI r (k : Int)) (i : Int) ∧ gI (gI r (k : Int)) (i : Int) < 2 * (g.2.length : Int)) ∧ dG g (gI (gI r (k : Int)) (i : Int)) = k)) : ¬ hZ g r := fun hr =>
 hb (hr.2.1 k (by omega) _ (bg (by omega) hi))
theorem cN.twice (h : cN seen n g r k i) (hk : (k : Int) < r.length) (hi : (i : Int) < (gI r (k : Int)).length) (h0 : 0 ≤ gI (gI r (k : Int)) (i : Int)) (h1 : gI (gI r (k : Int)) (i : Int) < 2 * (g.2.length : Int)) (hs : gI seen (gI (gI r (k : Int)) (i : Int)) = true) : ¬ hZ g r := fun hr => by
 have hm := h.rm.mem h0 h1 hs
 have hn := hr.2.2.1
 have hsub : List.Sublist ((r.take k).flatten ++ (gI r (k : Int)).take i ++ [gI (gI r (k : Int)) (i : Int)]) r.flatten := by
   rw [List.append_assoc, ← bP hi]
   have e1 : r = r.take (k + 1) ++ r.drop (k + 1) := (List.take_append_drop _ _).symm
   have e2 : r.flatten = (r.take (k + 1)).flatten ++ (r.drop (k + 1)).flatten := by rw [← List.flatten_append, ← e1]
   rw [e2, em hk]
   exact (List.Sublist.append_left (List.take_sublist _ _) _).trans (List.sublist_append_left _ _)
 have := hn.sublist hsub
 rw [List.nodup_append] at this
 exact this.2.2 _ hm _ (by simp) rfl
theorem cN.fin (h : cN seen n g r k i) (hl : (r.length : Int) = g.1) (hk : k = r.length) (hi : i = 0) : hZ g r ↔ n = 2 * (g.2.length : Int) := by
 subst hk hi
 have h1 := h.rm
 have h2 := h.n
 simp only [List.take_zero, List.append_nil, List.take_length] at h1 h2
 rw [h2]
 exact ⟨fun hr => hr.2.2.2, fun e => ⟨hl, h.ok, h1.nodup, e⟩⟩
end
def iH (l : List Int) : List Int := if l = [] then [] else l.drop (l.idxOf (dm l)) ++ l.take (l.idxOf (dm l))
def ew (r : dQ) : dQ := r.map iH
def cZ (s : List Int) (v : Int) : Int := if v ∈ s then (s.idxOf v : Int) else -1
theorem oh {s : List Int} {v : Int} {i : Nat} (h : ∀ j : Nat, j < i → ¬ v = gI s (j : Int)) (hi : (i : Int) < s.length) (he : v = gI s (i : Int)) : (i : Int) = cZ s v := by
 have hlt : i < s.length := by omega
 have e : gI s (i : Int) = s[i] := by simp [gI, hlt]
 have hm : v ∈ s := by rw [he]; exact bg (by omega) hi
 unfold cZ
 rw [if_pos hm]
 have hlt2 := List.idxOf_lt_length_iff.2 hm
 have h1 : ¬ s.idxOf v < i := fun hlt' => h _ hlt' (by simp [gI, hlt2])
 have h2 : ¬ i < s.idxOf v := fun hlt' => by
   have := List.not_of_lt_findIdx (xs := s) (p := (· == v)) (i := i) hlt'
   simp at this
   exact this (by rw [← e, ← he])
 omega
theorem qk {s : List Int} {v : Int} {i : Nat} (h : ∀ j : Nat, j < i → ¬ v = gI s (j : Int)) (hi : ¬ (i : Int) < s.length) : (-1 : Int) = cZ s v := by
 unfold cZ
 rw [if_neg]
 intro hm
 obtain ⟨j, hj, e⟩ := List.mem_iff_getElem.1 hm
 exact h j (by omega) (by simp [gI, hj, e])
theorem gf : ∀ (l : List Int) (a : Int), l.foldl min a = a ∨ l.foldl min a ∈ l
 | [], a => .inl rfl
 | x :: l, a => by
   simp only [List.foldl_cons]
   rcases gf l (min a x) with h | h
   · rw [h]
     rcases Int.le_total a x with h1 | h1
     · rw [Int.min_eq_left h1]; exact .inl rfl
     · rw [Int.min_eq_right h1]; exact .inr (by simp)
   · exact .inr (by simp [h])
theorem pA {l : List Int} (hl : l ≠ []) : dm l = (l.drop 1).foldl min (gI l 0) := by
 unfold dm jZ; rw [List.take_length]
theorem nT {l : List Int} (hl : l ≠ []) : dm l ∈ l := by
 rw [pA hl]
 cases l with
 | nil => exact absurd rfl hl
 | cons a l =>
   simp only [List.drop_succ_cons, List.drop_zero]
   rcases gf l (gI (a :: l) 0) with h | h
   · rw [h]; simp [gI]
   · exact List.mem_cons_of_mem _ h
theorem na {l : List Int} (hl : l ≠ []) : iH l = l.drop (cZ l (dm l)).toNat ++ l.take (cZ l (dm l)).toNat ∧ 0 ≤ cZ l (dm l) ∧ cZ l (dm l) < l.length := by
 have hm := nT hl
 unfold iH cZ
 rw [if_neg hl, if_pos hm]
 have := List.idxOf_lt_length_iff.2 hm
 exact ⟨by simp, by omega, by omega⟩
end TL
namespace TL
theorem pj {α β : Type} [Inhabited α] {f : α → β} {r : List α} {k : Nat} {d y : β} (hk : (k : Int) < r.length) (hy : y = f (gI r (k : Int))) : (List.map f (List.take k r) ++ List.replicate (r.length - k) d).set (k : Int).toNat y = List.map f (List.take (k + 1) r) ++ List.replicate (r.length - (k + 1)) d := by
 have hl : (List.map f (List.take k r)).length = k := by simp; omega
 have e : r.length - k = (r.length - (k + 1)) + 1 := by omega
 rw [e, List.replicate_succ, bP hk, List.map_append, hy]
 simp only [Int.toNat_natCast]
 rw [List.set_append_right _ _ (by omega), hl]
 simp
theorem pi {α β : Type} [Inhabited α] {f : α → β} {r : List α} {k : Nat} {d : β} (hk : (k : Int) < r.length) (hy : f (gI r (k : Int)) = d) : (List.map f (List.take k r) ++ List.replicate (r.length - k) d) = List.map f (List.take (k + 1) r) ++ List.replicate (r.length - (k + 1)) d := by
 have e : r.length - k = (r.length - (k + 1)) + 1 := by omega
 rw [e, List.replicate_succ, bP hk, List.map_append, List.map_cons, hy]
 simp
end TL
/-
  TlShort: short names for the commonest steps (used by packed claims only).
  By an AI agent.
-/
set_option linter.all false
namespace TL
open Go
abbrev vi (x : Int) : Value := Value.int .i64 x
abbrev vp (b o : Nat) : Value := Value.pointer (some ⟨b, o, none⟩)
abbrev vn : Value := Value.slice none 0 0
abbrev vt (l : List Value) : Value := Value.tuple (List.toArray l)
abbrev vg (l : List Value) : Value := Value.agg (List.toArray l)
theorem cg (L : List Nat) {γ γ' : aS} {w w' : World} (h : aQ (bE L) γ w γ' w') : aQ (bE L) γ w γ' w' := h
theorem dt {p : Prop} [Decidable p] (h : p) : decide p = true := decide_eq_true h
theorem df {p : Prop} [Decidable p] (h : ¬ p) : decide p = false := decide_eq_false h
section
variable {P : Program} {all rest : List Oper} {K : Fr → World → Prop} {f : Fr} {w w' : World} {x : Operand}
variable {dst : Option Tmp} {op : Op} {ty : TypeId} {pos : String} {after : Array Edge} {g : Option (Nat × Bool)} {o : Oper}
theorem lv (v : Value) (hw : cH all ⟨dst, op, ty, pos, after, g⟩ f = true) (h : (execOp (ev f) ⟨dst, op, ty, pos, after, g⟩).run P w = .ok (.value v) w') (hk : gd P all rest K (fp f dst v) w') : gd P all (⟨dst, op, ty, pos, after, g⟩ :: rest) K f w := ig hw h hk
theorem lx {v : Value} (h : (execOp (ev f) ⟨dst, op, ty, pos, after, none⟩).run P w = .ok (.value v) w') (hk : gd P all rest K (fp f dst v) w') : gd P all (⟨dst, op, ty, pos, after, none⟩ :: rest) K f w := ig rfl h hk
theorem lw (v : Value) (h : (execOp (ev f) ⟨dst, op, ty, pos, after, none⟩).run P w = .ok (.value v) w') (hk : gd P all rest K (fp f dst v) w') : gd P all (⟨dst, op, ty, pos, after, none⟩ :: rest) K f w := ig rfl h hk
theorem mv (v : Value) (hk : gd P all rest K (fp f dst v) w) (h : ev f x = v := by exact rfl) : gd P all (⟨dst, .move x, ty, pos, after, none⟩ :: rest) K f w := ig rfl (aJ h) hk
theorem ma (v : Value) (hk : gd P all rest K (fp f dst v) w) (h : ev f x = v := by exact rfl) : gd P all (⟨dst, .assign x, ty, pos, after, none⟩ :: rest) K f w := ig rfl (bJ h) hk
theorem mi (v : Int) (hk : gd P all rest K (fp f dst (.int .i64 v)) w) (h : ev f x = .int .i64 v := by exact rfl) : gd P all (⟨dst, .move x, ty, pos, after, none⟩ :: rest) K f w := ig rfl (aJ h) hk
theorem ai (v : Int) (hk : gd P all rest K (fp f dst (.int .i64 v)) w) (h : ev f x = .int .i64 v := by exact rfl) : gd P all (⟨dst, .assign x, ty, pos, after, none⟩ :: rest) K f w := ig rfl (bJ h) hk
theorem mz {v : Value} (h : ev f x = v) (hk : gd P all rest K (fp f dst v) w) : gd P all (⟨dst, .move x, ty, pos, after, none⟩ :: rest) K f w := ig rfl (aJ h) hk
theorem lo (h : fo P ⟨dst, op, ty, pos, after, none⟩ f w (fun v w' => gd P all rest K (fp f dst v) w')) : gd P all (⟨dst, op, ty, pos, after, none⟩ :: rest) K f w := bN rfl h
theorem wy {j : Nat} {x : Bool} {d : Nat} {b : Bool} (hx : b = x) (hg : o.guard = some (j, x) := by exact rfl) (hj : (all[j]?).bind (·.dst) = some d := by exact rfl) (hb : f d = .bool b := by exact rfl) : cH all o f = true := rX hg hj hb hx
theorem wn {j : Nat} {x : Bool} {d : Nat} {b : Bool} (hx : b = !x) (hg : o.guard = some (j, x) := by exact rfl) (hj : (all[j]?).bind (·.dst) = some d := by exact rfl) (hb : f d = .bool b := by exact rfl) : cH all o f = false := sO hg hj hb hx
variable {C : World → Prop} {KQ : Fr → Prop}
theorem qv (v : Value) (h : ∀ w, C w → (execOp (ev f) ⟨dst, op, ty, pos, after, none⟩).run P w = .ok (.value v) w) (hk : iy P all C rest KQ (fp f dst v)) : iy P all C (⟨dst, op, ty, pos, after, none⟩ :: rest) KQ f := aI rfl h hk
theorem qx {v : Value} (h : ∀ w, C w → (execOp (ev f) ⟨dst, op, ty, pos, after, none⟩).run P w = .ok (.value v) w) (hk : iy P all C rest KQ (fp f dst v)) : iy P all C (⟨dst, op, ty, pos, after, none⟩ :: rest) KQ f := aI rfl h hk
theorem qm (v : Value) (hk : iy P all C rest KQ (fp f dst v)) (h : ev f x = v := by exact rfl) : iy P all C (⟨dst, .move x, ty, pos, after, none⟩ :: rest) KQ f := aI rfl (fun _ _ => aJ h) hk
theorem qz {v : Value} (h : ev f x = v) (hk : iy P all C rest KQ (fp f dst v)) : iy P all C (⟨dst, .move x, ty, pos, after, none⟩ :: rest) KQ f := aI rfl (fun _ _ => aJ h) hk
end
section
variable {P : Program} {n : Nat} {l : List Oper} {S : World → Prop} {K : Fr → World → Prop} {f : Fr} {w : World} {done : List Nat} {fuel : Nat} {qs : List Nat}
variable {dst : Option Tmp} {op : Op} {ty : TypeId} {pos : String} {after : Array Edge} {g : Option (Nat × Bool)} {v : Value}
theorem ht (i : Nat) (hi : l[i]? = some ⟨dst, op, ty, pos, after, none⟩) (hS : S w) (h : ∀ w, S w → (execOp (ev f) ⟨dst, op, ty, pos, after, none⟩).run P w = .ok (.value v) w) (hk : ny P n l S K fuel (i :: done) (fp f dst v) w) (hn : go l = true := by kernel_rfl) (hc : (fE l done i && ik l done i && jW n ⟨dst, op, ty, pos, after, none⟩) = true := by kernel_rfl) : ny P n l S K (fuel + 1) done f w := s6 i hi hn hc rfl hS h hk
theorem xv (i : Nat) (M : List Nat) (hi : l[i]? = some ⟨dst, op, ty, pos, after, none⟩) (h : (execOp (ev f) ⟨dst, op, ty, pos, after, none⟩).run P w = .ok (.value v) w) (hk : nu P n l qs K fuel (i :: done) (fp f dst v) w) (hn : go l = true := by kernel_rfl) (hc : (qs.contains i && fE l done i && ik l done i && ju l qs done M i && jW n ⟨dst, op, ty, pos, after, none⟩) = true := by kernel_rfl) : nu P n l qs K (fuel + 1) done f w := td i M hi hn hc rfl h hk
theorem xp (i : Nat) (hi : l[i]? = some ⟨dst, op, ty, pos, after, none⟩) (h : ∀ w, (execOp (ev f) ⟨dst, op, ty, pos, after, none⟩).run P w = .ok (.value v) w) (hk : nu P n l qs K fuel (i :: done) (fp f dst v) w) (hn : go l = true := by kernel_rfl) (hc : (qs.contains i && fE l done i && ik l done i && jW n ⟨dst, op, ty, pos, after, none⟩) = true := by kernel_rfl) : nu P n l qs K (fuel + 1) done f w := rW i hi hn hc rfl h hk
end
section
variable {γ γ' : aS} {w w' : World} {v : Value} {j k : Nat} {L : List Nat}
theorem bh.ca {w0 : World} (h : bh w0 γ w) (hc : aQ (bE L) γ w γ' w') (hj : L.contains 0 = false := by exact rfl) : bh w0 γ' w' := h.chg hc (aL hj)
theorem bh.ce {w0 : World} (h : bh w0 γ w) (hc : aQ (is k) γ w γ' w') (hj : Nat.beq 0 k = false := by exact rfl) : bh w0 γ' w' := h.chg hc (eo hj)
theorem bh.cn {w0 : World} (h : bh w0 γ w) (hc : aQ no γ w γ' w') : bh w0 γ' w' := h.chg hc (fB _)
theorem Bx.ca {b : Nat} {cs : List Value} (h : Bx γ (is j) w b cs) (hc : aQ (bE L) γ w γ' w') (hj : L.contains j = false := by exact rfl) : Bx γ' (is j) w' b cs := h.chg hc (aL hj)
theorem Bx.ce {b : Nat} {cs : List Value} (h : Bx γ (is j) w b cs) (hc : aQ (is k) γ w γ' w') (hj : Nat.beq j k = false := by exact rfl) : Bx γ' (is j) w' b cs := h.chg hc (eo hj)
theorem Bx.cn {J : cj → Prop} {b : Nat} {cs : List Value} (h : Bx γ J w b cs) (hc : aQ no γ w γ' w') : Bx γ' J w' b cs := h.chg hc (fB _)
theorem Sl.ca {α : Type} [Rp α] {xs : List α} (h : Sl γ (is j) w v xs) (hc : aQ (bE L) γ w γ' w') (hj : L.contains j = false := by exact rfl) : Sl γ' (is j) w' v xs := h.chg hc (aL hj)
theorem Sl.ce {α : Type} [Rp α] {xs : List α} (h : Sl γ (is j) w v xs) (hc : aQ (is k) γ w γ' w') (hj : Nat.beq j k = false := by exact rfl) : Sl γ' (is j) w' v xs := h.chg hc (eo hj)
theorem Sl.cn {α : Type} [Rp α] {S : cj → Prop} {xs : List α} (h : Sl γ S w v xs) (hc : aQ no γ w γ' w') : Sl γ' S w' v xs := h.chg hc (fB _)
theorem Ow.ca {α : Type} [Rp α] {xs : List α} (h : Ow γ (is j) (is j) w v xs) (hc : aQ (bE L) γ w γ' w') (hj : L.contains j = false := by exact rfl) : Ow γ' (is j) (is j) w' v xs := h.chg hc (aL hj) (aL hj)
theorem Ow.ce {α : Type} [Rp α] {xs : List α} (h : Ow γ (is j) (is j) w v xs) (hc : aQ (is k) γ w γ' w') (hj : Nat.beq j k = false := by exact rfl) : Ow γ' (is j) (is j) w' v xs := h.chg hc (eo hj) (eo hj)
theorem Ow.cn {α : Type} [Rp α] {J S : cj → Prop} {xs : List α} (h : Ow γ J S w v xs) (hc : aQ no γ w γ' w') : Ow γ' J S w' v xs := h.chg hc (fB _) (fB _)
theorem dD.ca {α : Type} [Rp α] {xs : List (List α)} (h : dD γ j w v xs) (hc : aQ (bE L) γ w γ' w') (hj : L.contains j = false := by exact rfl) : dD γ' j w' v xs := h.chg hc (aL hj)
theorem dD.ce {α : Type} [Rp α] {xs : List (List α)} (h : dD γ j w v xs) (hc : aQ (is k) γ w γ' w') (hj : Nat.beq j k = false := by exact rfl) : dD γ' j w' v xs := h.chg hc (eo hj)
theorem dD.cn {α : Type} [Rp α] {xs : List (List α)} (h : dD γ j w v xs) (hc : aQ no γ w γ' w') : dD γ' j w' v xs := h.chg hc (fB _)
theorem eP.ca {α : Type} [Rp α] {h0 : Nat} {xs : List (List α)} (h : eP γ j h0 w v xs) (hc : aQ (bE L) γ w γ' w') (hj : L.contains j = false := by exact rfl) : eP γ' j h0 w' v xs := h.chg hc (aL hj)
theorem eP.ce {α : Type} [Rp α] {h0 : Nat} {xs : List (List α)} (h : eP γ j h0 w v xs) (hc : aQ (is k) γ w γ' w') (hj : Nat.beq j k = false := by exact rfl) : eP γ' j h0 w' v xs := h.chg hc (eo hj)
theorem eP.cn {α : Type} [Rp α] {h0 : Nat} {xs : List (List α)} (h : eP γ j h0 w v xs) (hc : aQ no γ w γ' w') : eP γ' j h0 w' v xs := h.chg hc (fB _)
def tx (δ g : aS) (w : World) (ren : Nat → Nat) : Prop := (∀ {α : Type} [Rp α] {i : Nat} {v : Value} {xs : List α}, Ow δ (is i) (is i) w v xs → ∀ k : Nat, Nat.beq i 0 = false → ren i = k → Ow g (is k) (is k) w v xs) ∧ (∀ {α : Type} [Rp α] {i : Nat} {v : Value} {xs : List (List α)}, dD δ i w v xs → ∀ k : Nat, Nat.beq i 0 = false → ren i = k → dD g k w v xs)
theorem nF {δ : aS} (γ : aS) (fr : g7 w δ w') (ren : Nat → Nat) : ∃ g, aQ no γ w g w' ∧ tx δ g w' ren :=
 ⟨_, nS fr.below γ δ ren, fun h k hi hr => h.glue fr.col hi hr, fun h k hi hr => h.glue fr.col hi hr⟩
theorem Ow.gl {α : Type} [Rp α] {δ g : aS} {ren : Nat → Nat} {i : Nat} {xs : List α} (h : Ow δ (is i) (is i) w v xs) (G : tx δ g w ren) (k : Nat) (hi : Nat.beq i 0 = false := by exact rfl) (hr : ren i = k := by exact rfl) : Ow g (is k) (is k) w v xs := G.1 h k hi hr
theorem dD.gl {α : Type} [Rp α] {δ g : aS} {ren : Nat → Nat} {i : Nat} {xs : List (List α)} (h : dD δ i w v xs) (G : tx δ g w ren) (k : Nat) (hi : Nat.beq i 0 = false := by exact rfl) (hr : ren i = k := by exact rfl) : dD g k w v xs := G.2 h k hi hr
end
end TL
/-
  TlGeom: points with whole coordinates: turns, segments, how they meet.
  By an AI agent.
-/
set_option linter.all false
namespace TL
abbrev Pt := Int × Int
def br (x y : Int) : Int := if x < y then -1 else if y < x then 1 else 0
theorem nt (x : Int) : br x 0 = x.sign := by
 unfold br
 rcases Int.lt_trichotomy x 0 with h | h | h
 · rw [if_pos h, Int.sign_eq_neg_one_of_neg h]
 · subst h; rfl
 · rw [if_neg (by omega), if_pos h, Int.sign_eq_one_of_pos h]
theorem fq (x : Int) : x.sign = -1 ∧ x < 0 ∨ x.sign = 0 ∧ x = 0 ∨ x.sign = 1 ∧ 0 < x := by
 rcases Int.lt_trichotomy x 0 with h | h | h
 · exact .inl ⟨Int.sign_eq_neg_one_of_neg h, h⟩
 · exact .inr (.inl ⟨by rw [h]; rfl, h⟩)
 · exact .inr (.inr ⟨Int.sign_eq_one_of_pos h, h⟩)
def dn (a b : Pt) : Int := a.1 * b.2 - a.2 * b.1
def aV (b a : Pt) : Pt := (b.1 - a.1, b.2 - a.2)
def bi (a b c : Pt) : Int := br (dn (aV b a) (aV c a)) 0
theorem iL {a b c : Pt} : bi a b c = 0 ↔ (b.1 - a.1) * (c.2 - a.2) = (b.2 - a.2) * (c.1 - a.1) := by
 unfold bi
 rw [nt, Int.sign_eq_zero_iff_zero]
 unfold dn aV
 simp only
 omega
theorem eH (a b c : Pt) : -1 ≤ bi a b c ∧ bi a b c ≤ 1 := by unfold bi br; split <;> (try split) <;> omega
def i3 (a b p : Pt) : Prop := (min a.1 b.1 ≤ p.1 ∧ p.1 ≤ max a.1 b.1) ∧ min a.2 b.2 ≤ p.2 ∧ p.2 ≤ max a.2 b.2
instance (a b p : Pt) : Decidable (i3 a b p) := by unfold i3; infer_instance
def bm (a b p : Pt) : Prop := bi a b p = 0 ∧ i3 a b p
instance (a b p : Pt) : Decidable (bm a b p) := by unfold bm; infer_instance
theorem fS (a b : Pt) : bm a b a ∧ bm a b b := by
 have e1 : bi a b a = 0 := iL.2 (by simp)
 have e2 : bi a b b = 0 := iL.2 (by rw [Int.mul_comm])
 unfold bm i3
 rw [e1, e2]
 omega
def aO (a b : Pt) : Int := if br a.1 b.1 ≠ 0 then br a.1 b.1 else br a.2 b.2
def aY (a b c d : Pt) : Int :=
 let a' := if 0 < aO a b then b else a
 let b' := if 0 < aO a b then a else b
 let c' := if 0 < aO c d then d else c
 let d' := if 0 < aO c d then c else d
 let low := if 0 < aO c' a' then c' else a'
 let high := if aO d' b' < 0 then d' else b'
 if 0 < aO low high then 0 else if aO low high = 0 then 2 else 3
def aX (a b c d : Pt) : Int :=
 if bi a b c = 0 ∧ bi a b d = 0 ∧ bi c d a = 0 ∧ bi c d b = 0 then aY a b c d
 else if bi a b c * bi a b d < 0 ∧ bi c d a * bi c d b < 0 then 1
 else if bm a b c ∨ bm a b d ∨ bm c d a ∨ bm c d b then 2 else 0
def key (p : Pt) : Int := p.1 * 1073741824 + p.2
def dx (p : Pt) : Prop := (-4194304 ≤ p.1 ∧ p.1 ≤ 4194304) ∧ -4194304 ≤ p.2 ∧ p.2 ≤ 4194304
theorem eW {a b : Pt} (ha : dx a) (hb : dx b) : aO a b = br (key a) (key b) := by
 unfold aO br key
 unfold dx at ha hb
 repeat' split
 all_goals omega
def dN (a b c d : Int) : Int :=
 if min (max a b) (max c d) < max (min a b) (min c d) then 0 else if min (max a b) (max c d) = max (min a b) (min c d) then 2 else 3
theorem ft {x y : Int} : 0 < br x y ↔ y < x := by unfold br; split <;> (try split) <;> omega
theorem km {x y : Int} : br x y < 0 ↔ x < y := by unfold br; split <;> (try split) <;> omega
theorem mh {x y : Int} : br x y = 0 ↔ x = y := by unfold br; split <;> (try split) <;> omega
theorem np {a b c d : Pt} (ha : dx a) (hb : dx b) (hc : dx c) (hd : dx d) : aY a b c d = dN (key a) (key b) (key c) (key d) := by
 unfold aY
 simp only
 have e1 : 0 < aO a b ↔ key b < key a := by rw [eW ha hb, ft]
 have e2 : 0 < aO c d ↔ key d < key c := by rw [eW hc hd, ft]
 have fin : ∀ a b c d : Pt, dx a → dx b → dx c → dx d → key a ≤ key b → key c ≤ key d →
     (if 0 < aO (if 0 < aO c a then c else a) (if aO d b < 0 then d else b) then (0 : Int) else if aO (if 0 < aO c a then c else a) (if aO d b < 0 then d else b) = 0 then 2 else 3) = dN (key a) (key b) (key c) (key d) := by
   intro a b c d ha hb hc hd h1 h2
   have e3 : 0 < aO c a ↔ key a < key c := by rw [eW hc ha, ft]
   have e4 : aO d b < 0 ↔ key d < key b := by rw [eW hd hb, km]
   have low : ∃ p, (if 0 < aO c a then c else a) = p ∧ dx p ∧ key p = max (key a) (key c) := by
     by_cases h : 0 < aO c a
     · rw [if_pos h]; exact ⟨c, rfl, hc, by have := e3.1 h; omega⟩
     · rw [if_neg h]; exact ⟨a, rfl, ha, by have := mt e3.2 h; omega⟩
   have high : ∃ p, (if aO d b < 0 then d else b) = p ∧ dx p ∧ key p = min (key b) (key d) := by
     by_cases h : aO d b < 0
     · rw [if_pos h]; exact ⟨d, rfl, hd, by have := e4.1 h; omega⟩
     · rw [if_neg h]; exact ⟨b, rfl, hb, by have := mt e4.2 h; omega⟩
   obtain ⟨p, ep, hp, kp⟩ := low
   obtain ⟨q, eq, hq, kq⟩ := high
   rw [ep, eq, eW hp hq]
   unfold dN
   have m1 : max (key a) (key b) = key b := by omega
   have m2 : max (key c) (key d) = key d := by omega
   have m3 : min (key a) (key b) = key a := by omega
   have m4 : min (key c) (key d) = key c := by omega
   rw [m1, m2, m3, m4, ← kp, ← kq]
   by_cases c1 : key q < key p
   · rw [if_pos (ft.2 c1), if_pos c1]
   · rw [if_neg (mt ft.1 c1), if_neg c1]
     by_cases c2 : key q = key p
     · rw [if_pos (mh.2 c2.symm), if_pos c2]
     · rw [if_neg (fun h => c2 (mh.1 h).symm), if_neg c2]
 have lk1 : ∀ x y z t : Int, dN y x z t = dN x y z t := fun x y z t => by unfold dN; rw [Int.max_comm y x, Int.min_comm y x]
 have lk2 : ∀ x y z t : Int, dN x y t z = dN x y z t := fun x y z t => by unfold dN; rw [Int.max_comm t z, Int.min_comm t z]
 by_cases c1 : 0 < aO a b
 · have k1 := e1.1 c1
   by_cases c2 : 0 < aO c d
   · have k2 := e2.1 c2
     simp only [if_pos c1, if_pos c2]
     rw [fin b a d c hb ha hd hc (by omega) (by omega), lk1, lk2]
   · have k2 := mt e2.2 c2
     simp only [if_pos c1, if_neg c2]
     rw [fin b a c d hb ha hc hd (by omega) (by omega), lk1]
 · have k1 := mt e1.2 c1
   by_cases c2 : 0 < aO c d
   · have k2 := e2.1 c2
     simp only [if_neg c1, if_pos c2]
     rw [fin a b d c ha hb hd hc (by omega) (by omega), lk2]
   · have k2 := mt e2.2 c2
     simp only [if_neg c1, if_neg c2]
     rw [fin a b c d ha hb hc hd (by omega) (by omega)]
theorem kV (x y z t : Int) : (min (max x y) (max z t) < max (min x y) (min z t)) ↔ ((x < z ∧ x < t) ∧ y < z ∧ y < t) ∨ ((z < x ∧ t < x) ∧ z < y ∧ t < y) := by omega
theorem jX (x y z t : Int) : (max (min x y) (min z t) < min (max x y) (max z t)) ↔ ((x < y ∨ y < x) ∧ (z < t ∨ t < z)) ∧ ((x < z ∨ x < t) ∨ y < z ∨ y < t) ∧ ((z < x ∨ t < x) ∨ z < y ∨ t < y) := by omega
theorem iS {x y z t x' y' z' t' : Int} (h1 : x < y ↔ x' < y') (h1' : y < x ↔ y' < x') (h2 : x < z ↔ x' < z') (h2' : z < x ↔ z' < x') (h3 : x < t ↔ x' < t') (h3' : t < x ↔ t' < x') (h4 : y < z ↔ y' < z') (h4' : z < y ↔ z' < y') (h5 : y < t ↔ y' < t') (h5' : t < y ↔ t' < y') (h6 : z < t ↔ z' < t') (h6' : t < z ↔ t' < z') : dN x' y' z' t' = dN x y z t := by
  have e1 : (min (max x' y') (max z' t') < max (min x' y') (min z' t')) ↔ (min (max x y) (max z t) < max (min x y) (min z t)) := by
    rw [kV, kV, h2, h2', h3, h3', h4, h4', h5, h5']
  have e2 : (max (min x' y') (min z' t') < min (max x' y') (max z' t')) ↔ (max (min x y) (min z t) < min (max x y) (max z t)) := by
    rw [jX, jX, h1, h1', h2, h2', h3, h3', h4, h4', h5, h5', h6, h6']
  have e3 : (min (max x' y') (max z' t') = max (min x' y') (min z' t')) ↔ (min (max x y) (max z t) = max (min x y) (min z t)) := by
    constructor
    · intro h
      have a := mt e1.2 (by omega)
      have b := mt e2.2 (by omega)
      omega
    · intro h
      have a := mt e1.1 (by omega)
      have b := mt e2.1 (by omega)
      omega
  unfold dN
  simp only [e1, e3]
theorem nc (x y z t : Int) : dN (-x) (-y) (-z) (-t) = dN x y z t := by
 unfold dN
 have e1 : (min (max (-x) (-y)) (max (-z) (-t)) < max (min (-x) (-y)) (min (-z) (-t))) ↔ (min (max x y) (max z t) < max (min x y) (min z t)) := by omega
 have e2 : (min (max (-x) (-y)) (max (-z) (-t)) = max (min (-x) (-y)) (min (-z) (-t))) ↔ (min (max x y) (max z t) = max (min x y) (min z t)) := by omega
 simp only [e1, e2]
end TL
namespace TL
theorem dR {x y : Int} (h1 : -16777216 ≤ x ∧ x ≤ 16777216) (h2 : -16777216 ≤ y ∧ y ≤ 16777216) : -281474976710656 ≤ x * y ∧ x * y ≤ 281474976710656 := by
 have h := Int.natAbs_mul x y
 have a : x.natAbs ≤ 16777216 := by omega
 have b : y.natAbs ≤ 16777216 := by omega
 have c : x.natAbs * y.natAbs ≤ 16777216 * 16777216 := Nat.mul_le_mul a b
 omega
def sW (p : Pt) : Prop := (-16777216 ≤ p.1 ∧ p.1 ≤ 16777216) ∧ -16777216 ≤ p.2 ∧ p.2 ≤ 16777216
theorem fT {a b : Pt} (ha : dx a) (hb : dx b) : sW (aV b a) := by
 unfold dx at ha hb
 unfold sW aV
 simp only
 omega
def cq (p : Pt) : Prop := (-1048576 ≤ p.1 ∧ p.1 ≤ 1048576) ∧ -1048576 ≤ p.2 ∧ p.2 ≤ 1048576
instance (p : Pt) : Decidable (cq p) := by unfold cq; infer_instance
theorem cq.bd {p : Pt} (h : cq p) : dx p := by unfold cq at h; unfold dx; omega
def cW (ps : List Pt) : Prop := ps.length ≤ 4096 ∧ ∀ p ∈ ps, cq p
instance (ps : List Pt) : Decidable (cW ps) := by unfold cW; infer_instance
theorem nC {ps : List Pt} (h : ∀ j : Nat, j < ps.length → cq (gI ps (j : Int))) : ∀ p ∈ ps, cq p := fun p hp => by
 obtain ⟨i, hi, rfl⟩ := List.mem_iff_getElem.1 hp
 have := h i hi
 have e : gI ps (i : Int) = ps[i] := by simp [gI, hi]
 rwa [e] at this
def iC : List Int → Int
 | [] => 0
 | x :: l => if x = 0 then iC l else x
theorem oS (a b : Pt) : aO a b = iC [br a.1 b.1, br a.2 b.2] := by
 unfold aO iC
 by_cases h : br a.1 b.1 = 0
 · rw [if_neg (by simp [h]), if_pos h]
   unfold iC
   by_cases h2 : br a.2 b.2 = 0
   · rw [if_pos h2, h2]; rfl
   · rw [if_neg h2]
 · rw [if_pos h, if_neg h]
theorem oo {l : List Int} {k : Nat} (h : ∀ j : Nat, j < k → gI l (j : Int) = 0) (hk : (k : Int) < l.length) (hx : gI l (k : Int) ≠ 0) : gI l (k : Int) = iC l := by
 induction l generalizing k with
 | nil => simp at hk; omega
 | cons a l ih =>
   cases k with
   | zero =>
     have e : gI (a :: l) ((0 : Nat) : Int) = a := by simp [gI]
     rw [e] at hx ⊢
     unfold iC; rw [if_neg hx]
   | succ k =>
     have e : ∀ j : Nat, gI (a :: l) ((j + 1 : Nat) : Int) = gI l (j : Int) := fun j => by simp [gI]
     have e0 : gI (a :: l) ((0 : Nat) : Int) = a := by simp [gI]
     have h0 := h 0 (by omega)
     rw [e0] at h0
     rw [e] at hx ⊢
     unfold iC; rw [if_pos h0]
     exact ih (fun j hj => by rw [← e]; exact h (j + 1) (by omega)) (by simp at hk; omega) hx
theorem oX {l : List Int} {k : Nat} (h : ∀ j : Nat, j < k → gI l (j : Int) = 0) (hk : ¬ (k : Int) < l.length) : 0 = iC l := by
 induction l generalizing k with
 | nil => rfl
 | cons a l ih =>
   have e : ∀ j : Nat, gI (a :: l) ((j + 1 : Nat) : Int) = gI l (j : Int) := fun j => by simp [gI]
   have e0 : gI (a :: l) ((0 : Nat) : Int) = a := by simp [gI]
   simp at hk
   have h0 := h 0 (by omega)
   rw [e0] at h0
   unfold iC; rw [if_pos h0]
   exact ih (k := k - 1) (fun j hj => by rw [← e]; exact h (j + 1) (by omega)) (by omega)
def dK (a b c : Pt) : Bool × Int := if cq a ∧ cq b ∧ cq c then (decide (bm a b c), 0) else (false, 1)
def cP (a b c d : Pt) : Int × Int := if (cq a ∧ cq b) ∧ cq c ∧ cq d then (aX a b c d, 0) else (0, 1)
theorem sY {a b c : Pt} : cW [a, b, c] ↔ cq a ∧ cq b ∧ cq c := by simp [cW]
theorem tg {a b c d : Pt} : cW [a, b, c, d] ↔ (cq a ∧ cq b) ∧ cq c ∧ cq d := by simp [cW, and_assoc]
theorem s5 {a : Pt} : cW [a] ↔ cq a := by simp [cW]
def bQ (p : Pt) : Int := if 0 < p.1 ∨ p.1 = 0 ∧ 0 < p.2 then 0 else 1
section
variable {a b c d : Pt}
theorem ll (h1 : bi a b c = 0) (h2 : bi a b d = 0) (h3 : bi c d a = 0) (h4 : bi c d b = 0) : aY a b c d = aX a b c d := by
 unfold aX; rw [if_pos ⟨h1, h2, h3, h4⟩]
theorem eK (h1 : bi a b c * bi a b d < 0) (h2 : bi c d a * bi c d b < 0) : 1 = aX a b c d := by
 unfold aX
 rw [if_neg (fun h => by rw [h.1, Int.zero_mul] at h1; omega), if_pos ⟨h1, h2⟩]
theorem b9 (h0 : ¬ (bi a b c = 0 ∧ bi a b d = 0 ∧ bi c d a = 0 ∧ bi c d b = 0)) (h1 : ¬ (bi a b c * bi a b d < 0 ∧ bi c d a * bi c d b < 0)) (h2 : bm a b c ∨ bm a b d ∨ bm c d a ∨ bm c d b) : 2 = aX a b c d := by
 unfold aX
 rw [if_neg h0, if_neg h1, if_pos h2]
theorem cY (h0 : ¬ (bi a b c = 0 ∧ bi a b d = 0 ∧ bi c d a = 0 ∧ bi c d b = 0)) (h1 : ¬ (bi a b c * bi a b d < 0 ∧ bi c d a * bi c d b < 0)) (h2 : ¬ (bm a b c ∨ bm a b d ∨ bm c d a ∨ bm c d b)) : 0 = aX a b c d := by
 unfold aX
 rw [if_neg h0, if_neg h1, if_neg h2]
end
end TL
/-
  TlGeomR: what is told of many points: areas, boxes, whether a polyline is simple.
  By an AI agent.
-/
set_option linter.all false
namespace TL
def nA (ps : List Pt) : Nat → Pt
 | 0 => gI ps 0
 | k + 1 => (min (nA ps k).1 (gI ps (k : Int)).1, min (nA ps k).2 (gI ps (k : Int)).2)
def nv (ps : List Pt) : Nat → Pt
 | 0 => gI ps 0
 | k + 1 => (max (nv ps k).1 (gI ps (k : Int)).1, max (nv ps k).2 (gI ps (k : Int)).2)
def c5 (ps : List Pt) : Prop := 4 ≤ (ps.length : Int) ∧ gI ps 0 = gI ps ((ps.length : Int) - 1)
instance (ps : List Pt) : Decidable (c5 ps) := by unfold c5; infer_instance
def eX (ps : List Pt) (i k : Nat) : Prop := k = i + 1 ∨ i = 0 ∧ (k : Int) = (ps.length : Int) - 2 ∧ c5 ps
instance (ps : List Pt) (i k : Nat) : Decidable (eX ps i k) := by unfold eX; infer_instance
def tI (ps : List Pt) (i k : Nat) : Int := aX (gI ps (i : Int)) (gI ps ((i : Int) + 1)) (gI ps (k : Int)) (gI ps ((k : Int) + 1))
def gu (ps : List Pt) (i k : Nat) : Prop := eX ps i k ∧ tI ps i k = 3 ∨ ¬ eX ps i k ∧ tI ps i k ≠ 0
instance (ps : List Pt) (i k : Nat) : Decidable (gu ps i k) := by unfold gu; infer_instance
def mU (ps : List Pt) (i : Nat) : Prop := gI ps (i : Int) ≠ gI ps ((i : Int) + 1) ∧ ∀ k < ps.length, i < k → (k : Int) ≤ (ps.length : Int) - 2 → ¬ gu ps i k
instance (ps : List Pt) (i : Nat) : Decidable (mU ps i) := by unfold mU; infer_instance
def gM (ps : List Pt) : Prop := ∀ i < ps.length, (i : Int) ≤ (ps.length : Int) - 2 → mU ps i
instance (ps : List Pt) : Decidable (gM ps) := by unfold gM; infer_instance
def dl (ps : List Pt) : Bool × Int := if (ps.length : Int) = 0 ∨ ¬ cW ps then (false, 1) else (decide (gM ps), 0)
section
variable {ps : List Pt}
theorem gH (h : (ps.length : Int) = 0 ∨ ¬ cW ps) : dl ps = (false, 1) := by unfold dl; rw [if_pos h]
theorem d3 (h0 : ¬ (ps.length : Int) = 0) (h : cW ps) : dl ps = (decide (gM ps), 0) := by unfold dl; rw [if_neg (by rintro (c | c); exact h0 c; exact c h)]
theorem sL {i : Nat} (hi : (i : Int) ≤ (ps.length : Int) - 2) (h : gI ps (i : Int) = gI ps ((i : Int) + 1)) : false = decide (gM ps) :=
 (decide_eq_false fun hs => (hs i (by omega) hi).1 h).symm
theorem gC {i k : Nat} (hi : (i : Int) ≤ (ps.length : Int) - 2) (hk : (k : Int) ≤ (ps.length : Int) - 2) (hik : i < k) (h : gu ps i k) : false = decide (gM ps) :=
 (decide_eq_false fun hs => (hs i (by omega) hi).2 k (by omega) hik hk h).symm
theorem pD {i : Nat} (h : ∀ j : Nat, j < i → mU ps j) (hi : ¬ (i : Int) ≤ (ps.length : Int) - 2) : true = decide (gM ps) :=
 (decide_eq_true fun j _ hj2 => h j (by omega)).symm
variable {i k : Nat}
theorem rR (h : (k : Int) = (i : Int) + 1) : eX ps i k := .inl (by omega)
theorem rx (h1 : (i : Int) = 0) (h2 : (k : Int) = (ps.length : Int) - 2) (h3 : decide (c5 ps) = true) : eX ps i k := .inr ⟨by omega, h2, of_decide_eq_true h3⟩
theorem mw (h : ¬ (k : Int) = (i : Int) + 1) (h1 : ¬ (i : Int) = 0) : ¬ eX ps i k := by
 rintro (c | ⟨c, _⟩) <;> omega
theorem mF (h : ¬ (k : Int) = (i : Int) + 1) (h1 : ¬ (k : Int) = (ps.length : Int) - 2) : ¬ eX ps i k := by
 rintro (c | ⟨_, c, _⟩) <;> omega
theorem mu (h : ¬ (k : Int) = (i : Int) + 1) (h1 : ¬ decide (c5 ps) = true) : ¬ eX ps i k := by
 rintro (c | ⟨_, _, c⟩)
 · omega
 · exact h1 (decide_eq_true c)
theorem sZ (hj : eX ps i k) (hm : aX (gI ps (i : Int)) (gI ps ((i : Int) + 1)) (gI ps (k : Int)) (gI ps ((k : Int) + 1)) = 3) : gu ps i k := .inl ⟨hj, hm⟩
theorem sG (hj : ¬ eX ps i k) (hm : ¬ aX (gI ps (i : Int)) (gI ps ((i : Int) + 1)) (gI ps (k : Int)) (gI ps ((k : Int) + 1)) = 0) : gu ps i k := .inr ⟨hj, hm⟩
theorem rC (hj : eX ps i k) (hm : ¬ aX (gI ps (i : Int)) (gI ps ((i : Int) + 1)) (gI ps (k : Int)) (gI ps ((k : Int) + 1)) = 3) : ¬ gu ps i k := by
 rintro (⟨_, h⟩ | ⟨h, _⟩)
 · exact hm h
 · exact h hj
theorem pm (hj : ¬ eX ps i k) (hm : aX (gI ps (i : Int)) (gI ps ((i : Int) + 1)) (gI ps (k : Int)) (gI ps ((k : Int) + 1)) = 0) : ¬ gu ps i k := by
 rintro (⟨h, _⟩ | ⟨_, h⟩)
 · exact hj h
 · exact h hm
end
end TL
/-
  TlConv: whole numbers turned to another kind, a string's byte, functions that bear values.
  By an AI agent.
-/
set_option linter.all false
namespace TL
open Go
section
variable {P : Program} {w : World} {f : Fr} {dst : Option Tmp} {ty : TypeId} {pos : String} {after : Array Edge} {g : Option (Nat × Bool)} {x y : Operand} {s d t : TypeId} {m : Int} {k k0 : IntKind}
theorem lu {fid : Nat} {cs : List Operand} {vals : List Value} (h : cs.map (ev f) = vals) : (execOp (ev f) ⟨dst, .makeFunc (.func fid) #[] cs.toArray, ty, pos, after, g⟩).run P w = .ok (.value (.func (.func fid) #[] vals.toArray)) w := by
 have h : cs.toArray.map (ev f) = vals.toArray := by rw [← h]; simp
 simp [execOp, Instr.makeFunc, h]
end
end TL
namespace TL
open Go
section
variable {P : Program} {w : World} {f : Fr} {dst : Option Tmp} {ty : TypeId} {pos : String} {after : Array Edge} {g : Option (Nat × Bool)} {x y : Operand} {t t' : TypeId}
theorem ef {fs : Array Field} {xs ys : List Value} {bs : List Bool} {q : Bool} (ht : P.underlying t = some (.struct fs)) (hp : P.stoodInHeld t = false) (hg : P.eqGuardType P.depth t = false) (hx : ev f x = .agg xs.toArray) (hy : ev f y = .agg ys.toArray) (h : EqF P xs.toArray ys.toArray fs.toList bs) (hq : bs.all id = q) :
   (execOp (ev f) ⟨dst, .binOp .neq t x y t', ty, pos, after, g⟩).run P w = .ok (.value (.bool !q)) w := by
 have e1 : P.fieldsOf t = fs := by simp [Program.fieldsOf, ht]
 have hr : (Op.equal t (.agg xs.toArray) (.agg ys.toArray)).run P w = .ok q w := by
   have := run_equalIn_struct (P := P) w 9999 t xs.toArray ys.toArray (by rw [e1]; exact ht) hp
   rw [e1, fg h 9998, hq] at this
   exact this
 exact nP .neq hx hy (by simp [eqGuard, hg]) (by simp [binOp, hr])
end
end TL
namespace TL
open Go
section
variable {P : Program} {w : World} {f : Fr} {dst : Option Tmp} {ty : TypeId} {pos : String} {after : Array Edge} {g : Option (Nat × Bool)} {x y : Operand} {t t' : TypeId}
end
end TL
/-
  TlMap: maps that the call makes.
  By an AI agent.
-/
set_option linter.all false
namespace TL
open Go
class Ky (K : Type) where
  val : K → Value
structure mr (P : Program) (kt : TypeId) (K : Type) [DecidableEq K] [Ky K] : Prop where
 check : ∀ (b : Bool) (k : K) (w : World), (Instr.checkKey b 10000 kt (Ky.val k)).run P w = .ok () w
 find : ∀ (k : K) (es : List MapEntry) (ks : List K) (w : World), es.map (·.key) = ks.map Ky.val → (Instr.findKey kt (Ky.val k) es).run P w = .ok ((ks.findIdx? (· = k)).bind fun i => (es[i]?).map fun e => (i, e.val)) w
 bits : ∀ k : K, Instr.sameBits 10000 (Ky.val k) (Ky.val k) = true
section
variable {P : Program} {f : Fr} {w : World} {dst : Option Tmp} {ty : TypeId} {pos : String} {after : Array Edge} {g : Option (Nat × Bool)} {t : TypeId} {x y z : Operand} {N : Value → World → Prop}
theorem di {r : Nat} {es : Array MapEntry} {clock : Nat} (h : w.heap[r]? = some (.map es clock)) : (getObj r).run P w = .ok (.map es clock) w := by
 simp [getObj, Sem.run, h]
theorem ex {r : Nat} {es : Array MapEntry} {clock : Nat} {o : Obj} (h : w.heap[r]? = some (.map es clock)) : (setObj r o).run P w = .ok () { w with heap := w.heap.setIfInBounds r o } := by
 simp [setObj, Sem.run, h]
theorem gi (γ : aS) {r : Nat} (o : Obj) {J : cj → Prop} (hJ : J (γ r)) : aQ J γ w γ { w with heap := w.heap.setIfInBounds r o } :=
 ⟨rfl, rfl, rfl, by simp, fun _ _ _ => rfl, fun k _ hk => by
   have : r ≠ k := fun h => hk (h ▸ hJ)
   simp [Array.getElem?_setIfInBounds_ne this], Nat.le_refl _⟩
theorem fM {r : Nat} {o o' : Obj} (h : w.heap[r]? = some o') : ({ w with heap := w.heap.setIfInBounds r o } : World).heap[r]? = some o := by
 have := cF h
 simp [this]
end
instance : Ky Int where
 val k := .int .i64 k
instance : Ky (Int × Int) where
 val k := .agg (List.toArray [.int .i64 k.1, .int .i64 k.2])
end TL
namespace TL
open Go
end TL
/-
  TlGeomL: how segments meet, moved, turned, named another way about.
  By an AI agent.
-/
set_option linter.all false
namespace TL
theorem jr (x y : Int) : br x y = (x - y).sign := by
 unfold br
 rcases fq (x - y) with ⟨h, h'⟩ | ⟨h, h'⟩ | ⟨h, h'⟩
 · rw [h, if_pos (by omega)]
 · rw [h, if_neg (by omega), if_neg (by omega)]
 · rw [h, if_neg (by omega), if_pos (by omega)]
def fL (u w : Pt) : Prop := u.1 * w.2 = u.2 * w.1
def Dw (w p : Pt) : Int := p.1 * w.1 + p.2 * w.2
theorem lE (w p q : Pt) : Dw w (aV p q) = Dw w p - Dw w q := by
 unfold Dw aV; simp only; grind
theorem j0 {u w : Pt} (h : fL u w) : u.1 * (w.1 * w.1 + w.2 * w.2) = Dw w u * w.1 ∧ u.2 * (w.1 * w.1 + w.2 * w.2) = Dw w u * w.2 := by
 unfold fL at h
 unfold Dw
 constructor <;> grind
theorem i0 (x : Int) : 0 ≤ x * x := by
 rcases Int.le_total 0 x with h | h
 · exact Int.mul_nonneg h h
 · exact Int.mul_nonneg_of_nonpos_of_nonpos h h
theorem nN {x : Int} (h : x ≠ 0) : 0 < x * x := by
 have h1 := i0 x
 have h2 : x * x ≠ 0 := fun e => by rcases Int.mul_eq_zero.1 e with e | e <;> exact h e
 omega
theorem nV {w : Pt} (hw : w ≠ (0, 0)) : (w.1 * w.1 + w.2 * w.2).sign = 1 := by
 have h1 : 0 ≤ w.1 * w.1 := i0 _
 have h2 : 0 ≤ w.2 * w.2 := i0 _
 refine Int.sign_eq_one_of_pos ?_
 by_cases c : w.1 = 0
 · by_cases d : w.2 = 0
   · exact absurd (Prod.ext c d) hw
   · have := nN d
     omega
 · have := nN c
   omega
theorem gV {u w : Pt} (hw : w ≠ (0, 0)) (h : fL u w) : u.1.sign = (Dw w u).sign * w.1.sign ∧ u.2.sign = (Dw w u).sign * w.2.sign := by
 obtain ⟨h1, h2⟩ := j0 h
 have hn := nV hw
 have e1 := congrArg Int.sign h1
 have e2 := congrArg Int.sign h2
 rw [Int.sign_mul, Int.sign_mul, hn, Int.mul_one] at e1 e2
 exact ⟨e1, e2⟩
def j8 (u : Pt) : Int := if u.1 ≠ 0 then u.1.sign else u.2.sign
theorem oA (a b : Pt) : aO a b = j8 (aV a b) := by
 unfold aO j8 aV
 simp only
 rw [jr, jr]
 by_cases h : a.1 - b.1 = 0
 · rw [h]; simp
 · rw [if_pos (fun e => h (Int.sign_eq_zero_iff_zero.1 e)), if_pos h]
theorem qR {u w : Pt} (hw : w ≠ (0, 0)) (h : fL u w) : j8 u = (Dw w u).sign * j8 w := by
 obtain ⟨h1, h2⟩ := gV hw h
 unfold j8
 by_cases c : w.1 = 0
 · rw [c] at h1
   have hu : u.1 = 0 := by
     have : u.1.sign = 0 := by rw [h1]; simp
     exact Int.sign_eq_zero_iff_zero.1 this
   rw [if_neg (by simp [hu]), if_neg (by simp [c]), h2]
 · rw [if_pos c]
   by_cases d : u.1 = 0
   · rw [if_neg (by simp [d])]
     rw [d] at h1
     have h3 : (Dw w u).sign * w.1.sign = 0 := by rw [← h1]; rfl
     rcases Int.mul_eq_zero.1 h3 with e | e
     · rw [h2, e]; simp
     · exact absurd (Int.sign_eq_zero_iff_zero.1 e) c
   · rw [if_pos d, h1]
theorem nZ {w : Pt} (hw : w ≠ (0, 0)) : j8 w = 1 ∨ j8 w = -1 := by
 unfold j8
 by_cases c : w.1 = 0
 · rw [if_neg (by simp [c])]
   have : w.2 ≠ 0 := fun d => hw (Prod.ext c d)
   rcases fq w.2 with ⟨h, h'⟩ | ⟨h, h'⟩ | ⟨h, h'⟩
   · exact .inr h
   · exact absurd h' this
   · exact .inl h
 · rw [if_pos c]
   rcases fq w.1 with ⟨h, h'⟩ | ⟨h, h'⟩ | ⟨h, h'⟩
   · exact .inr h
   · exact absurd h' c
   · exact .inl h
structure kZ (l : List Pt) (w : Pt) : Prop where
  pr : ∀ p ∈ l, ∀ q ∈ l, fL (aV p q) w
  one : w = (0, 0) → ∀ p ∈ l, ∀ q ∈ l, p = q
theorem gL (a : Pt) (w : Pt) : fL (aV a a) w := by unfold TL.fL aV; simp
theorem iq {a b w : Pt} (h : fL (aV a b) w) : fL (aV b a) w := by
 unfold TL.fL aV at *; simp only at *; grind
theorem gX {a b c w : Pt} (h1 : fL (aV a b) w) (h2 : fL (aV b c) w) : fL (aV a c) w := by
 unfold TL.fL aV at *; simp only at *; grind
theorem ej {a b c : Pt} : bi a b c = 0 ↔ fL (aV c a) (aV b a) := by
 rw [iL]
 unfold TL.fL aV
 simp only
 constructor
 · intro h; grind
 · intro h; grind
theorem eT {a b : Pt} : aV a b = (0, 0) ↔ a = b := by
 unfold aV
 constructor
 · intro h
   have h1 := congrArg Prod.fst h
   have h2 := congrArg Prod.snd h
   simp only at h1 h2
   exact Prod.ext (by omega) (by omega)
 · rintro rfl; simp
theorem kZ.base {l : List Pt} {w o : Pt} (h1 : ∀ p ∈ l, fL (aV p o) w) (h2 : w = (0, 0) → ∀ p ∈ l, p = o) : kZ l w :=
 ⟨fun p hp q hq => gX (h1 p hp) (iq (h1 q hq)), fun e p hp q hq => by rw [h2 e p hp, h2 e q hq]⟩
theorem sP {a b c d : Pt} (h1 : bi a b c = 0) (h2 : bi a b d = 0) (h3 : bi c d a = 0) (h4 : bi c d b = 0) : ∃ w, kZ [a, b, c, d] w := by
 have k1 := ej.1 h1
 have k2 := ej.1 h2
 have k3 := ej.1 h3
 by_cases hab : a = b
 · subst hab
   by_cases hcd : c = d
   · subst hcd
     refine ⟨aV c a, kZ.base (o := a) (fun p hp => ?_) (fun e p hp => ?_)⟩
     · simp only [List.mem_cons, List.not_mem_nil, or_false] at hp
       rcases hp with rfl | rfl | rfl | rfl
       · exact gL _ _
       · exact gL _ _
       · unfold TL.fL; rw [Int.mul_comm]
       · unfold TL.fL; rw [Int.mul_comm]
     · have := eT.1 e
       simp only [List.mem_cons, List.not_mem_nil, or_false] at hp
       rcases hp with rfl | rfl | rfl | rfl
       · rfl
       · rfl
       · exact this
       · exact this
   · refine ⟨aV d c, kZ.base (o := c) (fun p hp => ?_) (fun e p hp => absurd (eT.1 e).symm hcd)⟩
     simp only [List.mem_cons, List.not_mem_nil, or_false] at hp
     rcases hp with rfl | rfl | rfl | rfl
     · exact k3
     · exact k3
     · exact gL _ _
     · unfold TL.fL; rw [Int.mul_comm]
 · refine ⟨aV b a, kZ.base (o := a) (fun p hp => ?_) (fun e p hp => absurd (eT.1 e).symm hab)⟩
   simp only [List.mem_cons, List.not_mem_nil, or_false] at hp
   rcases hp with rfl | rfl | rfl | rfl
   · exact gL _ _
   · unfold TL.fL; rw [Int.mul_comm]
   · exact k1
   · exact k2
theorem kZ.ord {l : List Pt} {w p q : Pt} (h : kZ l w) (hw : w ≠ (0, 0)) (hp : p ∈ l) (hq : q ∈ l) : aO p q = (Dw w p - Dw w q).sign * j8 w := by
 rw [oA, qR hw (h.pr p hp q hq), lE]
theorem kZ.inj {l : List Pt} {w p q : Pt} (h : kZ l w) (hp : p ∈ l) (hq : q ∈ l) (e : Dw w p = Dw w q) : p = q := by
 by_cases hw : w = (0, 0)
 · exact h.one hw p hp q hq
 · have h1 := gV hw (h.pr p hp q hq)
   rw [lE, e] at h1
   have e1 : (aV p q).1.sign = 0 := by rw [h1.1]; simp
   have e2 : (aV p q).2.sign = 0 := by rw [h1.2]; simp
   exact eT.1 (Prod.ext (Int.sign_eq_zero_iff_zero.1 e1) (Int.sign_eq_zero_iff_zero.1 e2))
theorem sg {a b c d w : Pt} (ha : dx a) (hb : dx b) (hc : dx c) (hd : dx d) (h : kZ [a, b, c, d] w) : aY a b c d = dN (Dw w a) (Dw w b) (Dw w c) (Dw w d) := by
  rw [np ha hb hc hd]
  by_cases hw : w = (0, 0)
  · have e1 := h.one hw b (by simp) a (by simp)
    have e2 := h.one hw c (by simp) a (by simp)
    have e3 := h.one hw d (by simp) a (by simp)
    subst e1 e2 e3
    unfold dN
    simp
  · have key : ∀ p q, p ∈ [a, b, c, d] → q ∈ [a, b, c, d] → dx p → dx q → (key p < key q ↔ (Dw w p - Dw w q).sign * j8 w < 0) := fun p q hp hq bp bq => by
      rw [← h.ord hw hp hq, eW bp bq, km]
    rcases nZ hw with e | e
    · have key2 : ∀ p q, p ∈ [a, b, c, d] → q ∈ [a, b, c, d] → dx p → dx q → (Dw w p < Dw w q ↔ TL.key p < TL.key q) := fun p q hp hq bp bq => by
        rw [key p q hp hq bp bq, e]
        rcases fq (Dw w p - Dw w q) with ⟨s, s'⟩ | ⟨s, s'⟩ | ⟨s, s'⟩ <;> rw [s] <;> omega
      exact iS (key2 a b (by simp) (by simp) ha hb) (key2 b a (by simp) (by simp) hb ha) (key2 a c (by simp) (by simp) ha hc) (key2 c a (by simp) (by simp) hc ha) (key2 a d (by simp) (by simp) ha hd) (key2 d a (by simp) (by simp) hd ha) (key2 b c (by simp) (by simp) hb hc) (key2 c b (by simp) (by simp) hc hb) (key2 b d (by simp) (by simp) hb hd) (key2 d b (by simp) (by simp) hd hb) (key2 c d (by simp) (by simp) hc hd) (key2 d c (by simp) (by simp) hd hc)
    · have key2 : ∀ p q, p ∈ [a, b, c, d] → q ∈ [a, b, c, d] → dx p → dx q → (Dw w p < Dw w q ↔ -TL.key p < -TL.key q) := fun p q hp hq bp bq => by
        have := key q p hq hp bq bp
        rw [e] at this
        rcases fq (Dw w q - Dw w p) with ⟨s, s'⟩ | ⟨s, s'⟩ | ⟨s, s'⟩ <;> rw [s] at this <;> omega
      rw [← nc]
      exact iS (key2 a b (by simp) (by simp) ha hb) (key2 b a (by simp) (by simp) hb ha) (key2 a c (by simp) (by simp) ha hc) (key2 c a (by simp) (by simp) hc ha) (key2 a d (by simp) (by simp) ha hd) (key2 d a (by simp) (by simp) hd ha) (key2 b c (by simp) (by simp) hb hc) (key2 c b (by simp) (by simp) hc hb) (key2 b d (by simp) (by simp) hb hd) (key2 d b (by simp) (by simp) hd hb) (key2 c d (by simp) (by simp) hc hd) (key2 d c (by simp) (by simp) hd hc)
theorem fc (a b p : Int) : (min a b ≤ p ∧ p ≤ max a b) ↔ (p - a).sign * (p - b).sign ≤ 0 := by
 rcases fq (p - a) with ⟨s, s'⟩ | ⟨s, s'⟩ | ⟨s, s'⟩ <;> rcases fq (p - b) with ⟨t, t'⟩ | ⟨t, t'⟩ | ⟨t, t'⟩ <;> rw [s, t] <;> omega
theorem rI {l : List Pt} {w a b p : Pt} (h : kZ l w) (ha : a ∈ l) (hb : b ∈ l) (hp : p ∈ l) : i3 a b p ↔ min (Dw w a) (Dw w b) ≤ Dw w p ∧ Dw w p ≤ max (Dw w a) (Dw w b) := by
 by_cases hw : w = (0, 0)
 · have e1 := h.one hw b hb a ha
   have e2 := h.one hw p hp a ha
   subst e1 e2
   unfold i3
   omega
 · obtain ⟨u1, u2⟩ := gV hw (h.pr p hp a ha)
   obtain ⟨v1, v2⟩ := gV hw (h.pr p hp b hb)
   rw [lE] at u1 u2 v1 v2
   unfold i3
   rw [fc, fc, fc]
   have f1 : (p.1 - a.1).sign = (aV p a).1.sign := rfl
   have f2 : (p.2 - a.2).sign = (aV p a).2.sign := rfl
   have f3 : (p.1 - b.1).sign = (aV p b).1.sign := rfl
   have f4 : (p.2 - b.2).sign = (aV p b).2.sign := rfl
   rw [f1, f2, f3, f4, u1, u2, v1, v2]
   have hne : w.1 ≠ 0 ∨ w.2 ≠ 0 := by
     by_cases c : w.1 = 0
     · exact .inr fun d => hw (Prod.ext c d)
     · exact .inl c
   rcases fq (Dw w p - Dw w a) with ⟨s, _⟩ | ⟨s, _⟩ | ⟨s, _⟩ <;> rcases fq (Dw w p - Dw w b) with ⟨t, _⟩ | ⟨t, _⟩ | ⟨t, _⟩ <;> rcases fq w.1 with ⟨x, x'⟩ | ⟨x, x'⟩ | ⟨x, x'⟩ <;> rcases fq w.2 with ⟨y, y'⟩ | ⟨y, y'⟩ | ⟨y, y'⟩ <;> rw [s, t, x, y] <;> omega
end TL
/-
  TlGeomM: meeting segments: moved, turned, named another way about; what ends they share.
  By an AI agent.
-/
set_option linter.all false
namespace TL
theorem kZ.sub {l l' : List Pt} {w : Pt} (h : kZ l w) (hs : ∀ p ∈ l', p ∈ l) : kZ l' w :=
 ⟨fun p hp q hq => h.pr p (hs p hp) q (hs q hq), fun e p hp q hq => h.one e p (hs p hp) q (hs q hq)⟩
section
variable {a b c d : Pt}
def cA (a b c d e : Pt) : Prop := bm a b e ∧ bm c d e
instance (a b c d e : Pt) : Decidable (cA a b c d e) := by unfold cA; infer_instance
def dT (a b c d : Pt) : Prop := bi a b c * bi a b d < 0 ∧ bi c d a * bi c d b < 0
instance (a b c d : Pt) : Decidable (dT a b c d) := by unfold dT; infer_instance
theorem lq (h : dT a b c d) {e : Pt} (he : e ∈ [a, b, c, d]) : ¬ cA a b c d e := fun hb => by
 obtain ⟨h1, h2⟩ := h
 have k1 := hb.1.1
 have k2 := hb.2.1
 simp only [List.mem_cons, List.not_mem_nil, or_false] at he
 rcases he with rfl | rfl | rfl | rfl
 · rw [k2] at h2; simp at h2
 · rw [k2] at h2; simp at h2
 · rw [k1] at h1; simp at h1
 · rw [k1] at h1; simp at h1
theorem kr : (∃ e ∈ [a, b, c, d], cA a b c d e) ↔ (bm a b c ∨ bm a b d ∨ bm c d a ∨ bm c d b) := by
 have h1 := fS a b
 have h2 := fS c d
 unfold cA
 constructor
 · rintro ⟨e, he, k1, k2⟩
   simp only [List.mem_cons, List.not_mem_nil, or_false] at he
   rcases he with rfl | rfl | rfl | rfl
   · exact .inr (.inr (.inl k2))
   · exact .inr (.inr (.inr k2))
   · exact .inl k1
   · exact .inr (.inl k1)
 · rintro (h | h | h | h)
   · exact ⟨c, by simp, h, h2.1⟩
   · exact ⟨d, by simp, h, h2.2⟩
   · exact ⟨a, by simp, h1.1, h⟩
   · exact ⟨b, by simp, h1.2, h⟩
theorem sI (h1 : bi a b c = 0) (h2 : bi a b d = 0) (h3 : bi c d a = 0) (h4 : bi c d b = 0) {w : Pt} (h : kZ [a, b, c, d] w) {e : Pt} (he : e ∈ [a, b, c, d]) : cA a b c d e ↔ max (min (Dw w a) (Dw w b)) (min (Dw w c) (Dw w d)) ≤ Dw w e ∧ Dw w e ≤ min (max (Dw w a) (Dw w b)) (max (Dw w c) (Dw w d)) := by
  have t1 : bi a b e = 0 := by
    simp only [List.mem_cons, List.not_mem_nil, or_false] at he
    rcases he with rfl | rfl | rfl | rfl
    · exact (fS _ _).1.1
    · exact (fS _ _).2.1
    · exact h1
    · exact h2
  have t2 : bi c d e = 0 := by
    simp only [List.mem_cons, List.not_mem_nil, or_false] at he
    rcases he with rfl | rfl | rfl | rfl
    · exact h3
    · exact h4
    · exact (fS _ _).1.1
    · exact (fS _ _).2.1
  unfold cA bm
  rw [rI h (a := a) (b := b) (by simp) (by simp) he, rI h (a := c) (b := d) (by simp) (by simp) he, t1, t2]
  omega
theorem jn (ha : dx a) (hb : dx b) (hc : dx c) (hd : dx d) :
    (aX a b c d = 0 ∧ ¬ dT a b c d ∧ ∀ e ∈ [a, b, c, d], ¬ cA a b c d e) ∨ (aX a b c d = 1 ∧ dT a b c d) ∨
    (aX a b c d = 2 ∧ ¬ dT a b c d ∧ (∃ e ∈ [a, b, c, d], cA a b c d e) ∧ ∀ e ∈ [a, b, c, d], ∀ e' ∈ [a, b, c, d], cA a b c d e → cA a b c d e' → e = e') ∨
    (aX a b c d = 3 ∧ ¬ dT a b c d ∧ ∃ e ∈ [a, b, c, d], ∃ e' ∈ [a, b, c, d], (cA a b c d e ∧ cA a b c d e') ∧ e ≠ e') := by
  unfold aX
  by_cases h : bi a b c = 0 ∧ bi a b d = 0 ∧ bi c d a = 0 ∧ bi c d b = 0
  · obtain ⟨w, hw⟩ := sP h.1 h.2.1 h.2.2.1 h.2.2.2
    have hbo := fun {e : Pt} (he : e ∈ [a, b, c, d]) => sI h.1 h.2.1 h.2.2.1 h.2.2.2 hw he
    have hno : ¬ dT a b c d := fun hc => by have := hc.1; rw [h.1] at this; simp at this
    rw [if_pos h, sg ha hb hc hd hw]
    have low : ∃ e ∈ [a, b, c, d], Dw w e = max (min (Dw w a) (Dw w b)) (min (Dw w c) (Dw w d)) := by
      have : max (min (Dw w a) (Dw w b)) (min (Dw w c) (Dw w d)) = Dw w a ∨ max (min (Dw w a) (Dw w b)) (min (Dw w c) (Dw w d)) = Dw w b ∨ max (min (Dw w a) (Dw w b)) (min (Dw w c) (Dw w d)) = Dw w c ∨ max (min (Dw w a) (Dw w b)) (min (Dw w c) (Dw w d)) = Dw w d := by omega
      rcases this with e | e | e | e
      · exact ⟨a, by simp, e.symm⟩
      · exact ⟨b, by simp, e.symm⟩
      · exact ⟨c, by simp, e.symm⟩
      · exact ⟨d, by simp, e.symm⟩
    have high : ∃ e ∈ [a, b, c, d], Dw w e = min (max (Dw w a) (Dw w b)) (max (Dw w c) (Dw w d)) := by
      have : min (max (Dw w a) (Dw w b)) (max (Dw w c) (Dw w d)) = Dw w a ∨ min (max (Dw w a) (Dw w b)) (max (Dw w c) (Dw w d)) = Dw w b ∨ min (max (Dw w a) (Dw w b)) (max (Dw w c) (Dw w d)) = Dw w c ∨ min (max (Dw w a) (Dw w b)) (max (Dw w c) (Dw w d)) = Dw w d := by omega
      rcases this with e | e | e | e
      · exact ⟨a, by simp, e.symm⟩
      · exact ⟨b, by simp, e.symm⟩
      · exact ⟨c, by simp, e.symm⟩
      · exact ⟨d, by simp, e.symm⟩
    unfold dN
    generalize hL : max (min (Dw w a) (Dw w b)) (min (Dw w c) (Dw w d)) = L at hbo low
    generalize hH : min (max (Dw w a) (Dw w b)) (max (Dw w c) (Dw w d)) = H at hbo high
    by_cases c1 : H < L
    · rw [if_pos c1]
      exact .inl ⟨rfl, hno, fun e he hb => by have := (hbo he).1 hb; omega⟩
    · rw [if_neg c1]
      obtain ⟨p, hp, ep⟩ := low
      obtain ⟨q, hq, eq⟩ := high
      have bp := (hbo hp).2 (by omega)
      have bq := (hbo hq).2 (by omega)
      by_cases c2 : H = L
      · rw [if_pos c2]
        refine .inr (.inr (.inl ⟨rfl, hno, ⟨p, hp, bp⟩, fun e he e' he' b1 b2 => ?_⟩))
        have k1 := (hbo he).1 b1
        have k2 := (hbo he').1 b2
        exact hw.inj he he' (by omega)
      · rw [if_neg c2]
        exact .inr (.inr (.inr ⟨rfl, hno, p, hp, q, hq, ⟨bp, bq⟩, fun e => by subst e; omega⟩))
  · rw [if_neg h]
    by_cases h2 : dT a b c d
    · rw [if_pos (show bi a b c * bi a b d < 0 ∧ bi c d a * bi c d b < 0 from h2)]; exact .inr (.inl ⟨rfl, h2⟩)
    · rw [if_neg (show ¬ (bi a b c * bi a b d < 0 ∧ bi c d a * bi c d b < 0) from h2)]
      by_cases h3 : bm a b c ∨ bm a b d ∨ bm c d a ∨ bm c d b
      · rw [if_pos h3]
        refine .inr (.inr (.inl ⟨rfl, h2, kr.2 h3, fun e he e' he' b1 b2 => ?_⟩))
        refine Classical.byContradiction fun hne => h ?_
        -- two points that both have: all lie on their line
        have hw : aV e' e ≠ (0, 0) := fun e0 => hne (eT.1 e0).symm
        have pt : ∀ {u v w : Pt}, w ≠ (0, 0) → fL u w → fL v w → fL u v := fun {u v w} hw h1 h2 => by
          obtain ⟨s1, s2⟩ := j0 h1
          obtain ⟨t1, t2⟩ := j0 h2
          have hn := nV hw
          generalize hN : w.1 * w.1 + w.2 * w.2 = N at *
          have hN0 : N ≠ 0 := fun e => by rw [e] at hn; simp at hn
          unfold fL
          have : N * (N * (u.1 * v.2)) = N * (N * (u.2 * v.1)) := by
            have f1 : N * (N * (u.1 * v.2)) = (u.1 * N) * (v.2 * N) := by grind
            have f2 : N * (N * (u.2 * v.1)) = (u.2 * N) * (v.1 * N) := by grind
            rw [f1, f2, s1, s2, t1, t2]; grind
          exact Int.eq_of_mul_eq_mul_left hN0 (Int.eq_of_mul_eq_mul_left hN0 this)
        have ps : ∀ {u v : Pt}, fL u v → fL v u := fun {u v} h => by unfold fL at *; grind
        -- a segment with two points of it
        have seg : ∀ {a b : Pt}, bm a b e → bm a b e' → fL (aV b a) (aV e' e) ∧ fL (aV e a) (aV e' e) := fun {a b} k1 k2 => by
          have p1 := ej.1 k1.1
          have p2 := ej.1 k2.1
          by_cases hab : a = b
          · subst hab
            have x1 := k1.2
            have x2 := k2.2
            unfold i3 at x1 x2
            exact absurd (Prod.ext (by omega) (by omega) : e = e') hne
          · have hba : aV b a ≠ (0, 0) := fun e0 => hab (eT.1 e0).symm
            have p3 : fL (aV e' e) (aV b a) := gX p2 (iq p1)
            exact ⟨ps p3, pt hba p1 p3⟩
        obtain ⟨a1, a2⟩ := seg b1.1 b2.1
        obtain ⟨c1, c2⟩ := seg b1.2 b2.2
        have ca : fL (aV c a) (aV e' e) := gX (iq c2) a2
        have da : fL (aV d a) (aV e' e) := gX c1 ca
        have ac : fL (aV a c) (aV e' e) := iq ca
        have bc : fL (aV b c) (aV e' e) := gX a1 ac
        exact ⟨ej.2 (pt hw ca a1), ej.2 (pt hw da a1), ej.2 (pt hw ac c1), ej.2 (pt hw bc c1)⟩
      · rw [if_neg h3]
        exact .inl ⟨rfl, h2, fun e he hb => h3 (kr.1 ⟨e, he, hb⟩)⟩
end
end TL
/-
  TlGeomF: the document's way to tell how two segments meet: by the ends that both have.
  By an AI agent.
-/
set_option linter.all false
namespace TL
def db (a b c d : Pt) (ends : List Pt) : Nat → List Pt
 | 0 => []
 | k + 1 => if cA a b c d (gI ends (k : Int)) ∧ gI ends (k : Int) ∉ db a b c d ends k then db a b c d ends k ++ [gI ends (k : Int)] else db a b c d ends k
def cJ (a b c d : Pt) : Int := if dT a b c d then 1 else if (db a b c d [a, b, c, d] 4).length = 0 then 0 else if (db a b c d [a, b, c, d] 4).length = 1 then 2 else 3
section
variable {a b c d : Pt} {ends : List Pt}
theorem iK : ∀ k : Nat, (db a b c d ends k).length ≤ k
 | 0 => by simp [db]
 | k + 1 => by
   have := iK k
   unfold db
   split
   · simp; omega
   · omega
theorem iO : ∀ k : Nat, (db a b c d ends k).Nodup
 | 0 => by simp [db]
 | k + 1 => by
   have := iO k
   unfold db
   split
   · rename_i h
     rw [List.nodup_append]
     refine ⟨this, by simp, fun x hx y hy e => ?_⟩
     obtain rfl := List.mem_singleton.1 hy
     rw [e] at hx; exact h.2 hx
   · exact this
theorem jV : ∀ {k : Nat} {e : Pt}, e ∈ db a b c d ends k ↔ (∃ j : Nat, j < k ∧ gI ends (j : Int) = e) ∧ cA a b c d e
 | 0, e => by simp [db]
 | k + 1, e => by
   have ih := jV (k := k) (e := e)
   unfold db
   constructor
   · intro h
     split at h
     · rename_i hc
       rcases List.mem_append.1 h with h | h
       · obtain ⟨⟨j, hj, e1⟩, h2⟩ := ih.1 h
         exact ⟨⟨j, by omega, e1⟩, h2⟩
       · obtain rfl := List.mem_singleton.1 h
         exact ⟨⟨k, by omega, rfl⟩, hc.1⟩
     · obtain ⟨⟨j, hj, e1⟩, h2⟩ := ih.1 h
       exact ⟨⟨j, by omega, e1⟩, h2⟩
   · rintro ⟨⟨j, hj, e1⟩, h2⟩
     by_cases hk : j = k
     · subst hk
       by_cases hm : gI ends (j : Int) ∈ db a b c d ends j
       · rw [if_neg (fun h => h.2 hm), ← e1]; exact hm
       · rw [if_pos ⟨by rw [e1]; exact h2, hm⟩, ← e1]; simp
     · have := ih.2 ⟨⟨j, by omega, e1⟩, h2⟩
       split
       · simp [this]
       · exact this
theorem pE {e : Pt} : (∃ j : Nat, j < 4 ∧ gI [a, b, c, d] (j : Int) = e) ↔ e ∈ [a, b, c, d] := by
 constructor
 · rintro ⟨j, hj, rfl⟩
   exact bg (by omega) (by simp; omega)
 · intro h
   obtain ⟨j, hj, rfl⟩ := List.mem_iff_getElem.1 h
   exact ⟨j, by simpa using hj, by unfold gI; rw [Int.toNat_natCast, List.getD_eq_getElem?_getD, List.getElem?_eq_getElem hj]; rfl⟩
theorem jo {k : Nat} {l : List Pt} (h : l = db a b c d ends k) (h1 : cA a b c d (gI ends (k : Int))) (h2 : gI ends (k : Int) ∉ l) : l ++ [gI ends (k : Int)] = db a b c d ends (k + 1) := by
 rw [db, if_pos ⟨h1, by rw [← h]; exact h2⟩, h]
theorem gS {k : Nat} {l : List Pt} (h : l = db a b c d ends k) (h1 : ¬ cA a b c d (gI ends (k : Int))) : l = db a b c d ends (k + 1) := by
 rw [db, if_neg (fun h' => h1 h'.1), h]
theorem k9 {k : Nat} {l : List Pt} (h : l = db a b c d ends k) (h2 : gI ends (k : Int) ∈ l) : l = db a b c d ends (k + 1) := by
 rw [db, if_neg (fun h' => h'.2 (by rw [← h]; exact h2)), h]
theorem o7 (ha : dx a) (hb : dx b) (hc : dx c) (hd : dx d) : cJ a b c d = aX a b c d := by
  have hm : ∀ e, e ∈ db a b c d [a, b, c, d] 4 ↔ e ∈ [a, b, c, d] ∧ cA a b c d e := fun e => by rw [jV, pE]
  have hn := iO (a := a) (b := b) (c := c) (d := d) (ends := [a, b, c, d]) 4
  generalize hL : db a b c d [a, b, c, d] 4 = L at hm hn
  unfold cJ
  rw [hL]
  rcases jn ha hb hc hd with ⟨h1, h2, h3⟩ | ⟨h1, h2⟩ | ⟨h1, h2, ⟨e, he, hbe⟩, h4⟩ | ⟨h1, h2, e, he, e', he', hbb, hne⟩
  · have : L = [] := List.eq_nil_iff_forall_not_mem.2 fun e he => h3 e ((hm e).1 he).1 ((hm e).1 he).2
    rw [if_neg h2, this, h1]; rfl
  · rw [if_pos h2, h1]
  · have hL1 : L.length = 1 := by
      have p1 := List.length_pos_of_mem ((hm e).2 ⟨he, hbe⟩)
      match L, hm, hn, p1 with
      | [x], _, _, _ => rfl
      | x :: y :: l, hm, hn, _ =>
        have mx := (hm x).1 (by simp)
        have my := (hm y).1 (by simp)
        have := h4 x mx.1 y my.1 mx.2 my.2
        rw [this] at hn
        simp at hn
    rw [if_neg h2, hL1, h1]; rfl
  · have hL2 : 2 ≤ L.length := by
      have m1 := (hm e).2 ⟨he, hbb.1⟩
      have m2 := (hm e').2 ⟨he', hbb.2⟩
      match L, m1, m2 with
      | [x], m1, m2 =>
        have k1 := List.mem_singleton.1 m1
        have k2 := List.mem_singleton.1 m2
        exact absurd (k1.trans k2.symm) hne
      | x :: y :: l, _, _ => simp
    rw [if_neg h2, if_neg (by omega), if_neg (by omega), h1]
theorem lj (h1 : bi a b c * bi a b d < 0) (h2 : bi c d a * bi c d b < 0) : 1 = cJ a b c d := by unfold cJ; rw [if_pos ⟨h1, h2⟩]
theorem lS {l : List Pt} (h : l = db a b c d [a, b, c, d] 4) (hc : ¬ dT a b c d) : (l.length = 0 → 0 = cJ a b c d) ∧ (l.length = 1 → 2 = cJ a b c d) ∧ (l.length ≠ 0 → l.length ≠ 1 → 3 = cJ a b c d) := by
 unfold cJ
 rw [if_neg hc, ← h]
 refine ⟨fun h => by rw [if_pos h], fun h => by rw [if_neg (by omega), if_pos h], fun h1 h2 => by rw [if_neg h1, if_neg h2]⟩
end
end TL
namespace TL
def lm (l : List Pt) (e : Pt) : Nat → Bool
  | 0 => true
  | k + 1 => lm l e k && !decide (gI l (k : Int) = e)
theorem m9 {l : List Pt} {e : Pt} : ∀ k : Nat, lm l e k = true ↔ ∀ j : Nat, j < k → gI l (j : Int) ≠ e
 | 0 => by simp [lm]
 | k + 1 => by
   unfold lm
   rw [Bool.and_eq_true, m9 k]
   constructor
   · rintro ⟨h1, h2⟩ j hj
     by_cases c : j = k
     · subst c; simpa using h2
     · exact h1 j (by omega)
   · intro h
     exact ⟨fun j hj => h j (by omega), by simpa using h k (by omega)⟩
theorem mK {l : List Pt} {e : Pt} {k : Nat} (hk : ¬ (k : Int) < l.length) (hk2 : k ≤ l.length) : lm l e k = true ↔ e ∉ l := by
 rw [m9]
 constructor
 · intro h hm
   obtain ⟨j, hj, rfl⟩ := List.mem_iff_getElem.1 hm
   exact h j (by omega) (by simp [gI, hj])
 · intro h j hj e0
   exact h (by rw [← e0]; exact bg (by omega) (by omega))
section
variable {a b c d : Pt}
end
end TL
namespace TL
theorem lN {a b c d : Pt} (ha : dx a) (hb : dx b) (hc : dx c) (hd : dx d) {i : Nat} (hi : (i : Int) < 4) : dx (gI [a, b, c, d] (i : Int)) := by
 have hm : gI [a, b, c, d] (i : Int) ∈ [a, b, c, d] := bg (by omega) (by simp; omega)
 simp only [List.mem_cons, List.not_mem_nil, or_false] at hm
 rcases hm with hm | hm | hm | hm <;> rw [hm] <;> assumption
end TL
set_option linter.unusedVariables false
namespace TL
variable {a b c d : Int × Int}
theorem o1 {A B C D : Prop} [Decidable A] (h : decide A = true) : A ∨ B ∨ C ∨ D := .inl (of_decide_eq_true h)
theorem o2 {A B C D : Prop} [Decidable B] (h : decide B = true) : A ∨ B ∨ C ∨ D := .inr (.inl (of_decide_eq_true h))
theorem o3 {A B C D : Prop} [Decidable C] (h : decide C = true) : A ∨ B ∨ C ∨ D := .inr (.inr (.inl (of_decide_eq_true h)))
theorem o4 {A B C D : Prop} [Decidable D] (h : decide D = true) : A ∨ B ∨ C ∨ D := .inr (.inr (.inr (of_decide_eq_true h)))
theorem o5 {A B C D : Prop} [Decidable A] [Decidable B] [Decidable C] [Decidable D] (h1 : ¬ decide A = true) (h2 : ¬ decide B = true) (h3 : ¬ decide C = true) (h4 : ¬ decide D = true) : ¬ (A ∨ B ∨ C ∨ D) := by
 rintro (h | h | h | h)
 · exact h1 (decide_eq_true h)
 · exact h2 (decide_eq_true h)
 · exact h3 (decide_eq_true h)
 · exact h4 (decide_eq_true h)
end TL
/-
  TlGeomS: polylines gone back, and two of them named the other way about.
  By an AI agent.
-/
set_option linter.all false
namespace TL
abbrev Sg := Pt × Pt
def k5 (ps : List Pt) : Nat → List Sg
 | 0 => []
 | k + 1 => k5 ps k ++ [(gI ps (k : Int), gI ps ((k : Int) + 1))]
def pQ (ps : List Pt) : List Sg := if ps.length = 1 then [(gI ps 0, gI ps 0)] else k5 ps (ps.length - 1)
theorem ey {ps : List Pt} {s : Sg} : ∀ {k : Nat}, s ∈ k5 ps k ↔ ∃ i : Nat, i < k ∧ s = (gI ps (i : Int), gI ps ((i : Int) + 1))
 | 0 => by simp [k5]
 | k + 1 => by
   rw [k5, List.mem_append, ey, List.mem_singleton]
   constructor
   · rintro (⟨i, hi, e⟩ | e)
     · exact ⟨i, by omega, e⟩
     · exact ⟨k, by omega, e⟩
   · rintro ⟨i, hi, e⟩
     by_cases c : i = k
     · subst c; exact .inr e
     · exact .inl ⟨i, by omega, e⟩
def rB (ps : List Pt) : Pt := gI ps ((ps.length : Int) - 1)
def sN (ps : List Pt) (p : Pt) : Prop := p = gI ps 0 ∨ p = rB ps
instance (ps : List Pt) (p : Pt) : Decidable (sN ps p) := by unfold sN; infer_instance
def pR (q : List Pt) (s t : Sg) (x : Pt) : Prop := sN q x ∧ bm s.1 s.2 x ∧ bm t.1 t.2 x
instance (q : List Pt) (s t : Sg) (x : Pt) : Decidable (pR q s t x) := by unfold pR; infer_instance
def oG (p q : List Pt) (s t : Sg) : Prop := pR q s t (gI p 0) ∨ pR q s t (rB p)
instance (p q : List Pt) (s t : Sg) : Decidable (oG p q s t) := by unfold oG; infer_instance
def sn (p q : List Pt) (s t : Sg) : Prop := aX s.1 s.2 t.1 t.2 = 3 ∨ aX s.1 s.2 t.1 t.2 ≠ 0 ∧ ¬ oG p q s t
instance (p q : List Pt) (s t : Sg) : Decidable (sn p q s t) := by unfold sn; infer_instance
def t6 (p q : List Pt) : Prop := ∀ s ∈ pQ p, ∀ t ∈ pQ q, ¬ sn p q s t
instance (p q : List Pt) : Decidable (t6 p q) := by unfold t6; infer_instance
section
variable {p q : List Pt}
end
end TL
namespace TL
section
variable {p q : List Pt} {i k : Nat}
variable {s t : Sg}
end
end TL
namespace TL
section
variable {p q : List Pt} {s t : Sg} {i : Nat}
end
end TL
/-
  TlGeomX: polylines: the document's way and the code's.
  By an AI agent.
-/
set_option linter.all false
namespace TL
section
variable {a b c d : Pt}
end
section
variable {ps : List Pt} {i k : Nat}
end
def tD (but : List Pt) (s t : Sg) : Prop := aX s.1 s.2 t.1 t.2 = 3 ∨ (aX s.1 s.2 t.1 t.2 = 1 ∧ ¬ ∃ x ∈ but, cA s.1 s.2 t.1 t.2 x) ∨ ((aX s.1 s.2 t.1 t.2 ≠ 0 ∧ aX s.1 s.2 t.1 t.2 ≠ 1) ∧ ∃ e ∈ [s.1, s.2, t.1, t.2], cA s.1 s.2 t.1 t.2 e ∧ e ∉ but)
instance (but : List Pt) (s t : Sg) : Decidable (tD but s t) := by unfold tD; infer_instance
def tq (p q but : List Pt) : Prop := ∃ s ∈ pQ p, ∃ t ∈ pQ q, tD but s t
instance (p q but : List Pt) : Decidable (tq p q but) := by unfold tq; infer_instance
section
variable {p q B : List Pt}
end
end TL
namespace TL
section
variable {p q but : List Pt} {i k : Nat}
variable {s t : Sg}
end
end TL
/-
  TlAround: points round another one: the order, its laws, the list that is sorted by it.
  By an AI agent.
-/
set_option linter.all false
namespace TL
def rJ (p : Pt) : Int := p.1 * p.1 + p.2 * p.2
def Up (p : Pt) : Prop := 0 < p.1 ∨ p.1 = 0 ∧ 0 < p.2
theorem sT (u v w : Pt) : v.1 * dn u w = w.1 * dn u v + u.1 * dn v w := by
 unfold dn; grind
theorem gG (u v : Pt) : dn v u = - dn u v := by unfold dn; grind
theorem qy (u : Pt) : dn u u = 0 := by unfold dn; grind
theorem nW {u v w : Pt} (hu : Up u) (hv : Up v) (hw : Up w) (c1 : dn u v ≤ 0) (c2 : dn v w ≤ 0) : dn u w ≤ 0 ∧ (dn u v < 0 ∨ dn v w < 0 → dn u w < 0) := by
 have hid := sT u v w
 have hu0 : 0 ≤ u.1 := by rcases hu with h | h <;> omega
 have hw0 : 0 ≤ w.1 := by rcases hw with h | h <;> omega
 rcases hv with hv | ⟨hv, hv2⟩
 · have hw1 : 0 < w.1 := by
     rcases hw with h | ⟨h, h2⟩
     · exact h
     · exfalso
       have : dn v w = v.1 * w.2 := by unfold dn; rw [h]; omega
       have := Int.mul_pos hv h2
       omega
   have k1 : w.1 * dn u v ≤ 0 := Int.mul_nonpos_of_nonneg_of_nonpos hw0 c1
   have k2 : u.1 * dn v w ≤ 0 := Int.mul_nonpos_of_nonneg_of_nonpos hu0 c2
   refine ⟨?_, ?_⟩
   · refine Int.not_lt.1 fun h => ?_
     have := Int.mul_pos hv h
     omega
   · intro hs
     refine Int.not_le.1 fun h => ?_
     have k3 : 0 ≤ v.1 * dn u w := Int.mul_nonneg (by omega) h
     rcases hs with hs | hs
     · have := Int.mul_neg_of_pos_of_neg hw1 hs
       omega
     · rcases hu with hu | ⟨hu, hu2⟩
       · have := Int.mul_neg_of_pos_of_neg hu hs
         omega
       · have e : dn u w = - (u.2 * w.1) := by unfold dn; rw [hu]; omega
         have := Int.mul_pos hu2 hw1
         omega
 · have e1 : dn u v = u.1 * v.2 := by unfold dn; rw [hv]; omega
   have hu1 : u.1 = 0 := by
     rcases hu with h | h
     · have := Int.mul_pos h hv2
       omega
     · exact h.1
   have hu2 : 0 < u.2 := by rcases hu with h | h <;> omega
   have e2 : dn u w = - (u.2 * w.1) := by unfold dn; rw [hu1]; omega
   have e3 : dn v w = - (v.2 * w.1) := by unfold dn; rw [hv]; omega
   have k1 := Int.mul_nonneg (Int.le_of_lt hu2) hw0
   refine ⟨by omega, ?_⟩
   rintro (h | h)
   · rw [e1, hu1] at h; omega
   · have : 0 < w.1 := by
       rcases hw with h' | h'
       · exact h'
       · rw [e3, h'.1] at h; omega
     have := Int.mul_pos hu2 this
     omega
def nz (p : Pt) : Prop := ¬ (p.1 = 0 ∧ p.2 = 0)
def te (p : Pt) : Pt := (-p.1, -p.2)
theorem jx (u v : Pt) : dn (te u) (te v) = dn u v := by unfold dn te; grind
theorem oP {p : Pt} (h : nz p) : (bQ p = 0 ∧ Up p) ∨ (bQ p = 1 ∧ Up (te p)) := by
 unfold bQ Up te
 unfold nz at h
 split
 · exact .inl ⟨rfl, by assumption⟩
 · refine .inr ⟨rfl, ?_⟩
   dsimp
   omega
theorem pk {u v w : Pt} (hu : nz u) (hv : nz v) (hw : nz w) (h1 : bQ u = bQ v) (h2 : bQ v = bQ w) (c1 : dn u v ≤ 0) (c2 : dn v w ≤ 0) : dn u w ≤ 0 ∧ (dn u v < 0 ∨ dn v w < 0 → dn u w < 0) := by
 rcases oP hu with ⟨a1, a2⟩ | ⟨a1, a2⟩ <;> rcases oP hv with ⟨b1, b2⟩ | ⟨b1, b2⟩ <;> rcases oP hw with ⟨d1, d2⟩ | ⟨d1, d2⟩ <;> try (exfalso; omega)
 · exact nW a2 b2 d2 c1 c2
 · have := nW a2 b2 d2 (by rw [jx]; exact c1) (by rw [jx]; exact c2)
   simpa only [jx] using this
def nJ (a b : Pt) (i k : Int) : Prop := bQ a < bQ b ∨ bQ a = bQ b ∧ (dn a b < 0 ∨ dn a b = 0 ∧ (rJ a < rJ b ∨ rJ a = rJ b ∧ i < k))
theorem ff (a : Pt) (i : Int) : ¬ nJ a a i i := by
 unfold nJ; rw [qy]; omega
theorem sF {a b c : Pt} {i j k : Int} (ha : nz a) (hb : nz b) (hc : nz c) (h1 : nJ a b i j) (h2 : nJ b c j k) : nJ a c i k := by
 unfold nJ at *
 rcases h1 with h1 | ⟨h1, h1'⟩
 · rcases h2 with h2 | ⟨h2, _⟩
   · exact .inl (by omega)
   · exact .inl (by omega)
 · rcases h2 with h2 | ⟨h2, h2'⟩
   · exact .inl (by omega)
   · refine .inr ⟨by omega, ?_⟩
     have t := pk ha hb hc h1 h2 (by omega) (by omega)
     have t' := pk hc hb ha h2.symm h1.symm
     have a1 := gG a b
     have a2 := gG b c
     have a3 := gG a c
     rcases h1' with h1' | ⟨h1', h1''⟩
     · exact .inl (t.2 (.inl h1'))
     · rcases h2' with h2' | ⟨h2', h2''⟩
       · exact .inl (t.2 (.inr h2'))
       · have := t' (by omega) (by omega)
         exact .inr ⟨by omega, by omega⟩
theorem iB {a b : Pt} {i k : Int} (h : i ≠ k) : nJ a b i k ∨ nJ b a k i := by
 unfold nJ
 have := gG a b
 omega
def vA (o : Pt) (ps : List Pt) (i : Int) : Pt := aV (gI ps i) o
def j4 (o : Pt) (ps : List Pt) (i k : Int) : Prop := nJ (vA o ps i) (vA o ps k) i k
def ti (o : Pt) (ps : List Pt) (i k : Int) : Int := iC [br (bQ (vA o ps i)) (bQ (vA o ps k)), br (dn (vA o ps i) (vA o ps k)) 0, br (rJ (vA o ps i)) (rJ (vA o ps k)), br i k]
theorem gD {x y : Int} : br x y < 0 ↔ x < y := by unfold br; split <;> (try split) <;> omega
theorem fV {x y : Int} : br x y = 0 ↔ x = y := by unfold br; split <;> (try split) <;> omega
theorem sy {o : Pt} {ps : List Pt} {i k : Int} : ti o ps i k < 0 ↔ j4 o ps i k := by
 unfold ti j4 nJ
 generalize bQ (vA o ps i) = a1
 generalize bQ (vA o ps k) = a2
 generalize dn (vA o ps i) (vA o ps k) = b1
 generalize rJ (vA o ps i) = c1
 generalize rJ (vA o ps k) = c2
 have q1 := @gD a1 a2
 have q2 := @fV a1 a2
 have q3 := @gD b1 0
 have q4 := @fV b1 0
 have q5 := @gD c1 c2
 have q6 := @fV c1 c2
 have q7 := @gD i k
 have q8 := @fV i k
 simp only [iC]
 split
 · split
   · split
     · split
       · omega
       · omega
     · omega
   · omega
 · omega
def hU (o : Pt) (ps : List Pt) : Prop := ∀ i : Nat, i < ps.length → gI ps (i : Int) ≠ o
theorem hU.nz {o : Pt} {ps : List Pt} (h : hU o ps) {i : Int} (h0 : 0 ≤ i) (h1 : i < ps.length) : nz (vA o ps i) := by
 have k := h i.toNat (by omega)
 rw [Int.toNat_of_nonneg h0] at k
 intro ⟨e1, e2⟩
 unfold vA aV at e1 e2
 simp only at e1 e2
 exact k (Prod.ext (by omega) (by omega))
def r5 (o : Pt) (ps : List Pt) (k : Nat) (l : List Int) : Prop := l.Pairwise (j4 o ps) ∧ ∀ x, x ∈ l ↔ 0 ≤ x ∧ x < (k : Int)
theorem oR {α : Type} {R : α → α → Prop} : ∀ {l1 l2 : List α}, (∀ a, a ∈ l1 → ∀ b, b ∈ l1 → R a b → ¬ R b a) → l1.Pairwise R → l2.Pairwise R → (∀ x, x ∈ l1 ↔ x ∈ l2) → l1 = l2
 | [], [], _, _, _, _ => rfl
 | [], b :: t2, _, _, _, h => by have := (h b).2 (by simp); simp at this
 | a :: t1, [], _, _, _, h => by have := (h a).1 (by simp); simp at this
 | a :: t1, b :: t2, ha, h1, h2, h => by
   rw [List.pairwise_cons] at h1 h2
   have e : a = b := by
     rcases List.mem_cons.1 ((h a).1 (by simp)) with e | m1
     · exact e
     · rcases List.mem_cons.1 ((h b).2 (by simp)) with e | m2
       · exact e.symm
       · exact absurd (h2.1 a m1) (ha a (by simp) b (by simp [m2]) (h1.1 b m2))
   subst e
   have n1 : a ∉ t1 := fun m => ha a (by simp) a (by simp) (h1.1 a m) (h1.1 a m)
   have n2 : a ∉ t2 := fun m => ha a (by simp) a (by simp) (h2.1 a m) (h2.1 a m)
   have := oR (R := R) (l1 := t1) (l2 := t2) (fun x hx y hy => ha x (by simp [hx]) y (by simp [hy])) h1.2 h2.2 fun x => by
     constructor
     · intro m
       rcases List.mem_cons.1 ((h x).1 (by simp [m])) with e | m'
       · subst e; exact absurd m n1
       · exact m'
     · intro m
       rcases List.mem_cons.1 ((h x).2 (by simp [m])) with e | m'
       · subst e; exact absurd m n2
       · exact m'
   rw [this]
section
variable {o : Pt} {ps : List Pt} {k : Nat} {l l' : List Int}
theorem jF (hz : hU o ps) {i j k : Int} (hi : 0 ≤ i ∧ i < ps.length) (hj : 0 ≤ j ∧ j < ps.length) (hk : 0 ≤ k ∧ k < ps.length) (h1 : j4 o ps i j) (h2 : j4 o ps j k) : j4 o ps i k :=
 sF (hz.nz hi.1 hi.2) (hz.nz hj.1 hj.2) (hz.nz hk.1 hk.2) h1 h2
theorem ou (hz : hU o ps) {i j : Int} (hi : 0 ≤ i ∧ i < ps.length) (hj : 0 ≤ j ∧ j < ps.length) (h1 : j4 o ps i j) : ¬ j4 o ps j i := fun h2 => ff _ _ (jF hz hi hj hi h1 h2)
theorem kP (hz : hU o ps) (hk : k ≤ ps.length) (h : r5 o ps k l) (h' : r5 o ps k l') : l = l' :=
 oR (fun a ha b hb h1 => ou hz (by have := (h.2 a).1 ha; omega) (by have := (h.2 b).1 hb; omega) h1) h.1 h'.1 fun x => (h.2 x).trans (h'.2 x).symm
theorem mp (hz : hU o ps) (hk : k < ps.length) (h : r5 o ps k l) {m : Nat} (hm : m ≤ l.length) (h1 : ∀ j : Nat, m ≤ j → j < l.length → j4 o ps (k : Int) (gI l (j : Int))) (h2 : m = 0 ∨ ¬ j4 o ps (k : Int) (gI l ((m : Int) - 1))) :
   r5 o ps (k + 1) (l.take m ++ (k : Int) :: l.drop m) := by
 have hin : ∀ j : Nat, j < l.length → 0 ≤ gI l (j : Int) ∧ gI l (j : Int) < (k : Int) := fun j hj => (h.2 _).1 (bg (by omega) (by omega))
 constructor
 · have hs : (l.take m ++ l.drop m).Pairwise (j4 o ps) := by rw [List.take_append_drop]; exact h.1
   rw [List.pairwise_append] at hs ⊢
   refine ⟨hs.1, ?_, ?_⟩
   · rw [List.pairwise_cons]
     refine ⟨fun x hx => ?_, hs.2.1⟩
     obtain ⟨j, hj, rfl⟩ := List.mem_iff_getElem.1 hx
     rw [List.length_drop] at hj
     have := h1 (m + j) (by omega) (by omega)
     rw [List.getElem_drop]
     have e : gI l ((m + j : Nat) : Int) = l[m + j] := by simp only [gI]; rw [Int.toNat_natCast]; simp [show m + j < l.length by omega]
     rwa [e] at this
   · intro x hx y hy
     rcases List.mem_cons.1 hy with rfl | hy
     · -- x lies ahead of m
       obtain ⟨j, hj, rfl⟩ := List.mem_iff_getElem.1 hx
       have hj' : j < m ∧ j < l.length := by rw [List.length_take] at hj; omega
       rw [List.getElem_take]
       have e : ∀ q (hq : q < l.length), gI l (q : Int) = l[q] := fun q hq => by simp only [gI]; rw [Int.toNat_natCast]; simp [hq]
       have hlast : j4 o ps (gI l ((m : Int) - 1)) (k : Int) := by
         have hb := hin (m - 1) (by omega)
         rw [show ((m - 1 : Nat) : Int) = (m : Int) - 1 by omega] at hb
         rcases iB (a := vA o ps (k : Int)) (b := vA o ps (gI l ((m : Int) - 1))) (i := (k : Int)) (k := gI l ((m : Int) - 1)) (by omega) with q | q
         · exact absurd q (by rcases h2 with h2 | h2; (· omega); (· exact h2))
         · exact q
       by_cases hjm : j = m - 1
       · subst hjm
         rw [← e _ hj'.2, show ((m - 1 : Nat) : Int) = (m : Int) - 1 by omega]
         exact hlast
       · have hp := List.pairwise_iff_getElem.1 h.1 j (m - 1) hj'.2 (by omega) (by omega)
         rw [← e _ hj'.2, ← e (m - 1) (by omega)] at hp
         rw [← e _ hj'.2]
         have b1 := hin j hj'.2
         have b2 := hin (m - 1) (by omega)
         rw [show ((m - 1 : Nat) : Int) = (m : Int) - 1 by omega] at hp b2
         exact jF hz (by omega) (by omega) (by omega) hp hlast
     · exact hs.2.2 x hx y hy
 · intro x
   have : x ∈ l.take m ++ (k : Int) :: l.drop m ↔ x = (k : Int) ∨ x ∈ l := by
     conv => rhs; rw [← List.take_append_drop m l]
     simp only [List.mem_append, List.mem_cons]
     constructor
     · rintro (h | h | h) <;> simp [h]
     · rintro (h | h | h) <;> simp [h]
   rw [this, h.2 x]
   omega
theorem ov (l : List Int) (P : Int → Prop) : ∀ m : Nat, m ≤ l.length → (∀ j : Nat, m ≤ j → j < l.length → P (gI l (j : Int))) → ∃ m' : Nat, m' ≤ l.length ∧ (∀ j : Nat, m' ≤ j → j < l.length → P (gI l (j : Int))) ∧ (m' = 0 ∨ ¬ P (gI l ((m' : Int) - 1)))
 | 0, h0, h => ⟨0, h0, h, .inl rfl⟩
 | m + 1, h0, h => by
   by_cases hp : P (gI l (m : Int))
   · exact ov l P m (by omega) (fun j hj hl => by
       by_cases e : j = m
       · subst e; exact hp
       · exact h j (by omega) hl)
   · exact ⟨m + 1, h0, h, .inr (by rwa [show ((m + 1 : Nat) : Int) - 1 = (m : Int) by omega])⟩
theorem lg (hz : hU o ps) : ∀ k : Nat, k ≤ ps.length → ∃ l, r5 o ps k l
 | 0, _ => ⟨[], .nil, fun x => by simp⟩
 | k + 1, hk => by
   obtain ⟨l, hl⟩ := lg hz k (by omega)
   obtain ⟨m, h0, h1, h2⟩ := ov l (j4 o ps (k : Int)) l.length (Nat.le_refl _) (fun j hj h => by omega)
   exact ⟨_, mp hz (by omega) hl h0 h1 h2⟩
open Classical in
noncomputable def arL (o : Pt) (ps : List Pt) : List Int := if h : ∃ l, r5 o ps ps.length l then choose h else []
theorem ia (hz : hU o ps) : r5 o ps ps.length (arL o ps) := by
 have h := lg hz ps.length (Nat.le_refl _)
 unfold arL
 rw [dif_pos h]
 exact Classical.choose_spec h
theorem sb (hz : hU o ps) (h : r5 o ps ps.length l) : l = arL o ps := kP hz (Nat.le_refl _) h (ia hz)
end
def eE (n : Nat) : List Int := (List.range n).map fun (i : Nat) => (i : Int)
theorem nH (n : Nat) : (eE n).length = n := by simp [eE]
theorem mX (n : Nat) : eE (n + 1) = eE n ++ [(n : Int)] := by simp [eE, List.range_succ]
open Classical in
noncomputable def arR (o : Pt) (ps : List Pt) : List Int × Int := if (cq o ∧ cW ps) ∧ hU o ps then (arL o ps, 0) else ([], 1)
theorem lk {o : Pt} {ps : List Pt} (h1 : cq o) (h2 : cW ps) (h3 : hU o ps) : arR o ps = (arL o ps, 0) := if_pos ⟨⟨h1, h2⟩, h3⟩
theorem i7 {o : Pt} {ps : List Pt} (h : ¬ ((cq o ∧ cW ps) ∧ hU o ps)) : arR o ps = ([], 1) := if_neg h
theorem nE {o : Pt} {ps : List Pt} {k : Nat} (h0 : (k : Int) < ps.length) (h : gI ps (k : Int) = o) : ¬ hU o ps := fun hz => hz k (by omega) h
theorem pf {x : Int} (h1 : -2097152 ≤ x) (h2 : x ≤ 2097152) : 0 ≤ x * x ∧ x * x ≤ 4398046511104 := by
 have := dR (x := x) (y := x) (by omega) (by omega)
 constructor
 · rcases Int.le_total 0 x with h | h
   · exact Int.mul_nonneg h h
   · exact Int.mul_nonneg_of_nonpos_of_nonpos h h
 · rcases Int.le_total 0 x with h | h
   · exact Int.mul_le_mul h2 h2 h (by omega)
   · have e := Int.neg_mul_neg x x
     have : (-x) * (-x) ≤ 2097152 * 2097152 := Int.mul_le_mul (by omega) (by omega) (by omega) (by omega)
     omega
theorem th {o : Pt} {ps : List Pt} {i : Int} (ho : cq o) (hp : cW ps) (h0 : 0 ≤ i) (h1 : i < ps.length) :
   (-2097152 ≤ (vA o ps i).1 ∧ (vA o ps i).1 ≤ 2097152) ∧ -2097152 ≤ (vA o ps i).2 ∧ (vA o ps i).2 ≤ 2097152 := by
 have := hp.2 _ (bg h0 h1)
 unfold cq at this ho
 unfold vA aV
 simp only
 omega
theorem rQ {o : Pt} {ps : List Pt} {i : Int} (ho : cq o) (hp : cW ps) (h0 : 0 ≤ i) (h1 : i < ps.length) :
   ((0 ≤ (vA o ps i).1 * (vA o ps i).1 ∧ (vA o ps i).1 * (vA o ps i).1 ≤ 4398046511104) ∧ 0 ≤ (vA o ps i).2 * (vA o ps i).2 ∧ (vA o ps i).2 * (vA o ps i).2 ≤ 4398046511104) := by
 have ⟨⟨a, b⟩, c, d⟩ := th ho hp h0 h1
 exact ⟨pf a b, pf c d⟩
section
variable {o : Pt} {ps : List Pt} {k : Nat} {l : List Int} {q : Int}
theorem mb (hz : hU o ps) (hk : k ≤ ps.length) (h : r5 o ps k l) : l.length = k := by
 induction k generalizing l with
 | zero =>
   cases l with
   | nil => rfl
   | cons a t => have := (h.2 a).1 (by simp); omega
 | succ k ih =>
   obtain ⟨l0, hl0⟩ := lg hz k (by omega)
   obtain ⟨m, h0, h1, h2⟩ := ov l0 (j4 o ps (k : Int)) l0.length (Nat.le_refl _) (fun j hj h => by omega)
   have := kP hz hk h (mp hz (by omega) hl0 h0 h1 h2)
   have hl := ih (by omega) hl0
   rw [this]
   simp [List.length_append, List.length_take, List.length_drop]
   omega
end
theorem kE {o : Pt} {ps : List Pt} (hz : hU o ps) {l : List Int} (hp : l.Perm (eE ps.length)) (hs : l.Pairwise fun x y => ¬ j4 o ps y x) : l = arL o ps := by
  refine sb hz ⟨?_, fun x => ?_⟩
  · have hn : l.Nodup := hp.nodup_iff.2 (by unfold eE; exact List.Pairwise.map _ (fun (a b : Nat) (h : a ≠ b) (e : (a : Int) = (b : Int)) => h (by omega)) List.nodup_range)
    refine (List.Pairwise.and hs hn).imp ?_
    intro x y ⟨h1, h2⟩
    rcases iB (a := vA o ps x) (b := vA o ps y) (i := x) (k := y) h2 with q | q
    · exact q
    · exact absurd q h1
  · rw [hp.mem_iff]
    unfold eE
    simp only [List.mem_map, List.mem_range]
    constructor
    · rintro ⟨a, h, rfl⟩; omega
    · intro h
      exact ⟨x.toNat, by omega, by omega⟩
section
variable {o : Pt} {ps : List Pt}
theorem gF (hz : hU o ps) : (arL o ps).length = ps.length := mb hz (Nat.le_refl _) (ia hz)
theorem l7 (hz : hU o ps) {i : Int} (h0 : 0 ≤ i) (h1 : i < ps.length) : 0 ≤ gI (arL o ps) i ∧ gI (arL o ps) i < (ps.length : Int) :=
 ((ia hz).2 _).1 (bg h0 (by rw [gF hz]; exact h1))
theorem sK (hz : hU o ps) {i j : Int} (h0 : 0 ≤ i) (hij : i < j) (h1 : j < ps.length) : j4 o ps (gI (arL o ps) i) (gI (arL o ps) j) := by
 have hl := gF hz
 have := List.pairwise_iff_getElem.1 (ia hz).1 i.toNat j.toNat (by omega) (by omega) (by omega)
 have e1 := fy (xs := arL o ps) (i := i) h0 (by omega)
 have e2 := fy (xs := arL o ps) (i := j) (by omega) (by omega)
 rw [List.getElem?_eq_getElem (by omega)] at e1 e2
 rw [← Option.some.inj e1, ← Option.some.inj e2]
 exact this
theorem sv (hz : hU o ps) {i j : Int} (h0 : 0 ≤ i) (hij : i < j) (h1 : j < ps.length) : gI (arL o ps) i ≠ gI (arL o ps) j := fun e => by
 have := sK hz h0 hij h1
 rw [e] at this
 exact ff _ _ this
end
end TL
/-
  TlFace: half-edges' next ones, faces.
  By an AI agent.
-/
set_option linter.all false
namespace TL
end TL
namespace TL
theorem eY.low {seen : List Bool} {P : List Int} {n h : Int} (hi : eY seen P n) (h0 : 0 ≤ h) (h1 : h < n) (hs : ¬ gI seen h = true) : h ∉ P := by
 have := hi.seen h h0 h1
 intro hm
 rw [this] at hs
 simp [hm] at hs
structure du (out : List (List Int)) (g : d5) (k : Nat) : Prop where
  len : (out.length : Int) = g.1
  at_ : ∀ v, 0 ≤ v → v < g.1 → gI out v = gc g v k
theorem du.start {g : d5} (h : 0 ≤ g.1) : du (List.replicate g.1.toNat []) g 0 := ⟨by simp; omega, fun v h0 h1 => by rw [l6 h0 (by omega)]; simp [gc]⟩
theorem du.next {out : List (List Int)} {g : d5} {k : Nat} (h : du out g k) (h1 : 0 ≤ (gI g.2 k).1) (h2 : (gI g.2 k).1 < g.1) (h3 : 0 ≤ (gI g.2 k).2) (h4 : (gI g.2 k).2 < g.1) {a b : Int} (ha : a = 2 * (k : Int)) (hb : b = 2 * (k : Int) + 1) :
   du ((out.set (gI g.2 k).1.toNat (gI out (gI g.2 k).1 ++ [a])).set (gI g.2 k).2.toNat (gI (out.set (gI g.2 k).1.toNat (gI out (gI g.2 k).1 ++ [a])) (gI g.2 k).2 ++ [b])) g (k + 1) := by
 have hl := h.len
 refine ⟨by simpa using hl, fun v h5 h6 => ?_⟩
 rw [gr h3 (by simp; omega) h5, gr h1 (by omega) h3, gr h1 (by omega) h5, lD, h.at_ _ h1 h2, h.at_ _ h3 h4, h.at_ v h5 h6, ha, hb]
 by_cases e2 : v = (gI g.2 (k : Int)).2
 · by_cases e1 : v = (gI g.2 (k : Int)).1
   · rw [← e1, ← e2]; simp
   · have e3 : ¬ (gI g.2 (k : Int)).2 = (gI g.2 (k : Int)).1 := fun h => e1 (e2.trans h)
     have e6 : ¬ (gI g.2 (k : Int)).1 = (gI g.2 (k : Int)).2 := fun h => e3 h.symm
     simp [e2, e3, e6]
 · have e4 : ¬ (gI g.2 (k : Int)).2 = v := fun h => e2 h.symm
   by_cases e1 : v = (gI g.2 (k : Int)).1
   · rw [if_neg e2, if_pos e1, if_neg e4, if_pos e1.symm, ← e1]; simp
   · have e5 : ¬ (gI g.2 (k : Int)).1 = v := fun h => e1 h.symm
     rw [if_neg e2, if_neg e1, if_neg e4, if_neg e5]; simp
end TL
namespace TL
end TL
/-
  TlWalk: going through a net breadth first, and its components, as the program does.
  By an AI agent.
-/
set_option linter.all false
namespace TL
end TL
namespace TL
def d6 (g : d5) (r : dQ) : dQ × Int := if cB g r = 0 then (ew r, 0) else ([], cB g r)
end TL
namespace TL
theorem du.rl {out : List (List Int)} {g : d5} {k : Nat} (h : du out g k) {v : Int} (h0 : 0 ≤ v) (h1 : v < g.1) : ((gI out v).length : Int) ≤ 2 * (k : Int) := by
 rw [h.at_ v h0 h1]
 have := jf g v k
 omega
theorem du.rl2 {out : List (List Int)} {g : d5} {k : Nat} (h : du out g k) {u v : Int} (h2 : 0 ≤ u) (h3 : u < g.1) (h0 : 0 ≤ v) (h1 : v < g.1) (a : Int) : ((gI (out.set u.toNat (gI out u ++ [a])) v).length : Int) ≤ 2 * (k : Int) + 1 := by
 have hl := h.len
 rw [gr h2 (by omega) h0]
 split
 · have := h.rl h2 h3; simp; omega
 · have := h.rl h0 h1; omega
theorem du.done {out : List (List Int)} {g : d5} {k : Nat} (h : du out g k) (hk : k = g.2.length) : ∀ v, 0 ≤ v → v < g.1 → gI out v = d7 g v := fun v h0 h1 => by
 subst hk; exact h.at_ v h0 h1
end TL
namespace TL
end TL
namespace TL
end TL
/-
  TlRot2: rotations: faces of half-edges, first ones, parts, moved ones.
  By an AI agent.
-/
set_option linter.all false
namespace TL
def eO (g : d5) : dQ := (List.range g.1.toNat).map fun (v : Nat) => d7 g (v : Int)
def bM (g : d5) : dQ × Int := if c7 g then (eO g, 0) else ([], 1)
theorem du.first {out : dQ} {g : d5} {k : Nat} (h : du out g k) (hk : k = g.2.length) : out = eO g := by
 have hl := h.len
 apply k7
 · simp [eO]; omega
 · intro i hi
   rw [h.done hk _ (by omega) (by omega)]
   have : i < g.1.toNat := by omega
   simp [eO, gI, this]
end TL
/-
  TlJudge: plots: their flaws, as the code and the document gather them.
  By an AI agent.
-/
set_option linter.all false
namespace TL
abbrev gB := Int × Int × Int
abbrev dJ := List Pt × List (List Pt)
def bw {β : Type} (f : Nat → List β) : Nat → List β
  | 0 => []
  | k + 1 => bw f k ++ f k
section
variable {β : Type} {f h : Nat → List β} {k n : Nat} {x : β} {F B : List β}
theorem c9 : ∀ {k : Nat}, bw f k = [] ↔ ∀ j, j < k → f j = []
 | 0 => by simp [bw]
 | k + 1 => by
   rw [bw, List.append_eq_nil_iff, c9]
   constructor
   · rintro ⟨h1, h2⟩ j hj
     by_cases e : j = k
     · subst e; exact h2
     · exact h1 j (by omega)
   · intro h
     exact ⟨fun j hj => h j (by omega), h k (by omega)⟩
theorem dI (hf : ∀ j, j < k → f j = []) : bw f k = [] := c9.2 hf
theorem ek : ∀ {k : Nat}, x ∈ bw f k ↔ ∃ j, j < k ∧ x ∈ f j
 | 0 => by simp [bw]
 | k + 1 => by
   rw [bw, List.mem_append, ek]
   constructor
   · rintro (⟨j, hj, hx⟩ | hx)
     · exact ⟨j, by omega, hx⟩
     · exact ⟨k, by omega, hx⟩
   · rintro ⟨j, hj, hx⟩
     by_cases e : j = k
     · subst e; exact .inr hx
     · exact .inl ⟨j, by omega, hx⟩
theorem jI {c : Nat} : ∀ {k : Nat}, (∀ j, j < k → (f j).length ≤ c) → (bw f k).length ≤ k * c
 | 0, _ => by simp [bw]
 | k + 1, e => by
   have h1 := jI (k := k) fun j hj => e j (by omega)
   have h2 := e k (by omega)
   rw [bw, List.length_append, Nat.succ_mul]
   omega
theorem cI (e : ∀ j, (f j).length ≤ 1) : (bw f k).length ≤ k := by
 have := jI (f := f) (k := k) (c := 1) fun j _ => e j
 omega
theorem fw {c : Nat} (hk : k ≤ 3072) (hc : c ≤ 3072) (e : ∀ j, (f j).length ≤ c) : (bw f k).length ≤ 9437184 := by
 have h1 := jI (f := f) (k := k) (c := c) fun j _ => e j
 have h2 : k * c ≤ 3072 * 3072 := Nat.mul_le_mul hk hc
 omega
theorem fm (hF : F = B ++ bw f k) (hf : f k = [x]) : F ++ [x] = B ++ bw f (k + 1) := by rw [hF, bw, hf, List.append_assoc]
theorem gm (hF : F = B ++ bw f k) (hf : f k = []) : F = B ++ bw f (k + 1) := by rw [hF, bw, hf, List.append_nil]
theorem kM (hF : F = bw f k) (hf : f k = [x]) : F ++ [x] = bw f (k + 1) := by rw [hF, bw, hf]
theorem mo (hF : F = bw f k) (hf : f k = []) : F = bw f (k + 1) := by rw [hF, bw, hf, List.append_nil]
theorem lJ (hF : F = (B ++ bw f k) ++ f k) : F = B ++ bw f (k + 1) := by rw [hF, bw, List.append_assoc]
end
def fl {β : Type} (p : Prop) [Decidable p] (x : β) : List β := if p then [x] else []
section
variable {β : Type} {p : Prop} [Decidable p] {x : β}
theorem dr (h : p) : fl p x = [x] := if_pos h
theorem cX (h : ¬ p) : fl p x = [] := if_neg h
theorem eA : (fl p x).length ≤ 1 := by unfold fl; split <;> simp
theorem fh : fl p x = [] ↔ ¬ p := by unfold fl; split <;> simp_all
theorem i4 {y : β} : y ∈ fl p x ↔ p ∧ y = x := by unfold fl; split <;> simp_all
end
def tG (l : List Pt) : Prop := 2 ≤ (l.length : Int) ∧ cW l
instance (l : List Pt) : Decidable (tG l) := by unfold tG; infer_instance
def ir (p : dJ) (v : Nat) : List gB := fl (¬ cq (gI p.1 (v : Int))) (2, (v : Int), 0)
def jU (p : dJ) (e : Nat) : List gB := fl (¬ tG (gI p.2 (e : Int))) (3, (e : Int), 0)
def c4 (g : d5) (p : dJ) : List gB :=
 if (p.1.length : Int) = g.1 ∧ (p.2.length : Int) = g.2.length then bw (ir p) p.1.length ++ bw (jU p) p.2.length else [(1, 0, 0)]
def oN (p : dJ) (v w : Nat) : List gB := fl (v < w ∧ gI p.1 (v : Int) = gI p.1 (w : Int)) (4, (v : Int), (w : Int))
def cd (p : dJ) : List gB := bw (fun v => bw (oN p v) p.1.length) p.1.length
def iN (g : d5) (p : dJ) (e : Int) : Prop := gI (gI p.2 e) 0 = gI p.1 (gI g.2 e).1 ∧ gI (gI p.2 e) (((gI p.2 e).length : Int) - 1) = gI p.1 (gI g.2 e).2
instance (g : d5) (p : dJ) (e : Int) : Decidable (iN g p e) := by unfold iN; infer_instance
def cG (g : d5) (p : dJ) (e : Nat) : List gB := fl (¬ iN g p (e : Int)) (5, (e : Int), 0)
def ec (p : dJ) (e : Nat) : List gB := fl (¬ gM (gI p.2 (e : Int))) (6, (e : Int), 0)
def dq (g : d5) (p : dJ) : List gB := bw (cG g p) p.2.length ++ bw (ec p) p.2.length
def e8 (l : List Pt) (q : Pt) : Prop := ∃ s ∈ k5 l (l.length - 1), bm s.1 s.2 q
instance (l : List Pt) (q : Pt) : Decidable (e8 l q) := by unfold e8; infer_instance
def eB (g : d5) (p : dJ) (e v : Nat) : List gB := fl (((v : Int) ≠ (gI g.2 (e : Int)).1 ∧ (v : Int) ≠ (gI g.2 (e : Int)).2) ∧ e8 (gI p.2 (e : Int)) (gI p.1 (v : Int))) (7, (e : Int), (v : Int))
def dA (g : d5) (p : dJ) : List gB := bw (fun e => bw (eB g p e) p.1.length) p.2.length
def fN (g : d5) (p : dJ) (e f : Int) : List Pt :=
  fl ((gI g.2 e).1 ∈ [(gI g.2 f).1, (gI g.2 f).2]) (gI p.1 (gI g.2 e).1) ++ fl ((gI g.2 e).2 ∈ [(gI g.2 f).1, (gI g.2 f).2]) (gI p.1 (gI g.2 e).2)
def co (s t : Sg) (but : List Pt) : Prop := aX s.1 s.2 t.1 t.2 = 0 ∨ (aX s.1 s.2 t.1 t.2 = 1 ∨ aX s.1 s.2 t.1 t.2 = 2) ∧ ∃ x ∈ but, cA s.1 s.2 t.1 t.2 x
instance (s t : Sg) (but : List Pt) : Decidable (co s t but) := by unfold co; infer_instance
def fI (a b but : List Pt) : Prop := ∀ s ∈ k5 a (a.length - 1), ∀ t ∈ k5 b (b.length - 1), co s t but
instance (a b but : List Pt) : Decidable (fI a b but) := by unfold fI; infer_instance
def dS (g : d5) (p : dJ) (e f : Nat) : List gB := fl (e < f ∧ ¬ fI (gI p.2 (e : Int)) (gI p.2 (f : Int)) (fN g p (e : Int) (f : Int))) (8, (e : Int), (f : Int))
def se (g : d5) (p : dJ) : List gB := bw (fun e => bw (dS g p e) p.2.length) p.2.length
def bY (g : d5) (p : dJ) : List gB :=
 if c4 g p = [] then cd p ++ dq g p ++ (if dq g p = [] then dA g p ++ se g p else []) else c4 g p
def aW (g : d5) (p : dJ) : List gB × Int := if c7 g then (bY g p, 0) else ([], 1)
section
variable {g : d5} {p : dJ}
structure rZ (g : d5) (p : dJ) : Prop where
  n : (p.1.length : Int) = g.1
  m : (p.2.length : Int) = g.2.length
  pt : ∀ v : Int, 0 ≤ v → v < p.1.length → cq (gI p.1 v)
  ln : ∀ e : Int, 0 ≤ e → e < p.2.length → 2 ≤ ((gI p.2 e).length : Int) ∧ cW (gI p.2 e)
theorem fO : c4 g p = [] ↔ rZ g p := by
 unfold c4
 by_cases c : (p.1.length : Int) = g.1 ∧ (p.2.length : Int) = g.2.length
 · rw [if_pos c, List.append_eq_nil_iff, c9, c9]
   constructor
   · rintro ⟨h1, h2⟩
     refine ⟨c.1, c.2, fun v h0 hv => ?_, fun e h0 he => ?_⟩
     · have := h1 v.toNat (by omega)
       unfold ir at this
       rw [fh, Int.toNat_of_nonneg h0] at this
       exact Classical.not_not.1 this
     · have := h2 e.toNat (by omega)
       unfold jU at this
       rw [fh, Int.toNat_of_nonneg h0] at this
       exact Classical.not_not.1 this
   · intro h
     exact ⟨fun v hv => fh.2 (Classical.not_not.2 (h.pt _ (by omega) (by omega))), fun e he => fh.2 (Classical.not_not.2 (h.ln _ (by omega) (by omega)))⟩
 · rw [if_neg c]
   exact ⟨fun h => by simp at h, fun h => absurd ⟨h.n, h.m⟩ c⟩
theorem jL (v : Nat) : (ir p v).length ≤ 1 := eA
theorem lZ (v : Nat) : (jU p v).length ≤ 1 := eA
theorem oL (u v : Nat) : (oN p u v).length ≤ 1 := eA
theorem kK (v : Nat) : (cG g p v).length ≤ 1 := eA
theorem oZ (v : Nat) : (ec p v).length ≤ 1 := eA
theorem jd (u v : Nat) : (eB g p u v).length ≤ 1 := eA
theorem iF (u v : Nat) : (dS g p u v).length ≤ 1 := eA
theorem iT (hm : c7 g) : ((c4 g p).length : Int) ≤ 5000 := by
 obtain ⟨_, h2, h3, _⟩ := hm
 unfold c4
 split
 · rename_i c
   have l1 := cI (f := ir p) (k := p.1.length) jL
   have l2 := cI (f := jU p) (k := p.2.length) lZ
   rw [List.length_append]; omega
 · simp
end
end TL
namespace TL
theorem iM {a b p : Pt} (ha : cq a) (hb : cq b) (hp : cq p) : (dK a b p).1 = decide (bm a b p) := by
 unfold dK; rw [if_pos ⟨ha, hb, hp⟩]
theorem nY {a b c d : Pt} (ha : cq a) (hb : cq b) (hc : cq c) (hd : cq d) : (cP a b c d).1 = aX a b c d := by
 unfold cP; rw [if_pos ⟨⟨ha, hb⟩, hc, hd⟩]
section
variable {l : List Pt} {p : Pt} {i : Nat}
theorem kT : e8 l p ↔ ∃ j : Nat, j + 1 < l.length ∧ bm (gI l (j : Int)) (gI l ((j : Int) + 1)) p := by
 unfold e8
 constructor
 · rintro ⟨s, hs, h⟩
   obtain ⟨j, hj, rfl⟩ := ey.1 hs
   exact ⟨j, by omega, h⟩
 · rintro ⟨j, hj, h⟩
   exact ⟨_, ey.2 ⟨j, by omega, rfl⟩, h⟩
theorem ng {b : Bool} (h : 1 ≤ i ∧ ∀ j : Nat, j + 1 < i → ¬ bm (gI l (j : Int)) (gI l ((j : Int) + 1)) p) (he : b = decide (bm (gI l ((i : Int) - 1)) (gI l (i : Int)) p)) (hb : ¬ b = true) : 1 ≤ i + 1 ∧ ∀ j : Nat, j + 1 < i + 1 → ¬ bm (gI l (j : Int)) (gI l ((j : Int) + 1)) p := by
 refine ⟨by omega, fun j hj => ?_⟩
 by_cases e : j + 1 = i
 · rw [he] at hb
   have e1 : (j : Int) = (i : Int) - 1 := by omega
   have e2 : (j : Int) + 1 = (i : Int) := by omega
   rw [e2, e1]
   simpa using hb
 · exact h.2 j (by omega)
theorem pg {b : Bool} (h1 : 1 ≤ i) (hi : (i : Int) < l.length) (he : b = decide (bm (gI l ((i : Int) - 1)) (gI l (i : Int)) p)) (hb : b = true) : true = decide (e8 l p) := by
 refine (decide_eq_true (kT.2 ⟨i - 1, by omega, ?_⟩)).symm
 rw [he] at hb
 have e1 : ((i - 1 : Nat) : Int) = (i : Int) - 1 := by omega
 rw [e1, show (i : Int) - 1 + 1 = (i : Int) by omega]
 exact of_decide_eq_true hb
theorem qY (h : 1 ≤ i ∧ ∀ j : Nat, j + 1 < i → ¬ bm (gI l (j : Int)) (gI l ((j : Int) + 1)) p) (hi : ¬ (i : Int) < l.length) : false = decide (e8 l p) := by
 refine (decide_eq_false fun ho => ?_).symm
 obtain ⟨j, hj, hb⟩ := kT.1 ho
 exact h.2 j (by omega) hb
end
section
variable {a b c d : Pt} {but : List Pt} {k : Nat} {m : Int}
theorem gz {x : Pt} {u v : Bool} (h1 : u = decide (bm a b x)) (h2 : v = decide (bm c d x)) (h : ¬ u = true ∨ ¬ v = true) : ¬ cA a b c d x := by
 rintro ⟨q1, q2⟩
 rcases h with h | h
 · exact h (h1.trans (decide_eq_true q1))
 · exact h (h2.trans (decide_eq_true q2))
theorem ns (hm : m = aX a b c d) (h : m = 0) : true = decide (co (a, b) (c, d) but) := (decide_eq_true (.inl (hm.symm.trans h))).symm
theorem ki {u v : Bool} (hm : m = aX a b c d) (h : m = 1 ∨ m = 2) (hk : (k : Int) < but.length) (h1 : u = decide (bm a b (gI but (k : Int)))) (h2 : v = decide (bm c d (gI but (k : Int)))) (q1 : u = true) (q2 : v = true) : true = decide (co (a, b) (c, d) but) :=
 (decide_eq_true (.inr ⟨by rw [← hm]; exact h, _, bg (by omega) hk, of_decide_eq_true (h1 ▸ q1), of_decide_eq_true (h2 ▸ q2)⟩)).symm
theorem ja (hm : m = aX a b c d) (h0 : ¬ m = 0) (h : ∀ j : Nat, j < k → ¬ cA a b c d (gI but (j : Int))) (hk : ¬ (k : Int) < but.length) : false = decide (co (a, b) (c, d) but) := by
 refine (decide_eq_false ?_).symm
 rintro (e | ⟨_, x, hx, hb⟩)
 · exact h0 (hm.trans e)
 · obtain ⟨j, hj, rfl⟩ := List.mem_iff_getElem.1 hx
   refine h j (by omega) ?_
   have e : gI but (j : Int) = but[j] := by unfold gI; rw [Int.toNat_natCast, List.getD_eq_getElem?_getD, List.getElem?_eq_getElem hj]; rfl
   rw [e]; exact hb
theorem rc (hm : m = aX a b c d) (h0 : ¬ m = 0) (h1 : ¬ m = 1) (h2 : ¬ m = 2) : false = decide (co (a, b) (c, d) but) := by
 refine (decide_eq_false ?_).symm
 rintro (e | ⟨e | e, _⟩)
 · exact h0 (hm.trans e)
 · exact h1 (hm.trans e)
 · exact h2 (hm.trans e)
end
def ei (p : dJ) (h : Int) : Pt := if h % 2 = 0 then gI (gI p.2 (h / 2)) 1 else gI (gI p.2 (h / 2)) (((gI p.2 (h / 2)).length : Int) - 2)
def sJ (u v : Pt) : Int := u.1 * v.1 + u.2 * v.2
def dM (u v : Pt) : Prop := dn u v = 0 ∧ 0 < sJ u v
instance (u v : Pt) : Decidable (dM u v) := by unfold dM; infer_instance
theorem oO {o a : Pt} (ho : cq o) (ha : cq a) : (-2097152 ≤ a.1 - o.1 ∧ a.1 - o.1 ≤ 2097152) ∧ -2097152 ≤ a.2 - o.2 ∧ a.2 - o.2 ≤ 2097152 := by
 unfold cq at ho ha; omega
end TL
namespace TL
theorem rU {o a b : Pt} (h : (a.1 - o.1) * (b.2 - o.2) = (a.2 - o.2) * (b.1 - o.1)) : decide (0 < (a.1 - o.1) * (b.1 - o.1) + (a.2 - o.2) * (b.2 - o.2)) = decide (dM (aV a o) (aV b o)) := by
 rw [decide_eq_decide]
 unfold dM dn sJ aV
 simp only
 omega
theorem sw {o a b : Pt} (h : ¬ (a.1 - o.1) * (b.2 - o.2) = (a.2 - o.2) * (b.1 - o.1)) : false = decide (dM (aV a o) (aV b o)) := by
 refine (decide_eq_false ?_).symm
 unfold dM dn sJ aV
 simp only
 omega
end TL
namespace TL
section
variable {g : d5} {p : dJ} {F G B : List gB} {v e k i : Nat}
theorem oH (h : decide (cW [gI p.1 (v : Int)]) = true) : ir p v = [] := cX (Classical.not_not.2 ((of_decide_eq_true h).2 _ (by simp)))
theorem oI (h : ¬ decide (cW [gI p.1 (v : Int)]) = true) : ir p v = [(2, (v : Int), 0)] :=
 dr fun ho => h (decide_eq_true ⟨by simp, fun x hx => by obtain rfl := List.mem_singleton.1 hx; exact ho⟩)
theorem rO (h : (((gI p.2 (e : Int)).length : Nat) : Int) < 2) : jU p e = [(3, (e : Int), 0)] := dr fun ho => by have := ho.1; omega
theorem rM (h : ¬ decide (cW (gI p.2 (e : Int))) = true) : jU p e = [(3, (e : Int), 0)] := dr fun ho => h (decide_eq_true ho.2)
theorem ry (h0 : ¬ (((gI p.2 (e : Int)).length : Nat) : Int) < 2) (h : decide (cW (gI p.2 (e : Int))) = true) : jU p e = [] := cX fun ho => ho ⟨by omega, of_decide_eq_true h⟩
theorem kI {β : Type} {f h : Nat → List β} {F : List β} {k n : Nat} (hF : F = bw f k) (hk : k = n) : F = bw f n ++ bw h 0 := by
 subst hk; rw [hF]; simp [bw]
theorem rK (h : ¬ ((p.1.length : Nat) : Int) = g.1) : [(1, 0, 0)] = c4 g p := by unfold c4; rw [if_neg fun c => h c.1]
theorem rF (h : ¬ ((p.2.length : Nat) : Int) = (g.2.length : Int)) : [(1, 0, 0)] = c4 g p := by unfold c4; rw [if_neg fun c => h c.2]
theorem rA (h1 : ((p.1.length : Nat) : Int) = g.1) (h2 : ((p.2.length : Nat) : Int) = (g.2.length : Int)) (hG : G = bw (ir p) p.1.length ++ bw (jU p) e) (he : e = p.2.length) : G = c4 g p := by
 unfold c4; rw [if_pos ⟨h1, h2⟩, hG, he]
theorem lR (hF : F = bw (ir p) v) : F.length ≤ v := by rw [hF]; exact cI jL
theorem lI (hF : F = bw (ir p) v ++ bw (jU p) e) : F.length ≤ v + e := by
 rw [hF, List.length_append]
 have l1 := cI (f := ir p) (k := v) jL
 have l2 := cI (f := jU p) (k := e) lZ
 omega
theorem nK (hF : F = c4 g p) (h : 0 < (F.length : Int)) : F = bY g p := by
 unfold bY
 rw [← hF, if_neg]
 intro e; subst e; simp at h
theorem oW (hF : F = c4 g p) (h : ¬ 0 < (F.length : Int)) : F = [] ∧ c4 g p = [] ∧ rZ g p := by
 have : F = [] := List.eq_nil_of_length_eq_zero (by omega)
 have h2 : c4 g p = [] := hF ▸ this
 exact ⟨this, h2, fO.1 h2⟩
def j5 (l : List Pt) (q : Pt) (k : Nat) : List Int := bw (fun j => fl (gI l (j : Int) = q) (j : Int)) k
theorem mI (l : List Pt) (q : Pt) (k : Nat) : (j5 l q k).length ≤ k := cI fun j => eA
theorem oa {l : List Pt} {first : Pt → List Int} {k : Nat} (h : first = fun q => j5 l q k) : (fun q => if q = gI l (k : Int) then first (gI l (k : Int)) ++ [(k : Int)] else first q) = fun q => j5 l q (k + 1) := by
 funext q
 rw [h]
 simp only [j5, bw]
 by_cases e : q = gI l (k : Int)
 · subst e
   rw [if_pos rfl, dr rfl]
 · rw [if_neg e, cX (fun h => e h.symm), List.append_nil]
def fZ (v : Nat) (u : Int) : List gB := fl ((v : Int) < u) (4, (v : Int), u)
theorem qI {k : Nat} : (j5 p.1 (gI p.1 (v : Int)) k).flatMap (fZ v) = bw (oN p v) k := by
 induction k with
 | zero => rfl
 | succ k ih =>
   have e1 : j5 p.1 (gI p.1 (v : Int)) (k + 1) = j5 p.1 (gI p.1 (v : Int)) k ++ fl (gI p.1 (k : Int) = gI p.1 (v : Int)) (k : Int) := rfl
   rw [e1, List.flatMap_append, ih, bw]
   congr 1
   unfold oN fZ
   by_cases c : gI p.1 (k : Int) = gI p.1 (v : Int)
   · rw [dr c, List.flatMap_cons]
     simp only [List.flatMap_nil, List.append_nil]
     by_cases c2 : v < k
     · rw [dr (by omega), dr ⟨c2, c.symm⟩]
     · rw [cX (by omega), cX (fun h => c2 h.1)]
   · rw [cX c, cX (fun h => c h.2.symm)]; rfl
def fa (p : dJ) (v : Nat) : List gB := bw (oN p v) p.1.length
theorem oy {l : List Int} (hF : F = bw (fa p) v) : F = bw (fa p) v ++ (l.take 0).flatMap (fZ v) := by rw [hF]; simp
theorem qg {l : List Int} (hG : G = bw (fa p) v ++ (l.take i).flatMap (fZ v)) (hi : (i : Int) < l.length) (h : (v : Int) < gI l (i : Int)) : G ++ [(4, (v : Int), gI l (i : Int))] = bw (fa p) v ++ (l.take (i + 1)).flatMap (fZ v) := by
 rw [bP hi, List.flatMap_append, hG]
 simp [fZ, dr h]
theorem sD {l : List Int} (hG : G = bw (fa p) v ++ (l.take i).flatMap (fZ v)) (hi : (i : Int) < l.length) (h : ¬ (v : Int) < gI l (i : Int)) : G = bw (fa p) v ++ (l.take (i + 1)).flatMap (fZ v) := by
 rw [bP hi, List.flatMap_append, hG]
 simp [fZ, cX h]
theorem og {first : Pt → List Int} {n : Nat} (hf : first = fun q => j5 p.1 q n) (hn : n = p.1.length) (hG : G = bw (fa p) v ++ ((first (gI p.1 (v : Int))).take i).flatMap (fZ v)) (hi : ¬ (i : Int) < (first (gI p.1 (v : Int))).length) : G = bw (fa p) (v + 1) := by
 rw [List.take_of_length_le (by omega), hf] at hG
 simp only at hG
 rw [qI, hn] at hG
 exact hG
theorem kN (v : Nat) : (fa p v).length ≤ p.1.length := cI (oL v)
theorem ra {l : List Int} (hn : p.1.length ≤ 1024) (hv : v ≤ 1024) (hG : G = bw (fa p) v ++ (l.take i).flatMap (fZ v)) (hl : l.length ≤ 1024) : G.length ≤ 9440000 := by
 have l1 := fw (f := fa p) (k := v) (c := 1024) (by omega) (by omega) fun j => Nat.le_trans (kN j) hn
 have l2 : ∀ m : List Int, (m.flatMap (fZ v)).length ≤ m.length := fun m => by
   induction m with
   | nil => simp
   | cons a m ih =>
     have h1 : (fZ v a).length ≤ 1 := eA
     rw [List.flatMap_cons, List.length_append, List.length_cons]; omega
 have l3 := l2 (l.take i)
 rw [List.length_take] at l3
 rw [hG, List.length_append]; omega
theorem sx (hn : p.1.length ≤ 1024) (hv : v ≤ 1024) (hG : G = bw (fa p) v) : G.length ≤ 9440000 := by
 have l1 := fw (f := fa p) (k := v) (c := 1024) (by omega) (by omega) fun j => Nat.le_trans (kN j) hn
 rw [hG]; omega
theorem ow : cd p = bw (fa p) p.1.length := rfl
theorem jg (hn : p.1.length ≤ 1024) : (cd p).length ≤ 9440000 := sx hn hn rfl
theorem nk (hF : F = bw (fa p) v) (hv : v = p.1.length) : F = cd p ++ bw (cG g p) 0 ∧ true = decide (bw (cG g p) 0 = []) := by
 subst hv; rw [hF, ow]; simp [bw]
theorem kL {b : Bool} (h : F = cd p ++ bw (cG g p) e ∧ b = decide (bw (cG g p) e = [])) (hn : ¬ iN g p (e : Int)) : F ++ [(5, (e : Int), 0)] = cd p ++ bw (cG g p) (e + 1) ∧ false = decide (bw (cG g p) (e + 1) = []) := by
 have hx : cG g p e = [(5, (e : Int), 0)] := dr hn
 exact ⟨fm h.1 hx, (decide_eq_false (by rw [bw, hx]; simp)).symm⟩
theorem pw {b : Bool} (h : F = cd p ++ bw (cG g p) e ∧ b = decide (bw (cG g p) e = [])) (hn : iN g p (e : Int)) : F = cd p ++ bw (cG g p) (e + 1) ∧ b = decide (bw (cG g p) (e + 1) = []) := by
 have hx : cG g p e = [] := cX (Classical.not_not.2 hn)
 refine ⟨gm h.1 hx, ?_⟩
 rw [h.2, bw, hx, List.append_nil]
theorem oD (hn : p.1.length ≤ 1024) (he : e ≤ 3072) (h : F = cd p ++ bw (cG g p) e) : F.length ≤ 9500000 := by
 have l1 := jg hn
 have l2 := cI (f := cG g p) (k := e) kK
 rw [h, List.length_append]; omega
theorem nM {b : Bool} (h : F = cd p ++ bw (cG g p) e ∧ b = decide (bw (cG g p) e = [])) (he : e = p.2.length) : F = cd p ++ (bw (cG g p) p.2.length ++ bw (ec p) 0) ∧ b = decide (bw (cG g p) p.2.length ++ bw (ec p) 0 = []) := by
 subst he; simpa [bw] using h
theorem oE {b : Bool} (h : F = cd p ++ (bw (cG g p) p.2.length ++ bw (ec p) e) ∧ b = decide (bw (cG g p) p.2.length ++ bw (ec p) e = [])) (hn : ¬ gM (gI p.2 (e : Int))) : F ++ [(6, (e : Int), 0)] = cd p ++ (bw (cG g p) p.2.length ++ bw (ec p) (e + 1)) ∧ false = decide (bw (cG g p) p.2.length ++ bw (ec p) (e + 1) = []) := by
 have hx : ec p e = [(6, (e : Int), 0)] := dr hn
 refine ⟨?_, (decide_eq_false (by rw [bw, hx]; simp)).symm⟩
 rw [h.1, bw, hx]; simp
theorem rj {b : Bool} (h : F = cd p ++ (bw (cG g p) p.2.length ++ bw (ec p) e) ∧ b = decide (bw (cG g p) p.2.length ++ bw (ec p) e = [])) (hn : gM (gI p.2 (e : Int))) : F = cd p ++ (bw (cG g p) p.2.length ++ bw (ec p) (e + 1)) ∧ b = decide (bw (cG g p) p.2.length ++ bw (ec p) (e + 1) = []) := by
 have hx : ec p e = [] := cX (Classical.not_not.2 hn)
 rw [bw, hx, List.append_nil]; exact h
theorem lY (hn : p.1.length ≤ 1024) (hm : p.2.length ≤ 3072) (he : e ≤ 3072) (h : F = cd p ++ (bw (cG g p) p.2.length ++ bw (ec p) e)) : F.length ≤ 9500000 := by
 have l1 := jg hn
 have l2 := cI (f := cG g p) (k := p.2.length) kK
 have l3 := cI (f := ec p) (k := e) oZ
 rw [h, List.length_append, List.length_append]; omega
theorem jk {b : Bool} (h : F = cd p ++ (bw (cG g p) p.2.length ++ bw (ec p) e) ∧ b = decide (bw (cG g p) p.2.length ++ bw (ec p) e = [])) (he : e = p.2.length) : F = cd p ++ dq g p ∧ b = decide (dq g p = []) := by
 subst he; exact h
def cV (g : d5) (p : dJ) : List gB := cd p ++ dq g p
theorem kb (hn : p.1.length ≤ 1024) (hm : p.2.length ≤ 3072) : (cV g p).length ≤ 9500000 := lY hn hm hm rfl
def gp (g : d5) (p : dJ) (e : Nat) : List gB := bw (eB g p e) p.1.length
def gW (g : d5) (p : dJ) (e : Nat) : List gB := bw (dS g p e) p.2.length
theorem kg (e : Nat) : (gp g p e).length ≤ p.1.length := cI (jd e)
theorem oc (e : Nat) : (gW g p e).length ≤ p.2.length := cI (iF e)
theorem lp (h : F = cd p ++ dq g p) : F = cV g p ++ bw (gp g p) 0 := by rw [h]; simp [bw, cV]
theorem mW (hn : p.1.length ≤ 1024) (hm : p.2.length ≤ 3072) (he : e ≤ 3072) (hv : v ≤ 1024) (h : G = (cV g p ++ bw (gp g p) e) ++ bw (eB g p e) v) : G.length ≤ 20000000 := by
 have l1 := kb (g := g) hn hm
 have l2 := fw (f := gp g p) (k := e) (c := 1024) he (by omega) fun j => Nat.le_trans (kg j) hn
 have l3 := cI (f := eB g p e) (k := v) (jd e)
 rw [h, List.length_append, List.length_append]; omega
theorem n8 (h : G = (cV g p ++ bw (gp g p) e) ++ bw (eB g p e) v) (hv : v = p.1.length) : G = cV g p ++ bw (gp g p) (e + 1) := by
 subst hv; exact lJ h
theorem lB (h : F = cV g p ++ bw (gp g p) e) (he : e = p.2.length) : F = (cV g p ++ dA g p) ++ bw (gW g p) 0 := by
 subst he; rw [h]; simp [bw, dA]; rfl
theorem lh (h : F = (cV g p ++ dA g p) ++ bw (gW g p) e) : F = ((cV g p ++ dA g p) ++ bw (gW g p) e) ++ bw (dS g p e) (e + 1) ∧ e < e + 1 := by
 refine ⟨?_, by omega⟩
 rw [dI (f := dS g p e) (k := e + 1) fun j hj => cX fun h => by omega, List.append_nil]; exact h
theorem nq (hn : p.1.length ≤ 1024) (hm : p.2.length ≤ 3072) : (dA g p).length ≤ 9437184 :=
 fw (f := gp g p) (k := p.2.length) (c := 1024) (by omega) (by omega) fun j => Nat.le_trans (kg j) hn
theorem nj {f : Nat} (hn : p.1.length ≤ 1024) (hm : p.2.length ≤ 3072) (he : e ≤ 3072) (hf : f ≤ 3072) (h : G = ((cV g p ++ dA g p) ++ bw (gW g p) e) ++ bw (dS g p e) f) : G.length ≤ 40000000 := by
 have l1 := kb (g := g) hn hm
 have l0 := nq (g := g) hn hm
 have l2 := fw (f := gW g p) (k := e) (c := 3072) he (by omega) fun j => Nat.le_trans (oc j) hm
 have l3 := cI (f := dS g p e) (k := f) (iF e)
 rw [h, List.length_append, List.length_append, List.length_append]; omega
theorem n9 {f : Nat} (h : G = ((cV g p ++ dA g p) ++ bw (gW g p) e) ++ bw (dS g p e) f) (hf : f = p.2.length) : G = (cV g p ++ dA g p) ++ bw (gW g p) (e + 1) := by
 subst hf; exact lJ h
theorem r4 (h : (v : Int) = (gI g.2 (e : Int)).1) : eB g p e v = [] := cX fun c => c.1.1 h
theorem qr (h : (v : Int) = (gI g.2 (e : Int)).2) : eB g p e v = [] := cX fun c => c.1.2 h
theorem qe (h : ¬ decide (e8 (gI p.2 (e : Int)) (gI p.1 (v : Int))) = true) : eB g p e v = [] := cX fun c => h (decide_eq_true c.2)
theorem qf (h1 : ¬ (v : Int) = (gI g.2 (e : Int)).1) (h2 : ¬ (v : Int) = (gI g.2 (e : Int)).2) (h : decide (e8 (gI p.2 (e : Int)) (gI p.1 (v : Int))) = true) : eB g p e v = [(7, (e : Int), (v : Int))] := dr ⟨⟨h1, h2⟩, of_decide_eq_true h⟩
theorem pc {b : Bool} (hs : c4 g p = []) (hF : F = cd p ++ dq g p) (hb : b = decide (dq g p = [])) (h : ¬ b = true) : F = bY g p := by
 have : ¬ dq g p = [] := fun e => h (hb.trans (decide_eq_true e))
 unfold bY
 rw [if_pos hs, if_neg this, List.append_nil]; exact hF
theorem mS {b : Bool} (hs : c4 g p = []) (hb : b = decide (dq g p = [])) (h : b = true) (hF : F = (cV g p ++ dA g p) ++ bw (gW g p) e) (he : e = p.2.length) : F = bY g p := by
 have : dq g p = [] := of_decide_eq_true (hb ▸ h)
 subst he
 unfold bY
 rw [if_pos hs, if_pos this, hF]
 unfold cV
 rw [List.append_assoc]; rfl
end
section
variable {g : d5} {p : dJ} {e f : Int}
theorem tj (h1 : ¬ decide ((gI g.2 e).1 ∈ [(gI g.2 f).1, (gI g.2 f).2]) = true) (h2 : ¬ decide ((gI g.2 e).2 ∈ [(gI g.2 f).1, (gI g.2 f).2]) = true) : [] = fN g p e f := by
 unfold fN; rw [cX fun h => h1 (decide_eq_true h), cX fun h => h2 (decide_eq_true h)]; rfl
theorem tf (h1 : decide ((gI g.2 e).1 ∈ [(gI g.2 f).1, (gI g.2 f).2]) = true) (h2 : ¬ decide ((gI g.2 e).2 ∈ [(gI g.2 f).1, (gI g.2 f).2]) = true) : [gI p.1 (gI g.2 e).1] = fN g p e f := by
 unfold fN; rw [dr (of_decide_eq_true h1), cX fun h => h2 (decide_eq_true h)]; rfl
theorem tk (h1 : ¬ decide ((gI g.2 e).1 ∈ [(gI g.2 f).1, (gI g.2 f).2]) = true) (h2 : decide ((gI g.2 e).2 ∈ [(gI g.2 f).1, (gI g.2 f).2]) = true) : [gI p.1 (gI g.2 e).2] = fN g p e f := by
 unfold fN; rw [dr (of_decide_eq_true h2), cX fun h => h1 (decide_eq_true h)]; rfl
theorem t7 (h1 : decide ((gI g.2 e).1 ∈ [(gI g.2 f).1, (gI g.2 f).2]) = true) (h2 : decide ((gI g.2 e).2 ∈ [(gI g.2 f).1, (gI g.2 f).2]) = true) : [gI p.1 (gI g.2 e).1] ++ [gI p.1 (gI g.2 e).2] = fN g p e f := by
 unfold fN; rw [dr (of_decide_eq_true h2), dr (of_decide_eq_true h1)]
theorem sM : (fN g p e f).length ≤ 2 := by
 unfold fN
 rw [List.length_append]
 have h1 : (fl ((gI g.2 e).1 ∈ [(gI g.2 f).1, (gI g.2 f).2]) (gI p.1 (gI g.2 e).1)).length ≤ 1 := eA
 have h2 : (fl ((gI g.2 e).2 ∈ [(gI g.2 f).1, (gI g.2 f).2]) (gI p.1 (gI g.2 e).2)).length ≤ 1 := eA
 omega
theorem jw {x : Pt} : x ∈ fN g p e f ↔ ∃ v, (v = (gI g.2 e).1 ∨ v = (gI g.2 e).2) ∧ (v = (gI g.2 f).1 ∨ v = (gI g.2 f).2) ∧ x = gI p.1 v := by
 unfold fN
 rw [List.mem_append, i4, i4]
 simp only [List.mem_cons, List.not_mem_nil, or_false]
 constructor
 · rintro (⟨h1, h2⟩ | ⟨h1, h2⟩)
   · exact ⟨_, .inl rfl, h1, h2⟩
   · exact ⟨_, .inr rfl, h1, h2⟩
 · rintro ⟨v, rfl | rfl, h1, h2⟩
   · exact .inl ⟨h1, h2⟩
   · exact .inr ⟨h1, h2⟩
theorem ed (hm : c7 g) (h0 : 0 ≤ e) (h1 : e < g.2.length) : (0 ≤ (gI g.2 e).1 ∧ (gI g.2 e).1 < g.1) ∧ 0 ≤ (gI g.2 e).2 ∧ (gI g.2 e).2 < g.1 := hm.2.2.2 _ (bg h0 h1)
theorem tl (hm : c7 g) (hs : rZ g p) (h0 : 0 ≤ e) (h1 : e < g.2.length) : ∀ x ∈ fN g p e f, cq x := by
 intro x hx
 obtain ⟨v, hv, _, rfl⟩ := jw.1 hx
 obtain ⟨⟨a1, a2⟩, a3, a4⟩ := ed hm h0 h1
 have := hs.n
 rcases hv with rfl | rfl
 · exact hs.pt _ a1 (by omega)
 · exact hs.pt _ a3 (by omega)
end
section
variable {a b but : List Pt} {i k : Nat}
theorem js : fI a b but ↔ ∀ j : Nat, j + 1 < a.length → ∀ q : Nat, q + 1 < b.length → co (gI a (j : Int), gI a ((j : Int) + 1)) (gI b (q : Int), gI b ((q : Int) + 1)) but := by
 unfold fI
 constructor
 · intro h j hj q hq
   exact h _ (ey.2 ⟨j, by omega, rfl⟩) _ (ey.2 ⟨q, by omega, rfl⟩)
 · intro h s hs t ht
   obtain ⟨j, hj, rfl⟩ := ey.1 hs
   obtain ⟨q, hq, rfl⟩ := ey.1 ht
   exact h j (by omega) q (by omega)
theorem qC (h : 1 ≤ i ∧ ∀ j : Nat, j + 1 < i → ∀ q : Nat, q + 1 < b.length → co (gI a (j : Int), gI a ((j : Int) + 1)) (gI b (q : Int), gI b ((q : Int) + 1)) but)
   (h2 : 1 ≤ k ∧ ∀ q : Nat, q + 1 < k → co (gI a ((i : Int) - 1), gI a (i : Int)) (gI b (q : Int), gI b ((q : Int) + 1)) but) (hk : ¬ (k : Int) < b.length) :
   1 ≤ i + 1 ∧ ∀ j : Nat, j + 1 < i + 1 → ∀ q : Nat, q + 1 < b.length → co (gI a (j : Int), gI a ((j : Int) + 1)) (gI b (q : Int), gI b ((q : Int) + 1)) but := by
 refine ⟨by omega, fun j hj q hq => ?_⟩
 by_cases e : j + 1 = i
 · have h3 := h2.2 q (by omega)
   rw [show (j : Int) = (i : Int) - 1 by omega, show (i : Int) - 1 + 1 = (i : Int) by omega]
   exact h3
 · exact h.2 j (by omega) q hq
theorem om (h : 1 ≤ k ∧ ∀ q : Nat, q + 1 < k → co (gI a ((i : Int) - 1), gI a (i : Int)) (gI b (q : Int), gI b ((q : Int) + 1)) but) (ho : decide (co (gI a ((i : Int) - 1), gI a (i : Int)) (gI b ((k : Int) - 1), gI b (k : Int)) but) = true) :
   1 ≤ k + 1 ∧ ∀ q : Nat, q + 1 < k + 1 → co (gI a ((i : Int) - 1), gI a (i : Int)) (gI b (q : Int), gI b ((q : Int) + 1)) but := by
 refine ⟨by omega, fun q hq => ?_⟩
 by_cases e : q + 1 = k
 · rw [show (q : Int) = (k : Int) - 1 by omega, show (k : Int) - 1 + 1 = (k : Int) by omega]
   exact of_decide_eq_true ho
 · exact h.2 q (by omega)
theorem sS (h1 : 1 ≤ i) (hi : (i : Int) < a.length) (h2 : 1 ≤ k) (hk : (k : Int) < b.length) (ho : ¬ decide (co (gI a ((i : Int) - 1), gI a (i : Int)) (gI b ((k : Int) - 1), gI b (k : Int)) but) = true) : false = decide (fI a b but) := by
 refine (decide_eq_false fun h => ho (decide_eq_true ?_)).symm
 have := js.1 h (i - 1) (by omega) (k - 1) (by omega)
 rwa [show ((i - 1 : Nat) : Int) = (i : Int) - 1 by omega, show ((k - 1 : Nat) : Int) = (k : Int) - 1 by omega, show (i : Int) - 1 + 1 = (i : Int) by omega, show (k : Int) - 1 + 1 = (k : Int) by omega] at this
theorem qo (h : 1 ≤ i ∧ ∀ j : Nat, j + 1 < i → ∀ q : Nat, q + 1 < b.length → co (gI a (j : Int), gI a ((j : Int) + 1)) (gI b (q : Int), gI b ((q : Int) + 1)) but) (hi : ¬ (i : Int) < a.length) : true = decide (fI a b but) :=
 (decide_eq_true (js.2 fun j hj => h.2 j (by omega))).symm
end
section
variable {g : d5} {p : dJ} {e f : Nat} {b : Bool}
theorem li (hef : e < f) (hb : b = decide (fI (gI p.2 (e : Int)) (gI p.2 (f : Int)) (fN g p (e : Int) (f : Int)))) (h : ¬ b = true) : dS g p e f = [(8, (e : Int), (f : Int))] :=
 dr ⟨hef, fun c => h (hb.trans (decide_eq_true c))⟩
theorem nn (hb : b = decide (fI (gI p.2 (e : Int)) (gI p.2 (f : Int)) (fN g p (e : Int) (f : Int)))) (h : b = true) : dS g p e f = [] :=
 cX fun c => c.2 (of_decide_eq_true (hb ▸ h))
end
end TL
/-
  TlArr: the whole of an array that lies in a list, as a list.
  By an AI agent.
-/
set_option linter.all false
namespace TL
open Go
def nw (v : Value) (i : Nat) : Value := .slice (some (aN v 2 i)) 2 2
section
variable {P : Program} {f : Fr} {w : World} {dst : Option Tmp} {ty : TypeId} {pos : String} {after : Array Edge} {g : Option (Nat × Bool)} {t e : TypeId} {x y : Operand}
theorem fF {v : Value} {i : Nat} (ht : P.underlying t = some (.array 2 e)) (hs : (P.info? e).map (·.size) = some 1) (hx : ev f x = .pointer (some (aN v 2 i))) :
   (execOp (ev f) ⟨dst, .slice t x none none none, ty, pos, after, g⟩).run P w = .ok (.value (nw v i)) w := by
 cases hq : P.info? e with
 | none => simp [hq] at hs
 | some q =>
   have hsub : execOp (ev f) ⟨dst, .slice t x none none none, ty, pos, after, g⟩ = (do pure (.value (← Instr.sliceAt t (.pointer (some (aN v 2 i))) none none none))) := by
     simp [execOp, hx]
   rw [hsub]
   have ha : (aN v 2 i).add 0 = aN v 2 i := by rw [i9, Nat.add_zero, ← fP]
   simp [Instr.sliceAt, Instr.sureAddr, Instr.sliceBounds, b6 ht, cx hq, nw, ha]
theorem ls {γ : aS} {S : cj → Prop} {v : Value} {xs : List (Int × Int)} {i : Int} (hs : Sl γ S w v xs) (h0 : 0 ≤ i) (h1 : i < xs.length) : Sl γ S w (nw v i.toNat) [(gI xs i).1, (gI xs i).2] := by
 have hg := fy h0 h1
 rcases hs with ⟨⟨_, rfl⟩, rfl⟩ | ⟨b, off, cap, rfl, _, hx⟩
 · simp at h1; omega
 · obtain ⟨hb, hS, cs, hcs, hr⟩ := hx _ _ hg
   have hr' : cs = [.int .i64 (gI xs i).1, .int .i64 (gI xs i).2] := by
     have := Fl.rep_iff.1 hr
     simpa [Fl.cells] using this
   refine .inr ⟨b, off + i.toNat * 2, 2, rfl, ⟨by simp, by simp⟩, fun j x hj => ?_⟩
   have hc0 := hcs 0 (by decide)
   have hc1 := hcs 1 (by decide)
   rw [hr'] at hc0 hc1
   have hlt : j < 2 := by have := (List.getElem?_eq_some_iff.1 hj).1; simpa using this
   rcases (by omega : j = 0 ∨ j = 1) with rfl | rfl
   · have hx0 : (gI xs i).1 = x := by simpa using hj
     refine ⟨hb, hS, [.int .i64 (gI xs i).1], fun q hq => ?_, by rw [hx0]; rfl⟩
     have : q = 0 := by have h9 : q < 1 := hq; omega
     subst this
     exact hc0
   · have hx0 : (gI xs i).2 = x := by simpa using hj
     refine ⟨hb, hS, [.int .i64 (gI xs i).2], fun q hq => ?_, by rw [hx0]; rfl⟩
     have : q = 0 := by have h9 : q < 1 := hq; omega
     subst this
     exact hc1
end
end TL
/-
  TlCyc: lists gone round: what stands behind what; rotations turned, and moved.
  By an AI agent.
-/
set_option linter.all false
namespace TL
section
variable {g : d5} {r : dQ} {to : List Int}
end
theorem lb {g : d5} {r : dQ} (hm : c7 g) (hrp : hZ g r) : d6 g r = (ew r, 0) := by unfold d6; rw [if_pos (kz hm hrp)]
end TL
/-
  TlOrb: going round by a permutation; two places changed; what that does to the numbers of rounds.
  By an AI agent.
-/
set_option linter.all false
namespace TL
def tr (a b x : Int) : Int := if x = a then b else if x = b then a else x
end TL
/-
  TlDual: faces as nodes: the dual, corners' faces, edges laid, taken and split, ways over faces, as plain functions.
  By an AI agent.
-/
set_option linter.all false
namespace TL
def rE (g : d5) (r : dQ) (c : Int × Int) : Prop := (0 ≤ c.1 ∧ c.1 < g.1) ∧ if ((gI r c.1).length : Int) = 0 then c.2 = -1 else c.2 ∈ gI r c.1
instance (g : d5) (r : dQ) (c : Int × Int) : Decidable (rE g r c) := by unfold rE; infer_instance
theorem oY {l : List Int} {x : Int} : decide (0 ≤ cZ l x) = decide (x ∈ l) := by
 unfold cZ
 by_cases h : x ∈ l
 · rw [if_pos h, decide_eq_true h, decide_eq_true (by omega)]
 · rw [if_neg h, decide_eq_false h]; rfl
end TL
namespace TL
end TL
namespace TL
end TL
namespace TL
section
variable {g : d5} {r : dQ} {a b : Int × Int}
end
end TL
