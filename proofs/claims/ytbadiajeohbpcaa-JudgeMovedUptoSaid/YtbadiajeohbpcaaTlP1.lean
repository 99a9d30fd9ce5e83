/- Plain texts of this claim, part 1. By an AI agent. -/
import Derived.Test.YtbadiajeohbpcaaTlP0
import Derived.Laws.StructEq
/-
  TlNetSums: degrees' sum; all edges, all nodes; moved there and back.
  By an AI agent.
-/
set_option linter.all false
namespace TL
def gB (n : Nat) : List Int := (List.range n).map fun (i : Nat) => (i : Int)
theorem oF (n : Nat) : (gB n).length = n := by simp [gB]
theorem nR (n : Nat) : gB (n + 1) = gB n ++ [(n : Int)] := by simp [gB, List.range_succ]
theorem kT {n : Nat} {x : Int} : x ∈ gB n ↔ 0 ≤ x ∧ x < n := by
 unfold gB
 rw [List.mem_map]
 constructor
 · rintro ⟨i, hi, rfl⟩
   have := List.mem_range.1 hi
   omega
 · rintro ⟨h1, h2⟩
   exact ⟨x.toNat, List.mem_range.2 (by omega), by omega⟩
theorem m8 (n : Nat) : (gB n).Nodup := by
 induction n with
 | zero => simp [gB]
 | succ n ih =>
   rw [nR, List.nodup_append]
   refine ⟨ih, by simp, fun a ha b hb => ?_⟩
   have := kT.1 ha
   have := List.mem_singleton.1 hb
   omega
theorem pq : ∀ (n : Nat) (l : List Int), l.Nodup → (∀ x ∈ l, 0 ≤ x ∧ x < (n : Int)) → l.length ≤ n
 | 0, l, _, h => by
   cases l with
   | nil => simp
   | cons a l => have := h a (by simp); omega
 | n + 1, l, hn, h => by
   have h1 : (l.erase (n : Int)).Nodup := hn.erase _
   have h2 := pq n (l.erase (n : Int)) h1 (fun x hx => by
     have h3 := hn.mem_erase_iff.1 hx
     have := h x h3.2
     omega)
   by_cases hm : (n : Int) ∈ l
   · have := List.length_erase_of_mem hm
     omega
   · rw [List.erase_of_not_mem hm] at h2
     omega
end TL
/-
  TlRef3: what the document's own answer of layer 3 goes through.
  By an AI agent.
-/
set_option linter.all false
namespace TL
theorem pe {g : cU} (hm : c9 g) {h : Int} (h0 : 0 ≤ h) (h1 : h < 2 * (g.2.length : Int)) : 0 ≤ dX g h ∧ dX g h < g.1 := by
 have hok := hm.2.2.2 _ (aV (xs := g.2) (i := h / 2) (by omega) (by omega))
 unfold lH at hok
 unfold dX pI
 split <;> omega
end TL
/-
  TlKeep: rows of an own list given away one by one while the list stays readable; rows with a mark behind each.
  By an AI agent.
-/
set_option linter.all false
namespace TL
open Go
def j3 (q i k : Nat) : cq → Prop := fun c => c.1 = q ∨ (c.1 = i ∧ c.2 = 0) ∨ c.1 = k
theorem aL.l3 {L : List Nat} {q i k : Nat} {γ γ' : aM} {w w' : World} (h : aL (j3 q i k) γ w γ' w') (h1 : L.contains q = true) (h2 : L.contains i = true) (h3 : L.contains k = true) : aL (bM L) γ w γ' w' := h.mono fun c hc => by
 unfold bM
 rcases hc with hc | hc | hc
 · rw [hc]; exact h1
 · rw [hc.1]; exact h2
 · rw [hc]; exact h3
section
variable {P : Program} {w : World} {t t' : TypeId} {f : Fr} {x y : Operand} {dst : Option Tmp} {ty : TypeId} {pos : String} {after : Array Edge} {g : Option (Nat × Bool)} {N : Value → World → Prop} {α : Type} [Rp α] {γ : aM} {v u : Value} {xss : List (List α)} {l : List α} {i k j : Nat}
end
section
variable {α : Type} [Rp α] [Fl α] {γ γ' : aM} {w w' : World} {v : Value} {us : List Vc} {xss : List (List α)} {i k j q : Nat}
end
inductive Rw where
  | mk (l : List Int) (m : Int)
  | pl (l : List Int)
instance : Inhabited Rw := ⟨.pl []⟩
theorem nH {α : Type} [Rp α] {γ : aM} {S : cq → Prop} {w : World} {v : Value} {xs : List α} {m : α} (h : Sl γ S w (uy v) (xs ++ [m])) : ∃ a l c, v = .slice a l c := by
 rcases h with ⟨_, h0⟩ | ⟨b, off, cap, hv, _⟩
 · simp at h0
 · cases v <;> simp [uy] at hv
   exact ⟨_, _, _, rfl⟩
def tT (γ : aM) (S : cq → Prop) (w : World) (v : Value) : Rw → Prop
  | .mk l m => Sl γ S w (uy v) (l ++ [m])
  | .pl l => Sl γ S w v l
theorem tT.one {γ : aM} {S : cq → Prop} {w : World} {v : Value} {x : Rw} (h : tT γ S w v x) : v.oneCell' = true := by
 cases x with
 | mk l m =>
   obtain ⟨a, b, c, rfl⟩ := nH h
   rfl
 | pl l =>
   rcases h with ⟨⟨_, rfl⟩, _⟩ | ⟨b, off, cap, rfl, _⟩ <;> rfl
theorem tT.tr {γ γ' : aM} {S S' : cq → Prop} {w w' : World} {v : Value} {x : Rw} (hsz : w.heap.size ≤ w'.heap.size) (h : ∀ b, b < w.heap.size → S (γ b) → w'.heap[b]? = w.heap[b]? ∧ S' (γ' b)) (hx : tT γ S w v x) : tT γ' S' w' v x := by
 cases x with
 | mk l m => exact Sl.tr h hx hsz
 | pl l => exact Sl.tr h hx hsz
instance : Rp Rw where
 sz := 1
 rep γ S w cs x := ∃ v, cs = [v] ∧ tT γ S w v x
 len := by rintro _ _ _ _ _ ⟨v, rfl, _⟩; rfl
 one := by
   rintro _ _ _ _ _ ⟨v, rfl, h⟩ u hu
   obtain rfl : u = v := by simpa using hu
   exact h.one
 tr := by
   rintro _ _ _ _ _ _ _ _ hs h ⟨v, rfl, hv⟩
   exact ⟨v, rfl, hv.tr hs h⟩
section
variable {P : Program} {w : World} {t t' : TypeId} {f : Fr} {x y : Operand} {dst : Option Tmp} {ty : TypeId} {pos : String} {after : Array Edge} {g : Option (Nat × Bool)} {N : Value → World → Prop} {γ : aM} {v u : Value} {xss : List (List Int)} {l : List Int} {i : Nat}
end
end TL
/-
  TlEq: structs compared; a pointer looked at for nil; a bit turned.
  By an AI agent.
-/
set_option linter.all false
namespace TL
open Go
section
variable {P : Program} {f : Fr} {w : World} {dst : Option Tmp} {ty : TypeId} {pos : String} {after : Array Edge} {g : Option (Nat × Bool)} {t t' e : TypeId} {x y : Operand}
theorem aH {a : Addr} (hx : ev f x = .pointer (some a)) : (execOp (ev f) ⟨dst, .nilCheck x, ty, pos, after, g⟩).run P w = .ok (.value (.pointer (some a))) w := by
 simp only [execOp, hx, Sem.run_pure]
inductive EqV (P : Program) (t : TypeId) : Value → Value → Bool → Prop
 | int {a b : Int} (h : P.underlying t = some (.int .i64)) : EqV P t (.int .i64 a) (.int .i64 b) (decide (a = b))
 | bool {a b : Bool} (h : P.underlying t = some .bool) : EqV P t (.bool a) (.bool b) (decide (a = b))
inductive EqF (P : Program) (xs ys : Array Value) : List Field → List Bool → Prop
 | nil : EqF P xs ys [] []
 | cons {fd : Field} {fs : List Field} {bs : List Bool} {a b z : Value} {r : Bool} {size bytes : Nat} (hn : (fd.name != "_") = true) (he : Tp P fd.type false size bytes z) (ha : xs[fd.offset]? = some a) (hb : ys[fd.offset]? = some b) (hq : EqV P fd.type a b r) (hr : EqF P xs ys fs bs) : EqF P xs ys (fd :: fs) (r :: bs)
theorem fJ {xs ys : Array Value} {fs : List Field} {bs : List Bool} (h : EqF P xs ys fs bs) (d : Nat) : (Op.eqFields (d + 1) xs ys fs).run P w = .ok (bs.all id) w := by
 induction h with
 | nil => simp [Op.eqFields, Sem.run_pure]
 | @cons fd fs bs a b z r size bytes hn he ha hb hq hr ih =>
   have hn' : fd.name ≠ "_" := by simpa using hn
   have h1 := fW (P := P) (w := w) he ha
   have h2 := fW (P := P) (w := w) he hb
   have h3 : (Op.equalIn (d + 1) fd.type a b).run P w = .ok r w := by
     cases hq with
     | int h => simp [Op.equalIn, ba h, Sem.run_pure]; rfl
     | bool h => simp [Op.equalIn, ba h, Sem.run_pure]; rfl
   simp only [Op.eqFields, if_pos hn', Sem.run_bind, h1, h2, h3, Result.andThen_ok]
   cases r with
   | true => simp [ih]
   | false => simp [Sem.run_pure]
theorem dU {fs : Array Field} {xs ys : List Value} {bs : List Bool} {q : Bool} (ht : P.underlying t = some (.struct fs)) (hp : P.stoodInHeld t = false) (hg : P.eqGuardType P.depth t = false) (hx : ev f x = .agg xs.toArray) (hy : ev f y = .agg ys.toArray) (h : EqF P xs.toArray ys.toArray fs.toList bs) (hq : bs.all id = q) :
   (execOp (ev f) ⟨dst, .binOp .eql t x y t', ty, pos, after, g⟩).run P w = .ok (.value (.bool q)) w := by
 have e1 : P.fieldsOf t = fs := by simp [Program.fieldsOf, ht]
 have hr : (Op.equal t (.agg xs.toArray) (.agg ys.toArray)).run P w = .ok q w := by
   have := run_equalIn_struct (P := P) w 9999 t xs.toArray ys.toArray (by rw [e1]; exact ht) hp
   rw [e1, fJ h 9998, hq] at this
   exact this
 exact sx .eql hx hy (by simp [eqGuard, hg]) (by simp [binOp, hr])
end
end TL
namespace TL
open Go
section
variable {P : Program} {f : Fr} {w : World} {dst : Option Tmp} {ty : TypeId} {pos : String} {after : Array Edge} {g : Option (Nat × Bool)} {t : TypeId} {x : Operand}
end
end TL
namespace TL
open Go
section
variable {P : Program} {f : Fr} {w : World} {dst : Option Tmp} {ty : TypeId} {pos : String} {after : Array Edge} {g : Option (Nat × Bool)} {t t' : TypeId} {x y : Operand} {m n : Int}
end
end TL
namespace TL
open Go
theorem u8 {f : Fr} {x : Operand} {xs : List Operand} {v : Value} {vs : List Value} (h : ev f x = v) (h2 : xs.map (ev f) = vs) : (x :: xs).map (ev f) = v :: vs := by subst h h2; rfl
end TL
/-
  TlRot: rotations: which may be, turned to their least, faces.
  By an AI agent.
-/
set_option linter.all false
namespace TL
abbrev em := List (List Int)
def iz (g : cU) (r : em) : Prop := (r.length : Int) = g.1 ∧ (∀ v : Nat, v < r.length → ∀ h ∈ gI r (v : Int), (0 ≤ h ∧ h < 2 * (g.2.length : Int)) ∧ dX g h = v) ∧ r.flatten.Nodup ∧ (r.flatten.length : Int) = 2 * g.2.length
instance (g : cU) (r : em) : Decidable (iz g r) := by unfold iz; infer_instance
def cI (g : cU) (r : em) : Int := if c9 g then if iz g r then 0 else 4 else 1
theorem re {g : cU} {r : em} (h : cI g r = 0) : c9 g ∧ iz g r := by
 unfold cI at h
 by_cases h1 : c9 g
 · by_cases h2 : iz g r
   · exact ⟨h1, h2⟩
   · rw [if_pos h1, if_neg h2] at h; cases h
 · rw [if_neg h1] at h; cases h
theorem lg {g : cU} {r : em} (h1 : c9 g) (h2 : iz g r) : cI g r = 0 := by unfold cI; rw [if_pos h1, if_pos h2]
theorem gj {g : cU} {r : em} (h1 : c9 g) (h2 : ¬ iz g r) : cI g r = 4 := by unfold cI; rw [if_pos h1, if_neg h2]
theorem kI {n : Int} {l : List Int} (h0 : 0 ≤ n) (hn : l.Nodup) (h : ∀ x ∈ l, 0 ≤ x ∧ x < n) : (l.length : Int) ≤ n := by
 have := pq n.toNat l hn (fun x hx => by have := h x hx; omega)
 omega
theorem eT {r : em} {k : Nat} (hk : (k : Int) < r.length) : (r.take (k + 1)).flatten = (r.take k).flatten ++ gI r (k : Int) := by
 rw [bD hk]; simp
structure fv (seen : List Bool) (P : List Int) (n : Int) : Prop where
  len : (seen.length : Int) = n
  seen : ∀ h, 0 ≤ h → h < n → gI seen h = decide (h ∈ P)
  nodup : P.Nodup
  rng : ∀ h ∈ P, 0 ≤ h ∧ h < n
theorem fv.start {n : Int} (hn : 0 ≤ n) : fv (List.replicate n.toNat false) [] n :=
 ⟨by simp; omega, fun h h0 h1 => by rw [lX h0 (by omega)]; simp, by simp, by simp⟩
theorem fv.next {seen : List Bool} {P : List Int} {n h : Int} (hi : fv seen P n) (h0 : 0 ≤ h) (h1 : h < n) (hs : gI seen h = false) : fv (seen.set h.toNat true) (P ++ [h]) n := by
 have hl := hi.len
 have hn : h ∉ P := by
   have := hi.seen h h0 h1
   rw [hs] at this
   simpa using this.symm
 refine ⟨by simpa using hl, fun x hx0 hx1 => ?_, ?_, fun x hx => ?_⟩
 · rw [fK h0 (by omega) hx0]
   by_cases e : x = h
   · subst e; simp
   · rw [if_neg e, hi.seen x hx0 hx1]; simp [e]
 · rw [List.nodup_append]
   refine ⟨hi.nodup, by simp, fun a ha b hb => ?_⟩
   obtain rfl := List.mem_singleton.1 hb
   intro e; subst e; exact hn ha
 · rcases List.mem_append.1 hx with hx | hx
   · exact hi.rng x hx
   · obtain rfl := List.mem_singleton.1 hx; exact ⟨h0, h1⟩
theorem fv.bd {seen : List Bool} {P : List Int} {n : Int} (hi : fv seen P n) : (P.length : Int) ≤ n := kI (by have := hi.len; omega) hi.nodup hi.rng
theorem fv.mem {seen : List Bool} {P : List Int} {n h : Int} (hi : fv seen P n) (h0 : 0 ≤ h) (h1 : h < n) (hs : gI seen h = true) : h ∈ P := by
 have := hi.seen h h0 h1
 rw [hs] at this
 simpa using this.symm
structure cW (seen : List Bool) (n : Int) (g : cU) (r : em) (k i : Nat) : Prop where
  rm : fv seen ((r.take k).flatten ++ (gI r (k : Int)).take i) (2 * (g.2.length : Int))
  n : n = (((r.take k).flatten ++ (gI r (k : Int)).take i).length : Int)
  ok : ∀ v : Nat, v < k → ∀ h ∈ gI r (v : Int), (0 ≤ h ∧ h < 2 * (g.2.length : Int)) ∧ dX g h = v
  row : ∀ h ∈ (gI r (k : Int)).take i, (0 ≤ h ∧ h < 2 * (g.2.length : Int)) ∧ dX g h = k
theorem cW.start (g : cU) (r : em) : cW (List.replicate (2 * (g.2.length : Int)).toNat false) 0 g r 0 0 :=
 ⟨by simpa using fv.start (n := 2 * (g.2.length : Int)) (by omega), by simp, fun v hv => by omega, by simp⟩
section
variable {seen : List Bool} {n : Int} {g : cU} {r : em} {k i : Nat}
theorem cW.bd (h : cW seen n g r k i) : 0 ≤ n ∧ n ≤ 2 * (g.2.length : Int) := by
 have h1 := h.rm.bd
 rw [h.n]
 exact ⟨by omega, h1⟩
theorem cW.next (h : cW seen n g r k i) (hi : (i : Int) < (gI r (k : Int)).length) (h0 : 0 ≤ gI (gI r (k : Int)) (i : Int)) (h1 : gI (gI r (k : Int)) (i : Int) < 2 * (g.2.length : Int)) (hs : gI seen (gI (gI r (k : Int)) (i : Int)) = false) (hf : dX g (gI (gI r (k : Int)) (i : Int)) = k) :
   cW (seen.set (gI (gI r (k : Int)) (i : Int)).toNat true) (n + 1) g r k (i + 1) := by
 have e := bD hi
 refine ⟨?_, ?_, h.ok, fun x hx => ?_⟩
 · rw [e, ← List.append_assoc]; exact h.rm.next h0 h1 hs
 · rw [e, ← List.append_assoc, List.length_append, h.n]; simp
 · rw [e] at hx
   rcases List.mem_append.1 hx with hx | hx
   · exact h.row x hx
   · obtain rfl := List.mem_singleton.1 hx; exact ⟨⟨h0, h1⟩, hf⟩
theorem cW.row_done (h : cW seen n g r k i) (hk : (k : Int) < r.length) (hi : ¬ (i : Int) < (gI r (k : Int)).length) : cW seen n g r (k + 1) 0 := by
 have e : (gI r (k : Int)).take i = gI r (k : Int) := List.take_of_length_le (by omega)
 have h1 := h.rm
 have h2 := h.n
 have h3 := h.row
 rw [e] at h1 h2 h3
 refine ⟨by rw [eT hk]; simpa using h1, by rw [eT hk]; simpa using h2, fun v hv x hx => ?_, by simp⟩
 by_cases hvk : v = k
 · subst hvk; exact h3 x hx
 · exact h.ok v (by omega) x hx
theorem cW.bad (h : cW seen n g r k i) (hk : (k : Int) < r.length) (hi : (i : Int) < (gI r (k : Int)).length) (hb : ¬ ((0 ≤ gI (gI r (k : Int)) (i : Int) ∧ gI (gI r (k : Int)) (i : Int) < 2 * (g.2.length : Int)) ∧ dX g (gI (gI r (k : Int)) (i : Int)) = k)) : ¬ iz g r := fun hr =>
 hb (hr.2.1 k (by omega) _ (aV (by omega) hi))
theorem cW.twice (h : cW seen n g r k i) (hk : (k : Int) < r.length) (hi : (i : Int) < (gI r (k : Int)).length) (h0 : 0 ≤ gI (gI r (k : Int)) (i : Int)) (h1 : gI (gI r (k : Int)) (i : Int) < 2 * (g.2.length : Int)) (hs : gI seen (gI (gI r (k : Int)) (i : Int)) = true) : ¬ iz g r := fun hr => by
 have hm := h.rm.mem h0 h1 hs
 have hn := hr.2.2.1
 have hsub : List.Sublist ((r.take k).flatten ++ (gI r (k : Int)).take i ++ [gI (gI r (k : Int)) (i : Int)]) r.flatten := by
   rw [List.append_assoc, ← bD hi]
   have e1 : r = r.take (k + 1) ++ r.drop (k + 1) := (List.take_append_drop _ _).symm
   have e2 : r.flatten = (r.take (k + 1)).flatten ++ (r.drop (k + 1)).flatten := by rw [← List.flatten_append, ← e1]
   rw [e2, eT hk]
   exact (List.Sublist.append_left (List.take_sublist _ _) _).trans (List.sublist_append_left _ _)
 have := hn.sublist hsub
 rw [List.nodup_append] at this
 exact this.2.2 _ hm _ (by simp) rfl
theorem cW.fin (h : cW seen n g r k i) (hl : (r.length : Int) = g.1) (hk : k = r.length) (hi : i = 0) : iz g r ↔ n = 2 * (g.2.length : Int) := by
 subst hk hi
 have h1 := h.rm
 have h2 := h.n
 simp only [List.take_zero, List.append_nil, List.take_length] at h1 h2
 rw [h2]
 exact ⟨fun hr => hr.2.2.2, fun e => ⟨hl, h.ok, h1.nodup, e⟩⟩
end
def jh (l : List Int) : List Int := if l = [] then [] else l.drop (l.idxOf (dB l)) ++ l.take (l.idxOf (dB l))
def eV (r : em) : em := r.map jh
def dm (s : List Int) (v : Int) : Int := if v ∈ s then (s.idxOf v : Int) else -1
theorem pf {s : List Int} {v : Int} {i : Nat} (h : ∀ j : Nat, j < i → ¬ v = gI s (j : Int)) (hi : (i : Int) < s.length) (he : v = gI s (i : Int)) : (i : Int) = dm s v := by
 have hlt : i < s.length := by omega
 have e : gI s (i : Int) = s[i] := by simp [gI, hlt]
 have hm : v ∈ s := by rw [he]; exact aV (by omega) hi
 unfold dm
 rw [if_pos hm]
 have hlt2 := List.idxOf_lt_length_iff.2 hm
 have h1 : ¬ s.idxOf v < i := fun hlt' => h _ hlt' (by simp [gI, hlt2])
 have h2 : ¬ i < s.idxOf v := fun hlt' => by
   have := List.not_of_lt_findIdx (xs := s) (p := (· == v)) (i := i) hlt'
   simp at this
   exact this (by rw [← e, ← he])
 omega
theorem s2 {s : List Int} {v : Int} {i : Nat} (h : ∀ j : Nat, j < i → ¬ v = gI s (j : Int)) (hi : ¬ (i : Int) < s.length) : (-1 : Int) = dm s v := by
 unfold dm
 rw [if_neg]
 intro hm
 obtain ⟨j, hj, e⟩ := List.mem_iff_getElem.1 hm
 exact h j (by omega) (by simp [gI, hj, e])
theorem gD : ∀ (l : List Int) (a : Int), l.foldl min a = a ∨ l.foldl min a ∈ l
 | [], a => .inl rfl
 | x :: l, a => by
   simp only [List.foldl_cons]
   rcases gD l (min a x) with h | h
   · rw [h]
     rcases Int.le_total a x with h1 | h1
     · rw [Int.min_eq_left h1]; exact .inl rfl
     · rw [Int.min_eq_right h1]; exact .inr (by simp)
   · exact .inr (by simp [h])
theorem sf {l : List Int} (hl : l ≠ []) : dB l = (l.drop 1).foldl min (gI l 0) := by
 unfold dB kG; rw [List.take_length]
theorem pA {l : List Int} (hl : l ≠ []) : dB l ∈ l := by
 rw [sf hl]
 cases l with
 | nil => exact absurd rfl hl
 | cons a l =>
   simp only [List.drop_succ_cons, List.drop_zero]
   rcases gD l (gI (a :: l) 0) with h | h
   · rw [h]; simp [gI]
   · exact List.mem_cons_of_mem _ h
theorem nI {l : List Int} (hl : l ≠ []) : jh l = l.drop (dm l (dB l)).toNat ++ l.take (dm l (dB l)).toNat ∧ 0 ≤ dm l (dB l) ∧ dm l (dB l) < l.length := by
 have hm := pA hl
 unfold jh dm
 rw [if_neg hl, if_pos hm]
 have := List.idxOf_lt_length_iff.2 hm
 exact ⟨by simp, by omega, by omega⟩
end TL
namespace TL
theorem qk {α β : Type} [Inhabited α] {f : α → β} {r : List α} {k : Nat} {d y : β} (hk : (k : Int) < r.length) (hy : y = f (gI r (k : Int))) : (List.map f (List.take k r) ++ List.replicate (r.length - k) d).set (k : Int).toNat y = List.map f (List.take (k + 1) r) ++ List.replicate (r.length - (k + 1)) d := by
 have hl : (List.map f (List.take k r)).length = k := by simp; omega
 have e : r.length - k = (r.length - (k + 1)) + 1 := by omega
 rw [e, List.replicate_succ, bD hk, List.map_append, hy]
 simp only [Int.toNat_natCast]
 rw [List.set_append_right _ _ (by omega), hl]
 simp
theorem pN {α β : Type} [Inhabited α] {f : α → β} {r : List α} {k : Nat} {d : β} (hk : (k : Int) < r.length) (hy : f (gI r (k : Int)) = d) : (List.map f (List.take k r) ++ List.replicate (r.length - k) d) = List.map f (List.take (k + 1) r) ++ List.replicate (r.length - (k + 1)) d := by
 have e : r.length - k = (r.length - (k + 1)) + 1 := by omega
 rw [e, List.replicate_succ, bD hk, List.map_append, List.map_cons, hy]
 simp
end TL
/-
  TlShort: short names for the commonest steps (used by packed claims only).
  By an AI agent.
-/
set_option linter.all false
namespace TL
open Go
abbrev vi (x : Int) : Value := Value.int .i64 x
abbrev vp (b o : Nat) : Value := Value.pointer (some ⟨b, o, none⟩)
abbrev vn : Value := Value.slice none 0 0
abbrev vt (l : List Value) : Value := Value.tuple (List.toArray l)
abbrev vg (l : List Value) : Value := Value.agg (List.toArray l)
theorem cg (L : List Nat) {γ γ' : aM} {w w' : World} (h : aL (bM L) γ w γ' w') : aL (bM L) γ w γ' w' := h
theorem dt {p : Prop} [Decidable p] (h : p) : decide p = true := decide_eq_true h
theorem df {p : Prop} [Decidable p] (h : ¬ p) : decide p = false := decide_eq_false h
section
variable {P : Program} {all rest : List Oper} {K : Fr → World → Prop} {f : Fr} {w w' : World} {x : Operand}
variable {dst : Option Tmp} {op : Op} {ty : TypeId} {pos : String} {after : Array Edge} {g : Option (Nat × Bool)} {o : Oper}
theorem lv (v : Value) (hw : cT all ⟨dst, op, ty, pos, after, g⟩ f = true) (h : (execOp (ev f) ⟨dst, op, ty, pos, after, g⟩).run P w = .ok (.value v) w') (hk : gC P all rest K (fP f dst v) w') : gC P all (⟨dst, op, ty, pos, after, g⟩ :: rest) K f w := iH hw h hk
theorem lx {v : Value} (h : (execOp (ev f) ⟨dst, op, ty, pos, after, none⟩).run P w = .ok (.value v) w') (hk : gC P all rest K (fP f dst v) w') : gC P all (⟨dst, op, ty, pos, after, none⟩ :: rest) K f w := iH rfl h hk
theorem lw (v : Value) (h : (execOp (ev f) ⟨dst, op, ty, pos, after, none⟩).run P w = .ok (.value v) w') (hk : gC P all rest K (fP f dst v) w') : gC P all (⟨dst, op, ty, pos, after, none⟩ :: rest) K f w := iH rfl h hk
theorem mv (v : Value) (hk : gC P all rest K (fP f dst v) w) (h : ev f x = v := by exact rfl) : gC P all (⟨dst, .move x, ty, pos, after, none⟩ :: rest) K f w := iH rfl (aF h) hk
theorem ma (v : Value) (hk : gC P all rest K (fP f dst v) w) (h : ev f x = v := by exact rfl) : gC P all (⟨dst, .assign x, ty, pos, after, none⟩ :: rest) K f w := iH rfl (bf h) hk
theorem mi (v : Int) (hk : gC P all rest K (fP f dst (.int .i64 v)) w) (h : ev f x = .int .i64 v := by exact rfl) : gC P all (⟨dst, .move x, ty, pos, after, none⟩ :: rest) K f w := iH rfl (aF h) hk
theorem ai (v : Int) (hk : gC P all rest K (fP f dst (.int .i64 v)) w) (h : ev f x = .int .i64 v := by exact rfl) : gC P all (⟨dst, .assign x, ty, pos, after, none⟩ :: rest) K f w := iH rfl (bf h) hk
theorem mz {v : Value} (h : ev f x = v) (hk : gC P all rest K (fP f dst v) w) : gC P all (⟨dst, .move x, ty, pos, after, none⟩ :: rest) K f w := iH rfl (aF h) hk
theorem lo (h : fM P ⟨dst, op, ty, pos, after, none⟩ f w (fun v w' => gC P all rest K (fP f dst v) w')) : gC P all (⟨dst, op, ty, pos, after, none⟩ :: rest) K f w := bL rfl h
theorem wy {j : Nat} {x : Bool} {d : Nat} {b : Bool} (hx : b = x) (hg : o.guard = some (j, x) := by exact rfl) (hj : (all[j]?).bind (·.dst) = some d := by exact rfl) (hb : f d = .bool b := by exact rfl) : cT all o f = true := dT hg hj hb hx
theorem wn {j : Nat} {x : Bool} {d : Nat} {b : Bool} (hx : b = !x) (hg : o.guard = some (j, x) := by exact rfl) (hj : (all[j]?).bind (·.dst) = some d := by exact rfl) (hb : f d = .bool b := by exact rfl) : cT all o f = false := dV hg hj hb hx
variable {C : World → Prop} {KQ : Fr → Prop}
theorem qv (v : Value) (h : ∀ w, C w → (execOp (ev f) ⟨dst, op, ty, pos, after, none⟩).run P w = .ok (.value v) w) (hk : iT P all C rest KQ (fP f dst v)) : iT P all C (⟨dst, op, ty, pos, after, none⟩ :: rest) KQ f := aS rfl h hk
theorem qx {v : Value} (h : ∀ w, C w → (execOp (ev f) ⟨dst, op, ty, pos, after, none⟩).run P w = .ok (.value v) w) (hk : iT P all C rest KQ (fP f dst v)) : iT P all C (⟨dst, op, ty, pos, after, none⟩ :: rest) KQ f := aS rfl h hk
theorem qm (v : Value) (hk : iT P all C rest KQ (fP f dst v)) (h : ev f x = v := by exact rfl) : iT P all C (⟨dst, .move x, ty, pos, after, none⟩ :: rest) KQ f := aS rfl (fun _ _ => aF h) hk
theorem qz {v : Value} (h : ev f x = v) (hk : iT P all C rest KQ (fP f dst v)) : iT P all C (⟨dst, .move x, ty, pos, after, none⟩ :: rest) KQ f := aS rfl (fun _ _ => aF h) hk
end
section
variable {P : Program} {n : Nat} {l : List Oper} {S : World → Prop} {K : Fr → World → Prop} {f : Fr} {w : World} {done : List Nat} {fuel : Nat} {qs : List Nat}
variable {dst : Option Tmp} {op : Op} {ty : TypeId} {pos : String} {after : Array Edge} {g : Option (Nat × Bool)} {v : Value}
theorem ht (i : Nat) (hi : l[i]? = some ⟨dst, op, ty, pos, after, none⟩) (hS : S w) (h : ∀ w, S w → (execOp (ev f) ⟨dst, op, ty, pos, after, none⟩).run P w = .ok (.value v) w) (hk : oo P n l S K fuel (i :: done) (fP f dst v) w) (hn : gS l = true := by kernel_rfl) (hc : (fZ l done i && iL l done i && kx n ⟨dst, op, ty, pos, after, none⟩) = true := by kernel_rfl) : oo P n l S K (fuel + 1) done f w := iv i hi hn hc rfl hS h hk
theorem xv (i : Nat) (M : List Nat) (hi : l[i]? = some ⟨dst, op, ty, pos, after, none⟩) (h : (execOp (ev f) ⟨dst, op, ty, pos, after, none⟩).run P w = .ok (.value v) w) (hk : om P n l qs K fuel (i :: done) (fP f dst v) w) (hn : gS l = true := by kernel_rfl) (hc : (qs.contains i && fZ l done i && iL l done i && kv l qs done M i && kx n ⟨dst, op, ty, pos, after, none⟩) = true := by kernel_rfl) : om P n l qs K (fuel + 1) done f w := eO i M hi hn hc rfl h hk
theorem xp (i : Nat) (hi : l[i]? = some ⟨dst, op, ty, pos, after, none⟩) (h : ∀ w, (execOp (ev f) ⟨dst, op, ty, pos, after, none⟩).run P w = .ok (.value v) w) (hk : om P n l qs K fuel (i :: done) (fP f dst v) w) (hn : gS l = true := by kernel_rfl) (hc : (qs.contains i && fZ l done i && iL l done i && kx n ⟨dst, op, ty, pos, after, none⟩) = true := by kernel_rfl) : om P n l qs K (fuel + 1) done f w := fm i hi hn hc rfl h hk
end
section
variable {γ γ' : aM} {w w' : World} {v : Value} {j k : Nat} {L : List Nat}
theorem bc.ca {w0 : World} (h : bc w0 γ w) (hc : aL (bM L) γ w γ' w') (hj : L.contains 0 = false := by exact rfl) : bc w0 γ' w' := h.chg hc (bg hj)
theorem bc.ce {w0 : World} (h : bc w0 γ w) (hc : aL (is k) γ w γ' w') (hj : Nat.beq 0 k = false := by exact rfl) : bc w0 γ' w' := h.chg hc (cJ hj)
theorem bc.cn {w0 : World} (h : bc w0 γ w) (hc : aL no γ w γ' w') : bc w0 γ' w' := h.chg hc (bk _)
theorem Bx.ca {b : Nat} {cs : List Value} (h : Bx γ (is j) w b cs) (hc : aL (bM L) γ w γ' w') (hj : L.contains j = false := by exact rfl) : Bx γ' (is j) w' b cs := h.chg hc (bg hj)
theorem Bx.ce {b : Nat} {cs : List Value} (h : Bx γ (is j) w b cs) (hc : aL (is k) γ w γ' w') (hj : Nat.beq j k = false := by exact rfl) : Bx γ' (is j) w' b cs := h.chg hc (cJ hj)
theorem Bx.cn {J : cq → Prop} {b : Nat} {cs : List Value} (h : Bx γ J w b cs) (hc : aL no γ w γ' w') : Bx γ' J w' b cs := h.chg hc (bk _)
theorem Sl.ca {α : Type} [Rp α] {xs : List α} (h : Sl γ (is j) w v xs) (hc : aL (bM L) γ w γ' w') (hj : L.contains j = false := by exact rfl) : Sl γ' (is j) w' v xs := h.chg hc (bg hj)
theorem Sl.ce {α : Type} [Rp α] {xs : List α} (h : Sl γ (is j) w v xs) (hc : aL (is k) γ w γ' w') (hj : Nat.beq j k = false := by exact rfl) : Sl γ' (is j) w' v xs := h.chg hc (cJ hj)
theorem Sl.cn {α : Type} [Rp α] {S : cq → Prop} {xs : List α} (h : Sl γ S w v xs) (hc : aL no γ w γ' w') : Sl γ' S w' v xs := h.chg hc (bk _)
theorem Ow.ca {α : Type} [Rp α] {xs : List α} (h : Ow γ (is j) (is j) w v xs) (hc : aL (bM L) γ w γ' w') (hj : L.contains j = false := by exact rfl) : Ow γ' (is j) (is j) w' v xs := h.chg hc (bg hj) (bg hj)
theorem Ow.ce {α : Type} [Rp α] {xs : List α} (h : Ow γ (is j) (is j) w v xs) (hc : aL (is k) γ w γ' w') (hj : Nat.beq j k = false := by exact rfl) : Ow γ' (is j) (is j) w' v xs := h.chg hc (cJ hj) (cJ hj)
theorem Ow.cn {α : Type} [Rp α] {J S : cq → Prop} {xs : List α} (h : Ow γ J S w v xs) (hc : aL no γ w γ' w') : Ow γ' J S w' v xs := h.chg hc (bk _) (bk _)
theorem dZ.ca {α : Type} [Rp α] {xs : List (List α)} (h : dZ γ j w v xs) (hc : aL (bM L) γ w γ' w') (hj : L.contains j = false := by exact rfl) : dZ γ' j w' v xs := h.chg hc (bg hj)
theorem dZ.ce {α : Type} [Rp α] {xs : List (List α)} (h : dZ γ j w v xs) (hc : aL (is k) γ w γ' w') (hj : Nat.beq j k = false := by exact rfl) : dZ γ' j w' v xs := h.chg hc (cJ hj)
theorem dZ.cn {α : Type} [Rp α] {xs : List (List α)} (h : dZ γ j w v xs) (hc : aL no γ w γ' w') : dZ γ' j w' v xs := h.chg hc (bk _)
theorem fq.ca {α : Type} [Rp α] {h0 : Nat} {xs : List (List α)} (h : fq γ j h0 w v xs) (hc : aL (bM L) γ w γ' w') (hj : L.contains j = false := by exact rfl) : fq γ' j h0 w' v xs := h.chg hc (bg hj)
theorem fq.ce {α : Type} [Rp α] {h0 : Nat} {xs : List (List α)} (h : fq γ j h0 w v xs) (hc : aL (is k) γ w γ' w') (hj : Nat.beq j k = false := by exact rfl) : fq γ' j h0 w' v xs := h.chg hc (cJ hj)
theorem fq.cn {α : Type} [Rp α] {h0 : Nat} {xs : List (List α)} (h : fq γ j h0 w v xs) (hc : aL no γ w γ' w') : fq γ' j h0 w' v xs := h.chg hc (bk _)
def uu (δ g : aM) (w : World) (ren : Nat → Nat) : Prop := (∀ {α : Type} [Rp α] {i : Nat} {v : Value} {xs : List α}, Ow δ (is i) (is i) w v xs → ∀ k : Nat, Nat.beq i 0 = false → ren i = k → Ow g (is k) (is k) w v xs) ∧ (∀ {α : Type} [Rp α] {i : Nat} {v : Value} {xs : List (List α)}, dZ δ i w v xs → ∀ k : Nat, Nat.beq i 0 = false → ren i = k → dZ g k w v xs)
theorem nf {δ : aM} (γ : aM) (fr : fx w δ w') (ren : Nat → Nat) : ∃ g, aL no γ w g w' ∧ uu δ g w' ren :=
 ⟨_, kC fr.below γ δ ren, fun h k hi hr => h.glue fr.col hi hr, fun h k hi hr => h.glue fr.col hi hr⟩
theorem Ow.gl {α : Type} [Rp α] {δ g : aM} {ren : Nat → Nat} {i : Nat} {xs : List α} (h : Ow δ (is i) (is i) w v xs) (G : uu δ g w ren) (k : Nat) (hi : Nat.beq i 0 = false := by exact rfl) (hr : ren i = k := by exact rfl) : Ow g (is k) (is k) w v xs := G.1 h k hi hr
theorem dZ.gl {α : Type} [Rp α] {δ g : aM} {ren : Nat → Nat} {i : Nat} {xs : List (List α)} (h : dZ δ i w v xs) (G : uu δ g w ren) (k : Nat) (hi : Nat.beq i 0 = false := by exact rfl) (hr : ren i = k := by exact rfl) : dZ g k w v xs := G.2 h k hi hr
end
end TL
/-
  TlMap: maps that the call makes.
  By an AI agent.
-/
set_option linter.all false
namespace TL
open Go
class Ky (K : Type) where
  val : K → Value
structure nl (P : Program) (kt : TypeId) (K : Type) [DecidableEq K] [Ky K] : Prop where
 check : ∀ (b : Bool) (k : K) (w : World), (Instr.checkKey b 10000 kt (Ky.val k)).run P w = .ok () w
 find : ∀ (k : K) (es : List MapEntry) (ks : List K) (w : World), es.map (·.key) = ks.map Ky.val → (Instr.findKey kt (Ky.val k) es).run P w = .ok ((ks.findIdx? (· = k)).bind fun i => (es[i]?).map fun e => (i, e.val)) w
 bits : ∀ k : K, Instr.sameBits 10000 (Ky.val k) (Ky.val k) = true
section
variable {P : Program} {f : Fr} {w : World} {dst : Option Tmp} {ty : TypeId} {pos : String} {after : Array Edge} {g : Option (Nat × Bool)} {t : TypeId} {x y z : Operand} {N : Value → World → Prop}
theorem dA {r : Nat} {es : Array MapEntry} {clock : Nat} (h : w.heap[r]? = some (.map es clock)) : (getObj r).run P w = .ok (.map es clock) w := by
 simp [getObj, Sem.run, h]
theorem eR {r : Nat} {es : Array MapEntry} {clock : Nat} {o : Obj} (h : w.heap[r]? = some (.map es clock)) : (setObj r o).run P w = .ok () { w with heap := w.heap.setIfInBounds r o } := by
 simp [setObj, Sem.run, h]
theorem gM (γ : aM) {r : Nat} (o : Obj) {J : cq → Prop} (hJ : J (γ r)) : aL J γ w γ { w with heap := w.heap.setIfInBounds r o } :=
 ⟨rfl, rfl, rfl, by simp, fun _ _ _ => rfl, fun k _ hk => by
   have : r ≠ k := fun h => hk (h ▸ hJ)
   simp [Array.getElem?_setIfInBounds_ne this], Nat.le_refl _⟩
theorem fR {r : Nat} {o o' : Obj} (h : w.heap[r]? = some o') : ({ w with heap := w.heap.setIfInBounds r o } : World).heap[r]? = some o := by
 have := cL h
 simp [this]
end
instance : Ky Int where
 val k := .int .i64 k
instance : Ky (Int × Int) where
 val k := .agg (List.toArray [.int .i64 k.1, .int .i64 k.2])
end TL
namespace TL
open Go
end TL
/-
  TlGeom: points with whole coordinates: turns, segments, how they meet.
  By an AI agent.
-/
set_option linter.all false
namespace TL
abbrev Pt := Int × Int
def bA (x y : Int) : Int := if x < y then -1 else if y < x then 1 else 0
theorem nP (x : Int) : bA x 0 = x.sign := by
 unfold bA
 rcases Int.lt_trichotomy x 0 with h | h | h
 · rw [if_pos h, Int.sign_eq_neg_one_of_neg h]
 · subst h; rfl
 · rw [if_neg (by omega), if_pos h, Int.sign_eq_one_of_pos h]
theorem lp (x : Int) : x.sign = -1 ∧ x < 0 ∨ x.sign = 0 ∧ x = 0 ∨ x.sign = 1 ∧ 0 < x := by
 rcases Int.lt_trichotomy x 0 with h | h | h
 · exact .inl ⟨Int.sign_eq_neg_one_of_neg h, h⟩
 · exact .inr (.inl ⟨by rw [h]; rfl, h⟩)
 · exact .inr (.inr ⟨Int.sign_eq_one_of_pos h, h⟩)
def dD (a b : Pt) : Int := a.1 * b.2 - a.2 * b.1
def aU (b a : Pt) : Pt := (b.1 - a.1, b.2 - a.2)
def bu (a b c : Pt) : Int := bA (dD (aU b a) (aU c a)) 0
theorem qg {a b c : Pt} : bu a b c = 0 ↔ (b.1 - a.1) * (c.2 - a.2) = (b.2 - a.2) * (c.1 - a.1) := by
 unfold bu
 rw [nP, Int.sign_eq_zero_iff_zero]
 unfold dD aU
 simp only
 omega
theorem iY (a b c : Pt) : -1 ≤ bu a b c ∧ bu a b c ≤ 1 := by unfold bu bA; split <;> (try split) <;> omega
def cr (p by_ : Pt) : Pt := (p.1 + by_.1, p.2 + by_.2)
theorem nm (a b c q : Pt) : bu (cr a q) (cr b q) (cr c q) = bu a b c := by
 unfold bu
 congr 1
 unfold dD aU cr
 simp only
 grind
def ko (a b p : Pt) : Prop := (min a.1 b.1 ≤ p.1 ∧ p.1 ≤ max a.1 b.1) ∧ min a.2 b.2 ≤ p.2 ∧ p.2 ≤ max a.2 b.2
instance (a b p : Pt) : Decidable (ko a b p) := by unfold ko; infer_instance
def bG (a b p : Pt) : Prop := bu a b p = 0 ∧ ko a b p
instance (a b p : Pt) : Decidable (bG a b p) := by unfold bG; infer_instance
theorem na {a b p q : Pt} : bG (cr a q) (cr b q) (cr p q) ↔ bG a b p := by
 unfold bG ko
 rw [nm]
 unfold cr
 simp only
 omega
def aK (a b : Pt) : Int := if bA a.1 b.1 ≠ 0 then bA a.1 b.1 else bA a.2 b.2
def aY (a b c d : Pt) : Int :=
 let a' := if 0 < aK a b then b else a
 let b' := if 0 < aK a b then a else b
 let c' := if 0 < aK c d then d else c
 let d' := if 0 < aK c d then c else d
 let low := if 0 < aK c' a' then c' else a'
 let high := if aK d' b' < 0 then d' else b'
 if 0 < aK low high then 0 else if aK low high = 0 then 2 else 3
def aT (a b c d : Pt) : Int :=
 if bu a b c = 0 ∧ bu a b d = 0 ∧ bu c d a = 0 ∧ bu c d b = 0 then aY a b c d
 else if bu a b c * bu a b d < 0 ∧ bu c d a * bu c d b < 0 then 1
 else if bG a b c ∨ bG a b d ∨ bG c d a ∨ bG c d b then 2 else 0
def key (p : Pt) : Int := p.1 * 1073741824 + p.2
def e7 (p : Pt) : Prop := (-4194304 ≤ p.1 ∧ p.1 ≤ 4194304) ∧ -4194304 ≤ p.2 ∧ p.2 ≤ 4194304
theorem fw {a b : Pt} (ha : e7 a) (hb : e7 b) : aK a b = bA (key a) (key b) := by
 unfold aK bA key
 unfold e7 at ha hb
 repeat' split
 all_goals omega
def ez (a b c d : Int) : Int :=
 if min (max a b) (max c d) < max (min a b) (min c d) then 0 else if min (max a b) (max c d) = max (min a b) (min c d) then 2 else 3
theorem gd {x y : Int} : 0 < bA x y ↔ y < x := by unfold bA; split <;> (try split) <;> omega
theorem lC {x y : Int} : bA x y < 0 ↔ x < y := by unfold bA; split <;> (try split) <;> omega
theorem mR {x y : Int} : bA x y = 0 ↔ x = y := by unfold bA; split <;> (try split) <;> omega
theorem ny {a b c d : Pt} (ha : e7 a) (hb : e7 b) (hc : e7 c) (hd : e7 d) : aY a b c d = ez (key a) (key b) (key c) (key d) := by
 unfold aY
 simp only
 have e1 : 0 < aK a b ↔ key b < key a := by rw [fw ha hb, gd]
 have e2 : 0 < aK c d ↔ key d < key c := by rw [fw hc hd, gd]
 have fin : ∀ a b c d : Pt, e7 a → e7 b → e7 c → e7 d → key a ≤ key b → key c ≤ key d →
     (if 0 < aK (if 0 < aK c a then c else a) (if aK d b < 0 then d else b) then (0 : Int) else if aK (if 0 < aK c a then c else a) (if aK d b < 0 then d else b) = 0 then 2 else 3) = ez (key a) (key b) (key c) (key d) := by
   intro a b c d ha hb hc hd h1 h2
   have e3 : 0 < aK c a ↔ key a < key c := by rw [fw hc ha, gd]
   have e4 : aK d b < 0 ↔ key d < key b := by rw [fw hd hb, lC]
   have low : ∃ p, (if 0 < aK c a then c else a) = p ∧ e7 p ∧ key p = max (key a) (key c) := by
     by_cases h : 0 < aK c a
     · rw [if_pos h]; exact ⟨c, rfl, hc, by have := e3.1 h; omega⟩
     · rw [if_neg h]; exact ⟨a, rfl, ha, by have := mt e3.2 h; omega⟩
   have high : ∃ p, (if aK d b < 0 then d else b) = p ∧ e7 p ∧ key p = min (key b) (key d) := by
     by_cases h : aK d b < 0
     · rw [if_pos h]; exact ⟨d, rfl, hd, by have := e4.1 h; omega⟩
     · rw [if_neg h]; exact ⟨b, rfl, hb, by have := mt e4.2 h; omega⟩
   obtain ⟨p, ep, hp, kp⟩ := low
   obtain ⟨q, eq, hq, kq⟩ := high
   rw [ep, eq, fw hp hq]
   unfold ez
   have m1 : max (key a) (key b) = key b := by omega
   have m2 : max (key c) (key d) = key d := by omega
   have m3 : min (key a) (key b) = key a := by omega
   have m4 : min (key c) (key d) = key c := by omega
   rw [m1, m2, m3, m4, ← kp, ← kq]
   by_cases c1 : key q < key p
   · rw [if_pos (gd.2 c1), if_pos c1]
   · rw [if_neg (mt gd.1 c1), if_neg c1]
     by_cases c2 : key q = key p
     · rw [if_pos (mR.2 c2.symm), if_pos c2]
     · rw [if_neg (fun h => c2 (mR.1 h).symm), if_neg c2]
 have lk1 : ∀ x y z t : Int, ez y x z t = ez x y z t := fun x y z t => by unfold ez; rw [Int.max_comm y x, Int.min_comm y x]
 have lk2 : ∀ x y z t : Int, ez x y t z = ez x y z t := fun x y z t => by unfold ez; rw [Int.max_comm t z, Int.min_comm t z]
 by_cases c1 : 0 < aK a b
 · have k1 := e1.1 c1
   by_cases c2 : 0 < aK c d
   · have k2 := e2.1 c2
     simp only [if_pos c1, if_pos c2]
     rw [fin b a d c hb ha hd hc (by omega) (by omega), lk1, lk2]
   · have k2 := mt e2.2 c2
     simp only [if_pos c1, if_neg c2]
     rw [fin b a c d hb ha hc hd (by omega) (by omega), lk1]
 · have k1 := mt e1.2 c1
   by_cases c2 : 0 < aK c d
   · have k2 := e2.1 c2
     simp only [if_neg c1, if_pos c2]
     rw [fin a b d c ha hb hd hc (by omega) (by omega), lk2]
   · have k2 := mt e2.2 c2
     simp only [if_neg c1, if_neg c2]
     rw [fin a b c d ha hb hc hd (by omega) (by omega)]
theorem l7 (x y z t : Int) : (min (max x y) (max z t) < max (min x y) (min z t)) ↔ ((x < z ∧ x < t) ∧ y < z ∧ y < t) ∨ ((z < x ∧ t < x) ∧ z < y ∧ t < y) := by omega
theorem lB (x y z t : Int) : (max (min x y) (min z t) < min (max x y) (max z t)) ↔ ((x < y ∨ y < x) ∧ (z < t ∨ t < z)) ∧ ((x < z ∨ x < t) ∨ y < z ∨ y < t) ∧ ((z < x ∨ t < x) ∨ z < y ∨ t < y) := by omega
theorem gT {x y z t x' y' z' t' : Int} (h1 : x < y ↔ x' < y') (h1' : y < x ↔ y' < x') (h2 : x < z ↔ x' < z') (h2' : z < x ↔ z' < x') (h3 : x < t ↔ x' < t') (h3' : t < x ↔ t' < x') (h4 : y < z ↔ y' < z') (h4' : z < y ↔ z' < y') (h5 : y < t ↔ y' < t') (h5' : t < y ↔ t' < y') (h6 : z < t ↔ z' < t') (h6' : t < z ↔ t' < z') : ez x' y' z' t' = ez x y z t := by
  have e1 : (min (max x' y') (max z' t') < max (min x' y') (min z' t')) ↔ (min (max x y) (max z t) < max (min x y) (min z t)) := by
    rw [l7, l7, h2, h2', h3, h3', h4, h4', h5, h5']
  have e2 : (max (min x' y') (min z' t') < min (max x' y') (max z' t')) ↔ (max (min x y) (min z t) < min (max x y) (max z t)) := by
    rw [lB, lB, h1, h1', h2, h2', h3, h3', h4, h4', h5, h5', h6, h6']
  have e3 : (min (max x' y') (max z' t') = max (min x' y') (min z' t')) ↔ (min (max x y) (max z t) = max (min x y) (min z t)) := by
    constructor
    · intro h
      have a := mt e1.2 (by omega)
      have b := mt e2.2 (by omega)
      omega
    · intro h
      have a := mt e1.1 (by omega)
      have b := mt e2.1 (by omega)
      omega
  unfold ez
  simp only [e1, e3]
theorem nD (x y z t : Int) : ez (-x) (-y) (-z) (-t) = ez x y z t := by
 unfold ez
 have e1 : (min (max (-x) (-y)) (max (-z) (-t)) < max (min (-x) (-y)) (min (-z) (-t))) ↔ (min (max x y) (max z t) < max (min x y) (min z t)) := by omega
 have e2 : (min (max (-x) (-y)) (max (-z) (-t)) = max (min (-x) (-y)) (min (-z) (-t))) ↔ (min (max x y) (max z t) = max (min x y) (min z t)) := by omega
 simp only [e1, e2]
end TL
namespace TL
theorem fG {x y : Int} (h1 : -16777216 ≤ x ∧ x ≤ 16777216) (h2 : -16777216 ≤ y ∧ y ≤ 16777216) : -281474976710656 ≤ x * y ∧ x * y ≤ 281474976710656 := by
 have h := Int.natAbs_mul x y
 have a : x.natAbs ≤ 16777216 := by omega
 have b : y.natAbs ≤ 16777216 := by omega
 have c : x.natAbs * y.natAbs ≤ 16777216 * 16777216 := Nat.mul_le_mul a b
 omega
def ub (p : Pt) : Prop := (-16777216 ≤ p.1 ∧ p.1 ≤ 16777216) ∧ -16777216 ≤ p.2 ∧ p.2 ≤ 16777216
theorem j6 {a b : Pt} (ha : e7 a) (hb : e7 b) : ub (aU b a) := by
 unfold e7 at ha hb
 unfold ub aU
 simp only
 omega
def cd (p : Pt) : Prop := (-1048576 ≤ p.1 ∧ p.1 ≤ 1048576) ∧ -1048576 ≤ p.2 ∧ p.2 ≤ 1048576
instance (p : Pt) : Decidable (cd p) := by unfold cd; infer_instance
theorem cd.bd {p : Pt} (h : cd p) : e7 p := by unfold cd at h; unfold e7; omega
def dl (ps : List Pt) : Prop := ps.length ≤ 4096 ∧ ∀ p ∈ ps, cd p
instance (ps : List Pt) : Decidable (dl ps) := by unfold dl; infer_instance
theorem tP {ps : List Pt} (h : ∀ j : Nat, j < ps.length → cd (gI ps (j : Int))) : ∀ p ∈ ps, cd p := fun p hp => by
 obtain ⟨i, hi, rfl⟩ := List.mem_iff_getElem.1 hp
 have := h i hi
 have e : gI ps (i : Int) = ps[i] := by simp [gI, hi]
 rwa [e] at this
def iZ : List Int → Int
 | [] => 0
 | x :: l => if x = 0 then iZ l else x
theorem pp (a b : Pt) : aK a b = iZ [bA a.1 b.1, bA a.2 b.2] := by
 unfold aK iZ
 by_cases h : bA a.1 b.1 = 0
 · rw [if_neg (by simp [h]), if_pos h]
   unfold iZ
   by_cases h2 : bA a.2 b.2 = 0
   · rw [if_pos h2, h2]; rfl
   · rw [if_neg h2]
 · rw [if_pos h, if_neg h]
theorem oV {l : List Int} {k : Nat} (h : ∀ j : Nat, j < k → gI l (j : Int) = 0) (hk : (k : Int) < l.length) (hx : gI l (k : Int) ≠ 0) : gI l (k : Int) = iZ l := by
 induction l generalizing k with
 | nil => simp at hk; omega
 | cons a l ih =>
   cases k with
   | zero =>
     have e : gI (a :: l) ((0 : Nat) : Int) = a := by simp [gI]
     rw [e] at hx ⊢
     unfold iZ; rw [if_neg hx]
   | succ k =>
     have e : ∀ j : Nat, gI (a :: l) ((j + 1 : Nat) : Int) = gI l (j : Int) := fun j => by simp [gI]
     have e0 : gI (a :: l) ((0 : Nat) : Int) = a := by simp [gI]
     have h0 := h 0 (by omega)
     rw [e0] at h0
     rw [e] at hx ⊢
     unfold iZ; rw [if_pos h0]
     exact ih (fun j hj => by rw [← e]; exact h (j + 1) (by omega)) (by simp at hk; omega) hx
theorem pY {l : List Int} {k : Nat} (h : ∀ j : Nat, j < k → gI l (j : Int) = 0) (hk : ¬ (k : Int) < l.length) : 0 = iZ l := by
 induction l generalizing k with
 | nil => rfl
 | cons a l ih =>
   have e : ∀ j : Nat, gI (a :: l) ((j + 1 : Nat) : Int) = gI l (j : Int) := fun j => by simp [gI]
   have e0 : gI (a :: l) ((0 : Nat) : Int) = a := by simp [gI]
   simp at hk
   have h0 := h 0 (by omega)
   rw [e0] at h0
   unfold iZ; rw [if_pos h0]
   exact ih (k := k - 1) (fun j hj => by rw [← e]; exact h (j + 1) (by omega)) (by omega)
def e8 (a b c : Pt) : Bool × Int := if cd a ∧ cd b ∧ cd c then (decide (bG a b c), 0) else (false, 1)
def cY (a b c d : Pt) : Int × Int := if (cd a ∧ cd b) ∧ cd c ∧ cd d then (aT a b c d, 0) else (0, 1)
theorem u4 {a b c : Pt} : dl [a, b, c] ↔ cd a ∧ cd b ∧ cd c := by simp [dl]
theorem tW {a b c d : Pt} : dl [a, b, c, d] ↔ (cd a ∧ cd b) ∧ cd c ∧ cd d := by simp [dl, and_assoc]
theorem sO {a : Pt} : dl [a] ↔ cd a := by simp [dl]
def bT (p : Pt) : Int := if 0 < p.1 ∨ p.1 = 0 ∧ 0 < p.2 then 0 else 1
section
variable {a b c d : Pt}
theorem lU (h1 : bu a b c = 0) (h2 : bu a b d = 0) (h3 : bu c d a = 0) (h4 : bu c d b = 0) : aY a b c d = aT a b c d := by
 unfold aT; rw [if_pos ⟨h1, h2, h3, h4⟩]
theorem fb (h1 : bu a b c * bu a b d < 0) (h2 : bu c d a * bu c d b < 0) : 1 = aT a b c d := by
 unfold aT
 rw [if_neg (fun h => by rw [h.1, Int.zero_mul] at h1; omega), if_pos ⟨h1, h2⟩]
theorem b5 (h0 : ¬ (bu a b c = 0 ∧ bu a b d = 0 ∧ bu c d a = 0 ∧ bu c d b = 0)) (h1 : ¬ (bu a b c * bu a b d < 0 ∧ bu c d a * bu c d b < 0)) (h2 : bG a b c ∨ bG a b d ∨ bG c d a ∨ bG c d b) : 2 = aT a b c d := by
 unfold aT
 rw [if_neg h0, if_neg h1, if_pos h2]
theorem dc (h0 : ¬ (bu a b c = 0 ∧ bu a b d = 0 ∧ bu c d a = 0 ∧ bu c d b = 0)) (h1 : ¬ (bu a b c * bu a b d < 0 ∧ bu c d a * bu c d b < 0)) (h2 : ¬ (bG a b c ∨ bG a b d ∨ bG c d a ∨ bG c d b)) : 0 = aT a b c d := by
 unfold aT
 rw [if_neg h0, if_neg h1, if_neg h2]
end
end TL
/-
  TlGeomR: what is told of many points: areas, boxes, whether a polyline is simple.
  By an AI agent.
-/
set_option linter.all false
namespace TL
def fN (ps : List Pt) : Nat → Pt
 | 0 => gI ps 0
 | k + 1 => (min (fN ps k).1 (gI ps (k : Int)).1, min (fN ps k).2 (gI ps (k : Int)).2)
def fO (ps : List Pt) : Nat → Pt
 | 0 => gI ps 0
 | k + 1 => (max (fO ps k).1 (gI ps (k : Int)).1, max (fO ps k).2 (gI ps (k : Int)).2)
def bY (ps : List Pt) : Prop := 4 ≤ (ps.length : Int) ∧ gI ps 0 = gI ps ((ps.length : Int) - 1)
instance (ps : List Pt) : Decidable (bY ps) := by unfold bY; infer_instance
def fc (ps : List Pt) (i k : Nat) : Prop := k = i + 1 ∨ i = 0 ∧ (k : Int) = (ps.length : Int) - 2 ∧ bY ps
instance (ps : List Pt) (i k : Nat) : Decidable (fc ps i k) := by unfold fc; infer_instance
def uz (ps : List Pt) (i k : Nat) : Int := aT (gI ps (i : Int)) (gI ps ((i : Int) + 1)) (gI ps (k : Int)) (gI ps ((k : Int) + 1))
def fV (ps : List Pt) (i k : Nat) : Prop := fc ps i k ∧ uz ps i k = 3 ∨ ¬ fc ps i k ∧ uz ps i k ≠ 0
instance (ps : List Pt) (i k : Nat) : Decidable (fV ps i k) := by unfold fV; infer_instance
def m9 (ps : List Pt) (i : Nat) : Prop := gI ps (i : Int) ≠ gI ps ((i : Int) + 1) ∧ ∀ k < ps.length, i < k → (k : Int) ≤ (ps.length : Int) - 2 → ¬ fV ps i k
instance (ps : List Pt) (i : Nat) : Decidable (m9 ps i) := by unfold m9; infer_instance
def gP (ps : List Pt) : Prop := ∀ i < ps.length, (i : Int) ≤ (ps.length : Int) - 2 → m9 ps i
instance (ps : List Pt) : Decidable (gP ps) := by unfold gP; infer_instance
def dC (ps : List Pt) : Bool × Int := if (ps.length : Int) = 0 ∨ ¬ dl ps then (false, 1) else (decide (gP ps), 0)
section
variable {ps : List Pt}
theorem i6 (h : (ps.length : Int) = 0 ∨ ¬ dl ps) : dC ps = (false, 1) := by unfold dC; rw [if_pos h]
theorem di (h0 : ¬ (ps.length : Int) = 0) (h : dl ps) : dC ps = (decide (gP ps), 0) := by unfold dC; rw [if_neg (by rintro (c | c); exact h0 c; exact c h)]
theorem tJ {i : Nat} (hi : (i : Int) ≤ (ps.length : Int) - 2) (h : gI ps (i : Int) = gI ps ((i : Int) + 1)) : false = decide (gP ps) :=
 (decide_eq_false fun hs => (hs i (by omega) hi).1 h).symm
theorem gX {i k : Nat} (hi : (i : Int) ≤ (ps.length : Int) - 2) (hk : (k : Int) ≤ (ps.length : Int) - 2) (hik : i < k) (h : fV ps i k) : false = decide (gP ps) :=
 (decide_eq_false fun hs => (hs i (by omega) hi).2 k (by omega) hik hk h).symm
theorem ru {i : Nat} (h : ∀ j : Nat, j < i → m9 ps j) (hi : ¬ (i : Int) ≤ (ps.length : Int) - 2) : true = decide (gP ps) :=
 (decide_eq_true fun j _ hj2 => h j (by omega)).symm
variable {i k : Nat}
theorem sI (h : (k : Int) = (i : Int) + 1) : fc ps i k := .inl (by omega)
theorem sA (h1 : (i : Int) = 0) (h2 : (k : Int) = (ps.length : Int) - 2) (h3 : decide (bY ps) = true) : fc ps i k := .inr ⟨by omega, h2, of_decide_eq_true h3⟩
theorem mx (h : ¬ (k : Int) = (i : Int) + 1) (h1 : ¬ (i : Int) = 0) : ¬ fc ps i k := by
 rintro (c | ⟨c, _⟩) <;> omega
theorem mI (h : ¬ (k : Int) = (i : Int) + 1) (h1 : ¬ (k : Int) = (ps.length : Int) - 2) : ¬ fc ps i k := by
 rintro (c | ⟨_, c, _⟩) <;> omega
theorem ni (h : ¬ (k : Int) = (i : Int) + 1) (h1 : ¬ decide (bY ps) = true) : ¬ fc ps i k := by
 rintro (c | ⟨_, _, c⟩)
 · omega
 · exact h1 (decide_eq_true c)
theorem u2 (hj : fc ps i k) (hm : aT (gI ps (i : Int)) (gI ps ((i : Int) + 1)) (gI ps (k : Int)) (gI ps ((k : Int) + 1)) = 3) : fV ps i k := .inl ⟨hj, hm⟩
theorem tN (hj : ¬ fc ps i k) (hm : ¬ aT (gI ps (i : Int)) (gI ps ((i : Int) + 1)) (gI ps (k : Int)) (gI ps ((k : Int) + 1)) = 0) : fV ps i k := .inr ⟨hj, hm⟩
theorem sB (hj : fc ps i k) (hm : ¬ aT (gI ps (i : Int)) (gI ps ((i : Int) + 1)) (gI ps (k : Int)) (gI ps ((k : Int) + 1)) = 3) : ¬ fV ps i k := by
 rintro (⟨_, h⟩ | ⟨h, _⟩)
 · exact hm h
 · exact h hj
theorem pd (hj : ¬ fc ps i k) (hm : aT (gI ps (i : Int)) (gI ps ((i : Int) + 1)) (gI ps (k : Int)) (gI ps ((k : Int) + 1)) = 0) : ¬ fV ps i k := by
 rintro (⟨h, _⟩ | ⟨_, h⟩)
 · exact hj h
 · exact h hm
end
end TL
/-
  TlConv: whole numbers turned to another kind, a string's byte, functions that bear values.
  By an AI agent.
-/
set_option linter.all false
namespace TL
open Go
section
variable {P : Program} {w : World} {f : Fr} {dst : Option Tmp} {ty : TypeId} {pos : String} {after : Array Edge} {g : Option (Nat × Bool)} {x y : Operand} {s d t : TypeId} {m : Int} {k k0 : IntKind}
theorem mr {fid : Nat} {cs : List Operand} {vals : List Value} (h : cs.map (ev f) = vals) : (execOp (ev f) ⟨dst, .makeFunc (.func fid) #[] cs.toArray, ty, pos, after, g⟩).run P w = .ok (.value (.func (.func fid) #[] vals.toArray)) w := by
 have h : cs.toArray.map (ev f) = vals.toArray := by rw [← h]; simp
 simp [execOp, Instr.makeFunc, h]
end
end TL
namespace TL
open Go
section
variable {P : Program} {w : World} {f : Fr} {dst : Option Tmp} {ty : TypeId} {pos : String} {after : Array Edge} {g : Option (Nat × Bool)} {x y : Operand} {t t' : TypeId}
theorem gV {fs : Array Field} {xs ys : List Value} {bs : List Bool} {q : Bool} (ht : P.underlying t = some (.struct fs)) (hp : P.stoodInHeld t = false) (hg : P.eqGuardType P.depth t = false) (hx : ev f x = .agg xs.toArray) (hy : ev f y = .agg ys.toArray) (h : EqF P xs.toArray ys.toArray fs.toList bs) (hq : bs.all id = q) :
   (execOp (ev f) ⟨dst, .binOp .neq t x y t', ty, pos, after, g⟩).run P w = .ok (.value (.bool !q)) w := by
 have e1 : P.fieldsOf t = fs := by simp [Program.fieldsOf, ht]
 have hr : (Op.equal t (.agg xs.toArray) (.agg ys.toArray)).run P w = .ok q w := by
   have := run_equalIn_struct (P := P) w 9999 t xs.toArray ys.toArray (by rw [e1]; exact ht) hp
   rw [e1, fJ h 9998, hq] at this
   exact this
 exact sx .neq hx hy (by simp [eqGuard, hg]) (by simp [binOp, hr])
end
end TL
namespace TL
open Go
section
variable {P : Program} {w : World} {f : Fr} {dst : Option Tmp} {ty : TypeId} {pos : String} {after : Array Edge} {g : Option (Nat × Bool)} {x y : Operand} {t t' : TypeId}
end
end TL
set_option linter.unusedVariables false
namespace TL
variable {a b c d : Int × Int}
theorem o1 {A B C D : Prop} [Decidable A] (h : decide A = true) : A ∨ B ∨ C ∨ D := .inl (of_decide_eq_true h)
theorem o2 {A B C D : Prop} [Decidable B] (h : decide B = true) : A ∨ B ∨ C ∨ D := .inr (.inl (of_decide_eq_true h))
theorem o3 {A B C D : Prop} [Decidable C] (h : decide C = true) : A ∨ B ∨ C ∨ D := .inr (.inr (.inl (of_decide_eq_true h)))
theorem o4 {A B C D : Prop} [Decidable D] (h : decide D = true) : A ∨ B ∨ C ∨ D := .inr (.inr (.inr (of_decide_eq_true h)))
theorem o5 {A B C D : Prop} [Decidable A] [Decidable B] [Decidable C] [Decidable D] (h1 : ¬ decide A = true) (h2 : ¬ decide B = true) (h3 : ¬ decide C = true) (h4 : ¬ decide D = true) : ¬ (A ∨ B ∨ C ∨ D) := by
 rintro (h | h | h | h)
 · exact h1 (decide_eq_true h)
 · exact h2 (decide_eq_true h)
 · exact h3 (decide_eq_true h)
 · exact h4 (decide_eq_true h)
end TL
/-
  TlGeomL: how segments meet, moved, turned, named another way about.
  By an AI agent.
-/
set_option linter.all false
namespace TL
theorem jG (x y : Int) : bA x y = (x - y).sign := by
 unfold bA
 rcases lp (x - y) with ⟨h, h'⟩ | ⟨h, h'⟩ | ⟨h, h'⟩
 · rw [h, if_pos (by omega)]
 · rw [h, if_neg (by omega), if_neg (by omega)]
 · rw [h, if_neg (by omega), if_pos (by omega)]
def jw (u w : Pt) : Prop := u.1 * w.2 = u.2 * w.1
def Dw (w p : Pt) : Int := p.1 * w.1 + p.2 * w.2
theorem oE (w p q : Pt) : Dw w (aU p q) = Dw w p - Dw w q := by
 unfold Dw aU; simp only; grind
theorem ow {u w : Pt} (h : jw u w) : u.1 * (w.1 * w.1 + w.2 * w.2) = Dw w u * w.1 ∧ u.2 * (w.1 * w.1 + w.2 * w.2) = Dw w u * w.2 := by
 unfold jw at h
 unfold Dw
 constructor <;> grind
theorem iE (x : Int) : 0 ≤ x * x := by
 rcases Int.le_total 0 x with h | h
 · exact Int.mul_nonneg h h
 · exact Int.mul_nonneg_of_nonpos_of_nonpos h h
theorem pB {x : Int} (h : x ≠ 0) : 0 < x * x := by
 have h1 := iE x
 have h2 : x * x ≠ 0 := fun e => by rcases Int.mul_eq_zero.1 e with e | e <;> exact h e
 omega
theorem tq {w : Pt} (hw : w ≠ (0, 0)) : (w.1 * w.1 + w.2 * w.2).sign = 1 := by
 have h1 : 0 ≤ w.1 * w.1 := iE _
 have h2 : 0 ≤ w.2 * w.2 := iE _
 refine Int.sign_eq_one_of_pos ?_
 by_cases c : w.1 = 0
 · by_cases d : w.2 = 0
   · exact absurd (Prod.ext c d) hw
   · have := pB d
     omega
 · have := pB c
   omega
theorem lc {u w : Pt} (hw : w ≠ (0, 0)) (h : jw u w) : u.1.sign = (Dw w u).sign * w.1.sign ∧ u.2.sign = (Dw w u).sign * w.2.sign := by
 obtain ⟨h1, h2⟩ := ow h
 have hn := tq hw
 have e1 := congrArg Int.sign h1
 have e2 := congrArg Int.sign h2
 rw [Int.sign_mul, Int.sign_mul, hn, Int.mul_one] at e1 e2
 exact ⟨e1, e2⟩
def jv (u : Pt) : Int := if u.1 ≠ 0 then u.1.sign else u.2.sign
theorem pn (a b : Pt) : aK a b = jv (aU a b) := by
 unfold aK jv aU
 simp only
 rw [jG, jG]
 by_cases h : a.1 - b.1 = 0
 · rw [h]; simp
 · rw [if_pos (fun e => h (Int.sign_eq_zero_iff_zero.1 e)), if_pos h]
theorem rT {u w : Pt} (hw : w ≠ (0, 0)) (h : jw u w) : jv u = (Dw w u).sign * jv w := by
 obtain ⟨h1, h2⟩ := lc hw h
 unfold jv
 by_cases c : w.1 = 0
 · rw [c] at h1
   have hu : u.1 = 0 := by
     have : u.1.sign = 0 := by rw [h1]; simp
     exact Int.sign_eq_zero_iff_zero.1 this
   rw [if_neg (by simp [hu]), if_neg (by simp [c]), h2]
 · rw [if_pos c]
   by_cases d : u.1 = 0
   · rw [if_neg (by simp [d])]
     rw [d] at h1
     have h3 : (Dw w u).sign * w.1.sign = 0 := by rw [← h1]; rfl
     rcases Int.mul_eq_zero.1 h3 with e | e
     · rw [h2, e]; simp
     · exact absurd (Int.sign_eq_zero_iff_zero.1 e) c
   · rw [if_pos d, h1]
theorem pC {w : Pt} (hw : w ≠ (0, 0)) : jv w = 1 ∨ jv w = -1 := by
 unfold jv
 by_cases c : w.1 = 0
 · rw [if_neg (by simp [c])]
   have : w.2 ≠ 0 := fun d => hw (Prod.ext c d)
   rcases lp w.2 with ⟨h, h'⟩ | ⟨h, h'⟩ | ⟨h, h'⟩
   · exact .inr h
   · exact absurd h' this
   · exact .inl h
 · rw [if_pos c]
   rcases lp w.1 with ⟨h, h'⟩ | ⟨h, h'⟩ | ⟨h, h'⟩
   · exact .inr h
   · exact absurd h' c
   · exact .inl h
structure lG (l : List Pt) (w : Pt) : Prop where
  pr : ∀ p ∈ l, ∀ q ∈ l, jw (aU p q) w
  one : w = (0, 0) → ∀ p ∈ l, ∀ q ∈ l, p = q
theorem ij (a : Pt) (w : Pt) : jw (aU a a) w := by unfold TL.jw aU; simp
theorem rB {a b w : Pt} (h : jw (aU a b) w) : jw (aU b a) w := by
 unfold TL.jw aU at *; simp only at *; grind
theorem r9 {a b c w : Pt} (h1 : jw (aU a b) w) (h2 : jw (aU b c) w) : jw (aU a c) w := by
 unfold TL.jw aU at *; simp only at *; grind
theorem kh {a b c : Pt} : bu a b c = 0 ↔ jw (aU c a) (aU b a) := by
 rw [qg]
 unfold TL.jw aU
 simp only
 constructor
 · intro h; grind
 · intro h; grind
theorem gZ {a b : Pt} : aU a b = (0, 0) ↔ a = b := by
 unfold aU
 constructor
 · intro h
   have h1 := congrArg Prod.fst h
   have h2 := congrArg Prod.snd h
   simp only at h1 h2
   exact Prod.ext (by omega) (by omega)
 · rintro rfl; simp
theorem lG.base {l : List Pt} {w o : Pt} (h1 : ∀ p ∈ l, jw (aU p o) w) (h2 : w = (0, 0) → ∀ p ∈ l, p = o) : lG l w :=
 ⟨fun p hp q hq => r9 (h1 p hp) (rB (h1 q hq)), fun e p hp q hq => by rw [h2 e p hp, h2 e q hq]⟩
theorem sP {a b c d : Pt} (h1 : bu a b c = 0) (h2 : bu a b d = 0) (h3 : bu c d a = 0) (h4 : bu c d b = 0) : ∃ w, lG [a, b, c, d] w := by
 have k1 := kh.1 h1
 have k2 := kh.1 h2
 have k3 := kh.1 h3
 by_cases hab : a = b
 · subst hab
   by_cases hcd : c = d
   · subst hcd
     refine ⟨aU c a, lG.base (o := a) (fun p hp => ?_) (fun e p hp => ?_)⟩
     · simp only [List.mem_cons, List.not_mem_nil, or_false] at hp
       rcases hp with rfl | rfl | rfl | rfl
       · exact ij _ _
       · exact ij _ _
       · unfold TL.jw; rw [Int.mul_comm]
       · unfold TL.jw; rw [Int.mul_comm]
     · have := gZ.1 e
       simp only [List.mem_cons, List.not_mem_nil, or_false] at hp
       rcases hp with rfl | rfl | rfl | rfl
       · rfl
       · rfl
       · exact this
       · exact this
   · refine ⟨aU d c, lG.base (o := c) (fun p hp => ?_) (fun e p hp => absurd (gZ.1 e).symm hcd)⟩
     simp only [List.mem_cons, List.not_mem_nil, or_false] at hp
     rcases hp with rfl | rfl | rfl | rfl
     · exact k3
     · exact k3
     · exact ij _ _
     · unfold TL.jw; rw [Int.mul_comm]
 · refine ⟨aU b a, lG.base (o := a) (fun p hp => ?_) (fun e p hp => absurd (gZ.1 e).symm hab)⟩
   simp only [List.mem_cons, List.not_mem_nil, or_false] at hp
   rcases hp with rfl | rfl | rfl | rfl
   · exact ij _ _
   · unfold TL.jw; rw [Int.mul_comm]
   · exact k1
   · exact k2
theorem lG.ord {l : List Pt} {w p q : Pt} (h : lG l w) (hw : w ≠ (0, 0)) (hp : p ∈ l) (hq : q ∈ l) : aK p q = (Dw w p - Dw w q).sign * jv w := by
 rw [pn, rT hw (h.pr p hp q hq), oE]
theorem lG.inj {l : List Pt} {w p q : Pt} (h : lG l w) (hp : p ∈ l) (hq : q ∈ l) (e : Dw w p = Dw w q) : p = q := by
 by_cases hw : w = (0, 0)
 · exact h.one hw p hp q hq
 · have h1 := lc hw (h.pr p hp q hq)
   rw [oE, e] at h1
   have e1 : (aU p q).1.sign = 0 := by rw [h1.1]; simp
   have e2 : (aU p q).2.sign = 0 := by rw [h1.2]; simp
   exact gZ.1 (Prod.ext (Int.sign_eq_zero_iff_zero.1 e1) (Int.sign_eq_zero_iff_zero.1 e2))
theorem oU {a b c d w : Pt} (ha : e7 a) (hb : e7 b) (hc : e7 c) (hd : e7 d) (h : lG [a, b, c, d] w) : aY a b c d = ez (Dw w a) (Dw w b) (Dw w c) (Dw w d) := by
  rw [ny ha hb hc hd]
  by_cases hw : w = (0, 0)
  · have e1 := h.one hw b (by simp) a (by simp)
    have e2 := h.one hw c (by simp) a (by simp)
    have e3 := h.one hw d (by simp) a (by simp)
    subst e1 e2 e3
    unfold ez
    simp
  · have key : ∀ p q, p ∈ [a, b, c, d] → q ∈ [a, b, c, d] → e7 p → e7 q → (key p < key q ↔ (Dw w p - Dw w q).sign * jv w < 0) := fun p q hp hq bp bq => by
      rw [← h.ord hw hp hq, fw bp bq, lC]
    rcases pC hw with e | e
    · have key2 : ∀ p q, p ∈ [a, b, c, d] → q ∈ [a, b, c, d] → e7 p → e7 q → (Dw w p < Dw w q ↔ TL.key p < TL.key q) := fun p q hp hq bp bq => by
        rw [key p q hp hq bp bq, e]
        rcases lp (Dw w p - Dw w q) with ⟨s, s'⟩ | ⟨s, s'⟩ | ⟨s, s'⟩ <;> rw [s] <;> omega
      exact gT (key2 a b (by simp) (by simp) ha hb) (key2 b a (by simp) (by simp) hb ha) (key2 a c (by simp) (by simp) ha hc) (key2 c a (by simp) (by simp) hc ha) (key2 a d (by simp) (by simp) ha hd) (key2 d a (by simp) (by simp) hd ha) (key2 b c (by simp) (by simp) hb hc) (key2 c b (by simp) (by simp) hc hb) (key2 b d (by simp) (by simp) hb hd) (key2 d b (by simp) (by simp) hd hb) (key2 c d (by simp) (by simp) hc hd) (key2 d c (by simp) (by simp) hd hc)
    · have key2 : ∀ p q, p ∈ [a, b, c, d] → q ∈ [a, b, c, d] → e7 p → e7 q → (Dw w p < Dw w q ↔ -TL.key p < -TL.key q) := fun p q hp hq bp bq => by
        have := key q p hq hp bq bp
        rw [e] at this
        rcases lp (Dw w q - Dw w p) with ⟨s, s'⟩ | ⟨s, s'⟩ | ⟨s, s'⟩ <;> rw [s] at this <;> omega
      rw [← nD]
      exact gT (key2 a b (by simp) (by simp) ha hb) (key2 b a (by simp) (by simp) hb ha) (key2 a c (by simp) (by simp) ha hc) (key2 c a (by simp) (by simp) hc ha) (key2 a d (by simp) (by simp) ha hd) (key2 d a (by simp) (by simp) hd ha) (key2 b c (by simp) (by simp) hb hc) (key2 c b (by simp) (by simp) hc hb) (key2 b d (by simp) (by simp) hb hd) (key2 d b (by simp) (by simp) hd hb) (key2 c d (by simp) (by simp) hc hd) (key2 d c (by simp) (by simp) hd hc)
end TL
/-
  TlGeomM: meeting segments: moved, turned, named another way about; what ends they share.
  By an AI agent.
-/
set_option linter.all false
namespace TL
theorem lG.sub {l l' : List Pt} {w : Pt} (h : lG l w) (hs : ∀ p ∈ l', p ∈ l) : lG l' w :=
 ⟨fun p hp q hq => h.pr p (hs p hp) q (hs q hq), fun e p hp q hq => h.one e p (hs p hp) q (hs q hq)⟩
section
variable {a b c d : Pt}
theorem qi {q : Pt} (ha : e7 a) (hb : e7 b) (hc : e7 c) (hd : e7 d) (ha' : e7 (cr a q)) (hb' : e7 (cr b q)) (hc' : e7 (cr c q)) (hd' : e7 (cr d q)) {w : Pt} (h : lG [a, b, c, d] w) : aY (cr a q) (cr b q) (cr c q) (cr d q) = aY a b c d := by
 have hm : ∀ p r : Pt, aU (cr p q) (cr r q) = aU p r := fun p r => by unfold aU cr; simp only; exact Prod.ext (by simp only; omega) (by simp only; omega)
 have h' : lG ([a, b, c, d].map fun p => cr p q) w := ⟨fun p hp r hr => by
   obtain ⟨x, hx, rfl⟩ := List.mem_map.1 hp
   obtain ⟨y, hy, rfl⟩ := List.mem_map.1 hr
   rw [hm]; exact h.pr x hx y hy, fun e p hp r hr => by
   obtain ⟨x, hx, rfl⟩ := List.mem_map.1 hp
   obtain ⟨y, hy, rfl⟩ := List.mem_map.1 hr
   rw [h.one e x hx y hy]⟩
 have hD : ∀ p : Pt, Dw w (cr p q) = Dw w p + Dw w q := fun p => by unfold Dw cr; simp only; grind
 rw [oU ha hb hc hd h, oU ha' hb' hc' hd' h', hD, hD, hD, hD]
 apply gT <;> omega
theorem oH {q : Pt} (ha : e7 a) (hb : e7 b) (hc : e7 c) (hd : e7 d) (ha' : e7 (cr a q)) (hb' : e7 (cr b q)) (hc' : e7 (cr c q)) (hd' : e7 (cr d q)) : aT (cr a q) (cr b q) (cr c q) (cr d q) = aT a b c d := by
 unfold aT
 simp only [nm, na]
 by_cases h : bu a b c = 0 ∧ bu a b d = 0 ∧ bu c d a = 0 ∧ bu c d b = 0
 · obtain ⟨w, hw⟩ := sP h.1 h.2.1 h.2.2.1 h.2.2.2
   rw [if_pos h, if_pos h, qi ha hb hc hd ha' hb' hc' hd' hw]
 · rw [if_neg h, if_neg h]
def eb (a b c d e : Pt) : Prop := bG a b e ∧ bG c d e
instance (a b c d e : Pt) : Decidable (eb a b c d e) := by unfold eb; infer_instance
def oz (a b c d : Pt) : Prop := bu a b c * bu a b d < 0 ∧ bu c d a * bu c d b < 0
instance (a b c d : Pt) : Decidable (oz a b c d) := by unfold oz; infer_instance
end
end TL
/-
  TlGeomS: polylines gone back, and two of them named the other way about.
  By an AI agent.
-/
set_option linter.all false
namespace TL
abbrev Sg := Pt × Pt
def kV (ps : List Pt) : Nat → List Sg
 | 0 => []
 | k + 1 => kV ps k ++ [(gI ps (k : Int), gI ps ((k : Int) + 1))]
def rI (ps : List Pt) : List Sg := if ps.length = 1 then [(gI ps 0, gI ps 0)] else kV ps (ps.length - 1)
theorem eP {ps : List Pt} {s : Sg} : ∀ {k : Nat}, s ∈ kV ps k ↔ ∃ i : Nat, i < k ∧ s = (gI ps (i : Int), gI ps ((i : Int) + 1))
 | 0 => by simp [kV]
 | k + 1 => by
   rw [kV, List.mem_append, eP, List.mem_singleton]
   constructor
   · rintro (⟨i, hi, e⟩ | e)
     · exact ⟨i, by omega, e⟩
     · exact ⟨k, by omega, e⟩
   · rintro ⟨i, hi, e⟩
     by_cases c : i = k
     · subst c; exact .inr e
     · exact .inl ⟨i, by omega, e⟩
def sD (ps : List Pt) : Pt := gI ps ((ps.length : Int) - 1)
def t7 (ps : List Pt) (p : Pt) : Prop := p = gI ps 0 ∨ p = sD ps
instance (ps : List Pt) (p : Pt) : Decidable (t7 ps p) := by unfold t7; infer_instance
def rj (q : List Pt) (s t : Sg) (x : Pt) : Prop := t7 q x ∧ bG s.1 s.2 x ∧ bG t.1 t.2 x
instance (q : List Pt) (s t : Sg) (x : Pt) : Decidable (rj q s t x) := by unfold rj; infer_instance
def pZ (p q : List Pt) (s t : Sg) : Prop := rj q s t (gI p 0) ∨ rj q s t (sD p)
instance (p q : List Pt) (s t : Sg) : Decidable (pZ p q s t) := by unfold pZ; infer_instance
def ta (p q : List Pt) (s t : Sg) : Prop := aT s.1 s.2 t.1 t.2 = 3 ∨ aT s.1 s.2 t.1 t.2 ≠ 0 ∧ ¬ pZ p q s t
instance (p q : List Pt) (s t : Sg) : Decidable (ta p q s t) := by unfold ta; infer_instance
def uc (p q : List Pt) : Prop := ∀ s ∈ rI p, ∀ t ∈ rI q, ¬ ta p q s t
instance (p q : List Pt) : Decidable (uc p q) := by unfold uc; infer_instance
section
variable {p q : List Pt}
end
end TL
namespace TL
section
variable {p q : List Pt} {i k : Nat}
variable {s t : Sg}
end
end TL
namespace TL
section
variable {p q : List Pt} {s t : Sg} {i : Nat}
end
end TL
/-
  TlGeomB: a box holds all points, and each of its sides has one; how many ends two segments share.
  By an AI agent.
-/
set_option linter.all false
namespace TL
theorem me {ps : List Pt} : ∀ {k j : Nat}, j < k → (fN ps k).1 ≤ (gI ps (j : Int)).1 ∧ (fN ps k).2 ≤ (gI ps (j : Int)).2
 | 0, j, h => by omega
 | k + 1, j, h => by
   unfold fN
   simp only
   by_cases e : j = k
   · subst e; omega
   · have := me (ps := ps) (k := k) (j := j) (by omega)
     omega
theorem lV {ps : List Pt} : ∀ {k j : Nat}, j < k → (gI ps (j : Int)).1 ≤ (fO ps k).1 ∧ (gI ps (j : Int)).2 ≤ (fO ps k).2
 | 0, j, h => by omega
 | k + 1, j, h => by
   unfold fO
   simp only
   by_cases e : j = k
   · subst e; omega
   · have := lV (ps := ps) (k := k) (j := j) (by omega)
     omega
theorem ml {ps : List Pt} : ∀ k : Nat, (∃ j : Nat, j < max k 1 ∧ (gI ps (j : Int)).1 = (fN ps k).1) ∧ ∃ j : Nat, j < max k 1 ∧ (gI ps (j : Int)).2 = (fN ps k).2
 | 0 => ⟨⟨0, by omega, rfl⟩, ⟨0, by omega, rfl⟩⟩
 | k + 1 => by
   obtain ⟨⟨i, hi, ei⟩, ⟨j, hj, ej⟩⟩ := ml (ps := ps) k
   unfold fN
   simp only
   refine ⟨?_, ?_⟩
   · by_cases c : (fN ps k).1 ≤ (gI ps (k : Int)).1
     · exact ⟨i, by omega, by rw [ei]; omega⟩
     · exact ⟨k, by omega, by omega⟩
   · by_cases c : (fN ps k).2 ≤ (gI ps (k : Int)).2
     · exact ⟨j, by omega, by rw [ej]; omega⟩
     · exact ⟨k, by omega, by omega⟩
theorem mj {ps : List Pt} : ∀ k : Nat, (∃ j : Nat, j < max k 1 ∧ (gI ps (j : Int)).1 = (fO ps k).1) ∧ ∃ j : Nat, j < max k 1 ∧ (gI ps (j : Int)).2 = (fO ps k).2
 | 0 => ⟨⟨0, by omega, rfl⟩, ⟨0, by omega, rfl⟩⟩
 | k + 1 => by
   obtain ⟨⟨i, hi, ei⟩, ⟨j, hj, ej⟩⟩ := mj (ps := ps) k
   unfold fO
   simp only
   refine ⟨?_, ?_⟩
   · by_cases c : (gI ps (k : Int)).1 ≤ (fO ps k).1
     · exact ⟨i, by omega, by rw [ei]; omega⟩
     · exact ⟨k, by omega, by omega⟩
   · by_cases c : (gI ps (k : Int)).2 ≤ (fO ps k).2
     · exact ⟨j, by omega, by rw [ej]; omega⟩
     · exact ⟨k, by omega, by omega⟩
section
variable {a b c d : Pt} {ends : List Pt} {k : Nat}
end
end TL
namespace TL
end TL
/-
  TlGeomX: polylines: the document's way and the code's.
  By an AI agent.
-/
set_option linter.all false
namespace TL
section
variable {a b c d : Pt}
end
section
variable {ps : List Pt} {i k : Nat}
end
def ut (but : List Pt) (s t : Sg) : Prop := aT s.1 s.2 t.1 t.2 = 3 ∨ (aT s.1 s.2 t.1 t.2 = 1 ∧ ¬ ∃ x ∈ but, eb s.1 s.2 t.1 t.2 x) ∨ ((aT s.1 s.2 t.1 t.2 ≠ 0 ∧ aT s.1 s.2 t.1 t.2 ≠ 1) ∧ ∃ e ∈ [s.1, s.2, t.1, t.2], eb s.1 s.2 t.1 t.2 e ∧ e ∉ but)
instance (but : List Pt) (s t : Sg) : Decidable (ut but s t) := by unfold ut; infer_instance
def uj (p q but : List Pt) : Prop := ∃ s ∈ rI p, ∃ t ∈ rI q, ut but s t
instance (p q but : List Pt) : Decidable (uj p q but) := by unfold uj; infer_instance
section
variable {p q B : List Pt}
end
end TL
namespace TL
section
variable {p q but : List Pt} {i k : Nat}
variable {s t : Sg}
end
end TL
/-
  TlAround: points round another one: the order, its laws, the list that is sorted by it.
  By an AI agent.
-/
set_option linter.all false
namespace TL
def sr (p : Pt) : Int := p.1 * p.1 + p.2 * p.2
def Up (p : Pt) : Prop := 0 < p.1 ∨ p.1 = 0 ∧ 0 < p.2
theorem tz (u v w : Pt) : v.1 * dD u w = w.1 * dD u v + u.1 * dD v w := by
 unfold dD; grind
theorem i4 (u v : Pt) : dD v u = - dD u v := by unfold dD; grind
theorem rV (u : Pt) : dD u u = 0 := by unfold dD; grind
theorem oI {u v w : Pt} (hu : Up u) (hv : Up v) (hw : Up w) (c1 : dD u v ≤ 0) (c2 : dD v w ≤ 0) : dD u w ≤ 0 ∧ (dD u v < 0 ∨ dD v w < 0 → dD u w < 0) := by
 have hid := tz u v w
 have hu0 : 0 ≤ u.1 := by rcases hu with h | h <;> omega
 have hw0 : 0 ≤ w.1 := by rcases hw with h | h <;> omega
 rcases hv with hv | ⟨hv, hv2⟩
 · have hw1 : 0 < w.1 := by
     rcases hw with h | ⟨h, h2⟩
     · exact h
     · exfalso
       have : dD v w = v.1 * w.2 := by unfold dD; rw [h]; omega
       have := Int.mul_pos hv h2
       omega
   have k1 : w.1 * dD u v ≤ 0 := Int.mul_nonpos_of_nonneg_of_nonpos hw0 c1
   have k2 : u.1 * dD v w ≤ 0 := Int.mul_nonpos_of_nonneg_of_nonpos hu0 c2
   refine ⟨?_, ?_⟩
   · refine Int.not_lt.1 fun h => ?_
     have := Int.mul_pos hv h
     omega
   · intro hs
     refine Int.not_le.1 fun h => ?_
     have k3 : 0 ≤ v.1 * dD u w := Int.mul_nonneg (by omega) h
     rcases hs with hs | hs
     · have := Int.mul_neg_of_pos_of_neg hw1 hs
       omega
     · rcases hu with hu | ⟨hu, hu2⟩
       · have := Int.mul_neg_of_pos_of_neg hu hs
         omega
       · have e : dD u w = - (u.2 * w.1) := by unfold dD; rw [hu]; omega
         have := Int.mul_pos hu2 hw1
         omega
 · have e1 : dD u v = u.1 * v.2 := by unfold dD; rw [hv]; omega
   have hu1 : u.1 = 0 := by
     rcases hu with h | h
     · have := Int.mul_pos h hv2
       omega
     · exact h.1
   have hu2 : 0 < u.2 := by rcases hu with h | h <;> omega
   have e2 : dD u w = - (u.2 * w.1) := by unfold dD; rw [hu1]; omega
   have e3 : dD v w = - (v.2 * w.1) := by unfold dD; rw [hv]; omega
   have k1 := Int.mul_nonneg (Int.le_of_lt hu2) hw0
   refine ⟨by omega, ?_⟩
   rintro (h | h)
   · rw [e1, hu1] at h; omega
   · have : 0 < w.1 := by
       rcases hw with h' | h'
       · exact h'
       · rw [e3, h'.1] at h; omega
     have := Int.mul_pos hu2 this
     omega
def nz (p : Pt) : Prop := ¬ (p.1 = 0 ∧ p.2 = 0)
def ua (p : Pt) : Pt := (-p.1, -p.2)
theorem k6 (u v : Pt) : dD (ua u) (ua v) = dD u v := by unfold dD ua; grind
theorem pc {p : Pt} (h : nz p) : (bT p = 0 ∧ Up p) ∨ (bT p = 1 ∧ Up (ua p)) := by
 unfold bT Up ua
 unfold nz at h
 split
 · exact .inl ⟨rfl, by assumption⟩
 · refine .inr ⟨rfl, ?_⟩
   dsimp
   omega
theorem q9 {u v w : Pt} (hu : nz u) (hv : nz v) (hw : nz w) (h1 : bT u = bT v) (h2 : bT v = bT w) (c1 : dD u v ≤ 0) (c2 : dD v w ≤ 0) : dD u w ≤ 0 ∧ (dD u v < 0 ∨ dD v w < 0 → dD u w < 0) := by
 rcases pc hu with ⟨a1, a2⟩ | ⟨a1, a2⟩ <;> rcases pc hv with ⟨b1, b2⟩ | ⟨b1, b2⟩ <;> rcases pc hw with ⟨d1, d2⟩ | ⟨d1, d2⟩ <;> try (exfalso; omega)
 · exact oI a2 b2 d2 c1 c2
 · have := oI a2 b2 d2 (by rw [k6]; exact c1) (by rw [k6]; exact c2)
   simpa only [k6] using this
def pG (a b : Pt) (i k : Int) : Prop := bT a < bT b ∨ bT a = bT b ∧ (dD a b < 0 ∨ dD a b = 0 ∧ (sr a < sr b ∨ sr a = sr b ∧ i < k))
theorem fH (a : Pt) (i : Int) : ¬ pG a a i i := by
 unfold pG; rw [rV]; omega
theorem tc {a b c : Pt} {i j k : Int} (ha : nz a) (hb : nz b) (hc : nz c) (h1 : pG a b i j) (h2 : pG b c j k) : pG a c i k := by
 unfold pG at *
 rcases h1 with h1 | ⟨h1, h1'⟩
 · rcases h2 with h2 | ⟨h2, _⟩
   · exact .inl (by omega)
   · exact .inl (by omega)
 · rcases h2 with h2 | ⟨h2, h2'⟩
   · exact .inl (by omega)
   · refine .inr ⟨by omega, ?_⟩
     have t := q9 ha hb hc h1 h2 (by omega) (by omega)
     have t' := q9 hc hb ha h2.symm h1.symm
     have a1 := i4 a b
     have a2 := i4 b c
     have a3 := i4 a c
     rcases h1' with h1' | ⟨h1', h1''⟩
     · exact .inl (t.2 (.inl h1'))
     · rcases h2' with h2' | ⟨h2', h2''⟩
       · exact .inl (t.2 (.inr h2'))
       · have := t' (by omega) (by omega)
         exact .inr ⟨by omega, by omega⟩
theorem j4 {a b : Pt} {i k : Int} (h : i ≠ k) : pG a b i k ∨ pG b a k i := by
 unfold pG
 have := i4 a b
 omega
def vA (o : Pt) (ps : List Pt) (i : Int) : Pt := aU (gI ps i) o
def jr (o : Pt) (ps : List Pt) (i k : Int) : Prop := pG (vA o ps i) (vA o ps k) i k
def uf (o : Pt) (ps : List Pt) (i k : Int) : Int := iZ [bA (bT (vA o ps i)) (bT (vA o ps k)), bA (dD (vA o ps i) (vA o ps k)) 0, bA (sr (vA o ps i)) (sr (vA o ps k)), bA i k]
theorem i9 {x y : Int} : bA x y < 0 ↔ x < y := by unfold bA; split <;> (try split) <;> omega
theorem go {x y : Int} : bA x y = 0 ↔ x = y := by unfold bA; split <;> (try split) <;> omega
theorem tj {o : Pt} {ps : List Pt} {i k : Int} : uf o ps i k < 0 ↔ jr o ps i k := by
 unfold uf jr pG
 generalize bT (vA o ps i) = a1
 generalize bT (vA o ps k) = a2
 generalize dD (vA o ps i) (vA o ps k) = b1
 generalize sr (vA o ps i) = c1
 generalize sr (vA o ps k) = c2
 have q1 := @i9 a1 a2
 have q2 := @go a1 a2
 have q3 := @i9 b1 0
 have q4 := @go b1 0
 have q5 := @i9 c1 c2
 have q6 := @go c1 c2
 have q7 := @i9 i k
 have q8 := @go i k
 simp only [iZ]
 split
 · split
   · split
     · split
       · omega
       · omega
     · omega
   · omega
 · omega
def im (o : Pt) (ps : List Pt) : Prop := ∀ i : Nat, i < ps.length → gI ps (i : Int) ≠ o
theorem im.nz {o : Pt} {ps : List Pt} (h : im o ps) {i : Int} (h0 : 0 ≤ i) (h1 : i < ps.length) : nz (vA o ps i) := by
 have k := h i.toNat (by omega)
 rw [Int.toNat_of_nonneg h0] at k
 intro ⟨e1, e2⟩
 unfold vA aU at e1 e2
 simp only at e1 e2
 exact k (Prod.ext (by omega) (by omega))
def rH (o : Pt) (ps : List Pt) (k : Nat) (l : List Int) : Prop := l.Pairwise (jr o ps) ∧ ∀ x, x ∈ l ↔ 0 ≤ x ∧ x < (k : Int)
theorem oJ {α : Type} {R : α → α → Prop} : ∀ {l1 l2 : List α}, (∀ a, a ∈ l1 → ∀ b, b ∈ l1 → R a b → ¬ R b a) → l1.Pairwise R → l2.Pairwise R → (∀ x, x ∈ l1 ↔ x ∈ l2) → l1 = l2
 | [], [], _, _, _, _ => rfl
 | [], b :: t2, _, _, _, h => by have := (h b).2 (by simp); simp at this
 | a :: t1, [], _, _, _, h => by have := (h a).1 (by simp); simp at this
 | a :: t1, b :: t2, ha, h1, h2, h => by
   rw [List.pairwise_cons] at h1 h2
   have e : a = b := by
     rcases List.mem_cons.1 ((h a).1 (by simp)) with e | m1
     · exact e
     · rcases List.mem_cons.1 ((h b).2 (by simp)) with e | m2
       · exact e.symm
       · exact absurd (h2.1 a m1) (ha a (by simp) b (by simp [m2]) (h1.1 b m2))
   subst e
   have n1 : a ∉ t1 := fun m => ha a (by simp) a (by simp) (h1.1 a m) (h1.1 a m)
   have n2 : a ∉ t2 := fun m => ha a (by simp) a (by simp) (h2.1 a m) (h2.1 a m)
   have := oJ (R := R) (l1 := t1) (l2 := t2) (fun x hx y hy => ha x (by simp [hx]) y (by simp [hy])) h1.2 h2.2 fun x => by
     constructor
     · intro m
       rcases List.mem_cons.1 ((h x).1 (by simp [m])) with e | m'
       · subst e; exact absurd m n1
       · exact m'
     · intro m
       rcases List.mem_cons.1 ((h x).2 (by simp [m])) with e | m'
       · subst e; exact absurd m n2
       · exact m'
   rw [this]
section
variable {o : Pt} {ps : List Pt} {k : Nat} {l l' : List Int}
theorem k5 (hz : im o ps) {i j k : Int} (hi : 0 ≤ i ∧ i < ps.length) (hj : 0 ≤ j ∧ j < ps.length) (hk : 0 ≤ k ∧ k < ps.length) (h1 : jr o ps i j) (h2 : jr o ps j k) : jr o ps i k :=
 tc (hz.nz hi.1 hi.2) (hz.nz hj.1 hj.2) (hz.nz hk.1 hk.2) h1 h2
theorem pU (hz : im o ps) {i j : Int} (hi : 0 ≤ i ∧ i < ps.length) (hj : 0 ≤ j ∧ j < ps.length) (h1 : jr o ps i j) : ¬ jr o ps j i := fun h2 => fH _ _ (k5 hz hi hj hi h1 h2)
theorem lA (hz : im o ps) (hk : k ≤ ps.length) (h : rH o ps k l) (h' : rH o ps k l') : l = l' :=
 oJ (fun a ha b hb h1 => pU hz (by have := (h.2 a).1 ha; omega) (by have := (h.2 b).1 hb; omega) h1) h.1 h'.1 fun x => (h.2 x).trans (h'.2 x).symm
theorem mV (hz : im o ps) (hk : k < ps.length) (h : rH o ps k l) {m : Nat} (hm : m ≤ l.length) (h1 : ∀ j : Nat, m ≤ j → j < l.length → jr o ps (k : Int) (gI l (j : Int))) (h2 : m = 0 ∨ ¬ jr o ps (k : Int) (gI l ((m : Int) - 1))) :
   rH o ps (k + 1) (l.take m ++ (k : Int) :: l.drop m) := by
 have hin : ∀ j : Nat, j < l.length → 0 ≤ gI l (j : Int) ∧ gI l (j : Int) < (k : Int) := fun j hj => (h.2 _).1 (aV (by omega) (by omega))
 constructor
 · have hs : (l.take m ++ l.drop m).Pairwise (jr o ps) := by rw [List.take_append_drop]; exact h.1
   rw [List.pairwise_append] at hs ⊢
   refine ⟨hs.1, ?_, ?_⟩
   · rw [List.pairwise_cons]
     refine ⟨fun x hx => ?_, hs.2.1⟩
     obtain ⟨j, hj, rfl⟩ := List.mem_iff_getElem.1 hx
     rw [List.length_drop] at hj
     have := h1 (m + j) (by omega) (by omega)
     rw [List.getElem_drop]
     have e : gI l ((m + j : Nat) : Int) = l[m + j] := by simp only [gI]; rw [Int.toNat_natCast]; simp [show m + j < l.length by omega]
     rwa [e] at this
   · intro x hx y hy
     rcases List.mem_cons.1 hy with rfl | hy
     · -- x lies ahead of m
       obtain ⟨j, hj, rfl⟩ := List.mem_iff_getElem.1 hx
       have hj' : j < m ∧ j < l.length := by rw [List.length_take] at hj; omega
       rw [List.getElem_take]
       have e : ∀ q (hq : q < l.length), gI l (q : Int) = l[q] := fun q hq => by simp only [gI]; rw [Int.toNat_natCast]; simp [hq]
       have hlast : jr o ps (gI l ((m : Int) - 1)) (k : Int) := by
         have hb := hin (m - 1) (by omega)
         rw [show ((m - 1 : Nat) : Int) = (m : Int) - 1 by omega] at hb
         rcases j4 (a := vA o ps (k : Int)) (b := vA o ps (gI l ((m : Int) - 1))) (i := (k : Int)) (k := gI l ((m : Int) - 1)) (by omega) with q | q
         · exact absurd q (by rcases h2 with h2 | h2; (· omega); (· exact h2))
         · exact q
       by_cases hjm : j = m - 1
       · subst hjm
         rw [← e _ hj'.2, show ((m - 1 : Nat) : Int) = (m : Int) - 1 by omega]
         exact hlast
       · have hp := List.pairwise_iff_getElem.1 h.1 j (m - 1) hj'.2 (by omega) (by omega)
         rw [← e _ hj'.2, ← e (m - 1) (by omega)] at hp
         rw [← e _ hj'.2]
         have b1 := hin j hj'.2
         have b2 := hin (m - 1) (by omega)
         rw [show ((m - 1 : Nat) : Int) = (m : Int) - 1 by omega] at hp b2
         exact k5 hz (by omega) (by omega) (by omega) hp hlast
     · exact hs.2.2 x hx y hy
 · intro x
   have : x ∈ l.take m ++ (k : Int) :: l.drop m ↔ x = (k : Int) ∨ x ∈ l := by
     conv => rhs; rw [← List.take_append_drop m l]
     simp only [List.mem_append, List.mem_cons]
     constructor
     · rintro (h | h | h) <;> simp [h]
     · rintro (h | h | h) <;> simp [h]
   rw [this, h.2 x]
   omega
theorem pR (l : List Int) (P : Int → Prop) : ∀ m : Nat, m ≤ l.length → (∀ j : Nat, m ≤ j → j < l.length → P (gI l (j : Int))) → ∃ m' : Nat, m' ≤ l.length ∧ (∀ j : Nat, m' ≤ j → j < l.length → P (gI l (j : Int))) ∧ (m' = 0 ∨ ¬ P (gI l ((m' : Int) - 1)))
 | 0, h0, h => ⟨0, h0, h, .inl rfl⟩
 | m + 1, h0, h => by
   by_cases hp : P (gI l (m : Int))
   · exact pR l P m (by omega) (fun j hj hl => by
       by_cases e : j = m
       · subst e; exact hp
       · exact h j (by omega) hl)
   · exact ⟨m + 1, h0, h, .inr (by rwa [show ((m + 1 : Nat) : Int) - 1 = (m : Int) by omega])⟩
theorem lP (hz : im o ps) : ∀ k : Nat, k ≤ ps.length → ∃ l, rH o ps k l
 | 0, _ => ⟨[], .nil, fun x => by simp⟩
 | k + 1, hk => by
   obtain ⟨l, hl⟩ := lP hz k (by omega)
   obtain ⟨m, h0, h1, h2⟩ := pR l (jr o ps (k : Int)) l.length (Nat.le_refl _) (fun j hj h => by omega)
   exact ⟨_, mV hz (by omega) hl h0 h1 h2⟩
open Classical in
noncomputable def arL (o : Pt) (ps : List Pt) : List Int := if h : ∃ l, rH o ps ps.length l then choose h else []
theorem iF (hz : im o ps) : rH o ps ps.length (arL o ps) := by
 have h := lP hz ps.length (Nat.le_refl _)
 unfold arL
 rw [dif_pos h]
 exact Classical.choose_spec h
theorem sX (hz : im o ps) (h : rH o ps ps.length l) : l = arL o ps := lA hz (Nat.le_refl _) h (iF hz)
end
def eZ (n : Nat) : List Int := (List.range n).map fun (i : Nat) => (i : Int)
theorem oP (n : Nat) : (eZ n).length = n := by simp [eZ]
theorem oe (n : Nat) : eZ (n + 1) = eZ n ++ [(n : Int)] := by simp [eZ, List.range_succ]
open Classical in
noncomputable def arR (o : Pt) (ps : List Pt) : List Int × Int := if (cd o ∧ dl ps) ∧ im o ps then (arL o ps, 0) else ([], 1)
theorem lZ {o : Pt} {ps : List Pt} (h1 : cd o) (h2 : dl ps) (h3 : im o ps) : arR o ps = (arL o ps, 0) := if_pos ⟨⟨h1, h2⟩, h3⟩
theorem io {o : Pt} {ps : List Pt} (h : ¬ ((cd o ∧ dl ps) ∧ im o ps)) : arR o ps = ([], 1) := if_neg h
theorem oG {o : Pt} {ps : List Pt} {k : Nat} (h0 : (k : Int) < ps.length) (h : gI ps (k : Int) = o) : ¬ im o ps := fun hz => hz k (by omega) h
theorem qh {x : Int} (h1 : -2097152 ≤ x) (h2 : x ≤ 2097152) : 0 ≤ x * x ∧ x * x ≤ 4398046511104 := by
 have := fG (x := x) (y := x) (by omega) (by omega)
 constructor
 · rcases Int.le_total 0 x with h | h
   · exact Int.mul_nonneg h h
   · exact Int.mul_nonneg_of_nonpos_of_nonpos h h
 · rcases Int.le_total 0 x with h | h
   · exact Int.mul_le_mul h2 h2 h (by omega)
   · have e := Int.neg_mul_neg x x
     have : (-x) * (-x) ≤ 2097152 * 2097152 := Int.mul_le_mul (by omega) (by omega) (by omega) (by omega)
     omega
theorem u9 {o : Pt} {ps : List Pt} {i : Int} (ho : cd o) (hp : dl ps) (h0 : 0 ≤ i) (h1 : i < ps.length) :
   (-2097152 ≤ (vA o ps i).1 ∧ (vA o ps i).1 ≤ 2097152) ∧ -2097152 ≤ (vA o ps i).2 ∧ (vA o ps i).2 ≤ 2097152 := by
 have := hp.2 _ (aV h0 h1)
 unfold cd at this ho
 unfold vA aU
 simp only
 omega
theorem sK {o : Pt} {ps : List Pt} {i : Int} (ho : cd o) (hp : dl ps) (h0 : 0 ≤ i) (h1 : i < ps.length) :
   ((0 ≤ (vA o ps i).1 * (vA o ps i).1 ∧ (vA o ps i).1 * (vA o ps i).1 ≤ 4398046511104) ∧ 0 ≤ (vA o ps i).2 * (vA o ps i).2 ∧ (vA o ps i).2 * (vA o ps i).2 ≤ 4398046511104) := by
 have ⟨⟨a, b⟩, c, d⟩ := u9 ho hp h0 h1
 exact ⟨qh a b, qh c d⟩
section
variable {o : Pt} {ps : List Pt} {k : Nat} {l : List Int} {q : Int}
theorem mJ (hz : im o ps) (hk : k ≤ ps.length) (h : rH o ps k l) : l.length = k := by
 induction k generalizing l with
 | zero =>
   cases l with
   | nil => rfl
   | cons a t => have := (h.2 a).1 (by simp); omega
 | succ k ih =>
   obtain ⟨l0, hl0⟩ := lP hz k (by omega)
   obtain ⟨m, h0, h1, h2⟩ := pR l0 (jr o ps (k : Int)) l0.length (Nat.le_refl _) (fun j hj h => by omega)
   have := lA hz hk h (mV hz (by omega) hl0 h0 h1 h2)
   have hl := ih (by omega) hl0
   rw [this]
   simp [List.length_append, List.length_take, List.length_drop]
   omega
end
theorem kF {o : Pt} {ps : List Pt} (hz : im o ps) {l : List Int} (hp : l.Perm (eZ ps.length)) (hs : l.Pairwise fun x y => ¬ jr o ps y x) : l = arL o ps := by
  refine sX hz ⟨?_, fun x => ?_⟩
  · have hn : l.Nodup := hp.nodup_iff.2 (by unfold eZ; exact List.Pairwise.map _ (fun (a b : Nat) (h : a ≠ b) (e : (a : Int) = (b : Int)) => h (by omega)) List.nodup_range)
    refine (List.Pairwise.and hs hn).imp ?_
    intro x y ⟨h1, h2⟩
    rcases j4 (a := vA o ps x) (b := vA o ps y) (i := x) (k := y) h2 with q | q
    · exact q
    · exact absurd q h1
  · rw [hp.mem_iff]
    unfold eZ
    simp only [List.mem_map, List.mem_range]
    constructor
    · rintro ⟨a, h, rfl⟩; omega
    · intro h
      exact ⟨x.toNat, by omega, by omega⟩
section
variable {o : Pt} {ps : List Pt}
theorem i8 (hz : im o ps) : (arL o ps).length = ps.length := mJ hz (Nat.le_refl _) (iF hz)
theorem m7 (hz : im o ps) {i : Int} (h0 : 0 ≤ i) (h1 : i < ps.length) : 0 ≤ gI (arL o ps) i ∧ gI (arL o ps) i < (ps.length : Int) :=
 ((iF hz).2 _).1 (aV h0 (by rw [i8 hz]; exact h1))
theorem tk (hz : im o ps) {i j : Int} (h0 : 0 ≤ i) (hij : i < j) (h1 : j < ps.length) : jr o ps (gI (arL o ps) i) (gI (arL o ps) j) := by
 have hl := i8 hz
 have := List.pairwise_iff_getElem.1 (iF hz).1 i.toNat j.toNat (by omega) (by omega) (by omega)
 have e1 := eA (xs := arL o ps) (i := i) h0 (by omega)
 have e2 := eA (xs := arL o ps) (i := j) (by omega) (by omega)
 rw [List.getElem?_eq_getElem (by omega)] at e1 e2
 rw [← Option.some.inj e1, ← Option.some.inj e2]
 exact this
theorem sM (hz : im o ps) {i j : Int} (h0 : 0 ≤ i) (hij : i < j) (h1 : j < ps.length) : gI (arL o ps) i ≠ gI (arL o ps) j := fun e => by
 have := tk hz h0 hij h1
 rw [e] at this
 exact fH _ _ this
end
end TL
/-
  TlFace: half-edges' next ones, faces.
  By an AI agent.
-/
set_option linter.all false
namespace TL
end TL
namespace TL
theorem fv.low {seen : List Bool} {P : List Int} {n h : Int} (hi : fv seen P n) (h0 : 0 ≤ h) (h1 : h < n) (hs : ¬ gI seen h = true) : h ∉ P := by
 have := hi.seen h h0 h1
 intro hm
 rw [this] at hs
 simp [hm] at hs
structure dF (out : List (List Int)) (g : cU) (k : Nat) : Prop where
  len : (out.length : Int) = g.1
  at_ : ∀ v, 0 ≤ v → v < g.1 → gI out v = gy g v k
theorem dF.start {g : cU} (h : 0 ≤ g.1) : dF (List.replicate g.1.toNat []) g 0 := ⟨by simp; omega, fun v h0 h1 => by rw [lX h0 (by omega)]; simp [gy]⟩
theorem dF.next {out : List (List Int)} {g : cU} {k : Nat} (h : dF out g k) (h1 : 0 ≤ (gI g.2 k).1) (h2 : (gI g.2 k).1 < g.1) (h3 : 0 ≤ (gI g.2 k).2) (h4 : (gI g.2 k).2 < g.1) {a b : Int} (ha : a = 2 * (k : Int)) (hb : b = 2 * (k : Int) + 1) :
   dF ((out.set (gI g.2 k).1.toNat (gI out (gI g.2 k).1 ++ [a])).set (gI g.2 k).2.toNat (gI (out.set (gI g.2 k).1.toNat (gI out (gI g.2 k).1 ++ [a])) (gI g.2 k).2 ++ [b])) g (k + 1) := by
 have hl := h.len
 refine ⟨by simpa using hl, fun v h5 h6 => ?_⟩
 rw [fK h3 (by simp; omega) h5, fK h1 (by omega) h3, fK h1 (by omega) h5, lL, h.at_ _ h1 h2, h.at_ _ h3 h4, h.at_ v h5 h6, ha, hb]
 by_cases e2 : v = (gI g.2 (k : Int)).2
 · by_cases e1 : v = (gI g.2 (k : Int)).1
   · rw [← e1, ← e2]; simp
   · have e3 : ¬ (gI g.2 (k : Int)).2 = (gI g.2 (k : Int)).1 := fun h => e1 (e2.trans h)
     have e6 : ¬ (gI g.2 (k : Int)).1 = (gI g.2 (k : Int)).2 := fun h => e3 h.symm
     simp [e2, e3, e6]
 · have e4 : ¬ (gI g.2 (k : Int)).2 = v := fun h => e2 h.symm
   by_cases e1 : v = (gI g.2 (k : Int)).1
   · rw [if_neg e2, if_pos e1, if_neg e4, if_pos e1.symm, ← e1]; simp
   · have e5 : ¬ (gI g.2 (k : Int)).1 = v := fun h => e1 h.symm
     rw [if_neg e2, if_neg e1, if_neg e4, if_neg e5]; simp
end TL
namespace TL
end TL
/-
  TlWalk: going through a net breadth first, and its components, as the program does.
  By an AI agent.
-/
set_option linter.all false
namespace TL
end TL
namespace TL
def dp (g : cU) (r : em) : em × Int := if cI g r = 0 then (eV r, 0) else ([], cI g r)
end TL
namespace TL
theorem dF.rl {out : List (List Int)} {g : cU} {k : Nat} (h : dF out g k) {v : Int} (h0 : 0 ≤ v) (h1 : v < g.1) : ((gI out v).length : Int) ≤ 2 * (k : Int) := by
 rw [h.at_ v h0 h1]
 have := jC g v k
 omega
theorem dF.rl2 {out : List (List Int)} {g : cU} {k : Nat} (h : dF out g k) {u v : Int} (h2 : 0 ≤ u) (h3 : u < g.1) (h0 : 0 ≤ v) (h1 : v < g.1) (a : Int) : ((gI (out.set u.toNat (gI out u ++ [a])) v).length : Int) ≤ 2 * (k : Int) + 1 := by
 have hl := h.len
 rw [fK h2 (by omega) h0]
 split
 · have := h.rl h2 h3; simp; omega
 · have := h.rl h0 h1; omega
theorem dF.done {out : List (List Int)} {g : cU} {k : Nat} (h : dF out g k) (hk : k = g.2.length) : ∀ v, 0 ≤ v → v < g.1 → gI out v = dh g v := fun v h0 h1 => by
 subst hk; exact h.at_ v h0 h1
end TL
namespace TL
end TL
namespace TL
end TL
/-
  TlRot2: rotations: faces of half-edges, first ones, parts, moved ones.
  By an AI agent.
-/
set_option linter.all false
namespace TL
def fo (g : cU) : em := (List.range g.1.toNat).map fun (v : Nat) => dh g (v : Int)
def bR (g : cU) : em × Int := if c9 g then (fo g, 0) else ([], 1)
theorem dF.first {out : em} {g : cU} {k : Nat} (h : dF out g k) (hk : k = g.2.length) : out = fo g := by
 have hl := h.len
 apply kK
 · simp [fo]; omega
 · intro i hi
   rw [h.done hk _ (by omega) (by omega)]
   have : i < g.1.toNat := by omega
   simp [fo, gI, this]
end TL
/-
  TlJudge: plots: their flaws, as the code and the document gather them.
  By an AI agent.
-/
set_option linter.all false
namespace TL
abbrev fB := Int × Int × Int
abbrev du := List Pt × List (List Pt)
def bi {β : Type} (f : Nat → List β) : Nat → List β
  | 0 => []
  | k + 1 => bi f k ++ f k
section
variable {β : Type} {f h : Nat → List β} {k n : Nat} {x : β} {F B : List β}
theorem cl : ∀ {k : Nat}, bi f k = [] ↔ ∀ j, j < k → f j = []
 | 0 => by simp [bi]
 | k + 1 => by
   rw [bi, List.append_eq_nil_iff, cl]
   constructor
   · rintro ⟨h1, h2⟩ j hj
     by_cases e : j = k
     · subst e; exact h2
     · exact h1 j (by omega)
   · intro h
     exact ⟨fun j hj => h j (by omega), h k (by omega)⟩
theorem dW (hf : ∀ j, j < k → f j = []) : bi f k = [] := cl.2 hf
theorem d5 : ∀ {k : Nat}, (∀ j, j < k → f j = h j) → bi f k = bi h k
 | 0, _ => rfl
 | k + 1, e => by rw [bi, bi, d5 (fun j hj => e j (by omega)), e k (by omega)]
theorem fh : ∀ {k : Nat}, x ∈ bi f k ↔ ∃ j, j < k ∧ x ∈ f j
 | 0 => by simp [bi]
 | k + 1 => by
   rw [bi, List.mem_append, fh]
   constructor
   · rintro (⟨j, hj, hx⟩ | hx)
     · exact ⟨j, by omega, hx⟩
     · exact ⟨k, by omega, hx⟩
   · rintro ⟨j, hj, hx⟩
     by_cases e : j = k
     · subst e; exact .inr hx
     · exact .inl ⟨j, by omega, hx⟩
theorem jW {c : Nat} : ∀ {k : Nat}, (∀ j, j < k → (f j).length ≤ c) → (bi f k).length ≤ k * c
 | 0, _ => by simp [bi]
 | k + 1, e => by
   have h1 := jW (k := k) fun j hj => e j (by omega)
   have h2 := e k (by omega)
   rw [bi, List.length_append, Nat.succ_mul]
   omega
theorem cS (e : ∀ j, (f j).length ≤ 1) : (bi f k).length ≤ k := by
 have := jW (f := f) (k := k) (c := 1) fun j _ => e j
 omega
theorem fU {c : Nat} (hk : k ≤ 3072) (hc : c ≤ 3072) (e : ∀ j, (f j).length ≤ c) : (bi f k).length ≤ 9437184 := by
 have h1 := jW (f := f) (k := k) (c := c) fun j _ => e j
 have h2 : k * c ≤ 3072 * 3072 := Nat.mul_le_mul hk hc
 omega
theorem fI (hF : F = B ++ bi f k) (hf : f k = [x]) : F ++ [x] = B ++ bi f (k + 1) := by rw [hF, bi, hf, List.append_assoc]
theorem gQ (hF : F = B ++ bi f k) (hf : f k = []) : F = B ++ bi f (k + 1) := by rw [hF, bi, hf, List.append_nil]
theorem kL (hF : F = bi f k) (hf : f k = [x]) : F ++ [x] = bi f (k + 1) := by rw [hF, bi, hf]
theorem mM (hF : F = bi f k) (hf : f k = []) : F = bi f (k + 1) := by rw [hF, bi, hf, List.append_nil]
theorem mO (hF : F = (B ++ bi f k) ++ f k) : F = B ++ bi f (k + 1) := by rw [hF, bi, List.append_assoc]
end
def fl {β : Type} (p : Prop) [Decidable p] (x : β) : List β := if p then [x] else []
section
variable {β : Type} {p : Prop} [Decidable p] {x : β}
theorem dx (h : p) : fl p x = [x] := if_pos h
theorem cZ (h : ¬ p) : fl p x = [] := if_neg h
theorem eU : (fl p x).length ≤ 1 := by unfold fl; split <;> simp
theorem fE : fl p x = [] ↔ ¬ p := by unfold fl; split <;> simp_all
theorem ku {y : β} : y ∈ fl p x ↔ p ∧ y = x := by unfold fl; split <;> simp_all
end
def tU (l : List Pt) : Prop := 2 ≤ (l.length : Int) ∧ dl l
instance (l : List Pt) : Decidable (tU l) := by unfold tU; infer_instance
def gW (p : du) (v : Nat) : List fB := fl (¬ cd (gI p.1 (v : Int))) (2, (v : Int), 0)
def iS (p : du) (e : Nat) : List fB := fl (¬ tU (gI p.2 (e : Int))) (3, (e : Int), 0)
def bN (g : cU) (p : du) : List fB :=
 if (p.1.length : Int) = g.1 ∧ (p.2.length : Int) = g.2.length then bi (gW p) p.1.length ++ bi (iS p) p.2.length else [(1, 0, 0)]
def lJ (p : du) (v w : Nat) : List fB := fl (v < w ∧ gI p.1 (v : Int) = gI p.1 (w : Int)) (4, (v : Int), (w : Int))
def bU (p : du) : List fB := bi (fun v => bi (lJ p v) p.1.length) p.1.length
def ft (g : cU) (p : du) (e : Int) : Prop := gI (gI p.2 e) 0 = gI p.1 (gI g.2 e).1 ∧ gI (gI p.2 e) (((gI p.2 e).length : Int) - 1) = gI p.1 (gI g.2 e).2
instance (g : cU) (p : du) (e : Int) : Decidable (ft g p e) := by unfold ft; infer_instance
def cQ (g : cU) (p : du) (e : Nat) : List fB := fl (¬ ft g p (e : Int)) (5, (e : Int), 0)
def eu (p : du) (e : Nat) : List fB := fl (¬ gP (gI p.2 (e : Int))) (6, (e : Int), 0)
def cV (g : cU) (p : du) : List fB := bi (cQ g p) p.2.length ++ bi (eu p) p.2.length
def e9 (l : List Pt) (q : Pt) : Prop := ∃ s ∈ kV l (l.length - 1), bG s.1 s.2 q
instance (l : List Pt) (q : Pt) : Decidable (e9 l q) := by unfold e9; infer_instance
def ew (g : cU) (p : du) (e v : Nat) : List fB := fl (((v : Int) ≠ (gI g.2 (e : Int)).1 ∧ (v : Int) ≠ (gI g.2 (e : Int)).2) ∧ e9 (gI p.2 (e : Int)) (gI p.1 (v : Int))) (7, (e : Int), (v : Int))
def cR (g : cU) (p : du) : List fB := bi (fun e => bi (ew g p e) p.1.length) p.2.length
def gR (g : cU) (p : du) (e f : Int) : List Pt :=
  fl ((gI g.2 e).1 ∈ [(gI g.2 f).1, (gI g.2 f).2]) (gI p.1 (gI g.2 e).1) ++ fl ((gI g.2 e).2 ∈ [(gI g.2 f).1, (gI g.2 f).2]) (gI p.1 (gI g.2 e).2)
def cA (s t : Sg) (but : List Pt) : Prop := aT s.1 s.2 t.1 t.2 = 0 ∨ (aT s.1 s.2 t.1 t.2 = 1 ∨ aT s.1 s.2 t.1 t.2 = 2) ∧ ∃ x ∈ but, eb s.1 s.2 t.1 t.2 x
instance (s t : Sg) (but : List Pt) : Decidable (cA s t but) := by unfold cA; infer_instance
def gO (a b but : List Pt) : Prop := ∀ s ∈ kV a (a.length - 1), ∀ t ∈ kV b (b.length - 1), cA s t but
instance (a b but : List Pt) : Decidable (gO a b but) := by unfold gO; infer_instance
def dQ (g : cU) (p : du) (e f : Nat) : List fB := fl (e < f ∧ ¬ gO (gI p.2 (e : Int)) (gI p.2 (f : Int)) (gR g p (e : Int) (f : Int))) (8, (e : Int), (f : Int))
def gN (g : cU) (p : du) : List fB := bi (fun e => bi (dQ g p e) p.2.length) p.2.length
def bX (g : cU) (p : du) : List fB :=
 if bN g p = [] then bU p ++ cV g p ++ (if cV g p = [] then cR g p ++ gN g p else []) else bN g p
def aJ (g : cU) (p : du) : List fB × Int := if c9 g then (bX g p, 0) else ([], 1)
section
variable {g : cU} {p : du}
structure tZ (g : cU) (p : du) : Prop where
  n : (p.1.length : Int) = g.1
  m : (p.2.length : Int) = g.2.length
  pt : ∀ v : Int, 0 ≤ v → v < p.1.length → cd (gI p.1 v)
  ln : ∀ e : Int, 0 ≤ e → e < p.2.length → 2 ≤ ((gI p.2 e).length : Int) ∧ dl (gI p.2 e)
theorem ef : bN g p = [] ↔ tZ g p := by
 unfold bN
 by_cases c : (p.1.length : Int) = g.1 ∧ (p.2.length : Int) = g.2.length
 · rw [if_pos c, List.append_eq_nil_iff, cl, cl]
   constructor
   · rintro ⟨h1, h2⟩
     refine ⟨c.1, c.2, fun v h0 hv => ?_, fun e h0 he => ?_⟩
     · have := h1 v.toNat (by omega)
       unfold gW at this
       rw [fE, Int.toNat_of_nonneg h0] at this
       exact Classical.not_not.1 this
     · have := h2 e.toNat (by omega)
       unfold iS at this
       rw [fE, Int.toNat_of_nonneg h0] at this
       exact Classical.not_not.1 this
   · intro h
     exact ⟨fun v hv => fE.2 (Classical.not_not.2 (h.pt _ (by omega) (by omega))), fun e he => fE.2 (Classical.not_not.2 (h.ln _ (by omega) (by omega)))⟩
 · rw [if_neg c]
   exact ⟨fun h => by simp at h, fun h => absurd ⟨h.n, h.m⟩ c⟩
theorem jX (v : Nat) : (gW p v).length ≤ 1 := eU
theorem n5 (v : Nat) : (iS p v).length ≤ 1 := eU
theorem py (u v : Nat) : (lJ p u v).length ≤ 1 := eU
theorem kY (v : Nat) : (cQ g p v).length ≤ 1 := eU
theorem oZ (v : Nat) : (eu p v).length ≤ 1 := eU
theorem jL (u v : Nat) : (ew g p u v).length ≤ 1 := eU
theorem ja (u v : Nat) : (dQ g p u v).length ≤ 1 := eU
theorem j7 (hm : c9 g) : ((bN g p).length : Int) ≤ 5000 := by
 obtain ⟨_, h2, h3, _⟩ := hm
 unfold bN
 split
 · rename_i c
   have l1 := cS (f := gW p) (k := p.1.length) jX
   have l2 := cS (f := iS p) (k := p.2.length) n5
   rw [List.length_append]; omega
 · simp
end
end TL
namespace TL
theorem jg {a b p : Pt} (ha : cd a) (hb : cd b) (hp : cd p) : (e8 a b p).1 = decide (bG a b p) := by
 unfold e8; rw [if_pos ⟨ha, hb, hp⟩]
theorem qe {a b c d : Pt} (ha : cd a) (hb : cd b) (hc : cd c) (hd : cd d) : (cY a b c d).1 = aT a b c d := by
 unfold cY; rw [if_pos ⟨⟨ha, hb⟩, hc, hd⟩]
section
variable {l : List Pt} {p : Pt} {i : Nat}
theorem i5 : e9 l p ↔ ∃ j : Nat, j + 1 < l.length ∧ bG (gI l (j : Int)) (gI l ((j : Int) + 1)) p := by
 unfold e9
 constructor
 · rintro ⟨s, hs, h⟩
   obtain ⟨j, hj, rfl⟩ := eP.1 hs
   exact ⟨j, by omega, h⟩
 · rintro ⟨j, hj, h⟩
   exact ⟨_, eP.2 ⟨j, by omega, rfl⟩, h⟩
theorem nU {b : Bool} (h : 1 ≤ i ∧ ∀ j : Nat, j + 1 < i → ¬ bG (gI l (j : Int)) (gI l ((j : Int) + 1)) p) (he : b = decide (bG (gI l ((i : Int) - 1)) (gI l (i : Int)) p)) (hb : ¬ b = true) : 1 ≤ i + 1 ∧ ∀ j : Nat, j + 1 < i + 1 → ¬ bG (gI l (j : Int)) (gI l ((j : Int) + 1)) p := by
 refine ⟨by omega, fun j hj => ?_⟩
 by_cases e : j + 1 = i
 · rw [he] at hb
   have e1 : (j : Int) = (i : Int) - 1 := by omega
   have e2 : (j : Int) + 1 = (i : Int) := by omega
   rw [e2, e1]
   simpa using hb
 · exact h.2 j (by omega)
theorem qj {b : Bool} (h1 : 1 ≤ i) (hi : (i : Int) < l.length) (he : b = decide (bG (gI l ((i : Int) - 1)) (gI l (i : Int)) p)) (hb : b = true) : true = decide (e9 l p) := by
 refine (decide_eq_true (i5.2 ⟨i - 1, by omega, ?_⟩)).symm
 rw [he] at hb
 have e1 : ((i - 1 : Nat) : Int) = (i : Int) - 1 := by omega
 rw [e1, show (i : Int) - 1 + 1 = (i : Int) by omega]
 exact of_decide_eq_true hb
theorem rU (h : 1 ≤ i ∧ ∀ j : Nat, j + 1 < i → ¬ bG (gI l (j : Int)) (gI l ((j : Int) + 1)) p) (hi : ¬ (i : Int) < l.length) : false = decide (e9 l p) := by
 refine (decide_eq_false fun ho => ?_).symm
 obtain ⟨j, hj, hb⟩ := i5.1 ho
 exact h.2 j (by omega) hb
end
section
variable {a b c d : Pt} {but : List Pt} {k : Nat} {m : Int}
theorem ig {x : Pt} {u v : Bool} (h1 : u = decide (bG a b x)) (h2 : v = decide (bG c d x)) (h : ¬ u = true ∨ ¬ v = true) : ¬ eb a b c d x := by
 rintro ⟨q1, q2⟩
 rcases h with h | h
 · exact h (h1.trans (decide_eq_true q1))
 · exact h (h2.trans (decide_eq_true q2))
theorem nM (hm : m = aT a b c d) (h : m = 0) : true = decide (cA (a, b) (c, d) but) := (decide_eq_true (.inl (hm.symm.trans h))).symm
theorem l4 {u v : Bool} (hm : m = aT a b c d) (h : m = 1 ∨ m = 2) (hk : (k : Int) < but.length) (h1 : u = decide (bG a b (gI but (k : Int)))) (h2 : v = decide (bG c d (gI but (k : Int)))) (q1 : u = true) (q2 : v = true) : true = decide (cA (a, b) (c, d) but) :=
 (decide_eq_true (.inr ⟨by rw [← hm]; exact h, _, aV (by omega) hk, of_decide_eq_true (h1 ▸ q1), of_decide_eq_true (h2 ▸ q2)⟩)).symm
theorem jP (hm : m = aT a b c d) (h0 : ¬ m = 0) (h : ∀ j : Nat, j < k → ¬ eb a b c d (gI but (j : Int))) (hk : ¬ (k : Int) < but.length) : false = decide (cA (a, b) (c, d) but) := by
 refine (decide_eq_false ?_).symm
 rintro (e | ⟨_, x, hx, hb⟩)
 · exact h0 (hm.trans e)
 · obtain ⟨j, hj, rfl⟩ := List.mem_iff_getElem.1 hx
   refine h j (by omega) ?_
   have e : gI but (j : Int) = but[j] := by unfold gI; rw [Int.toNat_natCast, List.getD_eq_getElem?_getD, List.getElem?_eq_getElem hj]; rfl
   rw [e]; exact hb
theorem rf (hm : m = aT a b c d) (h0 : ¬ m = 0) (h1 : ¬ m = 1) (h2 : ¬ m = 2) : false = decide (cA (a, b) (c, d) but) := by
 refine (decide_eq_false ?_).symm
 rintro (e | ⟨e | e, _⟩)
 · exact h0 (hm.trans e)
 · exact h1 (hm.trans e)
 · exact h2 (hm.trans e)
end
def eE (p : du) (h : Int) : Pt := if h % 2 = 0 then gI (gI p.2 (h / 2)) 1 else gI (gI p.2 (h / 2)) (((gI p.2 (h / 2)).length : Int) - 2)
def tR (u v : Pt) : Int := u.1 * v.1 + u.2 * v.2
def ec (u v : Pt) : Prop := dD u v = 0 ∧ 0 < tR u v
instance (u v : Pt) : Decidable (ec u v) := by unfold ec; infer_instance
theorem oO {o a : Pt} (ho : cd o) (ha : cd a) : (-2097152 ≤ a.1 - o.1 ∧ a.1 - o.1 ≤ 2097152) ∧ -2097152 ≤ a.2 - o.2 ∧ a.2 - o.2 ≤ 2097152 := by
 unfold cd at ho ha; omega
end TL
namespace TL
theorem tE {o a b : Pt} (h : (a.1 - o.1) * (b.2 - o.2) = (a.2 - o.2) * (b.1 - o.1)) : decide (0 < (a.1 - o.1) * (b.1 - o.1) + (a.2 - o.2) * (b.2 - o.2)) = decide (ec (aU a o) (aU b o)) := by
 rw [decide_eq_decide]
 unfold ec dD tR aU
 simp only
 omega
theorem tL {o a b : Pt} (h : ¬ (a.1 - o.1) * (b.2 - o.2) = (a.2 - o.2) * (b.1 - o.1)) : false = decide (ec (aU a o) (aU b o)) := by
 refine (decide_eq_false ?_).symm
 unfold ec dD tR aU
 simp only
 omega
end TL
namespace TL
section
variable {g : cU} {p : du} {F G B : List fB} {v e k i : Nat}
theorem oX (h : decide (dl [gI p.1 (v : Int)]) = true) : gW p v = [] := cZ (Classical.not_not.2 ((of_decide_eq_true h).2 _ (by simp)))
theorem qd (h : ¬ decide (dl [gI p.1 (v : Int)]) = true) : gW p v = [(2, (v : Int), 0)] :=
 dx fun ho => h (decide_eq_true ⟨by simp, fun x hx => by obtain rfl := List.mem_singleton.1 hx; exact ho⟩)
theorem sw (h : (((gI p.2 (e : Int)).length : Nat) : Int) < 2) : iS p e = [(3, (e : Int), 0)] := dx fun ho => by have := ho.1; omega
theorem sL (h : ¬ decide (dl (gI p.2 (e : Int))) = true) : iS p e = [(3, (e : Int), 0)] := dx fun ho => h (decide_eq_true ho.2)
theorem sq (h0 : ¬ (((gI p.2 (e : Int)).length : Nat) : Int) < 2) (h : decide (dl (gI p.2 (e : Int))) = true) : iS p e = [] := cZ fun ho => ho ⟨by omega, of_decide_eq_true h⟩
theorem kR {β : Type} {f h : Nat → List β} {F : List β} {k n : Nat} (hF : F = bi f k) (hk : k = n) : F = bi f n ++ bi h 0 := by
 subst hk; rw [hF]; simp [bi]
theorem sE (h : ¬ ((p.1.length : Nat) : Int) = g.1) : [(1, 0, 0)] = bN g p := by unfold bN; rw [if_neg fun c => h c.1]
theorem su (h : ¬ ((p.2.length : Nat) : Int) = (g.2.length : Int)) : [(1, 0, 0)] = bN g p := by unfold bN; rw [if_neg fun c => h c.2]
theorem sG (h1 : ((p.1.length : Nat) : Int) = g.1) (h2 : ((p.2.length : Nat) : Int) = (g.2.length : Int)) (hG : G = bi (gW p) p.1.length ++ bi (iS p) e) (he : e = p.2.length) : G = bN g p := by
 unfold bN; rw [if_pos ⟨h1, h2⟩, hG, he]
theorem nt (hF : F = bi (gW p) v) : F.length ≤ v := by rw [hF]; exact cS jX
theorem nb (hF : F = bi (gW p) v ++ bi (iS p) e) : F.length ≤ v + e := by
 rw [hF, List.length_append]
 have l1 := cS (f := gW p) (k := v) jX
 have l2 := cS (f := iS p) (k := e) n5
 omega
theorem oA (hF : F = bN g p) (h : 0 < (F.length : Int)) : F = bX g p := by
 unfold bX
 rw [← hF, if_neg]
 intro e; subst e; simp at h
theorem pK (hF : F = bN g p) (h : ¬ 0 < (F.length : Int)) : F = [] ∧ bN g p = [] ∧ tZ g p := by
 have : F = [] := List.eq_nil_of_length_eq_zero (by omega)
 have h2 : bN g p = [] := hF ▸ this
 exact ⟨this, h2, ef.1 h2⟩
def js (l : List Pt) (q : Pt) (k : Nat) : List Int := bi (fun j => fl (gI l (j : Int) = q) (j : Int)) k
theorem mD (l : List Pt) (q : Pt) (k : Nat) : (js l q k).length ≤ k := cS fun j => eU
theorem pE {l : List Pt} {first : Pt → List Int} {k : Nat} (h : first = fun q => js l q k) : (fun q => if q = gI l (k : Int) then first (gI l (k : Int)) ++ [(k : Int)] else first q) = fun q => js l q (k + 1) := by
 funext q
 rw [h]
 simp only [js, bi]
 by_cases e : q = gI l (k : Int)
 · subst e
   rw [if_pos rfl, dx rfl]
 · rw [if_neg e, cZ (fun h => e h.symm), List.append_nil]
def gr (v : Nat) (u : Int) : List fB := fl ((v : Int) < u) (4, (v : Int), u)
theorem qO {k : Nat} : (js p.1 (gI p.1 (v : Int)) k).flatMap (gr v) = bi (lJ p v) k := by
 induction k with
 | zero => rfl
 | succ k ih =>
   have e1 : js p.1 (gI p.1 (v : Int)) (k + 1) = js p.1 (gI p.1 (v : Int)) k ++ fl (gI p.1 (k : Int) = gI p.1 (v : Int)) (k : Int) := rfl
   rw [e1, List.flatMap_append, ih, bi]
   congr 1
   unfold lJ gr
   by_cases c : gI p.1 (k : Int) = gI p.1 (v : Int)
   · rw [dx c, List.flatMap_cons]
     simp only [List.flatMap_nil, List.append_nil]
     by_cases c2 : v < k
     · rw [dx (by omega), dx ⟨c2, c.symm⟩]
     · rw [cZ (by omega), cZ (fun h => c2 h.1)]
   · rw [cZ c, cZ (fun h => c h.2.symm)]; rfl
def fA (p : du) (v : Nat) : List fB := bi (lJ p v) p.1.length
theorem pD {l : List Int} (hF : F = bi (fA p) v) : F = bi (fA p) v ++ (l.take 0).flatMap (gr v) := by rw [hF]; simp
theorem s6 {l : List Int} (hG : G = bi (fA p) v ++ (l.take i).flatMap (gr v)) (hi : (i : Int) < l.length) (h : (v : Int) < gI l (i : Int)) : G ++ [(4, (v : Int), gI l (i : Int))] = bi (fA p) v ++ (l.take (i + 1)).flatMap (gr v) := by
 rw [bD hi, List.flatMap_append, hG]
 simp [gr, dx h]
theorem sV {l : List Int} (hG : G = bi (fA p) v ++ (l.take i).flatMap (gr v)) (hi : (i : Int) < l.length) (h : ¬ (v : Int) < gI l (i : Int)) : G = bi (fA p) v ++ (l.take (i + 1)).flatMap (gr v) := by
 rw [bD hi, List.flatMap_append, hG]
 simp [gr, cZ h]
theorem ou {first : Pt → List Int} {n : Nat} (hf : first = fun q => js p.1 q n) (hn : n = p.1.length) (hG : G = bi (fA p) v ++ ((first (gI p.1 (v : Int))).take i).flatMap (gr v)) (hi : ¬ (i : Int) < (first (gI p.1 (v : Int))).length) : G = bi (fA p) (v + 1) := by
 rw [List.take_of_length_le (by omega), hf] at hG
 simp only at hG
 rw [qO, hn] at hG
 exact hG
theorem kM (v : Nat) : (fA p v).length ≤ p.1.length := cS (py v)
theorem s1 {l : List Int} (hn : p.1.length ≤ 1024) (hv : v ≤ 1024) (hG : G = bi (fA p) v ++ (l.take i).flatMap (gr v)) (hl : l.length ≤ 1024) : G.length ≤ 9440000 := by
 have l1 := fU (f := fA p) (k := v) (c := 1024) (by omega) (by omega) fun j => Nat.le_trans (kM j) hn
 have l2 : ∀ m : List Int, (m.flatMap (gr v)).length ≤ m.length := fun m => by
   induction m with
   | nil => simp
   | cons a m ih =>
     have h1 : (gr v a).length ≤ 1 := eU
     rw [List.flatMap_cons, List.length_append, List.length_cons]; omega
 have l3 := l2 (l.take i)
 rw [List.length_take] at l3
 rw [hG, List.length_append]; omega
theorem sS (hn : p.1.length ≤ 1024) (hv : v ≤ 1024) (hG : G = bi (fA p) v) : G.length ≤ 9440000 := by
 have l1 := fU (f := fA p) (k := v) (c := 1024) (by omega) (by omega) fun j => Nat.le_trans (kM j) hn
 rw [hG]; omega
theorem pb : bU p = bi (fA p) p.1.length := rfl
theorem jH (hn : p.1.length ≤ 1024) : (bU p).length ≤ 9440000 := sS hn hn rfl
theorem nZ (hF : F = bi (fA p) v) (hv : v = p.1.length) : F = bU p ++ bi (cQ g p) 0 ∧ true = decide (bi (cQ g p) 0 = []) := by
 subst hv; rw [hF, pb]; simp [bi]
theorem lk {b : Bool} (h : F = bU p ++ bi (cQ g p) e ∧ b = decide (bi (cQ g p) e = [])) (hn : ¬ ft g p (e : Int)) : F ++ [(5, (e : Int), 0)] = bU p ++ bi (cQ g p) (e + 1) ∧ false = decide (bi (cQ g p) (e + 1) = []) := by
 have hx : cQ g p e = [(5, (e : Int), 0)] := dx hn
 exact ⟨fI h.1 hx, (decide_eq_false (by rw [bi, hx]; simp)).symm⟩
theorem s7 {b : Bool} (h : F = bU p ++ bi (cQ g p) e ∧ b = decide (bi (cQ g p) e = [])) (hn : ft g p (e : Int)) : F = bU p ++ bi (cQ g p) (e + 1) ∧ b = decide (bi (cQ g p) (e + 1) = []) := by
 have hx : cQ g p e = [] := cZ (Classical.not_not.2 hn)
 refine ⟨gQ h.1 hx, ?_⟩
 rw [h.2, bi, hx, List.append_nil]
theorem pM (hn : p.1.length ≤ 1024) (he : e ≤ 3072) (h : F = bU p ++ bi (cQ g p) e) : F.length ≤ 9500000 := by
 have l1 := jH hn
 have l2 := cS (f := cQ g p) (k := e) kY
 rw [h, List.length_append]; omega
theorem pF {b : Bool} (h : F = bU p ++ bi (cQ g p) e ∧ b = decide (bi (cQ g p) e = [])) (he : e = p.2.length) : F = bU p ++ (bi (cQ g p) p.2.length ++ bi (eu p) 0) ∧ b = decide (bi (cQ g p) p.2.length ++ bi (eu p) 0 = []) := by
 subst he; simpa [bi] using h
theorem pO {b : Bool} (h : F = bU p ++ (bi (cQ g p) p.2.length ++ bi (eu p) e) ∧ b = decide (bi (cQ g p) p.2.length ++ bi (eu p) e = [])) (hn : ¬ gP (gI p.2 (e : Int))) : F ++ [(6, (e : Int), 0)] = bU p ++ (bi (cQ g p) p.2.length ++ bi (eu p) (e + 1)) ∧ false = decide (bi (cQ g p) p.2.length ++ bi (eu p) (e + 1) = []) := by
 have hx : eu p e = [(6, (e : Int), 0)] := dx hn
 refine ⟨?_, (decide_eq_false (by rw [bi, hx]; simp)).symm⟩
 rw [h.1, bi, hx]; simp
theorem qM {b : Bool} (h : F = bU p ++ (bi (cQ g p) p.2.length ++ bi (eu p) e) ∧ b = decide (bi (cQ g p) p.2.length ++ bi (eu p) e = [])) (hn : gP (gI p.2 (e : Int))) : F = bU p ++ (bi (cQ g p) p.2.length ++ bi (eu p) (e + 1)) ∧ b = decide (bi (cQ g p) p.2.length ++ bi (eu p) (e + 1) = []) := by
 have hx : eu p e = [] := cZ (Classical.not_not.2 hn)
 rw [bi, hx, List.append_nil]; exact h
theorem nj (hn : p.1.length ≤ 1024) (hm : p.2.length ≤ 3072) (he : e ≤ 3072) (h : F = bU p ++ (bi (cQ g p) p.2.length ++ bi (eu p) e)) : F.length ≤ 9500000 := by
 have l1 := jH hn
 have l2 := cS (f := cQ g p) (k := p.2.length) kY
 have l3 := cS (f := eu p) (k := e) oZ
 rw [h, List.length_append, List.length_append]; omega
theorem jN {b : Bool} (h : F = bU p ++ (bi (cQ g p) p.2.length ++ bi (eu p) e) ∧ b = decide (bi (cQ g p) p.2.length ++ bi (eu p) e = [])) (he : e = p.2.length) : F = bU p ++ cV g p ∧ b = decide (cV g p = []) := by
 subst he; exact h
def da (g : cU) (p : du) : List fB := bU p ++ cV g p
theorem kZ (hn : p.1.length ≤ 1024) (hm : p.2.length ≤ 3072) : (da g p).length ≤ 9500000 := nj hn hm hm rfl
def gE (g : cU) (p : du) (e : Nat) : List fB := bi (ew g p e) p.1.length
def hU (g : cU) (p : du) (e : Nat) : List fB := bi (dQ g p e) p.2.length
theorem l6 (e : Nat) : (gE g p e).length ≤ p.1.length := cS (jL e)
theorem pu (e : Nat) : (hU g p e).length ≤ p.2.length := cS (ja e)
theorem mm (h : F = bU p ++ cV g p) : F = da g p ++ bi (gE g p) 0 := by rw [h]; simp [bi, da]
theorem oa (hn : p.1.length ≤ 1024) (hm : p.2.length ≤ 3072) (he : e ≤ 3072) (hv : v ≤ 1024) (h : G = (da g p ++ bi (gE g p) e) ++ bi (ew g p e) v) : G.length ≤ 20000000 := by
 have l1 := kZ (g := g) hn hm
 have l2 := fU (f := gE g p) (k := e) (c := 1024) he (by omega) fun j => Nat.le_trans (l6 j) hn
 have l3 := cS (f := ew g p e) (k := v) (jL e)
 rw [h, List.length_append, List.length_append]; omega
theorem nX (h : G = (da g p ++ bi (gE g p) e) ++ bi (ew g p e) v) (hv : v = p.1.length) : G = da g p ++ bi (gE g p) (e + 1) := by
 subst hv; exact mO h
theorem lN (h : F = da g p ++ bi (gE g p) e) (he : e = p.2.length) : F = (da g p ++ cR g p) ++ bi (hU g p) 0 := by
 subst he; rw [h]; simp [bi, cR]; rfl
theorem lM (h : F = (da g p ++ cR g p) ++ bi (hU g p) e) : F = ((da g p ++ cR g p) ++ bi (hU g p) e) ++ bi (dQ g p e) (e + 1) ∧ e < e + 1 := by
 refine ⟨?_, by omega⟩
 rw [dW (f := dQ g p e) (k := e + 1) fun j hj => cZ fun h => by omega, List.append_nil]; exact h
theorem nw (hn : p.1.length ≤ 1024) (hm : p.2.length ≤ 3072) : (cR g p).length ≤ 9437184 :=
 fU (f := gE g p) (k := p.2.length) (c := 1024) (by omega) (by omega) fun j => Nat.le_trans (l6 j) hn
theorem o8 {f : Nat} (hn : p.1.length ≤ 1024) (hm : p.2.length ≤ 3072) (he : e ≤ 3072) (hf : f ≤ 3072) (h : G = ((da g p ++ cR g p) ++ bi (hU g p) e) ++ bi (dQ g p e) f) : G.length ≤ 40000000 := by
 have l1 := kZ (g := g) hn hm
 have l0 := nw (g := g) hn hm
 have l2 := fU (f := hU g p) (k := e) (c := 3072) he (by omega) fun j => Nat.le_trans (pu j) hm
 have l3 := cS (f := dQ g p e) (k := f) (ja e)
 rw [h, List.length_append, List.length_append, List.length_append]; omega
theorem nO {f : Nat} (h : G = ((da g p ++ cR g p) ++ bi (hU g p) e) ++ bi (dQ g p e) f) (hf : f = p.2.length) : G = (da g p ++ cR g p) ++ bi (hU g p) (e + 1) := by
 subst hf; exact mO h
theorem rO (h : (v : Int) = (gI g.2 (e : Int)).1) : ew g p e v = [] := cZ fun c => c.1.1 h
theorem qH (h : (v : Int) = (gI g.2 (e : Int)).2) : ew g p e v = [] := cZ fun c => c.1.2 h
theorem sg (h : ¬ decide (e9 (gI p.2 (e : Int)) (gI p.1 (v : Int))) = true) : ew g p e v = [] := cZ fun c => h (decide_eq_true c.2)
theorem qp (h1 : ¬ (v : Int) = (gI g.2 (e : Int)).1) (h2 : ¬ (v : Int) = (gI g.2 (e : Int)).2) (h : decide (e9 (gI p.2 (e : Int)) (gI p.1 (v : Int))) = true) : ew g p e v = [(7, (e : Int), (v : Int))] := dx ⟨⟨h1, h2⟩, of_decide_eq_true h⟩
theorem qf {b : Bool} (hs : bN g p = []) (hF : F = bU p ++ cV g p) (hb : b = decide (cV g p = [])) (h : ¬ b = true) : F = bX g p := by
 have : ¬ cV g p = [] := fun e => h (hb.trans (decide_eq_true e))
 unfold bX
 rw [if_pos hs, if_neg this, List.append_nil]; exact hF
theorem nv {b : Bool} (hs : bN g p = []) (hb : b = decide (cV g p = [])) (h : b = true) (hF : F = (da g p ++ cR g p) ++ bi (hU g p) e) (he : e = p.2.length) : F = bX g p := by
 have : cV g p = [] := of_decide_eq_true (hb ▸ h)
 subst he
 unfold bX
 rw [if_pos hs, if_pos this, hF]
 unfold da
 rw [List.append_assoc]; rfl
end
section
variable {g : cU} {p : du} {e f : Int}
theorem tY (h1 : ¬ decide ((gI g.2 e).1 ∈ [(gI g.2 f).1, (gI g.2 f).2]) = true) (h2 : ¬ decide ((gI g.2 e).2 ∈ [(gI g.2 f).1, (gI g.2 f).2]) = true) : [] = gR g p e f := by
 unfold gR; rw [cZ fun h => h1 (decide_eq_true h), cZ fun h => h2 (decide_eq_true h)]; rfl
theorem ue (h1 : decide ((gI g.2 e).1 ∈ [(gI g.2 f).1, (gI g.2 f).2]) = true) (h2 : ¬ decide ((gI g.2 e).2 ∈ [(gI g.2 f).1, (gI g.2 f).2]) = true) : [gI p.1 (gI g.2 e).1] = gR g p e f := by
 unfold gR; rw [dx (of_decide_eq_true h1), cZ fun h => h2 (decide_eq_true h)]; rfl
theorem u5 (h1 : ¬ decide ((gI g.2 e).1 ∈ [(gI g.2 f).1, (gI g.2 f).2]) = true) (h2 : decide ((gI g.2 e).2 ∈ [(gI g.2 f).1, (gI g.2 f).2]) = true) : [gI p.1 (gI g.2 e).2] = gR g p e f := by
 unfold gR; rw [dx (of_decide_eq_true h2), cZ fun h => h1 (decide_eq_true h)]; rfl
theorem tX (h1 : decide ((gI g.2 e).1 ∈ [(gI g.2 f).1, (gI g.2 f).2]) = true) (h2 : decide ((gI g.2 e).2 ∈ [(gI g.2 f).1, (gI g.2 f).2]) = true) : [gI p.1 (gI g.2 e).1] ++ [gI p.1 (gI g.2 e).2] = gR g p e f := by
 unfold gR; rw [dx (of_decide_eq_true h2), dx (of_decide_eq_true h1)]
theorem tC : (gR g p e f).length ≤ 2 := by
 unfold gR
 rw [List.length_append]
 have h1 : (fl ((gI g.2 e).1 ∈ [(gI g.2 f).1, (gI g.2 f).2]) (gI p.1 (gI g.2 e).1)).length ≤ 1 := eU
 have h2 : (fl ((gI g.2 e).2 ∈ [(gI g.2 f).1, (gI g.2 f).2]) (gI p.1 (gI g.2 e).2)).length ≤ 1 := eU
 omega
theorem tK {x : Pt} : x ∈ gR g p e f ↔ ∃ v, (v = (gI g.2 e).1 ∨ v = (gI g.2 e).2) ∧ (v = (gI g.2 f).1 ∨ v = (gI g.2 f).2) ∧ x = gI p.1 v := by
 unfold gR
 rw [List.mem_append, ku, ku]
 simp only [List.mem_cons, List.not_mem_nil, or_false]
 constructor
 · rintro (⟨h1, h2⟩ | ⟨h1, h2⟩)
   · exact ⟨_, .inl rfl, h1, h2⟩
   · exact ⟨_, .inr rfl, h1, h2⟩
 · rintro ⟨v, rfl | rfl, h1, h2⟩
   · exact .inl ⟨h1, h2⟩
   · exact .inr ⟨h1, h2⟩
theorem ii (hm : c9 g) (h0 : 0 ≤ e) (h1 : e < g.2.length) : (0 ≤ (gI g.2 e).1 ∧ (gI g.2 e).1 < g.1) ∧ 0 ≤ (gI g.2 e).2 ∧ (gI g.2 e).2 < g.1 := hm.2.2.2 _ (aV h0 h1)
theorem u7 (hm : c9 g) (hs : tZ g p) (h0 : 0 ≤ e) (h1 : e < g.2.length) : ∀ x ∈ gR g p e f, cd x := by
 intro x hx
 obtain ⟨v, hv, _, rfl⟩ := tK.1 hx
 obtain ⟨⟨a1, a2⟩, a3, a4⟩ := ii hm h0 h1
 have := hs.n
 rcases hv with rfl | rfl
 · exact hs.pt _ a1 (by omega)
 · exact hs.pt _ a3 (by omega)
end
section
variable {a b but : List Pt} {i k : Nat}
theorem j5 : gO a b but ↔ ∀ j : Nat, j + 1 < a.length → ∀ q : Nat, q + 1 < b.length → cA (gI a (j : Int), gI a ((j : Int) + 1)) (gI b (q : Int), gI b ((q : Int) + 1)) but := by
 unfold gO
 constructor
 · intro h j hj q hq
   exact h _ (eP.2 ⟨j, by omega, rfl⟩) _ (eP.2 ⟨q, by omega, rfl⟩)
 · intro h s hs t ht
   obtain ⟨j, hj, rfl⟩ := eP.1 hs
   obtain ⟨q, hq, rfl⟩ := eP.1 ht
   exact h j (by omega) q (by omega)
theorem sd (h : 1 ≤ i ∧ ∀ j : Nat, j + 1 < i → ∀ q : Nat, q + 1 < b.length → cA (gI a (j : Int), gI a ((j : Int) + 1)) (gI b (q : Int), gI b ((q : Int) + 1)) but)
   (h2 : 1 ≤ k ∧ ∀ q : Nat, q + 1 < k → cA (gI a ((i : Int) - 1), gI a (i : Int)) (gI b (q : Int), gI b ((q : Int) + 1)) but) (hk : ¬ (k : Int) < b.length) :
   1 ≤ i + 1 ∧ ∀ j : Nat, j + 1 < i + 1 → ∀ q : Nat, q + 1 < b.length → cA (gI a (j : Int), gI a ((j : Int) + 1)) (gI b (q : Int), gI b ((q : Int) + 1)) but := by
 refine ⟨by omega, fun j hj q hq => ?_⟩
 by_cases e : j + 1 = i
 · have h3 := h2.2 q (by omega)
   rw [show (j : Int) = (i : Int) - 1 by omega, show (i : Int) - 1 + 1 = (i : Int) by omega]
   exact h3
 · exact h.2 j (by omega) q hq
theorem ox (h : 1 ≤ k ∧ ∀ q : Nat, q + 1 < k → cA (gI a ((i : Int) - 1), gI a (i : Int)) (gI b (q : Int), gI b ((q : Int) + 1)) but) (ho : decide (cA (gI a ((i : Int) - 1), gI a (i : Int)) (gI b ((k : Int) - 1), gI b (k : Int)) but) = true) :
   1 ≤ k + 1 ∧ ∀ q : Nat, q + 1 < k + 1 → cA (gI a ((i : Int) - 1), gI a (i : Int)) (gI b (q : Int), gI b ((q : Int) + 1)) but := by
 refine ⟨by omega, fun q hq => ?_⟩
 by_cases e : q + 1 = k
 · rw [show (q : Int) = (k : Int) - 1 by omega, show (k : Int) - 1 + 1 = (k : Int) by omega]
   exact of_decide_eq_true ho
 · exact h.2 q (by omega)
theorem tQ (h1 : 1 ≤ i) (hi : (i : Int) < a.length) (h2 : 1 ≤ k) (hk : (k : Int) < b.length) (ho : ¬ decide (cA (gI a ((i : Int) - 1), gI a (i : Int)) (gI b ((k : Int) - 1), gI b (k : Int)) but) = true) : false = decide (gO a b but) := by
 refine (decide_eq_false fun h => ho (decide_eq_true ?_)).symm
 have := j5.1 h (i - 1) (by omega) (k - 1) (by omega)
 rwa [show ((i - 1 : Nat) : Int) = (i : Int) - 1 by omega, show ((k - 1 : Nat) : Int) = (k : Int) - 1 by omega, show (i : Int) - 1 + 1 = (i : Int) by omega, show (k : Int) - 1 + 1 = (k : Int) by omega] at this
theorem sj (h : 1 ≤ i ∧ ∀ j : Nat, j + 1 < i → ∀ q : Nat, q + 1 < b.length → cA (gI a (j : Int), gI a ((j : Int) + 1)) (gI b (q : Int), gI b ((q : Int) + 1)) but) (hi : ¬ (i : Int) < a.length) : true = decide (gO a b but) :=
 (decide_eq_true (j5.2 fun j hj => h.2 j (by omega))).symm
end
section
variable {g : cU} {p : du} {e f : Nat} {b : Bool}
theorem mp (hef : e < f) (hb : b = decide (gO (gI p.2 (e : Int)) (gI p.2 (f : Int)) (gR g p (e : Int) (f : Int)))) (h : ¬ b = true) : dQ g p e f = [(8, (e : Int), (f : Int))] :=
 dx ⟨hef, fun c => h (hb.trans (decide_eq_true c))⟩
theorem nE (hb : b = decide (gO (gI p.2 (e : Int)) (gI p.2 (f : Int)) (gR g p (e : Int) (f : Int)))) (h : b = true) : dQ g p e f = [] :=
 cZ fun c => c.2 (of_decide_eq_true (hb ▸ h))
end
end TL
/-
  TlArr: the whole of an array that lies in a list, as a list.
  By an AI agent.
-/
set_option linter.all false
namespace TL
open Go
def oh (v : Value) (i : Nat) : Value := .slice (some (b9 v 2 i)) 2 2
section
variable {P : Program} {f : Fr} {w : World} {dst : Option Tmp} {ty : TypeId} {pos : String} {after : Array Edge} {g : Option (Nat × Bool)} {t e : TypeId} {x y : Operand}
theorem fX {v : Value} {i : Nat} (ht : P.underlying t = some (.array 2 e)) (hs : (P.info? e).map (·.size) = some 1) (hx : ev f x = .pointer (some (b9 v 2 i))) :
   (execOp (ev f) ⟨dst, .slice t x none none none, ty, pos, after, g⟩).run P w = .ok (.value (oh v i)) w := by
 cases hq : P.info? e with
 | none => simp [hq] at hs
 | some q =>
   have hsub : execOp (ev f) ⟨dst, .slice t x none none none, ty, pos, after, g⟩ = (do pure (.value (← Instr.sliceAt t (.pointer (some (b9 v 2 i))) none none none))) := by
     simp [execOp, hx]
   rw [hsub]
   have ha : (b9 v 2 i).add 0 = b9 v 2 i := by rw [ip, Nat.add_zero, ← gk]
   simp [Instr.sliceAt, Instr.sureAddr, Instr.sliceBounds, ba ht, cE hq, oh, ha]
theorem mg {γ : aM} {S : cq → Prop} {v : Value} {xs : List (Int × Int)} {i : Int} (hs : Sl γ S w v xs) (h0 : 0 ≤ i) (h1 : i < xs.length) : Sl γ S w (oh v i.toNat) [(gI xs i).1, (gI xs i).2] := by
 have hg := eA h0 h1
 rcases hs with ⟨⟨_, rfl⟩, rfl⟩ | ⟨b, off, cap, rfl, _, hx⟩
 · simp at h1; omega
 · obtain ⟨hb, hS, cs, hcs, hr⟩ := hx _ _ hg
   have hr' : cs = [.int .i64 (gI xs i).1, .int .i64 (gI xs i).2] := by
     have := Fl.rep_iff.1 hr
     simpa [Fl.cells] using this
   refine .inr ⟨b, off + i.toNat * 2, 2, rfl, ⟨by simp, by simp⟩, fun j x hj => ?_⟩
   have hc0 := hcs 0 (by decide)
   have hc1 := hcs 1 (by decide)
   rw [hr'] at hc0 hc1
   have hlt : j < 2 := by have := (List.getElem?_eq_some_iff.1 hj).1; simpa using this
   rcases (by omega : j = 0 ∨ j = 1) with rfl | rfl
   · have hx0 : (gI xs i).1 = x := by simpa using hj
     refine ⟨hb, hS, [.int .i64 (gI xs i).1], fun q hq => ?_, by rw [hx0]; rfl⟩
     have : q = 0 := by have h9 : q < 1 := hq; omega
     subst this
     exact hc0
   · have hx0 : (gI xs i).2 = x := by simpa using hj
     refine ⟨hb, hS, [.int .i64 (gI xs i).2], fun q hq => ?_, by rw [hx0]; rfl⟩
     have : q = 0 := by have h9 : q < 1 := hq; omega
     subst this
     exact hc1
end
end TL
/-
  TlCyc: lists gone round: what stands behind what; rotations turned, and moved.
  By an AI agent.
-/
set_option linter.all false
namespace TL
theorem qS {g : cU} (hm : c9 g) {to : List Int} (hl : (to.length : Int) = g.1) (hr : ∀ x ∈ to, 0 ≤ x ∧ x < g.1) : c9 (ek g to g.1) := by
 obtain ⟨m1, m2, m3, m4⟩ := hm
 refine ⟨m1, m2, by unfold ek; simpa using m3, fun e he => ?_⟩
 unfold ek at he
 obtain ⟨d, hd, rfl⟩ := List.mem_map.1 he
 obtain ⟨⟨k1, k2⟩, k3, k4⟩ := m4 d hd
 exact ⟨hr _ (aV k1 (by omega)), hr _ (aV k3 (by omega))⟩
section
variable {g : cU} {r : em} {to : List Int}
end
theorem mo {g : cU} {r : em} (hm : c9 g) (hrp : iz g r) : dp g r = (eV r, 0) := by unfold dp; rw [if_pos (lg hm hrp)]
end TL
/-
  TlOrb: going round by a permutation; two places changed; what that does to the numbers of rounds.
  By an AI agent.
-/
set_option linter.all false
namespace TL
def tr (a b x : Int) : Int := if x = a then b else if x = b then a else x
end TL
/-
  TlDual: faces as nodes: the dual, corners' faces, edges laid, taken and split, ways over faces, as plain functions.
  By an AI agent.
-/
set_option linter.all false
namespace TL
def sy (g : cU) (r : em) (c : Int × Int) : Prop := (0 ≤ c.1 ∧ c.1 < g.1) ∧ if ((gI r c.1).length : Int) = 0 then c.2 = -1 else c.2 ∈ gI r c.1
instance (g : cU) (r : em) (c : Int × Int) : Decidable (sy g r c) := by unfold sy; infer_instance
theorem pS {l : List Int} {x : Int} : decide (0 ≤ dm l x) = decide (x ∈ l) := by
 unfold dm
 by_cases h : x ∈ l
 · rw [if_pos h, decide_eq_true h, decide_eq_true (by omega)]
 · rw [if_neg h, decide_eq_false h]; rfl
end TL
namespace TL
end TL
namespace TL
end TL
namespace TL
section
variable {g : cU} {r : em} {a b : Int × Int}
end
end TL
/-
  TlMapL: maps of the call's own whose elements are lists of the call's own.
  By an AI agent.
-/
set_option linter.all false
namespace TL
open Go
theorem ls {P : Program} {kt e bytes : Nat} {z : Value} {f0 f1 : Field} (ht : P.underlying kt = some (.struct #[f0, f1])) (h0 : f0.type = e) (h1 : f1.type = e) (o0 : f0.offset = 0) (o1 : f1.offset = 1) (n0 : (f0.name != "_") = true) (n1 : (f1.name != "_") = true) (he : P.underlying e = some (.int .i64)) (hp : Tp P e false 1 bytes z) (hs : P.stoodInHeld kt = false) : nl P kt (Int × Int) where
 check b k w := by
   have hc : ∀ x : Int, (Instr.checkKey b 9999 e (.int .i64 x)).run P w = .ok () w := fun x => by
     rw [Instr.checkKey]
     simp only [Sem.run_bind, ba he, Result.andThen_ok]
     rfl
   have p0 := fun (x y : Int) => fW (P := P) (w := w) (cs := #[.int .i64 x, .int .i64 y]) (o := 0) hp (v := .int .i64 x) (by rfl)
   have p1 := fun (x y : Int) => fW (P := P) (w := w) (cs := #[.int .i64 x, .int .i64 y]) (o := 1) hp (v := .int .i64 y) (by rfl)
   have n0' : f0.name ≠ "_" := by simpa using n0
   have n1' : f1.name ≠ "_" := by simpa using n1
   show (Instr.checkKey b (9999 + 1) kt _).run P w = _
   rw [Instr.checkKey]
   simp only [Ky.val, Sem.run_bind, ba ht, Result.andThen_ok]
   rw [← Array.forIn_toList]
   simp [n0', n1', h0, h1, o0, o1, p0, p1, hc]
 find k es ks w hm := by
   have heq1 : ∀ a b : Int × Int, (Op.equal kt (Ky.val a) (Ky.val b)).run P w = .ok (decide (a = b)) w := fun a b => by
     have e1 : P.fieldsOf kt = #[f0, f1] := by simp [Program.fieldsOf, ht]
     have := run_equalIn_struct (P := P) w 9999 kt #[.int .i64 a.1, .int .i64 a.2] #[.int .i64 b.1, .int .i64 b.2] (by rw [e1]; exact ht) hs
     rw [e1, fJ (bs := [decide (a.1 = b.1), decide (a.2 = b.2)]) (.cons n0 (by rw [h0]; exact hp) (by rw [o0]; rfl) (by rw [o0]; rfl) (.int (by rw [h0]; exact he)) (.cons n1 (by rw [h1]; exact hp) (by rw [o1]; rfl) (by rw [o1]; rfl) (.int (by rw [h1]; exact he)) .nil)) 9998] at this
     have hq : ([decide (a.1 = b.1), decide (a.2 = b.2)].all id) = decide (a = b) := by simp [Prod.ext_iff, Bool.decide_and]
     rw [hq] at this
     exact this
   have hfn : ∀ (es : List MapEntry) (i : Nat), es ≠ [] → (∀ e ∈ es, ∃ c, e.key = .agg c) → Instr.findNow (.struct #[f0, f1]) (Ky.val k) es i = none := by
     intro es i h0 _
     cases es with
     | nil => exact absurd rfl h0
     | cons a l => simp [Instr.findNow, Instr.sameNow]
   have hask : ∀ (es : List MapEntry) (ks : List (Int × Int)) (i : Nat), es.map (·.key) = ks.map Ky.val → (Instr.findAsking kt (Ky.val k) es i).run P w = .ok ((ks.findIdx? (· = k)).bind fun j => (es[j]?).map fun e => (i + j, e.val)) w := by
     intro es
     induction es with
     | nil =>
       intro ks i h
       have : ks = [] := by cases ks <;> simp at h ⊢
       subst this; simp [Instr.findAsking]
     | cons a l ih =>
       intro ks i h
       cases ks with
       | nil => simp at h
       | cons q ks =>
         simp only [List.map_cons, List.cons.injEq] at h
         obtain ⟨ha, hl⟩ := h
         have heq' : (Op.equal kt (Ky.val k) a.key).run P w = .ok (decide (k = q)) w := by rw [ha]; exact heq1 k q
         by_cases hkq : k = q
         · subst hkq
           simp [Instr.findAsking, heq', List.findIdx?_cons]
         · have hqk : ¬ q = k := fun h => hkq h.symm
           have ih' := ih ks (i + 1) hl
           simp [Instr.findAsking, heq', hkq, List.findIdx?_cons, hqk, ih']
           cases ks.findIdx? (fun x => decide (x = k)) with
           | none => rfl
           | some j => simp [Nat.add_comm 1 j, Nat.add_assoc]
   simp only [Instr.findKey, Sem.run_bind, ba ht, Result.andThen_ok]
   cases es with
   | nil =>
     have : ks = [] := by cases ks <;> simp at hm ⊢
     subst this; simp [Instr.findNow]
   | cons a l =>
     rw [hfn (a :: l) 0 (by simp) (fun e he => by
       have : e.key ∈ (a :: l).map (·.key) := List.mem_map_of_mem he
       rw [hm] at this
       obtain ⟨q, _, hq⟩ := List.mem_map.1 this
       exact ⟨_, hq.symm⟩)]
     simp only [hask (a :: l) ks 0 hm, Nat.zero_add]
 bits k := by
   show Instr.sameBits (9999 + 1) _ _ = true
   simp [Ky.val, Instr.sameBits]
def zz (x : Int) : Nat := if 0 ≤ x then 2 * x.toNat else 2 * (-x).toNat + 1
theorem pT {x y : Int} (h : zz x = zz y) : x = y := by
 unfold zz at h
 split at h <;> split at h <;> omega
def gu (q : Int × Int) : Nat := (zz q.1 + zz q.2) * (zz q.1 + zz q.2) + zz q.1
theorem pa {a b c d : Nat} (h : (a + b) * (a + b) + a = (c + d) * (c + d) + c) : a = c ∧ b = d := by
 have lt : ∀ {a b c d : Nat}, a + b < c + d → (a + b) * (a + b) + a < (c + d) * (c + d) + c := fun {a b c d} hl => by
   have h1 : (a + b + 1) * (a + b + 1) ≤ (c + d) * (c + d) := Nat.mul_le_mul hl hl
   have h2 : (a + b + 1) * (a + b + 1) = (a + b) * (a + b) + 2 * (a + b) + 1 := by
     generalize a + b = s
     rw [Nat.add_mul, Nat.mul_add]; omega
   omega
 rcases Nat.lt_trichotomy (a + b) (c + d) with hl | hl | hl
 · have := lt hl; omega
 · rw [hl] at h; omega
 · have := lt hl; omega
theorem pH {p q : Int × Int} (h : gu p = gu q) : p = q := by
 obtain ⟨h1, h2⟩ := pa h
 exact Prod.ext (pT h1) (pT h2)
structure eM (K : Type) where
 key : K
 val : Value
 born : Nat
def fa {K : Type} [Ky K] (e : eM K) : MapEntry := { key := Ky.val e.key, val := e.val, born := e.born }
def gK {K : Type} [DecidableEq K] (es : List (eM K)) (k : K) : Value := ((es.find? fun e => decide (e.key = k)).map (·.val)).getD (.slice none 0 0)
structure uD {K : Type} (es : List (eM K)) (clock : Nat) : Prop where
 keys : (es.map (·.key)).Nodup
 born : (es.map (·.born)).Nodup
 lt : ∀ e ∈ es, e.born < clock
def Vp {K : Type} [DecidableEq K] [Ky K] (γ : aM) (J : cq → Prop) (w : World) (v : Value) (F : K → Value) : Prop :=
 ∃ (r : Nat) (es : List (eM K)) (clock : Nat), v = .map (some r) ∧ J (γ r) ∧ w.heap[r]? = some (.map (es.map fa).toArray clock) ∧ uD es clock ∧ F = gK es
def tV {K : Type} [DecidableEq K] [Ky K] (γ : aM) (J : cq → Prop) (w : World) (v : Value) (F : K → Value) (s : Int) (k : K) : Prop :=
 ∃ (r : Nat) (es : List (eM K)) (clock : Nat), v = .map (some r) ∧ J (γ r) ∧ w.heap[r]? = some (.map (es.map fa).toArray clock) ∧ uD es clock ∧ F = gK es ∧ ∃ (i : Nat) (e : eM K), es[i]? = some e ∧ e.key = k ∧ (e.born : Int) = s
section
variable {K : Type} [DecidableEq K] [Ky K] {γ γ' : aM} {J J' : cq → Prop} {w w' : World} {v : Value} {F : K → Value} {s : Int} {k : K}
theorem Vp.chg (h : Vp γ J w v F) (hc : aL J' γ w γ' w') (hJ : ∀ c, J c → ¬ J' c) : Vp γ' J w' v F := by
 obtain ⟨r, es, clock, h1, h2, h3, h4⟩ := h
 exact ⟨r, es, clock, h1, by rw [hc.col r (cL h3) (hJ _ h2)]; exact h2, by rw [hc.keep r (cL h3) (hJ _ h2)]; exact h3, h4⟩
theorem tV.chg (h : tV γ J w v F s k) (hc : aL J' γ w γ' w') (hJ : ∀ c, J c → ¬ J' c) : tV γ' J w' v F s k := by
 obtain ⟨r, es, clock, h1, h2, h3, h4⟩ := h
 exact ⟨r, es, clock, h1, by rw [hc.col r (cL h3) (hJ _ h2)]; exact h2, by rw [hc.keep r (cL h3) (hJ _ h2)]; exact h3, h4⟩
theorem Vp.bel (h : Vp γ J w v F) (hc : dE w.heap.size w w') : Vp γ J w' v F := by
 obtain ⟨r, es, clock, h1, h2, h3, h4⟩ := h
 exact ⟨r, es, clock, h1, h2, by rw [hc.block r (cL h3)]; exact h3, h4⟩
theorem jD (es : List (eM K)) (k : K) : (((es.map (·.key)).findIdx? (· = k)).bind fun i => ((es.map fa)[i]?).map fun e => (i, e.val)) = ((es.map (·.key)).findIdx? (· = k)).map fun i => (i, gK es k) := by
 cases h : (es.map (·.key)).findIdx? (· = k) with
 | none => rfl
 | some i =>
   obtain ⟨hi, hk, hlt⟩ := List.findIdx?_eq_some_iff_getElem.1 h
   have hi' : i < es.length := by simpa using hi
   have hke : es[i].key = k := by simpa using hk
   have hf : es.find? (fun e => decide (e.key = k)) = some es[i] := by
     rw [List.find?_eq_some_iff_getElem]
     refine ⟨by simpa using hke, i, hi', rfl, fun j hj => ?_⟩
     have := hlt j hj
     simpa using this
   simp [hi', fa, gK, hf]
end
section
variable {P : Program} {f : Fr} {w : World} {dst : Option Tmp} {ty : TypeId} {pos : String} {after : Array Edge} {g : Option (Nat × Bool)} {t : TypeId} {x y z : Operand} {N : Value → World → Prop}
theorem nN {K : Type} [DecidableEq K] [Ky K] {γ : aM} {J : cq → Prop} {v u : Value} {F : K → Value} {kt et size bytes : Nat} {agg : Bool} (k : K) (ht : P.underlying t = some (.map kt et)) (hk : nl P kt K) (he : Tp P et agg size bytes (.slice none 0 0)) (hx : ev f x = v) (hm : Vp γ J w v F) (hy : ev f y = u) (hu : u = Ky.val k) :
   (execOp (ev f) ⟨dst, .lookup t x y false, ty, pos, after, g⟩).run P w = .ok (.value (F k)) w := by
 obtain ⟨r, es, clock, rfl, hJ, hb, hok, rfl⟩ := hm
 obtain ⟨i, hi, _, _, hz⟩ := he.info
 subst hu
 have hf := hk.find k (es.map fa) (es.map (·.key)) w (by simp [fa, Function.comp_def])
 rw [jD] at hf
 cases h : (es.map (·.key)).findIdx? (· = k) with
 | none =>
   rw [h] at hf
   have h0 : gK es k = .slice none 0 0 := by
     have hn : es.find? (fun e => decide (e.key = k)) = none := by
       rw [List.find?_eq_none]
       intro e he
       have := List.findIdx?_eq_none_iff.1 h (e.key) (List.mem_map_of_mem he)
       simpa using this
     simp [gK, hn]
   simp [execOp, hx, hy, Instr.lookup, ba ht, dA hb, hk.check, hf, eo hi hz, h0]
 | some i =>
   rw [h] at hf
   simp [execOp, hx, hy, Instr.lookup, ba ht, dA hb, hk.check, hf]
theorem kP {K : Type} [DecidableEq K] [Ky K] {γ : aM} {J : cq → Prop} {v u : Value} {F : K → Value} {kt et size bytes : Nat} {agg : Bool} (k : K) (ht : P.underlying t = some (.map kt et)) (hk : nl P kt K) (he : Tp P et agg size bytes (.slice none 0 0)) (hx : ev f x = v) (hm : Vp γ J w v F) (hy : ev f y = u) (hu : u = Ky.val k)
   (hn : ∀ w' s, aL J γ w γ w' → tV γ J w' v F s k → N (.tuple (List.toArray [F k, .int .i64 s])) w') : fM P ⟨dst, .mapEntry t x y, ty, pos, after, g⟩ f w N := by
 obtain ⟨r, es, clock, rfl, hJ, hb, hok, rfl⟩ := hm
 obtain ⟨q, hi, _, _, hz⟩ := he.info
 subst hu
 have hf := hk.find k (es.map fa) (es.map (·.key)) w (by simp [fa, Function.comp_def])
 rw [jD] at hf
 cases h : (es.map (·.key)).findIdx? (· = k) with
 | none =>
   rw [h] at hf
   have hnk : ∀ e ∈ es, e.key ≠ k := fun e he => by
     have := List.findIdx?_eq_none_iff.1 h (e.key) (List.mem_map_of_mem he)
     simpa using this
   have h0 : gK es k = .slice none 0 0 := by
     have hn : es.find? (fun e => decide (e.key = k)) = none := by
       rw [List.find?_eq_none]
       intro e he
       simpa using hnk e he
     simp [gK, hn]
   refine aI (v := .tuple (List.toArray [gK es k, .int .i64 (clock : Int)])) (w' := { w with heap := w.heap.setIfInBounds r (.map ((es ++ [(⟨k, .slice none 0 0, clock⟩ : eM K)]).map fa).toArray (clock + 1)) }) ?_ ?_
   rotate_left
   · refine hn _ _ (gM γ _ hJ) ⟨r, es ++ [⟨k, .slice none 0 0, clock⟩], clock + 1, rfl, hJ, fR hb, ⟨?_, ?_, ?_⟩, ?_, es.length, ⟨k, .slice none 0 0, clock⟩, by simp, rfl, rfl⟩
     rotate_left 3
     · funext k'
       simp only [gK, List.find?_append]
       by_cases hkk : k = k'
       · subst hkk
         have hn : es.find? (fun e => decide (e.key = k)) = none := by
           rw [List.find?_eq_none]
           intro e he
           simpa using hnk e he
         simp [hn]
       · cases es.find? (fun e => decide (e.key = k')) <;> simp [hkk]
     · rw [List.map_append, List.nodup_append]
       refine ⟨hok.keys, by simp, fun a ha b hb => ?_⟩
       obtain ⟨e, he, rfl⟩ := List.mem_map.1 ha
       have : b = k := by simpa using hb
       subst this; exact hnk e he
     · rw [List.map_append, List.nodup_append]
       refine ⟨hok.born, by simp, fun a ha b hb => ?_⟩
       obtain ⟨e, he, rfl⟩ := List.mem_map.1 ha
       have : b = clock := by simpa using hb
       subst this; exact Nat.ne_of_lt (hok.lt e he)
     · intro e he
       rcases List.mem_append.1 he with h | h
       · exact Nat.lt_succ_of_lt (hok.lt e h)
       · obtain rfl := List.mem_singleton.1 h; exact Nat.lt_succ_self _
   · simp [execOp, hx, hy, Instr.mapEntry, ba ht, dA hb, hk.check, hf, eo hi hz, eR hb, h0, fa, goInt]
 | some i =>
   rw [h] at hf
   obtain ⟨hil, hke, _⟩ := List.findIdx?_eq_some_iff_getElem.1 h
   have hi' : i < es.length := by simpa using hil
   have hke' : es[i].key = k := by simpa using hke
   have hsame : (es.map fa).modify i (fun e => { e with key := Ky.val k }) = es.map fa := by
     apply List.ext_getElem?
     intro j
     rw [List.getElem?_modify]
     by_cases hij : i = j
     · subst hij; simp [hi', fa, hke']
     · simp [hij]
   refine aI (v := .tuple (List.toArray [gK es k, .int .i64 ((es[i].born : Nat) : Int)])) (w' := { w with heap := w.heap.setIfInBounds r (.map (es.map fa).toArray clock) }) ?_
     (hn _ _ (gM γ _ hJ) ⟨r, es, clock, rfl, hJ, fR hb, hok, rfl, i, es[i], by simp, hke', rfl⟩)
   have hkb := hk.bits k
   have hold : (Instr.keyThatStays (Ky.val k) (Ky.val k)).run P w = .ok (Ky.val k) w := by simp [Instr.keyThatStays, hkb]
   simp [execOp, hx, hy, Instr.mapEntry, ba ht, dA hb, hk.check, hf, hi', fa, hke', hold, eR hb, goInt]
   rw [hsame]
theorem jy {K : Type} [DecidableEq K] [Ky K] {γ : aM} {J : cq → Prop} {v m : Value} {F : K → Value} {s : Int} {k : K} (hx : ev f x = v) (hm : tV γ J w v F s k) (hy : ev f y = .int .i64 s) (hz : ev f z = m)
   (hn : ∀ w', aL J γ w γ w' → Vp γ J w' v (fun k' => if k' = k then m else F k') → N undef w') : fM P ⟨dst, .entryStore t x y z, ty, pos, after, g⟩ f w N := by
 obtain ⟨r, es, clock, rfl, hJ, hb, hok, rfl, i, e, hie, rfl, rfl⟩ := hm
 have hi' : i < es.length := (List.getElem?_eq_some_iff.1 hie).1
 have hei : es[i] = e := (List.getElem?_eq_some_iff.1 hie).2
 have hfi : ((es.map fa).toArray.findIdx? (fun q => (q.born : Int) == (e.born : Int))) = some i := by
   rw [List.findIdx?_toArray, List.findIdx?_eq_some_iff_getElem]
   refine ⟨by simpa using hi', by simp [fa, hei], fun j hj => ?_⟩
   have hj' : j < es.length := by omega
   have hne : es[j].born ≠ e.born := fun h => by
     have h1 : (es.map (·.born))[j]'(by simpa using hj') = (es.map (·.born))[i]'(by simpa using hi') := by simp [hei, h]
     have := (List.getElem_inj hok.born).1 h1
     omega
   simp [fa]
   omega
 have hmod : (es.map fa).modify i (fun q => { q with val := m }) = (es.modify i (fun q => { q with val := m })).map fa := by
   apply List.ext_getElem?
   intro j
   rw [List.getElem?_modify, List.getElem?_map, List.getElem?_map, List.getElem?_modify]
   by_cases hij : i = j
   · subst hij; simp [hi', fa]
   · simp [hij]
 have hkeys : (es.modify i (fun q => { q with val := m })).map (·.key) = es.map (·.key) := by
   apply List.ext_getElem?
   intro j
   rw [List.getElem?_map, List.getElem?_map, List.getElem?_modify]
   by_cases hij : i = j
   · subst hij; simp [hi']
   · simp [hij]
 have hborn : (es.modify i (fun q => { q with val := m })).map (·.born) = es.map (·.born) := by
   apply List.ext_getElem?
   intro j
   rw [List.getElem?_map, List.getElem?_map, List.getElem?_modify]
   by_cases hij : i = j
   · subst hij; simp [hi']
   · simp [hij]
 refine gc (w' := { w with heap := w.heap.setIfInBounds r (.map ((es.modify i (fun q => { q with val := m })).map fa).toArray clock) }) ?_
   (hn _ (gM γ _ hJ) ⟨r, es.modify i (fun q => { q with val := m }), clock, rfl, hJ, fR hb, ⟨by rw [hkeys]; exact hok.keys, by rw [hborn]; exact hok.born, fun q hq => ?_⟩, ?_⟩)
 · simp [execOp, hx, hy, hz, Instr.entryStore, dA hb, asInt, asIntOf, hfi, eR hb]
   rw [← hmod]
 · have : q.born ∈ es.map (·.born) := by rw [← hborn]; exact List.mem_map_of_mem hq
   obtain ⟨q', hq', he'⟩ := List.mem_map.1 this
   rw [← he']; exact hok.lt q' hq'
 · funext k'
   have hfind : ∀ (l : List (eM K)), (l.map (·.key)).Nodup → ∀ j (hj : j < l.length), gK l l[j].key = l[j].val := by
     intro l hl j hj
     have hf : l.find? (fun e => decide (e.key = l[j].key)) = some l[j] := by
       rw [List.find?_eq_some_iff_getElem]
       refine ⟨by simp, j, hj, rfl, fun q hq => ?_⟩
       have hne : l[q].key ≠ l[j].key := fun h => by
         have h1 : (l.map (·.key))[q]'(by simp; omega) = (l.map (·.key))[j]'(by simpa using hj) := by simp [h]
         have := (List.getElem_inj hl).1 h1
         omega
       simpa using hne
     simp [gK, hf]
   by_cases hkk : k' = e.key
   · subst hkk
     rw [if_pos rfl]
     have h1 := hfind (es.modify i (fun q => { q with val := m })) (by rw [hkeys]; exact hok.keys) i (by simpa using hi')
     simp [List.getElem_modify, hei] at h1
     exact h1.symm
   · rw [if_neg hkk]
     have hfe : (es.modify i (fun q => { q with val := m })).find? (fun e => decide (e.key = k')) = es.find? (fun e => decide (e.key = k')) := by
       have hgen : ∀ (l : List (eM K)) (i : Nat) (e : eM K), l[i]? = some e → k' ≠ e.key → (l.modify i (fun q => { q with val := m })).find? (fun e => decide (e.key = k')) = l.find? (fun e => decide (e.key = k')) := by
         intro l
         induction l with
         | nil => intro i e h; simp at h
         | cons a l ih =>
           intro i e h hne
           cases i with
           | zero =>
             obtain rfl : a = e := by simpa using h
             have : decide (a.key = k') = false := by simpa using fun h => hne h.symm
             simp [List.find?_cons, this]
           | succ i =>
             have h' : l[i]? = some e := by simpa using h
             simp only [List.modify_succ_cons, List.find?_cons, ih i e h' hne]
       exact hgen es i e hie hkk
     simp [gK, hfe]
end
def Ml {α : Type} [Rp α] (γ : aM) (i : Nat) (w : World) (v : Value) (L : (Int × Int) → List α) : Prop :=
  ∃ F : (Int × Int) → Value, Vp γ (row i 0) w v F ∧ ∀ q, Ow γ (row i (gu q + 1)) (row i (gu q + 1)) w (F q) (L q)
def st {α : Type} [Rp α] (γ : aM) (i : Nat) (w : World) (v : Value) (L : (Int × Int) → List α) (s : Int) (k : Int × Int) : Prop :=
  ∃ F : (Int × Int) → Value, tV γ (row i 0) w v F s k ∧ ∀ q, q ≠ k → Ow γ (row i (gu q + 1)) (row i (gu q + 1)) w (F q) (L q)
section
variable {α : Type} [Rp α] {γ γ' : aM} {i : Nat} {w w' : World} {v : Value} {L : (Int × Int) → List α} {s : Int} {k : Int × Int}
theorem Ml.chg {J : cq → Prop} (h : Ml γ i w v L) (hc : aL J γ w γ' w') (hJ : ∀ c, is i c → ¬ J c) : Ml γ' i w' v L := by
 obtain ⟨F, h1, h2⟩ := h
 exact ⟨F, h1.chg hc fun c h => hJ c (d7 c h), fun q => (h2 q).chg hc (fun c h => hJ c (d7 c h)) (fun c h => hJ c (d7 c h))⟩
theorem st.chg {J : cq → Prop} (h : st γ i w v L s k) (hc : aL J γ w γ' w') (hJ : ∀ c, is i c → ¬ J c) : st γ' i w' v L s k := by
 obtain ⟨F, h1, h2⟩ := h
 exact ⟨F, h1.chg hc fun c h => hJ c (d7 c h), fun q hq => (h2 q hq).chg hc (fun c h => hJ c (d7 c h)) (fun c h => hJ c (d7 c h))⟩
theorem st.rowchg (h : st γ i w v L s k) (hc : aL (row i (gu k + 1)) γ w γ' w') : st γ' i w' v L s k := by
 obtain ⟨F, h1, h2⟩ := h
 refine ⟨F, h1.chg hc (cO (by omega)), fun q hq => ?_⟩
 have : gu q + 1 ≠ gu k + 1 := fun e => hq (pH (by omega))
 exact (h2 q hq).chg hc (cO this) (cO this)
theorem tm [Fl α] (h : Ml γ i w v L) (k : Int × Int) : ∃ F : (Int × Int) → Value, Vp γ (row i 0) w v F ∧ Sl γ (is i) w (F k) (L k) := by
  obtain ⟨F, h1, h2⟩ := h
  exact ⟨F, h1, (h2 k).row_sl⟩
variable {P : Program} {f : Fr} {dst : Option Tmp} {ty : TypeId} {pos : String} {after : Array Edge} {g : Option (Nat × Bool)} {t : TypeId} {x y z : Operand} {N : Value → World → Prop}
theorem ms (γ : aM) (i : Nat) (hk : ∀ γ' w' v, aL no γ w γ' w' → Ml (α := α) γ' i w' v (fun _ => []) → N v w') : fM P ⟨dst, .makeMap t none, ty, pos, after, g⟩ f w N := by
 refine aI (v := .map (some w.heap.size)) (w' := w.alloc (.map #[] 0)) (by simp [execOp, Instr.makeMap]) (hk (gw γ w.heap.size (i, 0)) _ _ (fu γ w _ (i, 0)) ⟨fun _ => .slice none 0 0, ⟨w.heap.size, [], 0, rfl, by simp [gw, row], by rw [dr]; rfl, ⟨by simp, by simp, by simp⟩, ?_⟩, fun q => Ow.nil⟩)
 funext k; simp [gK]
theorem kH {u : Value} {kt et size bytes : Nat} {agg : Bool} (k : Int × Int) (ht : P.underlying t = some (.map kt et)) (hk : nl P kt (Int × Int)) (he : Tp P et agg size bytes (.slice none 0 0)) (hx : ev f x = v) (hm : Ml γ i w v L) (hy : ev f y = u) (hu : u = Ky.val k)
   (hn : ∀ w' s q, aL (row i 0) γ w γ w' → st γ i w' v L s k → Ow γ (row i (gu k + 1)) (row i (gu k + 1)) w' q (L k) → N (.tuple (List.toArray [q, .int .i64 s])) w') : fM P ⟨dst, .mapEntry t x y, ty, pos, after, g⟩ f w N := by
 obtain ⟨F, h1, h2⟩ := hm
 refine kP k ht hk he hx h1 hy hu fun w' s hc hv => hn w' s (F k) hc ⟨F, hv, fun q _ => (h2 q).chg hc (cO (by omega)) (cO (by omega))⟩ ((h2 k).chg hc (cO (by omega)) (cO (by omega)))
theorem jx {m : Value} {l : List α} (hx : ev f x = v) (hm : st γ i w v L s k) (hy : ev f y = .int .i64 s) (hz : ev f z = m) (ho : Ow γ (row i (gu k + 1)) (row i (gu k + 1)) w m l)
   (hn : ∀ w', aL (row i 0) γ w γ w' → Ml γ i w' v (fun q => if q = k then l else L q) → N undef w') : fM P ⟨dst, .entryStore t x y z, ty, pos, after, g⟩ f w N := by
 obtain ⟨F, h1, h2⟩ := hm
 refine jy hx h1 hy hz fun w' hc hv => hn w' hc ⟨_, hv, fun q => ?_⟩
 by_cases e : q = k
 · subst e
   simp only [if_true]
   exact ho.chg hc (cO (by omega)) (cO (by omega))
 · simp only [if_neg e]
   exact (h2 q e).chg hc (cO (by omega)) (cO (by omega))
end
end TL
namespace TL
open Go
section
variable {α : Type} [Rp α] {γ γ' : aM} {w w' : World} {v : Value} {L : List Nat} {j k : Nat} {F : (Int × Int) → List α}
theorem Ml.ca (h : Ml γ j w v F) (hc : aL (bM L) γ w γ' w') (hj : L.contains j = false := by exact rfl) : Ml γ' j w' v F := h.chg hc (bg hj)
theorem Ml.ce (h : Ml γ j w v F) (hc : aL (is k) γ w γ' w') (hj : Nat.beq j k = false := by exact rfl) : Ml γ' j w' v F := h.chg hc (cJ hj)
theorem Ml.cn (h : Ml γ j w v F) (hc : aL no γ w γ' w') : Ml γ' j w' v F := h.chg hc (bk _)
end
end TL
