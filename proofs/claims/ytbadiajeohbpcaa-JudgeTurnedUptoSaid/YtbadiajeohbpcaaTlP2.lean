/- Plain texts of this claim, part 2. By an AI agent. -/
import Derived.Test.YtbadiajeohbpcaaTlP1
import Derived.Carry
import Derived.Deep.Slices
import Derived.Lib.SmallJoins
import Derived.RowKit
import Derived.Shelf.SlSortCmp.Whole1
/-
  TlJudge: plots: their flaws, as the code and the document gather them.
  By an AI agent.
-/
set_option linter.all false
namespace TL
abbrev j6 := Int × Int × Int
abbrev dp := List Pt × List (List Pt)
def bj {β : Type} (f : Nat → List β) : Nat → List β
  | 0 => []
  | k + 1 => bj f k ++ f k
section
variable {β : Type} {f h : Nat → List β} {k n : Nat} {x : β} {F B : List β}
theorem c9 : ∀ {k : Nat}, bj f k = [] ↔ ∀ j, j < k → f j = []
 | 0 => by simp [bj]
 | k + 1 => by
   rw [bj, List.append_eq_nil_iff, c9]
   constructor
   · rintro ⟨h1, h2⟩ j hj
     by_cases e : j = k
     · subst e; exact h2
     · exact h1 j (by omega)
   · intro h
     exact ⟨fun j hj => h j (by omega), h k (by omega)⟩
theorem ef (hf : ∀ j, j < k → f j = []) : bj f k = [] := c9.2 hf
theorem dJ : ∀ {k : Nat}, (∀ j, j < k → f j = h j) → bj f k = bj h k
 | 0, _ => rfl
 | k + 1, e => by rw [bj, bj, dJ (fun j hj => e j (by omega)), e k (by omega)]
theorem jH {c : Nat} : ∀ {k : Nat}, (∀ j, j < k → (f j).length ≤ c) → (bj f k).length ≤ k * c
 | 0, _ => by simp [bj]
 | k + 1, e => by
   have h1 := jH (k := k) fun j hj => e j (by omega)
   have h2 := e k (by omega)
   rw [bj, List.length_append, Nat.succ_mul]
   omega
theorem cI (e : ∀ j, (f j).length ≤ 1) : (bj f k).length ≤ k := by
 have := jH (f := f) (k := k) (c := 1) fun j _ => e j
 omega
theorem fM {c : Nat} (hk : k ≤ 3072) (hc : c ≤ 3072) (e : ∀ j, (f j).length ≤ c) : (bj f k).length ≤ 9437184 := by
 have h1 := jH (f := f) (k := k) (c := c) fun j _ => e j
 have h2 : k * c ≤ 3072 * 3072 := Nat.mul_le_mul hk hc
 omega
theorem fh (hF : F = B ++ bj f k) (hf : f k = [x]) : F ++ [x] = B ++ bj f (k + 1) := by rw [hF, bj, hf, List.append_assoc]
theorem gm (hF : F = B ++ bj f k) (hf : f k = []) : F = B ++ bj f (k + 1) := by rw [hF, bj, hf, List.append_nil]
theorem kH (hF : F = bj f k) (hf : f k = [x]) : F ++ [x] = bj f (k + 1) := by rw [hF, bj, hf]
theorem mq (hF : F = bj f k) (hf : f k = []) : F = bj f (k + 1) := by rw [hF, bj, hf, List.append_nil]
theorem mF (hF : F = (B ++ bj f k) ++ f k) : F = B ++ bj f (k + 1) := by rw [hF, bj, List.append_assoc]
end
def fl {β : Type} (p : Prop) [Decidable p] (x : β) : List β := if p then [x] else []
section
variable {β : Type} {p : Prop} [Decidable p] {x : β}
theorem dg (h : p) : fl p x = [x] := if_pos h
theorem cW (h : ¬ p) : fl p x = [] := if_neg h
theorem eo : (fl p x).length ≤ 1 := by unfold fl; split <;> simp
theorem fk : fl p x = [] ↔ ¬ p := by unfold fl; split <;> simp_all
theorem oL {y : β} : y ∈ fl p x ↔ p ∧ y = x := by unfold fl; split <;> simp_all
end
def ti (l : List Pt) : Prop := 2 ≤ (l.length : Int) ∧ d7 l
instance (l : List Pt) : Decidable (ti l) := by unfold ti; infer_instance
def h8 (p : dp) (v : Nat) : List j6 := fl (¬ c5 (gI p.1 (v : Int))) (2, (v : Int), 0)
def j0 (p : dp) (e : Nat) : List j6 := fl (¬ ti (gI p.2 (e : Int))) (3, (e : Int), 0)
def bP (g : dd) (p : dp) : List j6 :=
 if (p.1.length : Int) = g.1 ∧ (p.2.length : Int) = g.2.length then bj (h8 p) p.1.length ++ bj (j0 p) p.2.length else [(1, 0, 0)]
def mW (p : dp) (v w : Nat) : List j6 := fl (v < w ∧ gI p.1 (v : Int) = gI p.1 (w : Int)) (4, (v : Int), (w : Int))
def bW (p : dp) : List j6 := bj (fun v => bj (mW p v) p.1.length) p.1.length
def gj (g : dd) (p : dp) (e : Int) : Prop := gI (gI p.2 e) 0 = gI p.1 (gI g.2 e).1 ∧ gI (gI p.2 e) (((gI p.2 e).length : Int) - 1) = gI p.1 (gI g.2 e).2
instance (g : dd) (p : dp) (e : Int) : Decidable (gj g p e) := by unfold gj; infer_instance
def cG (g : dd) (p : dp) (e : Nat) : List j6 := fl (¬ gj g p (e : Int)) (5, (e : Int), 0)
def dZ (p : dp) (e : Nat) : List j6 := fl (¬ gp (gI p.2 (e : Int))) (6, (e : Int), 0)
def dj (g : dd) (p : dp) : List j6 := bj (cG g p) p.2.length ++ bj (dZ p) p.2.length
def dQ (l : List Pt) (q : Pt) : Prop := ∃ s ∈ kY l (l.length - 1), bG s.1 s.2 q
instance (l : List Pt) (q : Pt) : Decidable (dQ l q) := by unfold dQ; infer_instance
def e8 (g : dd) (p : dp) (e v : Nat) : List j6 := fl (((v : Int) ≠ (gI g.2 (e : Int)).1 ∧ (v : Int) ≠ (gI g.2 (e : Int)).2) ∧ dQ (gI p.2 (e : Int)) (gI p.1 (v : Int))) (7, (e : Int), (v : Int))
def de (g : dd) (p : dp) : List j6 := bj (fun e => bj (e8 g p e) p.1.length) p.2.length
def gW (g : dd) (p : dp) (e f : Int) : List Pt :=
  fl ((gI g.2 e).1 ∈ [(gI g.2 f).1, (gI g.2 f).2]) (gI p.1 (gI g.2 e).1) ++ fl ((gI g.2 e).2 ∈ [(gI g.2 f).1, (gI g.2 f).2]) (gI p.1 (gI g.2 e).2)
def cr (s t : Sg) (but : List Pt) : Prop := aP s.1 s.2 t.1 t.2 = 0 ∨ (aP s.1 s.2 t.1 t.2 = 1 ∨ aP s.1 s.2 t.1 t.2 = 2) ∧ ∃ x ∈ but, dP s.1 s.2 t.1 t.2 x
instance (s t : Sg) (but : List Pt) : Decidable (cr s t but) := by unfold cr; infer_instance
def go (a b but : List Pt) : Prop := ∀ s ∈ kY a (a.length - 1), ∀ t ∈ kY b (b.length - 1), cr s t but
instance (a b but : List Pt) : Decidable (go a b but) := by unfold go; infer_instance
def dI (g : dd) (p : dp) (e f : Nat) : List j6 := fl (e < f ∧ ¬ go (gI p.2 (e : Int)) (gI p.2 (f : Int)) (gW g p (e : Int) (f : Int))) (8, (e : Int), (f : Int))
def jN (g : dd) (p : dp) : List j6 := bj (fun e => bj (dI g p e) p.2.length) p.2.length
def bZ (g : dd) (p : dp) : List j6 :=
 if bP g p = [] then bW p ++ dj g p ++ (if dj g p = [] then de g p ++ jN g p else []) else bP g p
def aO (g : dd) (p : dp) : List j6 × Int := if c8 g then (bZ g p, 0) else ([], 1)
section
variable {g : dd} {p : dp}
structure tq (g : dd) (p : dp) : Prop where
  n : (p.1.length : Int) = g.1
  m : (p.2.length : Int) = g.2.length
  pt : ∀ v : Int, 0 ≤ v → v < p.1.length → c5 (gI p.1 v)
  ln : ∀ e : Int, 0 ≤ e → e < p.2.length → 2 ≤ ((gI p.2 e).length : Int) ∧ d7 (gI p.2 e)
theorem eI : bP g p = [] ↔ tq g p := by
 unfold bP
 by_cases c : (p.1.length : Int) = g.1 ∧ (p.2.length : Int) = g.2.length
 · rw [if_pos c, List.append_eq_nil_iff, c9, c9]
   constructor
   · rintro ⟨h1, h2⟩
     refine ⟨c.1, c.2, fun v h0 hv => ?_, fun e h0 he => ?_⟩
     · have := h1 v.toNat (by omega)
       unfold h8 at this
       rw [fk, Int.toNat_of_nonneg h0] at this
       exact Classical.not_not.1 this
     · have := h2 e.toNat (by omega)
       unfold j0 at this
       rw [fk, Int.toNat_of_nonneg h0] at this
       exact Classical.not_not.1 this
   · intro h
     exact ⟨fun v hv => fk.2 (Classical.not_not.2 (h.pt _ (by omega) (by omega))), fun e he => fk.2 (Classical.not_not.2 (h.ln _ (by omega) (by omega)))⟩
 · rw [if_neg c]
   exact ⟨fun h => by simp at h, fun h => absurd ⟨h.n, h.m⟩ c⟩
theorem jM (v : Nat) : (h8 p v).length ≤ 1 := eo
theorem lR (v : Nat) : (j0 p v).length ≤ 1 := eo
theorem nT (u v : Nat) : (mW p u v).length ≤ 1 := eo
theorem kI (v : Nat) : (cG g p v).length ≤ 1 := eo
theorem oG (v : Nat) : (dZ p v).length ≤ 1 := eo
theorem jo (u v : Nat) : (e8 g p u v).length ≤ 1 := eo
theorem iD (u v : Nat) : (dI g p u v).length ≤ 1 := eo
theorem iR (hm : c8 g) : ((bP g p).length : Int) ≤ 5000 := by
 obtain ⟨_, h2, h3, _⟩ := hm
 unfold bP
 split
 · rename_i c
   have l1 := cI (f := h8 p) (k := p.1.length) jM
   have l2 := cI (f := j0 p) (k := p.2.length) lR
   rw [List.length_append]; omega
 · simp
end
end TL
namespace TL
theorem iL {a b p : Pt} (ha : c5 a) (hb : c5 b) (hp : c5 p) : (dO a b p).1 = decide (bG a b p) := by
 unfold dO; rw [if_pos ⟨ha, hb, hp⟩]
theorem nR {a b c d : Pt} (ha : c5 a) (hb : c5 b) (hc : c5 c) (hd : c5 d) : (cL a b c d).1 = aP a b c d := by
 unfold cL; rw [if_pos ⟨⟨ha, hb⟩, hc, hd⟩]
section
variable {l : List Pt} {p : Pt} {i : Nat}
theorem gx : dQ l p ↔ ∃ j : Nat, j + 1 < l.length ∧ bG (gI l (j : Int)) (gI l ((j : Int) + 1)) p := by
 unfold dQ
 constructor
 · rintro ⟨s, hs, h⟩
   obtain ⟨j, hj, rfl⟩ := em.1 hs
   exact ⟨j, by omega, h⟩
 · rintro ⟨j, hj, h⟩
   exact ⟨_, em.2 ⟨j, by omega, rfl⟩, h⟩
theorem nA {b : Bool} (h : 1 ≤ i ∧ ∀ j : Nat, j + 1 < i → ¬ bG (gI l (j : Int)) (gI l ((j : Int) + 1)) p) (he : b = decide (bG (gI l ((i : Int) - 1)) (gI l (i : Int)) p)) (hb : ¬ b = true) : 1 ≤ i + 1 ∧ ∀ j : Nat, j + 1 < i + 1 → ¬ bG (gI l (j : Int)) (gI l ((j : Int) + 1)) p := by
 refine ⟨by omega, fun j hj => ?_⟩
 by_cases e : j + 1 = i
 · rw [he] at hb
   have e1 : (j : Int) = (i : Int) - 1 := by omega
   have e2 : (j : Int) + 1 = (i : Int) := by omega
   rw [e2, e1]
   simpa using hb
 · exact h.2 j (by omega)
theorem oz {b : Bool} (h1 : 1 ≤ i) (hi : (i : Int) < l.length) (he : b = decide (bG (gI l ((i : Int) - 1)) (gI l (i : Int)) p)) (hb : b = true) : true = decide (dQ l p) := by
 refine (decide_eq_true (gx.2 ⟨i - 1, by omega, ?_⟩)).symm
 rw [he] at hb
 have e1 : ((i - 1 : Nat) : Int) = (i : Int) - 1 := by omega
 rw [e1, show (i : Int) - 1 + 1 = (i : Int) by omega]
 exact of_decide_eq_true hb
theorem rx (h : 1 ≤ i ∧ ∀ j : Nat, j + 1 < i → ¬ bG (gI l (j : Int)) (gI l ((j : Int) + 1)) p) (hi : ¬ (i : Int) < l.length) : false = decide (dQ l p) := by
 refine (decide_eq_false fun ho => ?_).symm
 obtain ⟨j, hj, hb⟩ := gx.1 ho
 exact h.2 j (by omega) hb
end
section
variable {a b c d : Pt} {but : List Pt} {k : Nat} {m : Int}
theorem gD {x : Pt} {u v : Bool} (h1 : u = decide (bG a b x)) (h2 : v = decide (bG c d x)) (h : ¬ u = true ∨ ¬ v = true) : ¬ dP a b c d x := by
 rintro ⟨q1, q2⟩
 rcases h with h | h
 · exact h (h1.trans (decide_eq_true q1))
 · exact h (h2.trans (decide_eq_true q2))
theorem nv (hm : m = aP a b c d) (h : m = 0) : true = decide (cr (a, b) (c, d) but) := (decide_eq_true (.inl (hm.symm.trans h))).symm
theorem kw {u v : Bool} (hm : m = aP a b c d) (h : m = 1 ∨ m = 2) (hk : (k : Int) < but.length) (h1 : u = decide (bG a b (gI but (k : Int)))) (h2 : v = decide (bG c d (gI but (k : Int)))) (q1 : u = true) (q2 : v = true) : true = decide (cr (a, b) (c, d) but) :=
 (decide_eq_true (.inr ⟨by rw [← hm]; exact h, _, bf (by omega) hk, of_decide_eq_true (h1 ▸ q1), of_decide_eq_true (h2 ▸ q2)⟩)).symm
theorem jj (hm : m = aP a b c d) (h0 : ¬ m = 0) (h : ∀ j : Nat, j < k → ¬ dP a b c d (gI but (j : Int))) (hk : ¬ (k : Int) < but.length) : false = decide (cr (a, b) (c, d) but) := by
 refine (decide_eq_false ?_).symm
 rintro (e | ⟨_, x, hx, hb⟩)
 · exact h0 (hm.trans e)
 · obtain ⟨j, hj, rfl⟩ := List.mem_iff_getElem.1 hx
   refine h j (by omega) ?_
   have e : gI but (j : Int) = but[j] := by unfold gI; rw [Int.toNat_natCast, List.getD_eq_getElem?_getD, List.getElem?_eq_getElem hj]; rfl
   rw [e]; exact hb
theorem qq (hm : m = aP a b c d) (h0 : ¬ m = 0) (h1 : ¬ m = 1) (h2 : ¬ m = 2) : false = decide (cr (a, b) (c, d) but) := by
 refine (decide_eq_false ?_).symm
 rintro (e | ⟨e | e, _⟩)
 · exact h0 (hm.trans e)
 · exact h1 (hm.trans e)
 · exact h2 (hm.trans e)
end
def dS (p : dp) (h : Int) : Pt := if h % 2 = 0 then gI (gI p.2 (h / 2)) 1 else gI (gI p.2 (h / 2)) (((gI p.2 (h / 2)).length : Int) - 2)
def fp (u v : Pt) : Int := u.1 * v.1 + u.2 * v.2
def cH (u v : Pt) : Prop := cM u v = 0 ∧ 0 < fp u v
instance (u v : Pt) : Decidable (cH u v) := by unfold cH; infer_instance
theorem oB {o a : Pt} (ho : c5 o) (ha : c5 a) : (-2097152 ≤ a.1 - o.1 ∧ a.1 - o.1 ≤ 2097152) ∧ -2097152 ≤ a.2 - o.2 ∧ a.2 - o.2 ≤ 2097152 := by
 unfold c5 at ho ha; omega
end TL
namespace TL
theorem sf {o a b : Pt} (h : (a.1 - o.1) * (b.2 - o.2) = (a.2 - o.2) * (b.1 - o.1)) : decide (0 < (a.1 - o.1) * (b.1 - o.1) + (a.2 - o.2) * (b.2 - o.2)) = decide (cH (aQ a o) (aQ b o)) := by
 rw [decide_eq_decide]
 unfold cH cM fp aQ
 simp only
 omega
theorem sK {o a b : Pt} (h : ¬ (a.1 - o.1) * (b.2 - o.2) = (a.2 - o.2) * (b.1 - o.1)) : false = decide (cH (aQ a o) (aQ b o)) := by
 refine (decide_eq_false ?_).symm
 unfold cH cM fp aQ
 simp only
 omega
end TL
namespace TL
section
variable {g : dd} {p : dp} {F G B : List j6} {v e k i : Nat}
theorem nV (h : decide (d7 [gI p.1 (v : Int)]) = true) : h8 p v = [] := cW (Classical.not_not.2 ((of_decide_eq_true h).2 _ (by simp)))
theorem pi (h : ¬ decide (d7 [gI p.1 (v : Int)]) = true) : h8 p v = [(2, (v : Int), 0)] :=
 dg fun ho => h (decide_eq_true ⟨by simp, fun x hx => by obtain rfl := List.mem_singleton.1 hx; exact ho⟩)
theorem rL (h : (((gI p.2 (e : Int)).length : Nat) : Int) < 2) : j0 p e = [(3, (e : Int), 0)] := dg fun ho => by have := ho.1; omega
theorem rR (h : ¬ decide (d7 (gI p.2 (e : Int))) = true) : j0 p e = [(3, (e : Int), 0)] := dg fun ho => h (decide_eq_true ho.2)
theorem rT (h0 : ¬ (((gI p.2 (e : Int)).length : Nat) : Int) < 2) (h : decide (d7 (gI p.2 (e : Int))) = true) : j0 p e = [] := cW fun ho => ho ⟨by omega, of_decide_eq_true h⟩
theorem kB {β : Type} {f h : Nat → List β} {F : List β} {k n : Nat} (hF : F = bj f k) (hk : k = n) : F = bj f n ++ bj h 0 := by
 subst hk; rw [hF]; simp [bj]
theorem sa (h : ¬ ((p.1.length : Nat) : Int) = g.1) : [(1, 0, 0)] = bP g p := by unfold bP; rw [if_neg fun c => h c.1]
theorem rX (h : ¬ ((p.2.length : Nat) : Int) = (g.2.length : Int)) : [(1, 0, 0)] = bP g p := by unfold bP; rw [if_neg fun c => h c.2]
theorem rN (h1 : ((p.1.length : Nat) : Int) = g.1) (h2 : ((p.2.length : Nat) : Int) = (g.2.length : Int)) (hG : G = bj (h8 p) p.1.length ++ bj (j0 p) e) (he : e = p.2.length) : G = bP g p := by
 unfold bP; rw [if_pos ⟨h1, h2⟩, hG, he]
theorem mC (hF : F = bj (h8 p) v) : F.length ≤ v := by rw [hF]; exact cI jM
theorem mJ (hF : F = bj (h8 p) v ++ bj (j0 p) e) : F.length ≤ v + e := by
 rw [hF, List.length_append]
 have l1 := cI (f := h8 p) (k := v) jM
 have l2 := cI (f := j0 p) (k := e) lR
 omega
theorem nQ (hF : F = bP g p) (h : 0 < (F.length : Int)) : F = bZ g p := by
 unfold bZ
 rw [← hF, if_neg]
 intro e; subst e; simp at h
theorem pE (hF : F = bP g p) (h : ¬ 0 < (F.length : Int)) : F = [] ∧ bP g p = [] ∧ tq g p := by
 have : F = [] := List.eq_nil_of_length_eq_zero (by omega)
 have h2 : bP g p = [] := hF ▸ this
 exact ⟨this, h2, eI.1 h2⟩
def iZ (l : List Pt) (q : Pt) (k : Nat) : List Int := bj (fun j => fl (gI l (j : Int) = q) (j : Int)) k
theorem mb (l : List Pt) (q : Pt) (k : Nat) : (iZ l q k).length ≤ k := cI fun j => eo
theorem ow {l : List Pt} {first : Pt → List Int} {k : Nat} (h : first = fun q => iZ l q k) : (fun q => if q = gI l (k : Int) then first (gI l (k : Int)) ++ [(k : Int)] else first q) = fun q => iZ l q (k + 1) := by
 funext q
 rw [h]
 simp only [iZ, bj]
 by_cases e : q = gI l (k : Int)
 · subst e
   rw [if_pos rfl, dg rfl]
 · rw [if_neg e, cW (fun h => e h.symm), List.append_nil]
def fZ (v : Nat) (u : Int) : List j6 := fl ((v : Int) < u) (4, (v : Int), u)
theorem qc {k : Nat} : (iZ p.1 (gI p.1 (v : Int)) k).flatMap (fZ v) = bj (mW p v) k := by
 induction k with
 | zero => rfl
 | succ k ih =>
   have e1 : iZ p.1 (gI p.1 (v : Int)) (k + 1) = iZ p.1 (gI p.1 (v : Int)) k ++ fl (gI p.1 (k : Int) = gI p.1 (v : Int)) (k : Int) := rfl
   rw [e1, List.flatMap_append, ih, bj]
   congr 1
   unfold mW fZ
   by_cases c : gI p.1 (k : Int) = gI p.1 (v : Int)
   · rw [dg c, List.flatMap_cons]
     simp only [List.flatMap_nil, List.append_nil]
     by_cases c2 : v < k
     · rw [dg (by omega), dg ⟨c2, c.symm⟩]
     · rw [cW (by omega), cW (fun h => c2 h.1)]
   · rw [cW c, cW (fun h => c h.2.symm)]; rfl
def eM (p : dp) (v : Nat) : List j6 := bj (mW p v) p.1.length
theorem oP {l : List Int} (hF : F = bj (eM p) v) : F = bj (eM p) v ++ (l.take 0).flatMap (fZ v) := by rw [hF]; simp
theorem pH {l : List Int} (hG : G = bj (eM p) v ++ (l.take i).flatMap (fZ v)) (hi : (i : Int) < l.length) (h : (v : Int) < gI l (i : Int)) : G ++ [(4, (v : Int), gI l (i : Int))] = bj (eM p) v ++ (l.take (i + 1)).flatMap (fZ v) := by
 rw [bC hi, List.flatMap_append, hG]
 simp [fZ, dg h]
theorem sd {l : List Int} (hG : G = bj (eM p) v ++ (l.take i).flatMap (fZ v)) (hi : (i : Int) < l.length) (h : ¬ (v : Int) < gI l (i : Int)) : G = bj (eM p) v ++ (l.take (i + 1)).flatMap (fZ v) := by
 rw [bC hi, List.flatMap_append, hG]
 simp [fZ, cW h]
theorem pB {first : Pt → List Int} {n : Nat} (hf : first = fun q => iZ p.1 q n) (hn : n = p.1.length) (hG : G = bj (eM p) v ++ ((first (gI p.1 (v : Int))).take i).flatMap (fZ v)) (hi : ¬ (i : Int) < (first (gI p.1 (v : Int))).length) : G = bj (eM p) (v + 1) := by
 rw [List.take_of_length_le (by omega), hf] at hG
 simp only at hG
 rw [qc, hn] at hG
 exact hG
theorem km (v : Nat) : (eM p v).length ≤ p.1.length := cI (nT v)
theorem qJ {l : List Int} (hn : p.1.length ≤ 1024) (hv : v ≤ 1024) (hG : G = bj (eM p) v ++ (l.take i).flatMap (fZ v)) (hl : l.length ≤ 1024) : G.length ≤ 9440000 := by
 have l1 := fM (f := eM p) (k := v) (c := 1024) (by omega) (by omega) fun j => Nat.le_trans (km j) hn
 have l2 : ∀ m : List Int, (m.flatMap (fZ v)).length ≤ m.length := fun m => by
   induction m with
   | nil => simp
   | cons a m ih =>
     have h1 : (fZ v a).length ≤ 1 := eo
     rw [List.flatMap_cons, List.length_append, List.length_cons]; omega
 have l3 := l2 (l.take i)
 rw [List.length_take] at l3
 rw [hG, List.length_append]; omega
theorem t8 (hn : p.1.length ≤ 1024) (hv : v ≤ 1024) (hG : G = bj (eM p) v) : G.length ≤ 9440000 := by
 have l1 := fM (f := eM p) (k := v) (c := 1024) (by omega) (by omega) fun j => Nat.le_trans (km j) hn
 rw [hG]; omega
theorem pw : bW p = bj (eM p) p.1.length := rfl
theorem jr (hn : p.1.length ≤ 1024) : (bW p).length ≤ 9440000 := t8 hn hn rfl
theorem nh (hF : F = bj (eM p) v) (hv : v = p.1.length) : F = bW p ++ bj (cG g p) 0 ∧ true = decide (bj (cG g p) 0 = []) := by
 subst hv; rw [hF, pw]; simp [bj]
theorem kg {b : Bool} (h : F = bW p ++ bj (cG g p) e ∧ b = decide (bj (cG g p) e = [])) (hn : ¬ gj g p (e : Int)) : F ++ [(5, (e : Int), 0)] = bW p ++ bj (cG g p) (e + 1) ∧ false = decide (bj (cG g p) (e + 1) = []) := by
 have hx : cG g p e = [(5, (e : Int), 0)] := dg hn
 exact ⟨fh h.1 hx, (decide_eq_false (by rw [bj, hx]; simp)).symm⟩
theorem qt {b : Bool} (h : F = bW p ++ bj (cG g p) e ∧ b = decide (bj (cG g p) e = [])) (hn : gj g p (e : Int)) : F = bW p ++ bj (cG g p) (e + 1) ∧ b = decide (bj (cG g p) (e + 1) = []) := by
 have hx : cG g p e = [] := cW (Classical.not_not.2 hn)
 refine ⟨gm h.1 hx, ?_⟩
 rw [h.2, bj, hx, List.append_nil]
theorem oH (hn : p.1.length ≤ 1024) (he : e ≤ 3072) (h : F = bW p ++ bj (cG g p) e) : F.length ≤ 9500000 := by
 have l1 := jr hn
 have l2 := cI (f := cG g p) (k := e) kI
 rw [h, List.length_append]; omega
theorem om {b : Bool} (h : F = bW p ++ bj (cG g p) e ∧ b = decide (bj (cG g p) e = [])) (he : e = p.2.length) : F = bW p ++ (bj (cG g p) p.2.length ++ bj (dZ p) 0) ∧ b = decide (bj (cG g p) p.2.length ++ bj (dZ p) 0 = []) := by
 subst he; simpa [bj] using h
theorem oe {b : Bool} (h : F = bW p ++ (bj (cG g p) p.2.length ++ bj (dZ p) e) ∧ b = decide (bj (cG g p) p.2.length ++ bj (dZ p) e = [])) (hn : ¬ gp (gI p.2 (e : Int))) : F ++ [(6, (e : Int), 0)] = bW p ++ (bj (cG g p) p.2.length ++ bj (dZ p) (e + 1)) ∧ false = decide (bj (cG g p) p.2.length ++ bj (dZ p) (e + 1) = []) := by
 have hx : dZ p e = [(6, (e : Int), 0)] := dg hn
 refine ⟨?_, (decide_eq_false (by rw [bj, hx]; simp)).symm⟩
 rw [h.1, bj, hx]; simp
theorem rE {b : Bool} (h : F = bW p ++ (bj (cG g p) p.2.length ++ bj (dZ p) e) ∧ b = decide (bj (cG g p) p.2.length ++ bj (dZ p) e = [])) (hn : gp (gI p.2 (e : Int))) : F = bW p ++ (bj (cG g p) p.2.length ++ bj (dZ p) (e + 1)) ∧ b = decide (bj (cG g p) p.2.length ++ bj (dZ p) (e + 1) = []) := by
 have hx : dZ p e = [] := cW (Classical.not_not.2 hn)
 rw [bj, hx, List.append_nil]; exact h
theorem lM (hn : p.1.length ≤ 1024) (hm : p.2.length ≤ 3072) (he : e ≤ 3072) (h : F = bW p ++ (bj (cG g p) p.2.length ++ bj (dZ p) e)) : F.length ≤ 9500000 := by
 have l1 := jr hn
 have l2 := cI (f := cG g p) (k := p.2.length) kI
 have l3 := cI (f := dZ p) (k := e) oG
 rw [h, List.length_append, List.length_append]; omega
theorem jm {b : Bool} (h : F = bW p ++ (bj (cG g p) p.2.length ++ bj (dZ p) e) ∧ b = decide (bj (cG g p) p.2.length ++ bj (dZ p) e = [])) (he : e = p.2.length) : F = bW p ++ dj g p ∧ b = decide (dj g p = []) := by
 subst he; exact h
def cP (g : dd) (p : dp) : List j6 := bW p ++ dj g p
theorem ky (hn : p.1.length ≤ 1024) (hm : p.2.length ≤ 3072) : (cP g p).length ≤ 9500000 := lM hn hm hm rfl
def gu (g : dd) (p : dp) (e : Nat) : List j6 := bj (e8 g p e) p.1.length
def gG (g : dd) (p : dp) (e : Nat) : List j6 := bj (dI g p e) p.2.length
theorem kG (e : Nat) : (gu g p e).length ≤ p.1.length := cI (jo e)
theorem px (e : Nat) : (gG g p e).length ≤ p.2.length := cI (iD e)
theorem lH (h : F = bW p ++ dj g p) : F = cP g p ++ bj (gu g p) 0 := by rw [h]; simp [bj, cP]
theorem nu (hn : p.1.length ≤ 1024) (hm : p.2.length ≤ 3072) (he : e ≤ 3072) (hv : v ≤ 1024) (h : G = (cP g p ++ bj (gu g p) e) ++ bj (e8 g p e) v) : G.length ≤ 20000000 := by
 have l1 := ky (g := g) hn hm
 have l2 := fM (f := gu g p) (k := e) (c := 1024) he (by omega) fun j => Nat.le_trans (kG j) hn
 have l3 := cI (f := e8 g p e) (k := v) (jo e)
 rw [h, List.length_append, List.length_append]; omega
theorem mZ (h : G = (cP g p ++ bj (gu g p) e) ++ bj (e8 g p e) v) (hv : v = p.1.length) : G = cP g p ++ bj (gu g p) (e + 1) := by
 subst hv; exact mF h
theorem lG (h : F = cP g p ++ bj (gu g p) e) (he : e = p.2.length) : F = (cP g p ++ de g p) ++ bj (gG g p) 0 := by
 subst he; rw [h]; simp [bj, de]; rfl
theorem lg (h : F = (cP g p ++ de g p) ++ bj (gG g p) e) : F = ((cP g p ++ de g p) ++ bj (gG g p) e) ++ bj (dI g p e) (e + 1) ∧ e < e + 1 := by
 refine ⟨?_, by omega⟩
 rw [ef (f := dI g p e) (k := e + 1) fun j hj => cW fun h => by omega, List.append_nil]; exact h
theorem nf (hn : p.1.length ≤ 1024) (hm : p.2.length ≤ 3072) : (de g p).length ≤ 9437184 :=
 fM (f := gu g p) (k := p.2.length) (c := 1024) (by omega) (by omega) fun j => Nat.le_trans (kG j) hn
theorem nD {f : Nat} (hn : p.1.length ≤ 1024) (hm : p.2.length ≤ 3072) (he : e ≤ 3072) (hf : f ≤ 3072) (h : G = ((cP g p ++ de g p) ++ bj (gG g p) e) ++ bj (dI g p e) f) : G.length ≤ 40000000 := by
 have l1 := ky (g := g) hn hm
 have l0 := nf (g := g) hn hm
 have l2 := fM (f := gG g p) (k := e) (c := 3072) he (by omega) fun j => Nat.le_trans (px j) hm
 have l3 := cI (f := dI g p e) (k := f) (iD e)
 rw [h, List.length_append, List.length_append, List.length_append]; omega
theorem nF {f : Nat} (h : G = ((cP g p ++ de g p) ++ bj (gG g p) e) ++ bj (dI g p e) f) (hf : f = p.2.length) : G = (cP g p ++ de g p) ++ bj (gG g p) (e + 1) := by
 subst hf; exact mF h
theorem pK (h : (v : Int) = (gI g.2 (e : Int)).1) : e8 g p e v = [] := cW fun c => c.1.1 h
theorem pV (h : (v : Int) = (gI g.2 (e : Int)).2) : e8 g p e v = [] := cW fun c => c.1.2 h
theorem qK (h : ¬ decide (dQ (gI p.2 (e : Int)) (gI p.1 (v : Int))) = true) : e8 g p e v = [] := cW fun c => h (decide_eq_true c.2)
theorem qp (h1 : ¬ (v : Int) = (gI g.2 (e : Int)).1) (h2 : ¬ (v : Int) = (gI g.2 (e : Int)).2) (h : decide (dQ (gI p.2 (e : Int)) (gI p.1 (v : Int))) = true) : e8 g p e v = [(7, (e : Int), (v : Int))] := dg ⟨⟨h1, h2⟩, of_decide_eq_true h⟩
theorem oS {b : Bool} (hs : bP g p = []) (hF : F = bW p ++ dj g p) (hb : b = decide (dj g p = [])) (h : ¬ b = true) : F = bZ g p := by
 have : ¬ dj g p = [] := fun e => h (hb.trans (decide_eq_true e))
 unfold bZ
 rw [if_pos hs, if_neg this, List.append_nil]; exact hF
theorem n4 {b : Bool} (hs : bP g p = []) (hb : b = decide (dj g p = [])) (h : b = true) (hF : F = (cP g p ++ de g p) ++ bj (gG g p) e) (he : e = p.2.length) : F = bZ g p := by
 have : dj g p = [] := of_decide_eq_true (hb ▸ h)
 subst he
 unfold bZ
 rw [if_pos hs, if_pos this, hF]
 unfold cP
 rw [List.append_assoc]; rfl
end
section
variable {g : dd} {p : dp} {e f : Int}
theorem tp (h1 : ¬ decide ((gI g.2 e).1 ∈ [(gI g.2 f).1, (gI g.2 f).2]) = true) (h2 : ¬ decide ((gI g.2 e).2 ∈ [(gI g.2 f).1, (gI g.2 f).2]) = true) : [] = gW g p e f := by
 unfold gW; rw [cW fun h => h1 (decide_eq_true h), cW fun h => h2 (decide_eq_true h)]; rfl
theorem tu (h1 : decide ((gI g.2 e).1 ∈ [(gI g.2 f).1, (gI g.2 f).2]) = true) (h2 : ¬ decide ((gI g.2 e).2 ∈ [(gI g.2 f).1, (gI g.2 f).2]) = true) : [gI p.1 (gI g.2 e).1] = gW g p e f := by
 unfold gW; rw [dg (of_decide_eq_true h1), cW fun h => h2 (decide_eq_true h)]; rfl
theorem tN (h1 : ¬ decide ((gI g.2 e).1 ∈ [(gI g.2 f).1, (gI g.2 f).2]) = true) (h2 : decide ((gI g.2 e).2 ∈ [(gI g.2 f).1, (gI g.2 f).2]) = true) : [gI p.1 (gI g.2 e).2] = gW g p e f := by
 unfold gW; rw [dg (of_decide_eq_true h2), cW fun h => h1 (decide_eq_true h)]; rfl
theorem tM (h1 : decide ((gI g.2 e).1 ∈ [(gI g.2 f).1, (gI g.2 f).2]) = true) (h2 : decide ((gI g.2 e).2 ∈ [(gI g.2 f).1, (gI g.2 f).2]) = true) : [gI p.1 (gI g.2 e).1] ++ [gI p.1 (gI g.2 e).2] = gW g p e f := by
 unfold gW; rw [dg (of_decide_eq_true h2), dg (of_decide_eq_true h1)]
theorem sv : (gW g p e f).length ≤ 2 := by
 unfold gW
 rw [List.length_append]
 have h1 : (fl ((gI g.2 e).1 ∈ [(gI g.2 f).1, (gI g.2 f).2]) (gI p.1 (gI g.2 e).1)).length ≤ 1 := eo
 have h2 : (fl ((gI g.2 e).2 ∈ [(gI g.2 f).1, (gI g.2 f).2]) (gI p.1 (gI g.2 e).2)).length ≤ 1 := eo
 omega
theorem sQ {x : Pt} : x ∈ gW g p e f ↔ ∃ v, (v = (gI g.2 e).1 ∨ v = (gI g.2 e).2) ∧ (v = (gI g.2 f).1 ∨ v = (gI g.2 f).2) ∧ x = gI p.1 v := by
 unfold gW
 rw [List.mem_append, oL, oL]
 simp only [List.mem_cons, List.not_mem_nil, or_false]
 constructor
 · rintro (⟨h1, h2⟩ | ⟨h1, h2⟩)
   · exact ⟨_, .inl rfl, h1, h2⟩
   · exact ⟨_, .inr rfl, h1, h2⟩
 · rintro ⟨v, rfl | rfl, h1, h2⟩
   · exact .inl ⟨h1, h2⟩
   · exact .inr ⟨h1, h2⟩
theorem iq (hm : c8 g) (h0 : 0 ≤ e) (h1 : e < g.2.length) : (0 ≤ (gI g.2 e).1 ∧ (gI g.2 e).1 < g.1) ∧ 0 ≤ (gI g.2 e).2 ∧ (gI g.2 e).2 < g.1 := hm.2.2.2 _ (bf h0 h1)
theorem tw (hm : c8 g) (hs : tq g p) (h0 : 0 ≤ e) (h1 : e < g.2.length) : ∀ x ∈ gW g p e f, c5 x := by
 intro x hx
 obtain ⟨v, hv, _, rfl⟩ := sQ.1 hx
 obtain ⟨⟨a1, a2⟩, a3, a4⟩ := iq hm h0 h1
 have := hs.n
 rcases hv with rfl | rfl
 · exact hs.pt _ a1 (by omega)
 · exact hs.pt _ a3 (by omega)
end
section
variable {a b but : List Pt} {i k : Nat}
theorem ii : go a b but ↔ ∀ j : Nat, j + 1 < a.length → ∀ q : Nat, q + 1 < b.length → cr (gI a (j : Int), gI a ((j : Int) + 1)) (gI b (q : Int), gI b ((q : Int) + 1)) but := by
 unfold go
 constructor
 · intro h j hj q hq
   exact h _ (em.2 ⟨j, by omega, rfl⟩) _ (em.2 ⟨q, by omega, rfl⟩)
 · intro h s hs t ht
   obtain ⟨j, hj, rfl⟩ := em.1 hs
   obtain ⟨q, hq, rfl⟩ := em.1 ht
   exact h j (by omega) q (by omega)
theorem qT (h : 1 ≤ i ∧ ∀ j : Nat, j + 1 < i → ∀ q : Nat, q + 1 < b.length → cr (gI a (j : Int), gI a ((j : Int) + 1)) (gI b (q : Int), gI b ((q : Int) + 1)) but)
   (h2 : 1 ≤ k ∧ ∀ q : Nat, q + 1 < k → cr (gI a ((i : Int) - 1), gI a (i : Int)) (gI b (q : Int), gI b ((q : Int) + 1)) but) (hk : ¬ (k : Int) < b.length) :
   1 ≤ i + 1 ∧ ∀ j : Nat, j + 1 < i + 1 → ∀ q : Nat, q + 1 < b.length → cr (gI a (j : Int), gI a ((j : Int) + 1)) (gI b (q : Int), gI b ((q : Int) + 1)) but := by
 refine ⟨by omega, fun j hj q hq => ?_⟩
 by_cases e : j + 1 = i
 · have h3 := h2.2 q (by omega)
   rw [show (j : Int) = (i : Int) - 1 by omega, show (i : Int) - 1 + 1 = (i : Int) by omega]
   exact h3
 · exact h.2 j (by omega) q hq
theorem pC (h : 1 ≤ k ∧ ∀ q : Nat, q + 1 < k → cr (gI a ((i : Int) - 1), gI a (i : Int)) (gI b (q : Int), gI b ((q : Int) + 1)) but) (ho : decide (cr (gI a ((i : Int) - 1), gI a (i : Int)) (gI b ((k : Int) - 1), gI b (k : Int)) but) = true) :
   1 ≤ k + 1 ∧ ∀ q : Nat, q + 1 < k + 1 → cr (gI a ((i : Int) - 1), gI a (i : Int)) (gI b (q : Int), gI b ((q : Int) + 1)) but := by
 refine ⟨by omega, fun q hq => ?_⟩
 by_cases e : q + 1 = k
 · rw [show (q : Int) = (k : Int) - 1 by omega, show (k : Int) - 1 + 1 = (k : Int) by omega]
   exact of_decide_eq_true ho
 · exact h.2 q (by omega)
theorem tg (h1 : 1 ≤ i) (hi : (i : Int) < a.length) (h2 : 1 ≤ k) (hk : (k : Int) < b.length) (ho : ¬ decide (cr (gI a ((i : Int) - 1), gI a (i : Int)) (gI b ((k : Int) - 1), gI b (k : Int)) but) = true) : false = decide (go a b but) := by
 refine (decide_eq_false fun h => ho (decide_eq_true ?_)).symm
 have := ii.1 h (i - 1) (by omega) (k - 1) (by omega)
 rwa [show ((i - 1 : Nat) : Int) = (i : Int) - 1 by omega, show ((k - 1 : Nat) : Int) = (k : Int) - 1 by omega, show (i : Int) - 1 + 1 = (i : Int) by omega, show (k : Int) - 1 + 1 = (k : Int) by omega] at this
theorem pZ (h : 1 ≤ i ∧ ∀ j : Nat, j + 1 < i → ∀ q : Nat, q + 1 < b.length → cr (gI a (j : Int), gI a ((j : Int) + 1)) (gI b (q : Int), gI b ((q : Int) + 1)) but) (hi : ¬ (i : Int) < a.length) : true = decide (go a b but) :=
 (decide_eq_true (ii.2 fun j hj => h.2 j (by omega))).symm
end
section
variable {g : dd} {p : dp} {e f : Nat} {b : Bool}
theorem la (hef : e < f) (hb : b = decide (go (gI p.2 (e : Int)) (gI p.2 (f : Int)) (gW g p (e : Int) (f : Int)))) (h : ¬ b = true) : dI g p e f = [(8, (e : Int), (f : Int))] :=
 dg ⟨hef, fun c => h (hb.trans (decide_eq_true c))⟩
theorem ng (hb : b = decide (go (gI p.2 (e : Int)) (gI p.2 (f : Int)) (gW g p (e : Int) (f : Int)))) (h : b = true) : dI g p e f = [] :=
 cW fun c => c.2 (of_decide_eq_true (hb ▸ h))
end
end TL
/-
  TlArr: the whole of an array that lies in a list, as a list.
  By an AI agent.
-/
set_option linter.all false
namespace TL
open Go
def nK (v : Value) (i : Nat) : Value := .slice (some (bh v 2 i)) 2 2
section
variable {P : Program} {f : Fr} {w : World} {dst : Option Tmp} {ty : TypeId} {pos : String} {after : Array Edge} {g : Option (Nat × Bool)} {t e : TypeId} {x y : Operand}
theorem fu {v : Value} {i : Nat} (ht : P.underlying t = some (.array 2 e)) (hs : (P.info? e).map (·.size) = some 1) (hx : ev f x = .pointer (some (bh v 2 i))) :
   (execOp (ev f) ⟨dst, .slice t x none none none, ty, pos, after, g⟩).run P w = .ok (.value (nK v i)) w := by
 cases hq : P.info? e with
 | none => simp [hq] at hs
 | some q =>
   have hsub : execOp (ev f) ⟨dst, .slice t x none none none, ty, pos, after, g⟩ = (do pure (.value (← Instr.sliceAt t (.pointer (some (bh v 2 i))) none none none))) := by
     simp [execOp, hx]
   rw [hsub]
   have ha : (bh v 2 i).add 0 = bh v 2 i := by rw [gY, Nat.add_zero, ← fP]
   simp [Instr.sliceAt, Instr.sureAddr, Instr.sliceBounds, aX ht, cu hq, nK, ha]
theorem ls {γ : aM} {S : ck → Prop} {v : Value} {xs : List (Int × Int)} {i : Int} (hs : Sl γ S w v xs) (h0 : 0 ≤ i) (h1 : i < xs.length) : Sl γ S w (nK v i.toNat) [(gI xs i).1, (gI xs i).2] := by
 have hg := fI h0 h1
 rcases hs with ⟨⟨_, rfl⟩, rfl⟩ | ⟨b, off, cap, rfl, _, hx⟩
 · simp at h1; omega
 · obtain ⟨hb, hS, cs, hcs, hr⟩ := hx _ _ hg
   have hr' : cs = [.int .i64 (gI xs i).1, .int .i64 (gI xs i).2] := by
     have := Fl.rep_iff.1 hr
     simpa [Fl.cells] using this
   refine .inr ⟨b, off + i.toNat * 2, 2, rfl, ⟨by simp, by simp⟩, fun j x hj => ?_⟩
   have hc0 := hcs 0 (by decide)
   have hc1 := hcs 1 (by decide)
   rw [hr'] at hc0 hc1
   have hlt : j < 2 := by have := (List.getElem?_eq_some_iff.1 hj).1; simpa using this
   rcases (by omega : j = 0 ∨ j = 1) with rfl | rfl
   · have hx0 : (gI xs i).1 = x := by simpa using hj
     refine ⟨hb, hS, [.int .i64 (gI xs i).1], fun q hq => ?_, by rw [hx0]; rfl⟩
     have : q = 0 := by have h9 : q < 1 := hq; omega
     subst this
     exact hc0
   · have hx0 : (gI xs i).2 = x := by simpa using hj
     refine ⟨hb, hS, [.int .i64 (gI xs i).2], fun q hq => ?_, by rw [hx0]; rfl⟩
     have : q = 0 := by have h9 : q < 1 := hq; omega
     subst this
     exact hc1
end
end TL
/-
  TlCyc: lists gone round: what stands behind what; rotations turned, and moved.
  By an AI agent.
-/
set_option linter.all false
namespace TL
section
variable {g : dd} {r : dR} {to : List Int}
end
theorem lD {g : dd} {r : dR} (hm : c8 g) (hrp : gZ g r) : d3 g r = (dM r, 0) := by unfold d3; rw [if_pos (jW hm hrp)]
end TL
/-
  TlOrb: going round by a permutation; two places changed; what that does to the numbers of rounds.
  By an AI agent.
-/
set_option linter.all false
namespace TL
def tr (a b x : Int) : Int := if x = a then b else if x = b then a else x
end TL
/-
  TlDual: faces as nodes: the dual, corners' faces, edges laid, taken and split, ways over faces, as plain functions.
  By an AI agent.
-/
set_option linter.all false
namespace TL
def rV (g : dd) (r : dR) (c : Int × Int) : Prop := (0 ≤ c.1 ∧ c.1 < g.1) ∧ if ((gI r c.1).length : Int) = 0 then c.2 = -1 else c.2 ∈ gI r c.1
instance (g : dd) (r : dR) (c : Int × Int) : Decidable (rV g r c) := by unfold rV; infer_instance
theorem ox {l : List Int} {x : Int} : decide (0 ≤ d5 l x) = decide (x ∈ l) := by
 unfold d5
 by_cases h : x ∈ l
 · rw [if_pos h, decide_eq_true h, decide_eq_true (by omega)]
 · rw [if_neg h, decide_eq_false h]; rfl
end TL
namespace TL
end TL
namespace TL
end TL
namespace TL
section
variable {g : dd} {r : dR} {a b : Int × Int}
end
end TL
/-
  TlMapL: maps of the call's own whose elements are lists of the call's own.
  By an AI agent.
-/
set_option linter.all false
namespace TL
open Go
theorem kS {P : Program} {kt e bytes : Nat} {z : Value} {f0 f1 : Field} (ht : P.underlying kt = some (.struct #[f0, f1])) (h0 : f0.type = e) (h1 : f1.type = e) (o0 : f0.offset = 0) (o1 : f1.offset = 1) (n0 : (f0.name != "_") = true) (n1 : (f1.name != "_") = true) (he : P.underlying e = some (.int .i64)) (hp : Tp P e false 1 bytes z) (hs : P.stoodInHeld kt = false) : mm P kt (Int × Int) where
 check b k w := by
   have hc : ∀ x : Int, (Instr.checkKey b 9999 e (.int .i64 x)).run P w = .ok () w := fun x => by
     rw [Instr.checkKey]
     simp only [Sem.run_bind, aX he, Result.andThen_ok]
     rfl
   have p0 := fun (x y : Int) => fK (P := P) (w := w) (cs := #[.int .i64 x, .int .i64 y]) (o := 0) hp (v := .int .i64 x) (by rfl)
   have p1 := fun (x y : Int) => fK (P := P) (w := w) (cs := #[.int .i64 x, .int .i64 y]) (o := 1) hp (v := .int .i64 y) (by rfl)
   have n0' : f0.name ≠ "_" := by simpa using n0
   have n1' : f1.name ≠ "_" := by simpa using n1
   show (Instr.checkKey b (9999 + 1) kt _).run P w = _
   rw [Instr.checkKey]
   simp only [Ky.val, Sem.run_bind, aX ht, Result.andThen_ok]
   rw [← Array.forIn_toList]
   simp [n0', n1', h0, h1, o0, o1, p0, p1, hc]
 find k es ks w hm := by
   have heq1 : ∀ a b : Int × Int, (Op.equal kt (Ky.val a) (Ky.val b)).run P w = .ok (decide (a = b)) w := fun a b => by
     have e1 : P.fieldsOf kt = #[f0, f1] := by simp [Program.fieldsOf, ht]
     have := run_equalIn_struct (P := P) w 9999 kt #[.int .i64 a.1, .int .i64 a.2] #[.int .i64 b.1, .int .i64 b.2] (by rw [e1]; exact ht) hs
     rw [e1, fm (bs := [decide (a.1 = b.1), decide (a.2 = b.2)]) (.cons n0 (by rw [h0]; exact hp) (by rw [o0]; rfl) (by rw [o0]; rfl) (.int (by rw [h0]; exact he)) (.cons n1 (by rw [h1]; exact hp) (by rw [o1]; rfl) (by rw [o1]; rfl) (.int (by rw [h1]; exact he)) .nil)) 9998] at this
     have hq : ([decide (a.1 = b.1), decide (a.2 = b.2)].all id) = decide (a = b) := by simp [Prod.ext_iff, Bool.decide_and]
     rw [hq] at this
     exact this
   have hfn : ∀ (es : List MapEntry) (i : Nat), es ≠ [] → (∀ e ∈ es, ∃ c, e.key = .agg c) → Instr.findNow (.struct #[f0, f1]) (Ky.val k) es i = none := by
     intro es i h0 _
     cases es with
     | nil => exact absurd rfl h0
     | cons a l => simp [Instr.findNow, Instr.sameNow]
   have hask : ∀ (es : List MapEntry) (ks : List (Int × Int)) (i : Nat), es.map (·.key) = ks.map Ky.val → (Instr.findAsking kt (Ky.val k) es i).run P w = .ok ((ks.findIdx? (· = k)).bind fun j => (es[j]?).map fun e => (i + j, e.val)) w := by
     intro es
     induction es with
     | nil =>
       intro ks i h
       have : ks = [] := by cases ks <;> simp at h ⊢
       subst this; simp [Instr.findAsking]
     | cons a l ih =>
       intro ks i h
       cases ks with
       | nil => simp at h
       | cons q ks =>
         simp only [List.map_cons, List.cons.injEq] at h
         obtain ⟨ha, hl⟩ := h
         have heq' : (Op.equal kt (Ky.val k) a.key).run P w = .ok (decide (k = q)) w := by rw [ha]; exact heq1 k q
         by_cases hkq : k = q
         · subst hkq
           simp [Instr.findAsking, heq', List.findIdx?_cons]
         · have hqk : ¬ q = k := fun h => hkq h.symm
           have ih' := ih ks (i + 1) hl
           simp [Instr.findAsking, heq', hkq, List.findIdx?_cons, hqk, ih']
           cases ks.findIdx? (fun x => decide (x = k)) with
           | none => rfl
           | some j => simp [Nat.add_comm 1 j, Nat.add_assoc]
   simp only [Instr.findKey, Sem.run_bind, aX ht, Result.andThen_ok]
   cases es with
   | nil =>
     have : ks = [] := by cases ks <;> simp at hm ⊢
     subst this; simp [Instr.findNow]
   | cons a l =>
     rw [hfn (a :: l) 0 (by simp) (fun e he => by
       have : e.key ∈ (a :: l).map (·.key) := List.mem_map_of_mem he
       rw [hm] at this
       obtain ⟨q, _, hq⟩ := List.mem_map.1 this
       exact ⟨_, hq.symm⟩)]
     simp only [hask (a :: l) ks 0 hm, Nat.zero_add]
 bits k := by
   show Instr.sameBits (9999 + 1) _ _ = true
   simp [Ky.val, Instr.sameBits]
def zz (x : Int) : Nat := if 0 ≤ x then 2 * x.toNat else 2 * (-x).toNat + 1
theorem po {x y : Int} (h : zz x = zz y) : x = y := by
 unfold zz at h
 split at h <;> split at h <;> omega
def g7 (q : Int × Int) : Nat := (zz q.1 + zz q.2) * (zz q.1 + zz q.2) + zz q.1
theorem pk {a b c d : Nat} (h : (a + b) * (a + b) + a = (c + d) * (c + d) + c) : a = c ∧ b = d := by
 have lt : ∀ {a b c d : Nat}, a + b < c + d → (a + b) * (a + b) + a < (c + d) * (c + d) + c := fun {a b c d} hl => by
   have h1 : (a + b + 1) * (a + b + 1) ≤ (c + d) * (c + d) := Nat.mul_le_mul hl hl
   have h2 : (a + b + 1) * (a + b + 1) = (a + b) * (a + b) + 2 * (a + b) + 1 := by
     generalize a + b = s
     rw [Nat.add_mul, Nat.mul_add]; omega
   omega
 rcases Nat.lt_trichotomy (a + b) (c + d) with hl | hl | hl
 · have := lt hl; omega
 · rw [hl] at h; omega
 · have := lt hl; omega
theorem oO {p q : Int × Int} (h : g7 p = g7 q) : p = q := by
 obtain ⟨h1, h2⟩ := pk h
 exact Prod.ext (po h1) (po h2)
structure ex (K : Type) where
 key : K
 val : Value
 born : Nat
def ez {K : Type} [Ky K] (e : ex K) : MapEntry := { key := Ky.val e.key, val := e.val, born := e.born }
def gn {K : Type} [DecidableEq K] (es : List (ex K)) (k : K) : Value := ((es.find? fun e => decide (e.key = k)).map (·.val)).getD (.slice none 0 0)
structure u5 {K : Type} (es : List (ex K)) (clock : Nat) : Prop where
 keys : (es.map (·.key)).Nodup
 born : (es.map (·.born)).Nodup
 lt : ∀ e ∈ es, e.born < clock
def Vp {K : Type} [DecidableEq K] [Ky K] (γ : aM) (J : ck → Prop) (w : World) (v : Value) (F : K → Value) : Prop :=
 ∃ (r : Nat) (es : List (ex K)) (clock : Nat), v = .map (some r) ∧ J (γ r) ∧ w.heap[r]? = some (.map (es.map ez).toArray clock) ∧ u5 es clock ∧ F = gn es
def tj {K : Type} [DecidableEq K] [Ky K] (γ : aM) (J : ck → Prop) (w : World) (v : Value) (F : K → Value) (s : Int) (k : K) : Prop :=
 ∃ (r : Nat) (es : List (ex K)) (clock : Nat), v = .map (some r) ∧ J (γ r) ∧ w.heap[r]? = some (.map (es.map ez).toArray clock) ∧ u5 es clock ∧ F = gn es ∧ ∃ (i : Nat) (e : ex K), es[i]? = some e ∧ e.key = k ∧ (e.born : Int) = s
section
variable {K : Type} [DecidableEq K] [Ky K] {γ γ' : aM} {J J' : ck → Prop} {w w' : World} {v : Value} {F : K → Value} {s : Int} {k : K}
theorem Vp.chg (h : Vp γ J w v F) (hc : aL J' γ w γ' w') (hJ : ∀ c, J c → ¬ J' c) : Vp γ' J w' v F := by
 obtain ⟨r, es, clock, h1, h2, h3, h4⟩ := h
 exact ⟨r, es, clock, h1, by rw [hc.col r (cA h3) (hJ _ h2)]; exact h2, by rw [hc.keep r (cA h3) (hJ _ h2)]; exact h3, h4⟩
theorem tj.chg (h : tj γ J w v F s k) (hc : aL J' γ w γ' w') (hJ : ∀ c, J c → ¬ J' c) : tj γ' J w' v F s k := by
 obtain ⟨r, es, clock, h1, h2, h3, h4⟩ := h
 exact ⟨r, es, clock, h1, by rw [hc.col r (cA h3) (hJ _ h2)]; exact h2, by rw [hc.keep r (cA h3) (hJ _ h2)]; exact h3, h4⟩
theorem Vp.bel (h : Vp γ J w v F) (hc : cT w.heap.size w w') : Vp γ J w' v F := by
 obtain ⟨r, es, clock, h1, h2, h3, h4⟩ := h
 exact ⟨r, es, clock, h1, h2, by rw [hc.block r (cA h3)]; exact h3, h4⟩
theorem jb (es : List (ex K)) (k : K) : (((es.map (·.key)).findIdx? (· = k)).bind fun i => ((es.map ez)[i]?).map fun e => (i, e.val)) = ((es.map (·.key)).findIdx? (· = k)).map fun i => (i, gn es k) := by
 cases h : (es.map (·.key)).findIdx? (· = k) with
 | none => rfl
 | some i =>
   obtain ⟨hi, hk, hlt⟩ := List.findIdx?_eq_some_iff_getElem.1 h
   have hi' : i < es.length := by simpa using hi
   have hke : es[i].key = k := by simpa using hk
   have hf : es.find? (fun e => decide (e.key = k)) = some es[i] := by
     rw [List.find?_eq_some_iff_getElem]
     refine ⟨by simpa using hke, i, hi', rfl, fun j hj => ?_⟩
     have := hlt j hj
     simpa using this
   simp [hi', ez, gn, hf]
end
section
variable {P : Program} {f : Fr} {w : World} {dst : Option Tmp} {ty : TypeId} {pos : String} {after : Array Edge} {g : Option (Nat × Bool)} {t : TypeId} {x y z : Operand} {N : Value → World → Prop}
theorem mO {K : Type} [DecidableEq K] [Ky K] {γ : aM} {J : ck → Prop} {v u : Value} {F : K → Value} {kt et size bytes : Nat} {agg : Bool} (k : K) (ht : P.underlying t = some (.map kt et)) (hk : mm P kt K) (he : Tp P et agg size bytes (.slice none 0 0)) (hx : ev f x = v) (hm : Vp γ J w v F) (hy : ev f y = u) (hu : u = Ky.val k) :
   (execOp (ev f) ⟨dst, .lookup t x y false, ty, pos, after, g⟩).run P w = .ok (.value (F k)) w := by
 obtain ⟨r, es, clock, rfl, hJ, hb, hok, rfl⟩ := hm
 obtain ⟨i, hi, _, _, hz⟩ := he.info
 subst hu
 have hf := hk.find k (es.map ez) (es.map (·.key)) w (by simp [ez, Function.comp_def])
 rw [jb] at hf
 cases h : (es.map (·.key)).findIdx? (· = k) with
 | none =>
   rw [h] at hf
   have h0 : gn es k = .slice none 0 0 := by
     have hn : es.find? (fun e => decide (e.key = k)) = none := by
       rw [List.find?_eq_none]
       intro e he
       have := List.findIdx?_eq_none_iff.1 h (e.key) (List.mem_map_of_mem he)
       simpa using this
     simp [gn, hn]
   simp [execOp, hx, hy, Instr.lookup, aX ht, dm hb, hk.check, hf, dT hi hz, h0]
 | some i =>
   rw [h] at hf
   simp [execOp, hx, hy, Instr.lookup, aX ht, dm hb, hk.check, hf]
theorem kd {K : Type} [DecidableEq K] [Ky K] {γ : aM} {J : ck → Prop} {v u : Value} {F : K → Value} {kt et size bytes : Nat} {agg : Bool} (k : K) (ht : P.underlying t = some (.map kt et)) (hk : mm P kt K) (he : Tp P et agg size bytes (.slice none 0 0)) (hx : ev f x = v) (hm : Vp γ J w v F) (hy : ev f y = u) (hu : u = Ky.val k)
   (hn : ∀ w' s, aL J γ w γ w' → tj γ J w' v F s k → N (.tuple (List.toArray [F k, .int .i64 s])) w') : eR P ⟨dst, .mapEntry t x y, ty, pos, after, g⟩ f w N := by
 obtain ⟨r, es, clock, rfl, hJ, hb, hok, rfl⟩ := hm
 obtain ⟨q, hi, _, _, hz⟩ := he.info
 subst hu
 have hf := hk.find k (es.map ez) (es.map (·.key)) w (by simp [ez, Function.comp_def])
 rw [jb] at hf
 cases h : (es.map (·.key)).findIdx? (· = k) with
 | none =>
   rw [h] at hf
   have hnk : ∀ e ∈ es, e.key ≠ k := fun e he => by
     have := List.findIdx?_eq_none_iff.1 h (e.key) (List.mem_map_of_mem he)
     simpa using this
   have h0 : gn es k = .slice none 0 0 := by
     have hn : es.find? (fun e => decide (e.key = k)) = none := by
       rw [List.find?_eq_none]
       intro e he
       simpa using hnk e he
     simp [gn, hn]
   refine aF (v := .tuple (List.toArray [gn es k, .int .i64 (clock : Int)])) (w' := { w with heap := w.heap.setIfInBounds r (.map ((es ++ [(⟨k, .slice none 0 0, clock⟩ : ex K)]).map ez).toArray (clock + 1)) }) ?_ ?_
   rotate_left
   · refine hn _ _ (gv γ _ hJ) ⟨r, es ++ [⟨k, .slice none 0 0, clock⟩], clock + 1, rfl, hJ, fw hb, ⟨?_, ?_, ?_⟩, ?_, es.length, ⟨k, .slice none 0 0, clock⟩, by simp, rfl, rfl⟩
     rotate_left 3
     · funext k'
       simp only [gn, List.find?_append]
       by_cases hkk : k = k'
       · subst hkk
         have hn : es.find? (fun e => decide (e.key = k)) = none := by
           rw [List.find?_eq_none]
           intro e he
           simpa using hnk e he
         simp [hn]
       · cases es.find? (fun e => decide (e.key = k')) <;> simp [hkk]
     · rw [List.map_append, List.nodup_append]
       refine ⟨hok.keys, by simp, fun a ha b hb => ?_⟩
       obtain ⟨e, he, rfl⟩ := List.mem_map.1 ha
       have : b = k := by simpa using hb
       subst this; exact hnk e he
     · rw [List.map_append, List.nodup_append]
       refine ⟨hok.born, by simp, fun a ha b hb => ?_⟩
       obtain ⟨e, he, rfl⟩ := List.mem_map.1 ha
       have : b = clock := by simpa using hb
       subst this; exact Nat.ne_of_lt (hok.lt e he)
     · intro e he
       rcases List.mem_append.1 he with h | h
       · exact Nat.lt_succ_of_lt (hok.lt e h)
       · obtain rfl := List.mem_singleton.1 h; exact Nat.lt_succ_self _
   · simp [execOp, hx, hy, Instr.mapEntry, aX ht, dm hb, hk.check, hf, dT hi hz, el hb, h0, ez, goInt]
 | some i =>
   rw [h] at hf
   obtain ⟨hil, hke, _⟩ := List.findIdx?_eq_some_iff_getElem.1 h
   have hi' : i < es.length := by simpa using hil
   have hke' : es[i].key = k := by simpa using hke
   have hsame : (es.map ez).modify i (fun e => { e with key := Ky.val k }) = es.map ez := by
     apply List.ext_getElem?
     intro j
     rw [List.getElem?_modify]
     by_cases hij : i = j
     · subst hij; simp [hi', ez, hke']
     · simp [hij]
   refine aF (v := .tuple (List.toArray [gn es k, .int .i64 ((es[i].born : Nat) : Int)])) (w' := { w with heap := w.heap.setIfInBounds r (.map (es.map ez).toArray clock) }) ?_
     (hn _ _ (gv γ _ hJ) ⟨r, es, clock, rfl, hJ, fw hb, hok, rfl, i, es[i], by simp, hke', rfl⟩)
   have hkb := hk.bits k
   have hold : (Instr.keyThatStays (Ky.val k) (Ky.val k)).run P w = .ok (Ky.val k) w := by simp [Instr.keyThatStays, hkb]
   simp [execOp, hx, hy, Instr.mapEntry, aX ht, dm hb, hk.check, hf, hi', ez, hke', hold, el hb, goInt]
   rw [hsame]
theorem j4 {K : Type} [DecidableEq K] [Ky K] {γ : aM} {J : ck → Prop} {v m : Value} {F : K → Value} {s : Int} {k : K} (hx : ev f x = v) (hm : tj γ J w v F s k) (hy : ev f y = .int .i64 s) (hz : ev f z = m)
   (hn : ∀ w', aL J γ w γ w' → Vp γ J w' v (fun k' => if k' = k then m else F k') → N undef w') : eR P ⟨dst, .entryStore t x y z, ty, pos, after, g⟩ f w N := by
 obtain ⟨r, es, clock, rfl, hJ, hb, hok, rfl, i, e, hie, rfl, rfl⟩ := hm
 have hi' : i < es.length := (List.getElem?_eq_some_iff.1 hie).1
 have hei : es[i] = e := (List.getElem?_eq_some_iff.1 hie).2
 have hfi : ((es.map ez).toArray.findIdx? (fun q => (q.born : Int) == (e.born : Int))) = some i := by
   rw [List.findIdx?_toArray, List.findIdx?_eq_some_iff_getElem]
   refine ⟨by simpa using hi', by simp [ez, hei], fun j hj => ?_⟩
   have hj' : j < es.length := by omega
   have hne : es[j].born ≠ e.born := fun h => by
     have h1 : (es.map (·.born))[j]'(by simpa using hj') = (es.map (·.born))[i]'(by simpa using hi') := by simp [hei, h]
     have := (List.getElem_inj hok.born).1 h1
     omega
   simp [ez]
   omega
 have hmod : (es.map ez).modify i (fun q => { q with val := m }) = (es.modify i (fun q => { q with val := m })).map ez := by
   apply List.ext_getElem?
   intro j
   rw [List.getElem?_modify, List.getElem?_map, List.getElem?_map, List.getElem?_modify]
   by_cases hij : i = j
   · subst hij; simp [hi', ez]
   · simp [hij]
 have hkeys : (es.modify i (fun q => { q with val := m })).map (·.key) = es.map (·.key) := by
   apply List.ext_getElem?
   intro j
   rw [List.getElem?_map, List.getElem?_map, List.getElem?_modify]
   by_cases hij : i = j
   · subst hij; simp [hi']
   · simp [hij]
 have hborn : (es.modify i (fun q => { q with val := m })).map (·.born) = es.map (·.born) := by
   apply List.ext_getElem?
   intro j
   rw [List.getElem?_map, List.getElem?_map, List.getElem?_modify]
   by_cases hij : i = j
   · subst hij; simp [hi']
   · simp [hij]
 refine fJ (w' := { w with heap := w.heap.setIfInBounds r (.map ((es.modify i (fun q => { q with val := m })).map ez).toArray clock) }) ?_
   (hn _ (gv γ _ hJ) ⟨r, es.modify i (fun q => { q with val := m }), clock, rfl, hJ, fw hb, ⟨by rw [hkeys]; exact hok.keys, by rw [hborn]; exact hok.born, fun q hq => ?_⟩, ?_⟩)
 · simp [execOp, hx, hy, hz, Instr.entryStore, dm hb, asInt, asIntOf, hfi, el hb]
   rw [← hmod]
 · have : q.born ∈ es.map (·.born) := by rw [← hborn]; exact List.mem_map_of_mem hq
   obtain ⟨q', hq', he'⟩ := List.mem_map.1 this
   rw [← he']; exact hok.lt q' hq'
 · funext k'
   have hfind : ∀ (l : List (ex K)), (l.map (·.key)).Nodup → ∀ j (hj : j < l.length), gn l l[j].key = l[j].val := by
     intro l hl j hj
     have hf : l.find? (fun e => decide (e.key = l[j].key)) = some l[j] := by
       rw [List.find?_eq_some_iff_getElem]
       refine ⟨by simp, j, hj, rfl, fun q hq => ?_⟩
       have hne : l[q].key ≠ l[j].key := fun h => by
         have h1 : (l.map (·.key))[q]'(by simp; omega) = (l.map (·.key))[j]'(by simpa using hj) := by simp [h]
         have := (List.getElem_inj hl).1 h1
         omega
       simpa using hne
     simp [gn, hf]
   by_cases hkk : k' = e.key
   · subst hkk
     rw [if_pos rfl]
     have h1 := hfind (es.modify i (fun q => { q with val := m })) (by rw [hkeys]; exact hok.keys) i (by simpa using hi')
     simp [List.getElem_modify, hei] at h1
     exact h1.symm
   · rw [if_neg hkk]
     have hfe : (es.modify i (fun q => { q with val := m })).find? (fun e => decide (e.key = k')) = es.find? (fun e => decide (e.key = k')) := by
       have hgen : ∀ (l : List (ex K)) (i : Nat) (e : ex K), l[i]? = some e → k' ≠ e.key → (l.modify i (fun q => { q with val := m })).find? (fun e => decide (e.key = k')) = l.find? (fun e => decide (e.key = k')) := by
         intro l
         induction l with
         | nil => intro i e h; simp at h
         | cons a l ih =>
           intro i e h hne
           cases i with
           | zero =>
             obtain rfl : a = e := by simpa using h
             have : decide (a.key = k') = false := by simpa using fun h => hne h.symm
             simp [List.find?_cons, this]
           | succ i =>
             have h' : l[i]? = some e := by simpa using h
             simp only [List.modify_succ_cons, List.find?_cons, ih i e h' hne]
       exact hgen es i e hie hkk
     simp [gn, hfe]
end
def Ml {α : Type} [Rp α] (γ : aM) (i : Nat) (w : World) (v : Value) (L : (Int × Int) → List α) : Prop :=
  ∃ F : (Int × Int) → Value, Vp γ (row i 0) w v F ∧ ∀ q, Ow γ (row i (g7 q + 1)) (row i (g7 q + 1)) w (F q) (L q)
def rU {α : Type} [Rp α] (γ : aM) (i : Nat) (w : World) (v : Value) (L : (Int × Int) → List α) (s : Int) (k : Int × Int) : Prop :=
  ∃ F : (Int × Int) → Value, tj γ (row i 0) w v F s k ∧ ∀ q, q ≠ k → Ow γ (row i (g7 q + 1)) (row i (g7 q + 1)) w (F q) (L q)
section
variable {α : Type} [Rp α] {γ γ' : aM} {i : Nat} {w w' : World} {v : Value} {L : (Int × Int) → List α} {s : Int} {k : Int × Int}
theorem Ml.chg {J : ck → Prop} (h : Ml γ i w v L) (hc : aL J γ w γ' w') (hJ : ∀ c, is i c → ¬ J c) : Ml γ' i w' v L := by
 obtain ⟨F, h1, h2⟩ := h
 exact ⟨F, h1.chg hc fun c h => hJ c (cR c h), fun q => (h2 q).chg hc (fun c h => hJ c (cR c h)) (fun c h => hJ c (cR c h))⟩
theorem rU.chg {J : ck → Prop} (h : rU γ i w v L s k) (hc : aL J γ w γ' w') (hJ : ∀ c, is i c → ¬ J c) : rU γ' i w' v L s k := by
 obtain ⟨F, h1, h2⟩ := h
 exact ⟨F, h1.chg hc fun c h => hJ c (cR c h), fun q hq => (h2 q hq).chg hc (fun c h => hJ c (cR c h)) (fun c h => hJ c (cR c h))⟩
theorem rU.rowchg (h : rU γ i w v L s k) (hc : aL (row i (g7 k + 1)) γ w γ' w') : rU γ' i w' v L s k := by
 obtain ⟨F, h1, h2⟩ := h
 refine ⟨F, h1.chg hc (cB (by omega)), fun q hq => ?_⟩
 have : g7 q + 1 ≠ g7 k + 1 := fun e => hq (oO (by omega))
 exact (h2 q hq).chg hc (cB this) (cB this)
theorem tf [Fl α] (h : Ml γ i w v L) (k : Int × Int) : ∃ F : (Int × Int) → Value, Vp γ (row i 0) w v F ∧ Sl γ (is i) w (F k) (L k) := by
  obtain ⟨F, h1, h2⟩ := h
  exact ⟨F, h1, (h2 k).row_sl⟩
variable {P : Program} {f : Fr} {dst : Option Tmp} {ty : TypeId} {pos : String} {after : Array Edge} {g : Option (Nat × Bool)} {t : TypeId} {x y z : Operand} {N : Value → World → Prop}
theorem ly (γ : aM) (i : Nat) (hk : ∀ γ' w' v, aL no γ w γ' w' → Ml (α := α) γ' i w' v (fun _ => []) → N v w') : eR P ⟨dst, .makeMap t none, ty, pos, after, g⟩ f w N := by
 refine aF (v := .map (some w.heap.size)) (w' := w.alloc (.map #[] 0)) (by simp [execOp, Instr.makeMap]) (hk (fY γ w.heap.size (i, 0)) _ _ (eK γ w _ (i, 0)) ⟨fun _ => .slice none 0 0, ⟨w.heap.size, [], 0, rfl, by simp [fY, row], by rw [da]; rfl, ⟨by simp, by simp, by simp⟩, ?_⟩, fun q => Ow.nil⟩)
 funext k; simp [gn]
theorem kf {u : Value} {kt et size bytes : Nat} {agg : Bool} (k : Int × Int) (ht : P.underlying t = some (.map kt et)) (hk : mm P kt (Int × Int)) (he : Tp P et agg size bytes (.slice none 0 0)) (hx : ev f x = v) (hm : Ml γ i w v L) (hy : ev f y = u) (hu : u = Ky.val k)
   (hn : ∀ w' s q, aL (row i 0) γ w γ w' → rU γ i w' v L s k → Ow γ (row i (g7 k + 1)) (row i (g7 k + 1)) w' q (L k) → N (.tuple (List.toArray [q, .int .i64 s])) w') : eR P ⟨dst, .mapEntry t x y, ty, pos, after, g⟩ f w N := by
 obtain ⟨F, h1, h2⟩ := hm
 refine kd k ht hk he hx h1 hy hu fun w' s hc hv => hn w' s (F k) hc ⟨F, hv, fun q _ => (h2 q).chg hc (cB (by omega)) (cB (by omega))⟩ ((h2 k).chg hc (cB (by omega)) (cB (by omega)))
theorem j8 {m : Value} {l : List α} (hx : ev f x = v) (hm : rU γ i w v L s k) (hy : ev f y = .int .i64 s) (hz : ev f z = m) (ho : Ow γ (row i (g7 k + 1)) (row i (g7 k + 1)) w m l)
   (hn : ∀ w', aL (row i 0) γ w γ w' → Ml γ i w' v (fun q => if q = k then l else L q) → N undef w') : eR P ⟨dst, .entryStore t x y z, ty, pos, after, g⟩ f w N := by
 obtain ⟨F, h1, h2⟩ := hm
 refine j4 hx h1 hy hz fun w' hc hv => hn w' hc ⟨_, hv, fun q => ?_⟩
 by_cases e : q = k
 · subst e
   simp only [if_true]
   exact ho.chg hc (cB (by omega)) (cB (by omega))
 · simp only [if_neg e]
   exact (h2 q e).chg hc (cB (by omega)) (cB (by omega))
end
end TL
namespace TL
open Go
section
variable {α : Type} [Rp α] {γ γ' : aM} {w w' : World} {v : Value} {L : List Nat} {j k : Nat} {F : (Int × Int) → List α}
theorem Ml.ca (h : Ml γ j w v F) (hc : aL (bK L) γ w γ' w') (hj : L.contains j = false := by exact rfl) : Ml γ' j w' v F := h.chg hc (bE hj)
theorem Ml.ce (h : Ml γ j w v F) (hc : aL (is k) γ w γ' w') (hj : Nat.beq j k = false := by exact rfl) : Ml γ' j w' v F := h.chg hc (e9 hj)
theorem Ml.cn (h : Ml γ j w v F) (hc : aL no γ w γ' w') : Ml γ' j w' v F := h.chg hc (fx _)
end
end TL
/-
  TlJudge2: what is told of a plot; its rotation.
  By an AI agent.
-/
set_option linter.all false
namespace TL
def aA (p : dp) : List Pt := p.1 ++ p.2.flatten
theorem oq {p : dp} {l : List Pt} {k : Nat} (h : l = p.1 ++ (p.2.take k).flatten ∧ (l.length : Int) ≤ 1024 + 4096 * (k : Int)) (hk : (k : Int) < p.2.length) (hl : (gI p.2 (k : Int)).length ≤ 4096) : l ++ gI p.2 (k : Int) = p.1 ++ (p.2.take (k + 1)).flatten ∧ ((l ++ gI p.2 (k : Int)).length : Int) ≤ 1024 + 4096 * ((k + 1 : Nat) : Int) := by
 refine ⟨by rw [bC hk, h.1]; simp, ?_⟩
 rw [List.length_append]; have := h.2; omega
theorem pU {p : dp} {l : List Pt} {k : Nat} (h : l = p.1 ++ (p.2.take k).flatten) (hk : ¬ (k : Int) < p.2.length) : l = aA p := by
 rw [List.take_of_length_le (by omega)] at h; exact h
def fB (p : dp) : Nat → Int
 | 0 => 0
 | k + 1 => fB p k + (((gI p.2 (k : Int)).length : Int) - 2)
theorem kK {p : dp} (h : ∀ e : Int, 0 ≤ e → e < p.2.length → 2 ≤ ((gI p.2 e).length : Int) ∧ d7 (gI p.2 e)) : ∀ k : Nat, (k : Int) ≤ p.2.length → 0 ≤ fB p k ∧ fB p k ≤ 4096 * (k : Int)
 | 0, _ => by simp [fB]
 | k + 1, hk => by
   have h1 := kK h k (by omega)
   obtain ⟨h2, h3, _⟩ := h (k : Int) (by omega) (by omega)
   unfold fB; omega
def fj (f : Nat → Bool) : Nat → Bool
 | 0 => true
 | k + 1 => fj f k && f k
def lz (l : List Pt) (j : Nat) : Bool := decide ((gI l (j : Int)).1 = (gI l ((j : Int) + 1)).1 ∨ (gI l (j : Int)).2 = (gI l ((j : Int) + 1)).2)
def tW (p : dp) (e : Nat) : Bool := fj (lz (gI p.2 (e : Int))) ((gI p.2 (e : Int)).length - 1)
def jn (p : dp) (k : Nat) : Bool := fj (tW p) k
section
variable {p : dp} {l : List Pt} {a b : Bool} {i k : Nat}
theorem qR (h : a = jn p k) : 1 ≤ (1 : Nat) ∧ a = (jn p k && fj (lz l) (1 - 1)) := ⟨Nat.le_refl _, by rw [h]; simp [fj]⟩
theorem tY (h : 1 ≤ i ∧ a = (jn p k && fj (lz l) (i - 1))) (ha : a = true) (hx : (gI l ((i : Int) - 1)).1 = (gI l (i : Int)).1) : 1 ≤ i + 1 ∧ true = (jn p k && fj (lz l) (i + 1 - 1)) := by
 obtain ⟨h1, h2⟩ := h
 refine ⟨by omega, ?_⟩
 obtain ⟨j, rfl⟩ : ∃ j, i = j + 1 := ⟨i - 1, by omega⟩
 have e : (((j + 1 : Nat) : Int) - 1) = (j : Int) := by omega
 have e2 : ((j + 1 : Nat) : Int) = (j : Int) + 1 := by omega
 rw [e, e2] at hx
 rw [Nat.add_sub_cancel, fj, ← Bool.and_assoc]
 rw [Nat.add_sub_cancel] at h2
 rw [← h2, ha]
 unfold lz
 rw [decide_eq_true (.inl hx)]; rfl
theorem tX (h : 1 ≤ i ∧ a = (jn p k && fj (lz l) (i - 1))) (ha : a = true) (hx : ¬ (gI l ((i : Int) - 1)).1 = (gI l (i : Int)).1) : 1 ≤ i + 1 ∧ decide ((gI l ((i : Int) - 1)).2 = (gI l (i : Int)).2) = (jn p k && fj (lz l) (i + 1 - 1)) := by
 obtain ⟨h1, h2⟩ := h
 refine ⟨by omega, ?_⟩
 obtain ⟨j, rfl⟩ : ∃ j, i = j + 1 := ⟨i - 1, by omega⟩
 have e : (((j + 1 : Nat) : Int) - 1) = (j : Int) := by omega
 have e2 : ((j + 1 : Nat) : Int) = (j : Int) + 1 := by omega
 rw [e, e2] at hx ⊢
 rw [Nat.add_sub_cancel, fj, ← Bool.and_assoc]
 rw [Nat.add_sub_cancel] at h2
 rw [← h2, ha]
 unfold lz
 rw [Bool.true_and, decide_eq_decide]
 exact ⟨.inr, fun h => h.resolve_left hx⟩
theorem tT (h : 1 ≤ i ∧ a = (jn p k && fj (lz l) (i - 1))) (ha : ¬ a = true) : 1 ≤ i + 1 ∧ false = (jn p k && fj (lz l) (i + 1 - 1)) := by
 obtain ⟨h1, h2⟩ := h
 refine ⟨by omega, ?_⟩
 obtain ⟨j, rfl⟩ : ∃ j, i = j + 1 := ⟨i - 1, by omega⟩
 rw [Nat.add_sub_cancel, fj, ← Bool.and_assoc]
 rw [Nat.add_sub_cancel] at h2
 rw [← h2, Bool.eq_false_iff.2 ha]; rfl
theorem td (hb : b = jn p k) (h : 1 ≤ i ∧ a = (jn p k && fj (lz (gI p.2 (k : Int))) (i - 1))) (hi : ¬ (i : Int) < (gI p.2 (k : Int)).length) (hi2 : (i : Int) ≤ (gI p.2 (k : Int)).length) : a = jn p (k + 1) := by
 have : i = (gI p.2 (k : Int)).length := by omega
 rw [h.2, this]; rfl
end
def mA (p : dp) : Int × Int :=
 if 0 < ((aA p).length : Int) then ((nG (aA p) (aA p).length).1 - (nH (aA p) (aA p).length).1, (nG (aA p) (aA p).length).2 - (nH (aA p) (aA p).length).2) else (0, 0)
def jk (p : dp) : Int × Int × Int × Bool × Bool := (fB p p.2.length, (mA p).1, (mA p).2, decide (fB p p.2.length = 0), jn p p.2.length)
def bc (g : dd) (p : dp) : (Int × Int × Int × Bool × Bool) × Int :=
 if c8 g then if bP g p = [] then (jk p, 0) else ((0, 0, 0, false, false), 24) else ((0, 0, 0, false, false), 1)
section
variable {g : dd} {p : dp}
theorem se (h : tq g p) : ∀ q ∈ aA p, c5 q := by
 intro q hq
 unfold aA at hq
 rcases List.mem_append.1 hq with hq | hq
 · obtain ⟨i, hi, rfl⟩ := List.mem_iff_getElem.1 hq
   have := h.pt (i : Int) (by omega) (by omega)
   rwa [show gI p.1 (i : Int) = p.1[i] by simp [gI, hi]] at this
 · obtain ⟨l, hl, hq⟩ := List.mem_flatten.1 hq
   obtain ⟨i, hi, rfl⟩ := List.mem_iff_getElem.1 hl
   have := (h.ln (i : Int) (by omega) (by omega)).2.2
   rw [show gI p.2 (i : Int) = p.2[i] by simp [gI, hi]] at this
   exact this q hq
theorem s2 {l : List Pt} (h : ∀ q ∈ l, c5 q) (h0 : 0 < l.length) : ∀ k : Nat, k ≤ l.length → c5 (nH l k) ∧ c5 (nG l k)
 | 0, _ => ⟨h _ (bf (by omega) (by omega)), h _ (bf (by omega) (by omega))⟩
 | k + 1, hk => by
   obtain ⟨h1, h2⟩ := s2 h h0 k (by omega)
   have h3 := h _ (bf (xs := l) (i := (k : Int)) (by omega) (by omega))
   unfold nH nG
   unfold c5 at *
   simp only
   omega
theorem pg (h : ¬ c8 g) : bc g p = ((0, 0, 0, false, false), 1) := by unfold bc; rw [if_neg h]
theorem mH (h : c8 g) {F : List j6} (hF : F = bP g p) (h1 : 0 < (F.length : Int)) : bc g p = ((0, 0, 0, false, false), 24) := by
 unfold bc
 rw [if_pos h, if_neg]
 intro e
 rw [hF, e] at h1
 simp at h1
theorem jB (h : c8 g) (h1 : bP g p = []) : bc g p = (jk p, 0) := by unfold bc; rw [if_pos h, if_pos h1]
theorem sL {n : Int} {a : Bool} {k q : Nat} {x1 x2 y1 y2 : Int} (hn : n = fB p k) (ha : a = jn p k) (hk : k = p.2.length) (h0 : 0 < ((aA p).length : Int)) (hb : (x1 = (nH (aA p) q).1 ∧ x2 = (nH (aA p) q).2) ∧ y1 = (nG (aA p) q).1 ∧ y2 = (nG (aA p) q).2) (hq : q = (aA p).length) :
   (n, y1 - x1, y2 - x2, decide (n = 0), a) = jk p := by
 obtain ⟨⟨e1, e2⟩, e3, e4⟩ := hb
 subst hk hq
 unfold jk mA
 rw [if_pos h0, hn, ha, e1, e2, e3, e4]
theorem sO {n : Int} {a : Bool} {k : Nat} (hn : n = fB p k) (ha : a = jn p k) (hk : k = p.2.length) (h0 : ¬ 0 < ((aA p).length : Int)) : (n, 0, 0, decide (n = 0), a) = jk p := by
 subst hk
 unfold jk mA
 rw [if_neg h0, hn, ha]
end
def dh (p : dp) (l : List Int) : List Pt := l.map (dS p)
noncomputable def tuL (p : dp) (o : Pt) (l : List Int) : List Int := (arL o (dh p l)).map (gI l)
def iV (p : dp) (o : Pt) (l : List Int) : Prop := ∃ j : Nat, j < l.length ∧ 0 < j ∧ cH (aQ (gI (dh p l) (gI (arL o (dh p l)) ((j : Int) - 1))) o) (aQ (gI (dh p l) (gI (arL o (dh p l)) (j : Int))) o)
noncomputable instance (p : dp) (o : Pt) (l : List Int) : Decidable (iV p o l) := by unfold iV; infer_instance
noncomputable def tuS (g : dd) (p : dp) : dR := (List.range g.1.toNat).map fun (v : Nat) => tuL p (gI p.1 (v : Int)) (cF g (v : Int))
def iM (g : dd) (p : dp) : Prop := ∃ v : Nat, v < g.1.toNat ∧ iV p (gI p.1 (v : Int)) (cF g (v : Int))
noncomputable instance (g : dd) (p : dp) : Decidable (iM g p) := by unfold iM; infer_instance
noncomputable def turnsR (g : dd) (p : dp) : dR × Int :=
 if c8 g then if bZ g p = [] then if iM g p then ([], 24) else (dM (tuS g p), 0) else ([], 24) else ([], 1)
end TL
/-
  TlSort: the library's sort by a function, met in this frame.
  By an AI agent.
-/
set_option linter.all false
namespace TL
open Go Go.Proofs Go.Shelf Go.Sort Go.Lib
theorem cT.grown {w w' : World} (h : cT w.heap.size w w') : ∃ q os, w' = grow (w.drewN q) os := by
 obtain ⟨h1, h2, h3, h4, h5, h6⟩ := h
 refine ⟨w'.drawn - w.drawn, w'.heap.extract w.heap.size w'.heap.size, ?_⟩
 have hh : w'.heap = w.heap ++ w'.heap.extract w.heap.size w'.heap.size := by
   apply Array.ext_getElem?
   intro k
   rw [Array.getElem?_append]
   by_cases hk : k < w.heap.size
   · rw [if_pos hk]; exact h5 k hk
   · rw [if_neg hk, Array.getElem?_extract]
     split
     · rw [show w.heap.size + (k - w.heap.size) = k by omega]
     · exact Array.getElem?_eq_none (by omega)
 have hd : w'.drawn = w.drawn + (w'.drawn - w.drawn) := by omega
 cases w with
 | mk a b c d e =>
   cases w' with
   | mk a' b' c' d' e' =>
     simp only [grow, World.drewN] at *
     subst h1 h2 h3
     simp only [World.mk.injEq, true_and, and_true]
     exact ⟨hh, hd⟩
section
variable {α : Type} [Inhabited α] {γ : aM} {w : World} {j b : Nat}
theorem kZ (enc : α → Value) (hb : is j (γ b)) (m : Nat) (d : Array α) (os : Array Obj) : aL (is j) γ w γ (sortWorld enc w b 0 m d os) := by
 refine ⟨rfl, rfl, rfl, ?_, fun _ _ _ => rfl, fun k hk hn => ?_, ?_⟩
 · unfold sortWorld; rw [size_grow, Go.Sort.size_putRow]; simp only [heap_ahead]; omega
 · unfold sortWorld
   rw [heap_grow_old _ _ (by rw [Go.Sort.size_putRow]; exact hk)]
   have : b ≠ k := fun e => hn (by subst e; exact hb)
   simp [putRow, mapBlock, Array.getElem?_modify, this]
 · show w.drawn ≤ w.drawn + m
   omega
theorem ns (enc : α → Value) {c : Array Value} {e : TypeId} {fr : Nat × Nat} (h : w.heap[b]? = some (.cells c e fr)) (m : Nat) (d : Array α) (os : Array Obj) : (sortWorld enc w b 0 m d os).heap[b]? = some (.cells (putCells enc 0 d c) e fr) := by
 unfold sortWorld
 rw [heap_grow_old _ _ (by rw [Go.Sort.size_putRow]; exact cA h)]
 simp [putRow, mapBlock, Array.getElem?_modify, h, onCells]
theorem k6 (enc : α → Value) {d : Array α} {c : Array Value} {k : Nat} (h : k < d.size) (hc : k < c.size) : (putCells enc 0 d c)[k]? = some (enc d[k]!) := by
 simp [putCells, h, hc]
end
theorem mT {P : Program} {ρ : Ren} (L : SlLaysF.n6 P ρ) {α : Type} [Inhabited α] (fe : α → Int) (cf : α → α → Int) (hO : SWO (ltOf cf)) (g : Nat) (cb : Array Value) (eg : ∀ args w, (callFunc g args).run P w = .ok (.enter g args) w)
   {γ : aM} {w : World} {j : Nat} {v : Value} {ds : List α} (hne : ds ≠ []) (hl : Ow γ (is j) (is j) w v (ds.map fe))
   (hc : ∀ W, aL (is j) γ w γ W → ∀ x y, Calls P g (#[.int .i64 (fe x), .int .i64 (fe y)] ++ cb) W fun e w' => e = .returned (.int .i64 (cf x y)) ∧ cT W.heap.size W w') :
   Calls P (ρ.f 6) #[v, .func (.func g) #[] cb] w fun e w' => e = .returned (.tuple #[]) ∧ ∃ ds' : List α, ds'.Perm ds ∧ ds'.Pairwise (fun x y => ltOf cf y x = false) ∧ aL (is j) γ w γ w' ∧ Ow γ (is j) (is j) w' v (ds'.map fe) := by
 rcases hl with ⟨_, h⟩ | ⟨b, cap, c, e, rfl, hcap, hm, hJ, hb, hcs, hx⟩
 · simp at h; exact absurd h hne
 · simp only [List.length_map] at hcap
   have hsz1 : Rp.sz Int = 1 := rfl
   rw [hsz1, Nat.mul_one] at hcs
   have hbs := cA hb
   have hlen : (ds.map fe).length = ds.toArray.size := by simp
   have hget : ∀ i, i < ds.length → c[i]? = some (Value.int .i64 (fe ds.toArray[i]!)) := fun i hi => by
     obtain ⟨cs, h1, h2⟩ := hx i (fe ds[i]) (by simp [hi])
     have h2 : cs = [Value.int .i64 (fe ds[i])] := h2
     have h1 := h1 0 (by decide)
     rw [h2] at h1
     simp only [hsz1, Nat.mul_one, Nat.add_zero] at h1
     rw [h1]
     simp [hi]
   have hH : Holds (fun x : α => Value.int .i64 (fe x)) w b 0 ds.toArray := fun i hi => by
     have hi : i < ds.length := by simpa using hi
     constructor
     · have := hget i hi
       simp only [World.cell?, hb, Nat.zero_add]
       exact this
     · simp [World.frozen?, hb]
   have hcmp : CmpLays1 P g cb (fun x : α => Value.int .i64 (fe x)) cf b 0 ds.toArray.size w := fun m os dk hs x y =>
     (hc _ (kZ _ hJ m dk os) x y).mono fun e w' ⟨h1, h2⟩ => ⟨h1, h2.grown⟩
   have key := Any.slices_SortFunc L (fun x : α => Value.int .i64 (fe x)) (fun _ => rfl) cf hO g cb b 0 cap ds.toArray w eg hcmp hH hbs (by simp; omega)
   rw [hlen]
   refine key.mono fun e' w' ⟨h1, d', n, os, hp, hs, hw⟩ => ⟨h1, d'.toList, ?_, ?_, ?_, ?_⟩
   · obtain ⟨q1, _, q3⟩ := hp
     rw [← q1] at q3
     have e1 : (d'.extract 0 d'.size) = d' := by simp
     rw [e1, q1] at q3
     have e2 : (ds.toArray.extract 0 ds.toArray.size) = ds.toArray := Array.extract_size
     rw [e2] at q3
     simpa using q3
   · rw [List.pairwise_iff_getElem]
     intro i k hi hk hik
     have hi : i < d'.size := by simpa using hi
     have hk : k < d'.size := by simpa using hk
     have := hs i k (Nat.zero_le _) hik (by rw [← hp.1]; exact hk)
     rw [getElem!_pos d' k hk, getElem!_pos d' i hi] at this
     simpa using this
   · rw [hw]; exact kZ _ hJ n d' os
   · have hs' : d'.size = ds.length := by rw [hp.1]; simp
     have hd : d'.toList.length = ds.length := by simpa using hs'
     refine .inr ⟨b, cap, _, e, by rw [List.length_map, hd]; simp, by rw [List.length_map, hd]; exact hcap, hm, hJ, by rw [hw]; exact ns _ hb n d' os, by rw [hsz1, Nat.mul_one]; simpa [putCells] using hcs, fun i x hi => ?_⟩
     have hi' : i < d'.size := by
       have := (List.getElem?_eq_some_iff.1 hi).1
       simpa using this
     refine ⟨[Value.int .i64 x], fun q hq => ?_, rfl⟩
     have : q = 0 := by have : q < 1 := hq; omega
     subst this
     rw [hsz1, Nat.mul_one, Nat.add_zero, k6 _ hi' (by rw [hcs]; omega), getElem!_pos d' _ hi']
     simp [hi'] at hi
     simp [hi]
end TL
/-
  TlJudge3: a plot's rotation: the half-edges of each node, turned.
  By an AI agent.
-/
set_option linter.all false
namespace TL
theorem cD {α β : Type} [Inhabited α] [Inhabited β] {f : α → β} {l : List α} {i : Int} (h0 : 0 ≤ i) (h1 : i < l.length) : gI (l.map f) i = f (gI l i) := by
 have h : i.toNat < l.length := by omega
 unfold gI
 rw [List.getD_eq_getElem?_getD, List.getD_eq_getElem?_getD, List.getElem?_map, List.getElem?_eq_getElem h]; rfl
theorem jR {α : Type} [Inhabited α] {l : List α} {x : α} (h : x ∈ l) : ∃ j : Nat, j < l.length ∧ gI l (j : Int) = x := by
 obtain ⟨j, hj, rfl⟩ := List.mem_iff_getElem.1 h
 exact ⟨j, hj, by simp [gI, hj]⟩
section
variable {g : dd} {p : dp}
theorem mN {v h : Int} : h ∈ cF g v ↔ (0 ≤ h ∧ h < 2 * (g.2.length : Int)) ∧ dK g h = v := by
 unfold cF gb
 rw [List.mem_filter, List.mem_map]
 constructor
 · rintro ⟨⟨i, hi, rfl⟩, hf⟩
   have := List.mem_range.1 hi
   exact ⟨by omega, of_decide_eq_true hf⟩
 · rintro ⟨h1, h2⟩
   exact ⟨⟨h.toNat, List.mem_range.2 (by omega), by omega⟩, decide_eq_true h2⟩
theorem jg {v : Int} : (cF g v).Nodup := by
 unfold cF gb
 refine List.Nodup.sublist List.filter_sublist ?_
 unfold List.Nodup
 rw [List.pairwise_map]
 refine List.Pairwise.imp ?_ List.nodup_range
 intro a b h e
 exact h (by omega)
theorem mD {v : Int} : ((cF g v).length : Int) ≤ 2 * (g.2.length : Int) := by
 have := je g v g.2.length
 unfold cF; omega
theorem n9 {r : dR} (hm : c8 g) (hl : (r.length : Int) = g.1) (hrow : ∀ v : Nat, v < r.length → (gI r (v : Int)).Nodup ∧ ∀ h, h ∈ gI r (v : Int) ↔ (0 ≤ h ∧ h < 2 * (g.2.length : Int)) ∧ dK g h = v) : gZ g r := by
 have hn : r.flatten.Nodup := by
   unfold List.Nodup
   rw [List.pairwise_flatten]
   refine ⟨fun l hl => ?_, ?_⟩
   · obtain ⟨v, hv, rfl⟩ := jR hl
     exact (hrow v hv).1
   · rw [List.pairwise_iff_getElem]
     intro i j hi hj hij x hx y hy e
     subst e
     have e1 : gI r (i : Int) = r[i] := by simp [gI, hi]
     have e2 : gI r (j : Int) = r[j] := by simp [gI, hj]
     have h1 := ((hrow i hi).2 x).1 (by rw [e1]; exact hx)
     have h2 := ((hrow j hj).2 x).1 (by rw [e2]; exact hy)
     have := h1.2.symm.trans h2.2
     omega
 refine ⟨hl, fun v hv h hh => ((hrow v hv).2 h).1 hh, hn, ?_⟩
 have hp : r.flatten.Perm (gc (2 * g.2.length)) := by
   rw [List.perm_ext_iff_of_nodup hn (lm _)]
   intro h
   rw [List.mem_flatten, kD]
   constructor
   · rintro ⟨l, hl, hh⟩
     obtain ⟨v, hv, rfl⟩ := jR hl
     have := (((hrow v hv).2 h).1 hh).1
     omega
   · intro hh
     have hf := nO hm (h := h) (by omega) (by omega)
     have hv : (dK g h).toNat < r.length := by omega
     refine ⟨gI r (((dK g h).toNat : Nat) : Int), bf (by omega) (by omega), ((hrow _ hv).2 h).2 ⟨by omega, by omega⟩⟩
 have := hp.length_eq
 rw [nW] at this
 omega
structure tl (g : dd) (p : dp) : Prop where
  sh : tq g p
  pl : ∀ v w : Nat, v < w → w < p.1.length → gI p.1 (v : Int) ≠ gI p.1 (w : Int)
  en : ∀ e : Int, 0 ≤ e → e < p.2.length → gj g p e
  si : ∀ e : Int, 0 ≤ e → e < p.2.length → gp (gI p.2 e)
  nd : ∀ e v : Nat, e < p.2.length → v < p.1.length → (v : Int) ≠ (gI g.2 (e : Int)).1 → (v : Int) ≠ (gI g.2 (e : Int)).2 → ¬ dQ (gI p.2 (e : Int)) (gI p.1 (v : Int))
  ap : ∀ e f : Nat, e < f → f < p.2.length → go (gI p.2 (e : Int)) (gI p.2 (f : Int)) (gW g p (e : Int) (f : Int))
theorem jw : bZ g p = [] ↔ tl g p := by
 unfold bZ
 by_cases hs : bP g p = []
 · rw [if_pos hs]
   have hsh := eI.1 hs
   rw [List.append_eq_nil_iff, List.append_eq_nil_iff]
   constructor
   · rintro ⟨⟨h1, h2⟩, h3⟩
     rw [if_pos h2, List.append_eq_nil_iff] at h3
     unfold dj at h2
     rw [List.append_eq_nil_iff, c9, c9] at h2
     refine ⟨hsh, fun v w hvw hw e => ?_, fun e h0 h4 => ?_, fun e h0 h4 => ?_, fun e v he hv hn1 hn2 ho => ?_, fun e f hef hf => ?_⟩
     · have k1 := c9.1 h1 v (by omega)
       have k2 := c9.1 k1 w hw
       exact fk.1 k2 ⟨hvw, e⟩
     · have k1 := h2.1 e.toNat (by omega)
       have k2 := fk.1 k1
       rw [Int.toNat_of_nonneg h0] at k2
       exact Classical.not_not.1 k2
     · have k1 := h2.2 e.toNat (by omega)
       have k2 := fk.1 k1
       rw [Int.toNat_of_nonneg h0] at k2
       exact Classical.not_not.1 k2
     · have k1 := c9.1 h3.1 e he
       have k2 := c9.1 k1 v hv
       exact fk.1 k2 ⟨⟨hn1, hn2⟩, ho⟩
     · have k1 := c9.1 h3.2 e (by omega)
       have k2 := c9.1 k1 f hf
       exact Classical.not_not.1 fun c => fk.1 k2 ⟨hef, c⟩
   · intro h
     have hL : dj g p = [] := by
       unfold dj
       rw [List.append_eq_nil_iff]
       exact ⟨ef fun e he => cW (Classical.not_not.2 (h.en _ (by omega) (by omega))), ef fun e he => cW (Classical.not_not.2 (h.si _ (by omega) (by omega)))⟩
     refine ⟨⟨ef fun v hv => ef fun w hw => cW fun c => h.pl v w c.1 hw c.2, hL⟩, ?_⟩
     rw [if_pos hL, List.append_eq_nil_iff]
     exact ⟨ef fun e he => ef fun v hv => cW fun c => h.nd e v he hv c.1.1 c.1.2 c.2, ef fun e he => ef fun f hf => cW fun c => c.2 (h.ap e f c.1 hf)⟩
 · rw [if_neg hs]
   exact ⟨fun h => absurd h hs, fun h => absurd (eI.2 h.sh) hs⟩
theorem iy (hm : c8 g) (hc : tl g p) {v h : Int} (hh : h ∈ cF g v) : ((0 ≤ h ∧ h < 2 * (p.2.length : Int)) ∧ 2 ≤ ((gI p.2 (h / 2)).length : Int)) ∧ c5 (dS p h) ∧ dS p h ≠ gI p.1 v := by
  obtain ⟨⟨h0, h1⟩, hf⟩ := mN.1 hh
  have hs := hc.sh
  have hm2 := hs.m
  have e0 : 0 ≤ h / 2 := by omega
  have e1 : h / 2 < p.2.length := by omega
  obtain ⟨l1, l2, l3⟩ := hs.ln _ e0 e1
  have hen := hc.en _ e0 e1
  have hsi := hc.si _ e0 e1
  refine ⟨⟨⟨h0, by omega⟩, l1⟩, ?_⟩
  unfold dS
  unfold gj at hen
  unfold dK pI at hf
  rcases (by omega : h % 2 = 0 ∨ h % 2 = 1) with c | c
  · rw [if_pos c]
    rw [c] at hf
    refine ⟨l3 _ (bf (by omega) (by omega)), fun e => ?_⟩
    have k1 := (hsi 0 (by omega) (by omega)).1
    have hf' : (gI g.2 (h / 2)).1 = v := by simpa using hf
    rw [← hf', ← hen.1] at e
    exact k1 e.symm
  · rw [if_neg (by omega)]
    rw [c] at hf
    refine ⟨l3 _ (bf (by omega) (by omega)), fun e => ?_⟩
    have k1 := (hsi ((gI p.2 (h / 2)).length - 2) (by omega) (by omega)).1
    have hf' : (gI g.2 (h / 2)).2 = v := by simpa using hf
    rw [← hf', ← hen.2] at e
    rw [show (((gI p.2 (h / 2)).length - 2 : Nat) : Int) = ((gI p.2 (h / 2)).length : Int) - 2 by omega, show ((gI p.2 (h / 2)).length : Int) - 2 + 1 = ((gI p.2 (h / 2)).length : Int) - 1 by omega] at k1
    exact k1 e
theorem jI (hm : c8 g) (hc : tl g p) (hfew : (g.2.length : Int) ≤ 2000) (v : Int) : d7 (dh p (cF g v)) ∧ fU (gI p.1 v) (dh p (cF g v)) := by
 have hl := mD (g := g) (v := v)
 refine ⟨⟨by unfold dh; rw [List.length_map]; omega, fun q hq => ?_⟩, fun i hi => ?_⟩
 · obtain ⟨h, hh, rfl⟩ := List.mem_map.1 hq
   exact (iy hm hc hh).2.1
 · unfold dh at hi ⊢
   rw [List.length_map] at hi
   rw [cD (by omega) (by omega)]
   exact (iy hm hc (bf (by omega) (by omega))).2.2
theorem qY {o : Pt} {ps : List Pt} (hz : fU o ps) : (arL o ps).Perm (ey ps.length) := by
 obtain ⟨h1, h2⟩ := fa hz
 have n1 : (arL o ps).Nodup := List.Pairwise.imp (fun {a b} h e => by subst e; exact eU _ _ h) h1
 have n2 : (ey ps.length).Nodup := by
   unfold ey List.Nodup
   rw [List.pairwise_map]
   refine List.Pairwise.imp ?_ List.nodup_range
   intro a b h e
   exact h (by omega)
 rw [List.perm_ext_iff_of_nodup n1 n2]
 intro x
 rw [h2 x]
 unfold ey
 rw [List.mem_map]
 constructor
 · intro h
   exact ⟨x.toNat, List.mem_range.2 (by omega), by omega⟩
 · rintro ⟨i, hi, rfl⟩
   have := List.mem_range.1 hi
   omega
theorem rA (l : List Int) : (ey l.length).map (gI l) = l := by
 apply List.ext_getElem
 · simp [ey]
 · intro i h1 h2
   simp [ey, gI, h2]
theorem m5 {o : Pt} {l : List Int} (hz : fU o (dh p l)) : (tuL p o l).Perm l := by
 have h := (qY hz).map (gI l)
 have e : (dh p l).length = l.length := by simp [dh]
 rw [e, rA] at h
 exact h
theorem tt (hm : c8 g) {v : Nat} (hv : (v : Int) < g.1) : gI (tuS g p) (v : Int) = tuL p (gI p.1 (v : Int)) (cF g (v : Int)) := by
 unfold tuS
 have : v < g.1.toNat := by omega
 simp [gI, this]
theorem iB : (tuS g p).length = g.1.toNat := by simp [tuS]
theorem qB (hm : c8 g) (hc : tl g p) (hfew : (g.2.length : Int) ≤ 2000) : gZ g (tuS g p) := by
 have h0 := hm.1
 refine n9 hm (by rw [iB]; omega) fun v hv => ?_
 rw [iB] at hv
 have hp := m5 (p := p) (jI hm hc hfew (v : Int)).2
 rw [tt hm (by omega)]
 exact ⟨hp.nodup_iff.2 jg, fun h => by rw [hp.mem_iff]; exact mN⟩
structure fX (g : dd) (p : dp) (first : dR) (v : Nat) : Prop where
 len : first.length = g.1.toNat
 row : ∀ j : Nat, j < g.1.toNat → gI first (j : Int) = if j < v then tuL p (gI p.1 (j : Int)) (cF g (j : Int)) else cF g (j : Int)
 ok : ∀ j : Nat, j < v → ¬ iV p (gI p.1 (j : Int)) (cF g (j : Int))
theorem fX.start (hm : c8 g) : fX g p (eH g) 0 := by
 have h0 := hm.1
 refine ⟨by simp [eH], fun j hj => ?_, fun j hj => by omega⟩
 rw [if_neg (by omega)]
 unfold eH
 simp [gI, hj]
theorem fX.start' (hm : c8 g) {r : dR} (h : r = eH g) : fX g p r 0 := h ▸ fX.start hm
theorem fX.now {first : dR} {v : Nat} (h : fX g p first v) (hv : v < g.1.toNat) : gI first (v : Int) = cF g (v : Int) := by
 rw [h.row v hv, if_neg (by omega)]
theorem fX.next {first : dR} {v : Nat} {X : List Int} (h : fX g p first v) (hv : v < g.1.toNat) (hX : X = tuL p (gI p.1 (v : Int)) (cF g (v : Int))) (hn : ¬ iV p (gI p.1 (v : Int)) (cF g (v : Int))) : fX g p (first.set (Int.toNat (v : Int)) X) (v + 1) := by
 have hl := h.len
 refine ⟨by simpa using hl, fun j hj => ?_, fun j hj => ?_⟩
 · rw [hE (by omega) (by omega) (by omega)]
   by_cases e : (j : Int) = (v : Int)
   · have : j = v := by omega
     subst this
     rw [if_pos rfl, if_pos (by omega), hX]
   · rw [if_neg e, h.row j hj]
     by_cases c : j < v
     · rw [if_pos c, if_pos (by omega)]
     · rw [if_neg c, if_neg (by omega)]
 · by_cases e : j = v
   · subst e; exact hn
   · exact h.ok j (by omega)
theorem fX.fin {first : dR} {v : Nat} (h : fX g p first v) (hv : v = g.1.toNat) : first = tuS g p ∧ ¬ iM g p := by
 subst hv
 refine ⟨?_, fun ⟨v, hv, hb⟩ => h.ok v hv hb⟩
 apply List.ext_getElem
 · rw [h.len, iB]
 · intro i h1 h2
   have hi : i < g.1.toNat := by rw [← h.len]; exact h1
   have := h.row i hi
   rw [if_pos hi] at this
   have e1 : gI first (i : Int) = first[i] := by simp [gI, h1]
   rw [← e1, this]
   simp [tuS]
theorem pG {to_ : List Pt} {l : List Int} {k : Nat} (h : to_ = (l.take k).map (dS p)) (hk : (k : Int) < l.length) : to_ ++ [dS p (gI l (k : Int))] = (l.take (k + 1)).map (dS p) := by
 rw [bC hk, List.map_append, h]; rfl
theorem sj {to_ : List Pt} {l : List Int} {k : Nat} (h : to_ = (l.take k).map (dS p)) (hk : ¬ (k : Int) < l.length) : to_ = dh p l := by
 rw [h, List.take_of_length_le (by omega)]; rfl
def lc (p : dp) (o : Pt) (l T : List Int) (i : Nat) : Prop := T = ((arL o (dh p l)).take i).map (gI l) ∧ ∀ j : Nat, j < i → 0 < j → ¬ cH (aQ (gI (dh p l) (gI (arL o (dh p l)) ((j : Int) - 1))) o) (aQ (gI (dh p l) (gI (arL o (dh p l)) (j : Int))) o)
theorem lc.start {o : Pt} {l : List Int} : lc p o l [] 0 := ⟨rfl, fun j hj => by omega⟩
theorem lc.next {o : Pt} {l T : List Int} {i : Nat} (h : lc p o l T i) (hi : (i : Int) < (arL o (dh p l)).length) (hs : ¬ 0 < (i : Int) ∨ ¬ decide (cH (aQ (gI (dh p l) (gI (arL o (dh p l)) ((i : Int) - 1))) o) (aQ (gI (dh p l) (gI (arL o (dh p l)) (i : Int))) o)) = true) :
   lc p o l (T ++ [gI l (gI (arL o (dh p l)) (i : Int))]) (i + 1) := by
 refine ⟨by rw [bC hi, List.map_append, h.1]; rfl, fun j hj h0 hb => ?_⟩
 by_cases e : j = i
 · subst e
   rcases hs with hs | hs
   · omega
   · exact hs (decide_eq_true hb)
 · exact h.2 j (by omega) h0 hb
theorem lc.fin {o : Pt} {l T : List Int} {i : Nat} (hz : fU o (dh p l)) (h : lc p o l T i) (hi : ¬ (i : Int) < (arL o (dh p l)).length) : T = tuL p o l ∧ ¬ iV p o l := by
 have hl := fT hz
 have e : (dh p l).length = l.length := by simp [dh]
 refine ⟨by rw [h.1, List.take_of_length_le (by omega)]; rfl, fun ⟨j, hj, h0, hb⟩ => h.2 j (by omega) h0 hb⟩
theorem lc.bad {v : Nat} {i : Nat} (hv : v < g.1.toNat) (hz : fU (gI p.1 (v : Int)) (dh p (cF g (v : Int)))) (hi : (i : Int) < (arL (gI p.1 (v : Int)) (dh p (cF g (v : Int)))).length) (h0 : 0 < (i : Int))
   (hs : decide (cH (aQ (gI (dh p (cF g (v : Int))) (gI (arL (gI p.1 (v : Int)) (dh p (cF g (v : Int)))) ((i : Int) - 1))) (gI p.1 (v : Int))) (aQ (gI (dh p (cF g (v : Int))) (gI (arL (gI p.1 (v : Int)) (dh p (cF g (v : Int)))) (i : Int))) (gI p.1 (v : Int)))) = true) : iM g p := by
 have hl := fT hz
 have e : (dh p (cF g (v : Int))).length = (cF g (v : Int)).length := by simp [dh]
 exact ⟨v, hv, i, by omega, by omega, of_decide_eq_true hs⟩
theorem lO (h : ¬ c8 g) : turnsR g p = ([], 1) := by unfold turnsR; rw [if_neg h]
theorem kQ (h : c8 g) (h1 : ¬ bZ g p = []) : turnsR g p = ([], 24) := by unfold turnsR; rw [if_pos h, if_neg h1]
theorem jf (h : c8 g) (h1 : bZ g p = []) (h2 : iM g p) : turnsR g p = ([], 24) := by unfold turnsR; rw [if_pos h, if_pos h1, if_pos h2]
theorem kO (h : c8 g) (h1 : bZ g p = []) (h2 : ¬ iM g p) : turnsR g p = (dM (tuS g p), 0) := by unfold turnsR; rw [if_pos h, if_pos h1, if_neg h2]
theorem i6 (h : c8 g) (h1 : bZ g p = []) (hfew : (g.2.length : Int) ≤ 2000) {first : dR} {v : Nat} (ht : fX g p first v) (hv : v = g.1.toNat) : d3 g first = turnsR g p := by
 obtain ⟨e, hb⟩ := ht.fin hv
 rw [e, kO h h1 hb, lD h (qB h (jw.1 h1) hfew)]
end
end TL
/-
  TlJudge4: directions around a point; a plot turned by a quarter; the example's rotation.
  By an AI agent.
-/
set_option linter.all false
namespace TL
section
variable {u v w : Pt}
theorem jF (hu : Up u) (hv : Up v) (hc : cM u v = 0) : 0 < fp u v := by
 unfold cM at hc
 unfold fp
 unfold Up at hu hv
 rcases hu with hu | ⟨hu1, hu2⟩
 · rcases hv with hv | ⟨hv1, hv2⟩
   · have h1 := Int.mul_pos hu hv
     have h2 : 0 ≤ u.2 * v.2 := by
       refine Classical.byContradiction fun hn => ?_
       have h3 := Int.mul_neg_of_pos_of_neg hv (show u.2 * v.2 < 0 by omega)
       have h4 : v.1 * (u.2 * v.2) = u.1 * (v.2 * v.2) := by
         have : u.1 * v.2 = u.2 * v.1 := by omega
         calc v.1 * (u.2 * v.2) = (u.2 * v.1) * v.2 := by grind
           _ = (u.1 * v.2) * v.2 := by rw [this]
           _ = u.1 * (v.2 * v.2) := by grind
       have h5 : 0 ≤ v.2 * v.2 := by
         rcases Int.le_total 0 v.2 with h | h
         · exact Int.mul_nonneg h h
         · exact Int.mul_nonneg_of_nonpos_of_nonpos h h
       have h6 := Int.mul_nonneg (Int.le_of_lt hu) h5
       omega
     omega
   · rw [hv1] at hc
     have := Int.mul_pos hu hv2
     omega
 · rw [hu1] at hc
   have h0 : u.2 * v.1 = 0 := by omega
   have hv1 : v.1 = 0 := by
     rcases Int.mul_eq_zero.1 h0 with h | h
     · omega
     · exact h
   have hv2 : 0 < v.2 := by omega
   have := Int.mul_pos hu2 hv2
   rw [hu1, hv1]; omega
theorem pN (u v : Pt) : fp (kC u) (kC v) = fp u v := by unfold fp kC; grind
theorem rC (hu : nz u) (hv : nz v) (h : bi u = bi v) (hc : cM u v = 0) : cH u v := by
 refine ⟨hc, ?_⟩
 rcases iW hu with ⟨a1, a2⟩ | ⟨a1, a2⟩ <;> rcases iW hv with ⟨b1, b2⟩ | ⟨b1, b2⟩ <;> try (exfalso; omega)
 · exact jF a2 b2 hc
 · have := jF a2 b2 (by rw [io]; exact hc)
   rwa [pN] at this
theorem mR (hu : nz u) (hv : nz v) (h : cH u v) : bi u = bi v := by
 obtain ⟨hc, hd⟩ := h
 have e1 : cM u (kC v) = - cM u v := by unfold cM kC; grind
 have e2 : fp u (kC v) = - fp u v := by unfold fp kC; grind
 have e3 : cM (kC u) v = - cM u v := by unfold cM kC; grind
 have e4 : fp (kC u) v = - fp u v := by unfold fp kC; grind
 rcases iW hu with ⟨a1, a2⟩ | ⟨a1, a2⟩ <;> rcases iW hv with ⟨b1, b2⟩ | ⟨b1, b2⟩
 · omega
 · have := jF a2 b2 (by omega); omega
 · have := jF a2 b2 (by omega); omega
 · omega
theorem ot (h : cH u v) : cH v u := by
 obtain ⟨h1, h2⟩ := h
 refine ⟨by rw [fA]; omega, ?_⟩
 unfold fp at *
 rw [Int.mul_comm v.1, Int.mul_comm v.2]; exact h2
theorem tR {i j k : Int} (hu : nz u) (hv : nz v) (hw : nz w) (h1 : j9 u v i j) (h2 : j9 v w j k) (h : cH u w) : cH u v := by
 have hh := mR hu hw h
 unfold j9 at h1 h2
 have e1 : bi u = bi v := by omega
 have e2 : bi v = bi w := by omega
 have t := ld hu hv hw e1 e2 (by omega) (by omega)
 have h0 := h.1
 refine rC hu hv e1 ?_
 by_cases c : cM u v < 0
 · have := t.2 (.inl c); omega
 · omega
end
section
variable {p : dp} {o : Pt} {l : List Int}
theorem nM {i k : Int} (hz : fU o (dh p l)) (hi : 0 ≤ i ∧ i < ((dh p l).length : Int)) (hk : 0 ≤ k ∧ k < ((dh p l).length : Int)) (hne : i ≠ k) (hs : cH (vA o (dh p l) i) (vA o (dh p l) k)) : iV p o l := by
 have hl := fT hz
 have e : (dh p l).length = l.length := by simp [dh]
 obtain ⟨s, hs1, hs2⟩ := jR (((fa hz).2 i).2 hi)
 obtain ⟨t, ht1, ht2⟩ := jR (((fa hz).2 k).2 hk)
 have key : ∀ s t : Nat, s < t → t < (arL o (dh p l)).length → cH (vA o (dh p l) (gI (arL o (dh p l)) (s : Int))) (vA o (dh p l) (gI (arL o (dh p l)) (t : Int))) → iV p o l := by
   intro s t hst ht hs
   refine ⟨s + 1, by omega, by omega, ?_⟩
   have e1 : (((s + 1 : Nat) : Int) - 1) = (s : Int) := by omega
   rw [e1]
   show cH (vA o (dh p l) (gI (arL o (dh p l)) (s : Int))) (vA o (dh p l) (gI (arL o (dh p l)) ((s + 1 : Nat) : Int)))
   by_cases c : s + 1 = t
   · rw [c]; exact hs
   · have a := hZ hz (i := (s : Int)) (by omega) (by omega)
     have b := hZ hz (i := ((s + 1 : Nat) : Int)) (by omega) (by omega)
     have d := hZ hz (i := (t : Int)) (by omega) (by omega)
     exact tR (hz.nz a.1 a.2) (hz.nz b.1 b.2) (hz.nz d.1 d.2) (l7 hz (by omega) (by omega) (by omega)) (l7 hz (by omega) (by omega) (by omega)) hs
 rcases Nat.lt_trichotomy s t with c | c | c
 · exact key s t c ht1 (by rw [hs2, ht2]; exact hs)
 · subst c; exact absurd (hs2.symm.trans ht2) hne
 · exact key t s c hs1 (by rw [hs2, ht2]; exact ot hs)
theorem iY (hz : fU o (dh p l)) (h : iV p o l) : ∃ i k : Int, ((0 ≤ i ∧ i < ((dh p l).length : Int)) ∧ 0 ≤ k ∧ k < ((dh p l).length : Int)) ∧ i ≠ k ∧ cH (vA o (dh p l) i) (vA o (dh p l) k) := by
 obtain ⟨j, hj, h0, hs⟩ := h
 have e : (dh p l).length = l.length := by simp [dh]
 exact ⟨_, _, ⟨hZ hz (i := (j : Int) - 1) (by omega) (by omega), hZ hz (i := (j : Int)) (by omega) (by omega)⟩, sy hz (by omega) (by omega) (by omega), hs⟩
end
def nI : dd := (3, [(0, 1), (1, 2)])
def qr : dp := ([(0, 0), (2, 0), (1, 0)], [[(0, 0), (1, 1), (2, 0)], [(2, 0), (1, 0)]])
theorem oZ : c8 nI := by decide
theorem l4 : bZ nI qr = [] := by decide +kernel
def oo (p : dp) (o : Pt) (l : List Int) : Bool := (List.range l.length).all fun i => (List.range l.length).all fun k => i == k || !decide (cH (vA o (dh p l) (i : Int)) (vA o (dh p l) (k : Int)))
theorem pp : (List.range 3).all (fun v => oo qr (gI qr.1 ((v : Nat) : Int)) (cF nI ((v : Nat) : Int))) = true := by decide +kernel
theorem qg : ¬ iM nI qr := by
 rintro ⟨v, hv, hb⟩
 have hv3 : v < 3 := hv
 have hz := (jI oZ (jw.1 l4) (by decide) (v : Int)).2
 obtain ⟨i, k, ⟨hi, hk⟩, hne, hs⟩ := iY hz hb
 have e : (dh qr (cF nI (v : Int))).length = (cF nI (v : Int)).length := by simp [dh]
 have h1 := List.all_eq_true.1 pp v (List.mem_range.2 hv3)
 unfold oo at h1
 have i1 : i.toNat ∈ List.range (cF nI (v : Int)).length := List.mem_range.2 (by omega)
 have k1 : k.toNat ∈ List.range (cF nI (v : Int)).length := List.mem_range.2 (by omega)
 have h2 := List.all_eq_true.1 (List.all_eq_true.1 h1 _ i1) _ k1
 rw [Int.toNat_of_nonneg hi.1, Int.toNat_of_nonneg hk.1, decide_eq_true hs] at h2
 simp at h2
 omega
theorem ko : turnsR nI qr = (dM (tuS nI qr), 0) := kO oZ l4 qg
theorem oR : (List.length (turnsR nI qr).1 : Int) = 3 := by
 rw [ko]
 simp [dM, iB]; rfl
theorem pa : (turnsR nI qr).2 = 0 := by rw [ko]
section
variable {u v : Pt} {i k : Int}
theorem dW (u : Pt) : (bi u = 0 ∧ (0 < u.1 ∨ u.1 = 0 ∧ 0 < u.2)) ∨ (bi u = 1 ∧ ¬ (0 < u.1 ∨ u.1 = 0 ∧ 0 < u.2)) := by
 unfold bi
 split
 · exact .inl ⟨rfl, by assumption⟩
 · exact .inr ⟨rfl, by assumption⟩
theorem jL (u v : Pt) : cM (bF u) (bF v) = cM u v := by unfold cM bF; grind
theorem rj (u v : Pt) : fp (bF u) (bF v) = fp u v := by unfold fp bF; grind
theorem my (u : Pt) : oc (bF u) = oc u := by unfold oc bF; grind
theorem qd (a o : Pt) : aQ (bF a) (bF o) = bF (aQ a o) := Prod.ext (show -a.2 - -o.2 = -(a.2 - o.2) by omega) rfl
theorem kj : cH (bF u) (bF v) ↔ cH u v := by unfold cH; rw [jL, rj]
def eY (u : Pt) : Prop := 0 ≤ u.1 ∧ 0 < u.2
instance (u : Pt) : Decidable (eY u) := by unfold eY; infer_instance
theorem nj (hu : ¬ eY u) (hv : eY v) (hn : nz u) : j9 (bF u) (bF v) i k := by
 have h1 := dW (bF u)
 have h2 := dW (bF v)
 unfold j9
 rw [jL]
 unfold eY at hu hv
 unfold nz at hn
 unfold bF at h1 h2 ⊢
 simp only at h1 h2 ⊢
 have hx : bi (-v.2, v.1) = 1 := by omega
 rcases h1 with ⟨a, b⟩ | ⟨a, b⟩
 · left; rw [a, hx]; decide
 · right
   refine ⟨by rw [a, hx], .inl ?_⟩
   have c1 : u.1 < 0 := by omega
   have c2 : 0 ≤ u.2 := by omega
   have m1 := Int.mul_neg_of_neg_of_pos c1 hv.2
   have m2 := Int.mul_nonneg c2 hv.1
   unfold cM; omega
theorem na (hu : eY u) (hv : ¬ eY v) (hn : nz v) : j9 u v i k := by
 have h1 := dW u
 have h2 := dW v
 unfold j9
 unfold eY at hu hv
 unfold nz at hn
 have hx : bi u = 0 := by omega
 rcases h2 with ⟨a, b⟩ | ⟨a, b⟩
 · right
   refine ⟨by rw [a, hx], .inl ?_⟩
   have c1 : 0 < v.1 := by omega
   have c2 : v.2 ≤ 0 := by omega
   have m1 := Int.mul_nonpos_of_nonneg_of_nonpos hu.1 c2
   have m2 := Int.mul_pos hu.2 c1
   unfold cM; omega
 · left; rw [a, hx]; decide
theorem lE (hn : nz u) (hm : nz v) (h : j9 u v i k) (hq : eY u ↔ eY v) : j9 (bF u) (bF v) i k := by
 have h1 := dW u
 have h2 := dW v
 have h3 := dW (bF u)
 have h4 := dW (bF v)
 unfold j9 at h ⊢
 rw [jL, my, my]
 unfold eY at hq
 unfold nz at hn hm
 unfold bF at h3 h4 ⊢
 simp only at h3 h4 ⊢
 have hc : cM u v = u.1 * v.2 - u.2 * v.1 := rfl
 rcases h with h | ⟨h, h'⟩
 · -- from the right half to the left one
   have c1 : bi u = 0 := by omega
   have c2 : bi v = 1 := by omega
   have nq : ¬ (0 ≤ u.1 ∧ 0 < u.2) := by omega
   have u1 : 0 < u.1 := by omega
   have u2 : u.2 ≤ 0 := by omega
   have e3 : bi (-u.2, u.1) = 0 := by omega
   rcases h4 with ⟨a, b⟩ | ⟨a, b⟩
   · right
     refine ⟨by rw [e3, a], .inl ?_⟩
     have v2 : v.2 < 0 := by omega
     have v1 : v.1 ≤ 0 := by omega
     have m1 := Int.mul_neg_of_pos_of_neg u1 v2
     have m2 := Int.mul_nonneg_of_nonpos_of_nonpos u2 v1
     omega
   · left; rw [e3, a]; decide
 · by_cases c : bi (-u.2, u.1) = bi (-v.2, v.1)
   · exact .inr ⟨c, h'⟩
   · left
     refine Classical.byContradiction fun hno => ?_
     have e3 : bi (-u.2, u.1) = 1 := by omega
     have e4 : bi (-v.2, v.1) = 0 := by omega
     have c1 : bi u = 1 := by omega
     have u1 : u.1 < 0 := by omega
     have u2 : 0 ≤ u.2 := by omega
     have v2 : v.2 < 0 := by omega
     have v1 : v.1 ≤ 0 := by omega
     have m1 := Int.mul_pos_of_neg_of_neg u1 v2
     have m2 := Int.mul_nonpos_of_nonneg_of_nonpos u2 v1
     omega
end
section
variable {o : Pt} {ps : List Pt}
theorem fH {i : Int} (h0 : 0 ≤ i) (h1 : i < ps.length) : vA (bF o) (ps.map bF) i = bF (vA o ps i) := by
 unfold vA; rw [cD h0 h1, qd]
theorem lT {a b : Pt} (h : bF a = bF b) : a = b := by
 unfold bF at h
 simp only [Prod.mk.injEq] at h
 exact Prod.ext (by omega) (by omega)
theorem mB (hz : fU o ps) : fU (bF o) (ps.map bF) := by
 intro i hi
 rw [List.length_map] at hi
 rw [cD (by omega) (by omega)]
 exact fun e => hz i hi (lT e)
theorem sW (hz : fU o ps) : ∃ A B : List Int, arL o ps = A ++ B ∧ arL (bF o) (ps.map bF) = B ++ A := by
  obtain ⟨hp, hm⟩ := fa hz
  have hin : ∀ x ∈ arL o ps, 0 ≤ x ∧ x < (ps.length : Int) := fun x hx => (hm x).1 hx
  refine ⟨(arL o ps).filter fun x => decide (eY (vA o ps x)), (arL o ps).filter fun x => !decide (eY (vA o ps x)), ?_, ?_⟩
  · symm
    refine lh hz ⟨?_, fun x => ?_⟩
    · rw [List.pairwise_append]
      refine ⟨hp.sublist List.filter_sublist, hp.sublist List.filter_sublist, fun a ha b hb => ?_⟩
      obtain ⟨ha1, ha2⟩ := List.mem_filter.1 ha
      obtain ⟨hb1, hb2⟩ := List.mem_filter.1 hb
      have k := hin b hb1
      exact na (of_decide_eq_true ha2) (by simpa using hb2) (hz.nz k.1 k.2)
    · rw [List.mem_append, List.mem_filter, List.mem_filter, ← hm x]
      by_cases c : eY (vA o ps x) <;> simp [c]
  · symm
    refine lh (mB hz) ⟨?_, fun x => ?_⟩
    · have imp : ∀ (q : Pt → Bool), (∀ a b : Pt, q a = true → q b = true → (eY a ↔ eY b)) → ((arL o ps).filter fun x => q (vA o ps x)).Pairwise (ic (bF o) (ps.map bF)) := by
        intro q hq
        have h1 := hp.sublist (List.filter_sublist (p := fun x => q (vA o ps x)))
        refine List.Pairwise.imp_of_mem ?_ h1
        intro a b ha hb hab
        obtain ⟨ha1, ha2⟩ := List.mem_filter.1 ha
        obtain ⟨hb1, hb2⟩ := List.mem_filter.1 hb
        have ka := hin a ha1
        have kb := hin b hb1
        unfold ic
        rw [fH ka.1 ka.2, fH kb.1 kb.2]
        exact lE (hz.nz ka.1 ka.2) (hz.nz kb.1 kb.2) hab (hq _ _ ha2 hb2)
      rw [List.pairwise_append]
      refine ⟨imp (fun x => !decide (eY x)) fun a b ha hb => ?_, imp (fun x => decide (eY x)) fun a b ha hb => ?_, fun a ha b hb => ?_⟩
      · simp at ha hb
        exact ⟨fun h => absurd h ha, fun h => absurd h hb⟩
      · exact ⟨fun _ => of_decide_eq_true hb, fun _ => of_decide_eq_true ha⟩
      · obtain ⟨ha1, ha2⟩ := List.mem_filter.1 ha
        obtain ⟨hb1, hb2⟩ := List.mem_filter.1 hb
        have ka := hin a ha1
        have kb := hin b hb1
        unfold ic
        rw [fH ka.1 ka.2, fH kb.1 kb.2]
        exact nj (by simpa using ha2) (of_decide_eq_true hb2) (hz.nz ka.1 ka.2)
    · rw [List.length_map, List.mem_append, List.mem_filter, List.mem_filter, ← hm x]
      by_cases c : eY (vA o ps x) <;> simp [c]
end
end TL
/-
  TlJTr: plots moved as a whole: their flaws.
  By an AI agent.
-/
set_option linter.all false
namespace TL
structure jl (T : Pt → Pt) (D : Pt → Prop) : Prop where
  inj : ∀ a b, T a = T b → a = b
  ok : ∀ a, D a → (c5 (T a) ↔ c5 a)
  on : ∀ a b q, bG (T a) (T b) (T q) ↔ bG a b q
  meet : ∀ a b c d, c5 a → c5 b → c5 c → c5 d → c5 (T a) → c5 (T b) → c5 (T c) → c5 (T d) → aP (T a) (T b) (T c) (T d) = aP a b c d
theorem od : jl bF (fun _ => True) :=
 ⟨fun a b h => lT h, fun a _ => by unfold c5 bF; simp only; omega, fun _ _ _ => m9, fun a b c d h1 h2 h3 h4 _ _ _ _ => oD h1.bd h2.bd h3.bd h4.bd⟩
def fC (T : Pt → Pt) (p : dp) : dp := (p.1.map T, p.2.map (List.map T))
section
variable {T : Pt → Pt} {D : Pt → Prop} {g : dd} {p : dp} {l a b but : List Pt} {q : Pt} {i k : Nat}
theorem jl.eq (hT : jl T D) {x y : Pt} : T x = T y ↔ x = y := ⟨hT.inj x y, fun h => by rw [h]⟩
theorem jl.okl (hT : jl T D) (hD : ∀ q ∈ l, D q) : d7 (l.map T) ↔ d7 l := by
 unfold d7
 rw [List.length_map]
 refine and_congr Iff.rfl ⟨fun h q hq => (hT.ok q (hD q hq)).1 (h _ (List.mem_map_of_mem hq)), fun h q hq => ?_⟩
 obtain ⟨x, hx, rfl⟩ := List.mem_map.1 hq
 exact (hT.ok x (hD x hx)).2 (h x hx)
theorem jl.lnp (hT : jl T D) (hD : ∀ q ∈ l, D q) : ti (l.map T) ↔ ti l := by
 unfold ti
 rw [hT.okl hD, List.length_map]
theorem jl.both (hT : jl T D) {x y u v z : Pt} : dP (T x) (T y) (T u) (T v) (T z) ↔ dP x y u v z := by unfold dP; rw [hT.on, hT.on]
theorem jl.over (hT : jl T D) : dQ (l.map T) (T q) ↔ dQ l q := by
 rw [gx, gx, List.length_map]
 constructor
 · rintro ⟨j, hj, h⟩
   rw [cD (by omega) (by omega), cD (by omega) (by omega), hT.on] at h
   exact ⟨j, hj, h⟩
 · rintro ⟨j, hj, h⟩
   refine ⟨j, hj, ?_⟩
   rw [cD (by omega) (by omega), cD (by omega) (by omega), hT.on]
   exact h
theorem jl.only (hT : jl T D) {s t : Sg} (h1 : c5 s.1) (h2 : c5 s.2) (h3 : c5 t.1) (h4 : c5 t.2) (k1 : c5 (T s.1)) (k2 : c5 (T s.2)) (k3 : c5 (T t.1)) (k4 : c5 (T t.2)) : cr (T s.1, T s.2) (T t.1, T t.2) (but.map T) ↔ cr s t but := by
 unfold cr
 simp only
 rw [hT.meet _ _ _ _ h1 h2 h3 h4 k1 k2 k3 k4]
 have : (∃ x ∈ but.map T, dP (T s.1) (T s.2) (T t.1) (T t.2) x) ↔ ∃ x ∈ but, dP s.1 s.2 t.1 t.2 x := by
   constructor
   · rintro ⟨x, hx, h⟩
     obtain ⟨y, hy, rfl⟩ := List.mem_map.1 hx
     exact ⟨y, hy, hT.both.1 h⟩
   · rintro ⟨x, hx, h⟩
     exact ⟨T x, List.mem_map_of_mem hx, hT.both.2 h⟩
 rw [this]
theorem jl.apa (hT : jl T D) (ha : d7 a) (hb : d7 b) (ha' : d7 (a.map T)) (hb' : d7 (b.map T)) : go (a.map T) (b.map T) (but.map T) ↔ go a b but := by
 have key : ∀ j : Nat, j + 1 < a.length → ∀ q : Nat, q + 1 < b.length → (cr (gI (a.map T) (j : Int), gI (a.map T) ((j : Int) + 1)) (gI (b.map T) (q : Int), gI (b.map T) ((q : Int) + 1)) (but.map T) ↔ cr (gI a (j : Int), gI a ((j : Int) + 1)) (gI b (q : Int), gI b ((q : Int) + 1)) but) := by
   intro j hj q hq
   rw [cD (by omega) (by omega), cD (by omega) (by omega), cD (by omega) (by omega), cD (by omega) (by omega)]
   have o1 : ∀ i : Int, 0 ≤ i → i < a.length → c5 (gI a i) ∧ c5 (T (gI a i)) := fun i h0 h1 => ⟨ha.2 _ (bf h0 h1), ha'.2 _ (List.mem_map_of_mem (bf h0 h1))⟩
   have o2 : ∀ i : Int, 0 ≤ i → i < b.length → c5 (gI b i) ∧ c5 (T (gI b i)) := fun i h0 h1 => ⟨hb.2 _ (bf h0 h1), hb'.2 _ (List.mem_map_of_mem (bf h0 h1))⟩
   have x1 := o1 (j : Int) (by omega) (by omega)
   have x2 := o1 ((j : Int) + 1) (by omega) (by omega)
   have y1 := o2 (q : Int) (by omega) (by omega)
   have y2 := o2 ((q : Int) + 1) (by omega) (by omega)
   exact hT.only (s := (gI a (j : Int), gI a ((j : Int) + 1))) (t := (gI b (q : Int), gI b ((q : Int) + 1))) x1.1 x2.1 y1.1 y2.1 x1.2 x2.2 y1.2 y2.2
 rw [ii, ii, List.length_map, List.length_map]
 exact ⟨fun h j hj q hq => (key j hj q hq).1 (h j hj q hq), fun h j hj q hq => (key j hj q hq).2 (h j hj q hq)⟩
theorem jl.sim (hT : jl T D) (hl : d7 l) (hl' : d7 (l.map T)) : gp (l.map T) ↔ gp l := by
 have hg : ∀ i : Int, 0 ≤ i → i < l.length → gI (l.map T) i = T (gI l i) := fun i h0 h1 => cD h0 h1
 have ho : ∀ i : Int, 0 ≤ i → i < l.length → c5 (gI l i) ∧ c5 (T (gI l i)) := fun i h0 h1 => ⟨hl.2 _ (bf h0 h1), hl'.2 _ (List.mem_map_of_mem (bf h0 h1))⟩
 have hcl : bS (l.map T) ↔ bS l := by
   unfold bS
   rw [List.length_map]
   refine and_congr_right fun h => ?_
   rw [hg 0 (by omega) (by omega), hg _ (by omega) (by omega), hT.eq]
 have hbad : ∀ i k : Nat, (i : Int) ≤ (l.length : Int) - 2 → (k : Int) ≤ (l.length : Int) - 2 → (fG (l.map T) i k ↔ fG l i k) := by
   intro i k hi hk
   unfold fG eD tQ
   rw [hcl, List.length_map, hg _ (by omega) (by omega), hg _ (by omega) (by omega), hg _ (by omega) (by omega), hg _ (by omega) (by omega)]
   have x1 := ho (i : Int) (by omega) (by omega)
   have x2 := ho ((i : Int) + 1) (by omega) (by omega)
   have y1 := ho (k : Int) (by omega) (by omega)
   have y2 := ho ((k : Int) + 1) (by omega) (by omega)
   rw [hT.meet _ _ _ _ x1.1 x2.1 y1.1 y2.1 x1.2 x2.2 y1.2 y2.2]
 unfold gp l9
 rw [List.length_map]
 constructor
 · intro h i hi hi2
   obtain ⟨h1, h2⟩ := h i hi hi2
   rw [hg _ (by omega) (by omega), hg _ (by omega) (by omega), Ne, hT.eq] at h1
   exact ⟨h1, fun k hk hik hk2 hb => h2 k hk hik hk2 ((hbad i k hi2 hk2).2 hb)⟩
 · intro h i hi hi2
   obtain ⟨h1, h2⟩ := h i hi hi2
   refine ⟨?_, fun k hk hik hk2 hb => h2 k hk hik hk2 ((hbad i k hi2 hk2).1 hb)⟩
   rw [hg _ (by omega) (by omega), hg _ (by omega) (by omega), Ne, hT.eq]
   exact h1
theorem eW {v : Int} (h0 : 0 ≤ v) (h1 : v < p.1.length) : gI (fC T p).1 v = T (gI p.1 v) := cD h0 h1
theorem fN {e : Int} (h0 : 0 ≤ e) (h1 : e < p.2.length) : gI (fC T p).2 e = (gI p.2 e).map T := cD h0 h1
theorem ik : (fC T p).1.length = p.1.length ∧ (fC T p).2.length = p.2.length := ⟨List.length_map _, List.length_map _⟩
theorem iT {β : Type} {P Q : Prop} [Decidable P] [Decidable Q] {x : β} (h : P ↔ Q) : fl P x = fl Q x := by
 by_cases c : Q
 · rw [dg c, dg (h.2 c)]
 · rw [cW c, cW (fun h' => c (h.1 h'))]
theorem jl.shape (hT : jl T D) (hD1 : ∀ q ∈ p.1, D q) (hD2 : ∀ l ∈ p.2, ∀ q ∈ l, D q) : bP g (fC T p) = bP g p := by
 unfold bP
 rw [ik.1, ik.2]
 have e1 : bj (h8 (fC T p)) p.1.length = bj (h8 p) p.1.length := dJ fun v hv => by
   unfold h8
   rw [eW (by omega) (by omega)]
   exact iT (not_congr (hT.ok _ (hD1 _ (bf (by omega) (by omega)))))
 have e2 : bj (j0 (fC T p)) p.2.length = bj (j0 p) p.2.length := dJ fun v hv => by
   unfold j0
   rw [fN (by omega) (by omega)]
   exact iT (not_congr (hT.lnp (hD2 _ (bf (by omega) (by omega)))))
 rw [e1, e2]
theorem kh (hT : jl T D) (hm : c8 g) (hD1 : ∀ q ∈ p.1, D q) (hD2 : ∀ l ∈ p.2, ∀ q ∈ l, D q) : bZ g (fC T p) = bZ g p := by
 have hsh := hT.shape (g := g) hD1 hD2
 unfold bZ
 rw [hsh]
 by_cases c : bP g p = []
 · rw [if_pos c, if_pos c]
   have hs := eI.1 c
   have hs' := eI.1 (hsh.trans c)
   have hn := hs.n
   have hmm := hs.m
   have l1 : (fC T p).1.length = p.1.length := ik.1
   have l2 : (fC T p).2.length = p.2.length := ik.2
   have okln : ∀ e : Nat, e < p.2.length → d7 (gI p.2 (e : Int)) ∧ d7 ((gI p.2 (e : Int)).map T) ∧ 2 ≤ (gI p.2 (e : Int)).length := fun e he => by
     have a := hs.ln (e : Int) (by omega) (by omega)
     have b := hs'.ln (e : Int) (by omega) (by rw [l2]; omega)
     rw [fN (by omega) (by omega)] at b
     exact ⟨a.2, b.2, by omega⟩
   have ed : ∀ e : Nat, e < p.2.length → ((0 ≤ (gI g.2 (e : Int)).1 ∧ (gI g.2 (e : Int)).1 < p.1.length) ∧ 0 ≤ (gI g.2 (e : Int)).2 ∧ (gI g.2 (e : Int)).2 < p.1.length) := fun e he => by
     obtain ⟨⟨a, b⟩, c, d⟩ := iq hm (e := (e : Int)) (by omega) (by omega)
     exact ⟨⟨a, by omega⟩, c, by omega⟩
   have e1 : bW (fC T p) = bW p := by
     unfold bW
     rw [l1]
     refine dJ fun v hv => dJ fun w hw => ?_
     unfold mW
     rw [eW (by omega) (by omega), eW (by omega) (by omega)]
     exact iT (and_congr Iff.rfl hT.eq)
   have e2 : dj g (fC T p) = dj g p := by
     unfold dj
     rw [l2]
     congr 1
     · refine dJ fun e he => ?_
       obtain ⟨o1, o2, o3⟩ := okln e he
       obtain ⟨⟨x1, x2⟩, x3, x4⟩ := ed e he
       have : gj g (fC T p) (e : Int) ↔ gj g p (e : Int) := by
         unfold gj
         rw [fN (by omega) (by omega), eW x1 x2, eW x3 x4, List.length_map, cD (by omega) (by omega), cD (by omega) (by omega)]
         exact and_congr hT.eq hT.eq
       exact iT (not_congr this)
     · refine dJ fun e he => ?_
       unfold dZ
       obtain ⟨o1, o2, o3⟩ := okln e he
       rw [fN (by omega) (by omega)]
       exact iT (not_congr (hT.sim o1 o2))
   have e3 : de g (fC T p) = de g p := by
     unfold de
     rw [l2, l1]
     refine dJ fun e he => dJ fun v hv => ?_
     unfold e8
     rw [fN (by omega) (by omega), eW (by omega) (by omega)]
     exact iT (and_congr Iff.rfl hT.over)
   have e4 : jN g (fC T p) = jN g p := by
     unfold jN
     rw [l2]
     refine dJ fun e he => dJ fun f hf => ?_
     unfold dI
     have es : gW g (fC T p) (e : Int) (f : Int) = (gW g p (e : Int) (f : Int)).map T := by
       unfold gW fl
       obtain ⟨⟨x1, x2⟩, x3, x4⟩ := ed e he
       rw [eW x1 x2, eW x3 x4, List.map_append]
       split <;> split <;> rfl
     rw [fN (by omega) (by omega), fN (by omega) (by omega), es]
     exact iT (and_congr Iff.rfl (not_congr (hT.apa (okln e he).1 (okln f hf).1 (okln e he).2.1 (okln f hf).2.1)))
   rw [e1, e2, e3, e4]
 · rw [if_neg c, if_neg c]
end
abbrev fo (p : dp) : dp := fC bF p
section
variable {g : dd} {p : dp}
theorem nt (g : dd) (p : dp) : aO g (fo p) = aO g p := by
 unfold aO
 by_cases hm : c8 g
 · rw [if_pos hm, if_pos hm, kh od hm (fun _ _ => trivial) (fun _ _ _ _ => trivial)]
 · rw [if_neg hm, if_neg hm]
theorem r9 (hm : c8 g) (hc : tl g p) {v h : Int} (hh : h ∈ cF g v) : dS (fo p) h = bF (dS p h) := by
 obtain ⟨⟨⟨h0, h1⟩, h2⟩, _⟩ := iy hm hc hh
 unfold dS
 rw [fN (by omega) (by omega), List.length_map, cD (by omega) (by omega), cD (by omega) (by omega)]
 split <;> rfl
theorem mc (hm : c8 g) (hc : tl g p) (v : Int) : dh (fo p) (cF g v) = (dh p (cF g v)).map bF := by
 unfold dh
 rw [List.map_map]
 exact List.map_congr_left fun h hh => r9 hm hc hh
theorem ni (hfew : c8 g → (g.2.length : Int) ≤ 2000) : turnsR g (fo p) = turnsR g p := by
 unfold turnsR
 by_cases hm : c8 g
 · rw [if_pos hm, if_pos hm, kh od hm (fun _ _ => trivial) (fun _ _ _ _ => trivial)]
   by_cases hc0 : bZ g p = []
   · rw [if_pos hc0, if_pos hc0]
     have hc := jw.1 hc0
     have hn := hc.sh.n
     have h0 := hm.1
     have hat : ∀ v : Nat, v < g.1.toNat → gI (fo p).1 (v : Int) = bF (gI p.1 (v : Int)) := fun v hv => eW (by omega) (by omega)
     have hz : ∀ v : Nat, fU (gI p.1 (v : Int)) (dh p (cF g (v : Int))) := fun v => (jI hm hc (hfew hm) (v : Int)).2
     have hbad : iM g (fo p) ↔ iM g p := by
       have one : ∀ v : Nat, v < g.1.toNat → (iV (fo p) (gI (fo p).1 (v : Int)) (cF g (v : Int)) ↔ iV p (gI p.1 (v : Int)) (cF g (v : Int))) := by
         intro v hv
         have ht := mc hm hc (v : Int)
         have hz2 : fU (gI (fo p).1 (v : Int)) (dh (fo p) (cF g (v : Int))) := by rw [hat v hv, ht]; exact mB (hz v)
         constructor
         · intro h
           obtain ⟨i, k, ⟨hi, hk⟩, hne, hs⟩ := iY hz2 h
           rw [hat v hv, ht] at hs
           rw [ht, List.length_map] at hi hk
           rw [fH hi.1 hi.2, fH hk.1 hk.2, kj] at hs
           exact nM (hz v) hi hk hne hs
         · intro h
           obtain ⟨i, k, ⟨hi, hk⟩, hne, hs⟩ := iY (hz v) h
           refine nM hz2 (i := i) (k := k) (by rw [ht, List.length_map]; exact hi) (by rw [ht, List.length_map]; exact hk) hne ?_
           rw [hat v hv, ht, fH hi.1 hi.2, fH hk.1 hk.2, kj]
           exact hs
       exact ⟨fun ⟨v, hv, h⟩ => ⟨v, hv, (one v hv).1 h⟩, fun ⟨v, hv, h⟩ => ⟨v, hv, (one v hv).2 h⟩⟩
     by_cases hb : iM g p
     · rw [if_pos hb, if_pos (hbad.2 hb)]
     · rw [if_neg hb, if_neg (fun h => hb (hbad.1 h))]
       have : dM (tuS g (fo p)) = dM (tuS g p) := by
         unfold dM tuS
         rw [List.map_map, List.map_map]
         refine List.map_congr_left fun v hv => ?_
         have hv' := List.mem_range.1 hv
         simp only [Function.comp_apply]
         unfold tuL
         rw [hat v hv', mc hm hc (v : Int)]
         obtain ⟨X, Y, e1, e2⟩ := sW (hz v)
         rw [e1, e2, List.map_append, List.map_append]
         refine lu ?_
         have hp := (m5 (p := p) (hz v)).nodup_iff.2 (jg (g := g) (v := (v : Int)))
         unfold tuL at hp
         rwa [e1, List.map_append] at hp
       rw [this]
   · rw [if_neg hc0, if_neg hc0]
 · rw [if_neg hm, if_neg hm]
end
def fz (p : dp) : Nat → Int
 | 0 => (p.1.length : Int)
 | k + 1 => fz p k + ((gI p.2 (k : Int)).length : Int) + 1
theorem mp {p : dp} (h1 : (p.1.length : Int) ≤ 1048576) (h : ∀ l ∈ p.2, l.length ≤ 1048576) : ∀ k : Nat, (k : Int) ≤ p.2.length → 0 ≤ fz p k ∧ fz p k ≤ 1048576 + 1048577 * (k : Int)
 | 0, _ => by unfold fz; omega
 | k + 1, hk => by
   have h2 := mp h1 h k (by omega)
   have h3 := h _ (bf (xs := p.2) (i := (k : Int)) (by omega) (by omega))
   unfold fz; omega
def dF (g : dd) (p : dp) : Prop := fz p p.2.length ≤ 400 ∧ (¬ c8 g ∨ g.1 ≤ 30 ∧ (g.2.length : Int) ≤ 40)
instance (g : dd) (p : dp) : Decidable (dF g p) := by unfold dF; infer_instance
theorem mr {p : dp} : ∀ k : Nat, (p.1.length : Int) + k ≤ fz p k ∧ ∀ e : Nat, e < k → ((gI p.2 (e : Int)).length : Int) ≤ fz p k
 | 0 => ⟨by unfold fz; omega, fun e he => by omega⟩
 | k + 1 => by
   obtain ⟨h1, h2⟩ := mr (p := p) k
   refine ⟨by unfold fz; omega, fun e he => ?_⟩
   unfold fz
   by_cases c : e = k
   · subst c; omega
   · have := h2 e (by omega); omega
theorem np {g : dd} {p : dp} (h : dF g p) : (c8 g → (g.2.length : Int) ≤ 2000) ∧ ((p.1.length : Int) ≤ 400 ∧ (p.2.length : Int) ≤ 400) ∧ ∀ e : Int, 0 ≤ e → e < p.2.length → ((gI p.2 e).length : Int) ≤ 400 := by
 obtain ⟨h1, h2⟩ := mr (p := p) p.2.length
 obtain ⟨h3, h4⟩ := h
 refine ⟨fun hm => ?_, ⟨by omega, by omega⟩, fun e h0 he => ?_⟩
 · rcases h4 with h4 | h4
   · exact absurd hm h4
   · omega
 · have := h2 e.toNat (by omega)
   rw [Int.toNat_of_nonneg h0] at this
   omega
end TL
namespace TL
def pJ (q : Pt) : Prop := (-9223372036854775808 ≤ q.1 ∧ q.1 ≤ 9223372036854775807) ∧ -9223372036854775808 ≤ q.2 ∧ q.2 ≤ 9223372036854775807
def sI (p : dp) : Prop := ((p.1.length : Int) ≤ 1048576 ∧ (p.2.length : Int) ≤ 1048576 ∧ ∀ l ∈ p.2, l.length ≤ 1048576) ∧ (∀ q ∈ p.1, pJ q) ∧ ∀ l ∈ p.2, ∀ q ∈ l, pJ q
section
variable {g : dd} {p : dp} {l r : List Pt} {L : List (List Pt)} {k e : Nat}
theorem lN (h : r = (l.take k).map bF) (hk : (k : Int) < l.length) : r ++ [(-(gI l (k : Int)).2, (gI l (k : Int)).1)] = (l.take (k + 1)).map bF := by
 rw [bC hk, List.map_append, h]; rfl
theorem pD (h : r = (l.take k).map bF) : r.length ≤ k := by rw [h, List.length_map, List.length_take]; omega
theorem qu (h : L = (p.2.take e).map (List.map bF)) (he : (e : Int) < p.2.length) (hr : r = ((gI p.2 (e : Int)).take k).map bF) (hk : ¬ (k : Int) < (gI p.2 (e : Int)).length) : L ++ [r] = (p.2.take (e + 1)).map (List.map bF) := by
 have e1 : (gI p.2 (e : Int)).take k = gI p.2 (e : Int) := List.take_of_length_le (by omega)
 rw [bC he, List.map_append, h, hr, e1]; rfl
theorem sF (h : L = (p.2.take e).map (List.map bF)) : L.length ≤ e := by rw [h, List.length_map, List.length_take]; omega
theorem sw (h1 : r = (p.1.take k).map bF) (h2 : ¬ (k : Int) < p.1.length) (h3 : L = (p.2.take e).map (List.map bF)) (h4 : ¬ (e : Int) < p.2.length) : (r, L) = fo p := by
 rw [List.take_of_length_le (by omega)] at h1
 rw [List.take_of_length_le (by omega)] at h3
 rw [h1, h3]; rfl
end
end TL
namespace TL
section
variable {α : Type} [Inhabited α] [DecidableEq α] {a b : List α} {k : Nat}
theorem rk (h : List.take k a = List.take k b) (h1 : (k : Int) < a.length) (h2 : (k : Int) < b.length) (he : gI a (k : Int) = gI b (k : Int)) : List.take (k + 1) a = List.take (k + 1) b := by
 rw [bC h1, bC h2, h, he]
theorem sR (h : List.take k a = List.take k b) (h1 : ¬ (k : Int) < a.length) (h2 : ((a.length : Nat) : Int) = (b.length : Int)) : true = decide (a = b) := by
 rw [List.take_of_length_le (by omega), List.take_of_length_le (by omega)] at h
 exact (decide_eq_true h).symm
theorem tH (he : ¬ gI a (k : Int) = gI b (k : Int)) : false = decide (a = b) := (decide_eq_false fun h => he (by rw [h])).symm
theorem sE (h2 : ¬ ((a.length : Nat) : Int) = (b.length : Int)) : false = decide (a = b) := (decide_eq_false fun h => h2 (by rw [h])).symm
end
section
variable {g : dd} {p : dp} {n : Int} {e : Nat}
theorem tz (h : n = fz p e) (he : e = p.2.length) (h1 : ¬ n ≤ 400) : false = decide (dF g p) := by
 subst he; exact (decide_eq_false fun c => h1 (by rw [h]; exact c.1)).symm
theorem tL (h : n = fz p e) (he : e = p.2.length) (h1 : n ≤ 400) (h2 : ¬ cU g = true) : true = decide (dF g p) := by
 subst he; exact (decide_eq_true ⟨by rw [← h]; exact h1, .inl fun c => h2 (decide_eq_true c)⟩).symm
theorem tI (h : n = fz p e) (he : e = p.2.length) (h1 : n ≤ 400) (h2 : cU g = true) (h3 : g.1 ≤ 30) : decide ((g.2.length : Int) ≤ 40) = decide (dF g p) := by
 subst he
 rw [decide_eq_decide]
 exact ⟨fun c => ⟨by rw [← h]; exact h1, .inr ⟨h3, c⟩⟩, fun c => (c.2.resolve_left fun q => q (of_decide_eq_true h2)).2⟩
theorem tK (h : n = fz p e) (he : e = p.2.length) (h1 : n ≤ 400) (h2 : cU g = true) (h3 : ¬ g.1 ≤ 30) : false = decide (dF g p) := by
 subst he
 exact (decide_eq_false fun c => h3 (c.2.resolve_left fun q => q (of_decide_eq_true h2)).1).symm
end
end TL
/-
  TlOpen: arguments opened: what a law's reader says of a slice is what a walk wants of it.
  By an AI agent.
-/
namespace TL
open Go Go.Proofs Go.ChangeShapes Go.WideShapes Go.Joins Go.Deep
structure gr {H : Type} (f : DataW H → Nat) : Prop where
 slice : ∀ l s : List (DataW H), l.length ≤ f (.slice l s)
 elem : ∀ l s : List (DataW H), ∀ d ∈ l, f d ≤ f (.slice l s)
 part : ∀ l : List (DataW H), ∀ d ∈ l, f d ≤ f (.agg l)
def rn (α : Type) [Rp α] (P : Program) (t : TypeId) : Prop :=
  ∀ {H : Type} (enc : TypeId × Value → H) (w : World) (fuel : Nat) (cs : List Value) (x : DataW H × List MemPlace), DataW.trod enc P w 0 (fun _ => true) true fuel t cs = some x → ∃ y : α, Rp.rep c0 any w cs y
theorem mI {P : Program} {t : TypeId} (ht : P.underlying t = some (.int .i64)) : rn Int P t := by
 intro H enc w fuel cs x h
 obtain ⟨n, rfl, _, _⟩ := DataW.trod_int ht h
 exact ⟨n, rfl⟩
theorem ku {H : Type} {enc : TypeId × Value → H} {P : Program} {w : World} {base : Nat} {spare : Nat → Bool} {held : Bool} {t e : TypeId} {fuel : Nat} {cs : List Value} {x : DataW H × List MemPlace} (ht : P.underlying t = some (.array 2 e)) (hce : P.cellsOf e = 1) (hct : P.cellsOf t = 2)
   (h : DataW.trod enc P w base spare held fuel t cs = some x) :
   ∃ v0 v1 y0 y1 n, cs = [v0, v1] ∧ x = (.agg [y0.1, y1.1], y0.2 ++ y1.2) ∧ DataW.trod enc P w base spare held n e [v0] = some y0 ∧ DataW.trod enc P w base spare held n e [v1] = some y1 := by
 cases fuel with
 | zero => simp [DataW.trod] at h
 | succ n =>
   unfold DataW.trod at h
   rw [ht] at h
   have r2 : List.range 2 = [0, 1] := rfl
   simp only [hct] at h
   by_cases hl : cs.length = 2
   · rw [if_pos hl] at h
     match cs, hl with
     | [v0, v1], _ =>
       simp [r2, hce] at h
       cases h0 : DataW.trod enc P w base spare held n e [v0] with
       | none => simp [h0] at h
       | some y0 =>
         cases h1 : DataW.trod enc P w base spare held n e [v1] with
         | none => simp [h0, h1] at h
         | some y1 =>
           simp [h0, h1] at h
           exact ⟨v0, v1, y0, y1, n, rfl, h.symm, h0, h1⟩
   · rw [if_neg hl] at h; cases h
theorem rG {P : Program} {t e : TypeId} (ht : P.underlying t = some (.array 2 e)) (he : P.underlying e = some (.int .i64)) (hce : P.cellsOf e = 1) (hct : P.cellsOf t = 2) : rn (Int × Int) P t := by
 intro H enc w fuel cs x h
 obtain ⟨v0, v1, y0, y1, n, rfl, _, h0, h1⟩ := ku ht hce hct h
 obtain ⟨a, ha⟩ := mI he enc w n [v0] y0 h0
 obtain ⟨b, hb⟩ := mI he enc w n [v1] y1 h1
 exact ⟨(a, b), [v0], [v1], rfl, ha, hb⟩
theorem mP {α : Type} [Rp α] [Inhabited α] {P : Program} {t e : TypeId} (ht : P.underlying t = some (.slice e)) (hc : P.cellsOf e = Rp.sz α) (hz : 0 < Rp.sz α) (he : rn α P e)
    {H : Type} {enc : TypeId × Value → H} {w : World} {f : DataW H → Nat} (hf : gr f) {fuel : Nat} {v : Value} {x : DataW H × List MemPlace}
    (hs : ∀ a len cap, v = .slice (some a) len cap → a.spot = none) (h : DataW.trod enc P w 0 (fun _ => true) true fuel t [v] = some x) (hb : f x.1 ≤ 1048576) : ∃ xs : List α, Ro w v xs := by
  rcases Deep.open_slice ht h with ⟨h0, _⟩ | ⟨a, len, cap, m, n, D, Pl, h0, _, hlc, _, hm, rfl, hx⟩
  · obtain rfl : v = .slice none 0 0 := by simpa using h0
    exact ⟨[], .inl ⟨⟨_, rfl⟩, rfl⟩⟩
  · obtain rfl : v = .slice (some a) len cap := by simpa using h0
    have hsp := hs a len cap rfl
    obtain ⟨b, off, spot⟩ := a
    obtain rfl : spot = none := hsp
    simp only [if_true] at hm
    subst hm
    obtain ⟨Y, hY⟩ := Deep.choose_lt (α := α) (n := len) (p := fun i y => ∃ cs, (∀ j, j < Rp.sz α → w.cell? ⟨b, off + i * Rp.sz α + j, none⟩ = cs[j]?) ∧ Rp.rep c0 any w cs y) (fun i hi => by
      obtain ⟨cs', h1, h2⟩ := hx i (by omega)
      obtain ⟨y, hy⟩ := he enc w n cs' _ h2
      refine ⟨y, cs', fun j hj => ?_, hy⟩
      obtain ⟨_, hl, hcell⟩ := World.cells?_some h1
      have := hcell j (by omega)
      rw [Deep.add_add, hc] at this
      rw [← this]
      unfold Addr.add
      by_cases hij : i * Rp.sz α + j = 0
      · rw [if_pos hij, Nat.add_assoc, hij]; rfl
      · rw [if_neg hij, Nat.add_assoc])
    have hlen : ((List.range len).map Y).length = len := by simp
    have hbound := Nat.le_trans (hf.slice _ _) hb
    refine ⟨(List.range len).map Y, .inr ⟨b, off, m, by rw [hlen], ⟨by omega, by simp at hbound; omega⟩, fun i y hi => ?_⟩⟩
    have hil : i < len := by
      have := (List.getElem?_eq_some_iff.1 hi).1
      omega
    obtain rfl : Y i = y := by simpa [hil] using hi
    obtain ⟨cs, h1, h2⟩ := hY i hil
    refine ⟨?_, trivial, cs, h1, h2⟩
    have h3 := h1 0 hz
    have h4 := Rp.len h2
    have h5 : 0 < cs.length := by omega
    rw [List.getElem?_eq_getElem h5] at h3
    by_cases hbl : b < w.heap.size
    · exact hbl
    · have : w.heap[b]? = none := Array.getElem?_eq_none (by omega)
      simp [World.cell?, this] at h3
theorem fb {P : Program} {w : World} {base : Nat} {t e : TypeId} {v : Value} (ht : P.underlying t = some (.slice e)) (h : Cell.okWide P w .any base t v) : ∀ a len cap, v = .slice (some a) len cap → a.spot = none := by
 rintro a len cap rfl
 simp only [Cell.okWide, Cell.ok, ht] at h
 exact h.2.2.2.1
theorem qU {α : Type} [Rp α] [Inhabited α] {P : Program} {t t0 t1 e : TypeId} {f0 f1 : Field} (hs : P.underlying t = some (.struct #[f0, f1])) (hone : oneCellFields P #[f0, f1] = true) (hC : P.cellsOf t = 2) (hts : P.cellTypes P.depth t = some [t0, t1])
    (h0 : f0.type = t0) (h1 : f1.type = t1) (hi : P.underlying t0 = some (.int .i64)) (ht : P.underlying t1 = some (.slice e)) (hc : P.cellsOf e = Rp.sz α) (hz : 0 < Rp.sz α) (he : rn α P e)
    {H : Type} {enc : TypeId × Value → H} {w : World} {f : DataW H → Nat} (hf : gr f) {base : Nat} {v : Value} {d : DataW H} {p : List MemPlace}
    (hval : Value.okWide P w .any base t v) (h : DataW.Trod enc P w 0 (fun _ => true) true t v d p) (hb : f d ≤ 1048576) : ∃ (n : Int) (u : Value) (xs : List α), v = .agg #[.int .i64 n, u] ∧ Ro w u xs := by
  obtain ⟨v0, v1, y0, y1, n, rfl, rfl, rfl, r0, r1⟩ := open_agg2 hs hone hC hval h
  subst h0 h1
  obtain ⟨k, hk, _, _⟩ := DataW.trod_int hi r0
  obtain rfl : v0 = .int .i64 k := by simpa using hk
  have hcell : Cell.okWide P w .any base f1.type v1 := by
    simp only [Value.okWide, hs] at hval
    obtain ⟨cs, hcs, _, ts, h3, _, h4⟩ := hval
    rw [hts] at h3
    obtain rfl := Option.some.inj h3
    obtain rfl : #[Value.int .i64 k, v1] = cs := by simpa using hcs
    obtain ⟨u, hu, hk⟩ := h4 1 v1 rfl
    simp at hu
    subst hu
    exact hk
  obtain ⟨xs, hx⟩ := mP ht hc hz he hf (fb ht hcell) (x := y1) r1 (Nat.le_trans (hf.part _ _ (by simp)) hb)
  exact ⟨k, v1, xs, rfl, hx⟩
end TL
/-
  TlPost: what is owed behind a law that returns true and writes nothing of the caller's.
  By an AI agent.
-/
namespace TL
open Go Go.Proofs Go.ChangeShapes Go.WideShapes Go.RowKit
def mu (P : Program) (ts : List TypeId) : Bool := ts.all fun t => P.readableRec t && decide (t < P.types.size)
theorem jt {H : Type} {enc : TypeId × Value → H} {P : Program} (hl : laidOutB P = true) {W W' : World} (hb : Below W.heap.size W W') (sp : Nat → Bool) :
   ∀ {ts : List TypeId} {vs : List Value} {ds : List (DataW H)} {ps : List MemPlace}, mu P ts = true → DataW.TrodAll enc P W 0 (fun _ => true) true ts vs ds ps → (∀ p ∈ ps, p.block < W.heap.size) → (∀ p ∈ ps, sp p.block = true) → DataW.TrodAll enc P W' 0 sp true ts vs ds ps
 | [], [], [], _, _, h, _, _ => h
 | [], [], _ :: _, _, _, h, _, _ => h.elim
 | [], _ :: _, _, _, _, h, _, _ => by cases ‹List (DataW H)› <;> exact h.elim
 | _ :: _, [], _, _, _, h, _, _ => by cases ‹List (DataW H)› <;> exact h.elim
 | _ :: _, _ :: _, [], _, _, h, _, _ => h.elim
 | t :: ts, v :: vs, d :: ds, ps, hr, h, hlt, hsp => by
   obtain ⟨p, q, h1, h2, rfl⟩ := h
   simp only [mu, List.all_cons, Bool.and_eq_true, decide_eq_true_eq] at hr
   exact ⟨p, q, WideElems.Trod_stays hl hr.1.1 hr.1.2 h1 (fun x hx => hb.same (hlt x (by simp [hx]))) (fun x hx => hsp x (by simp [hx])),
     jt hl hb sp hr.2 h2 (fun x hx => hlt x (by simp [hx])) (fun x hx => hsp x (by simp [hx])), rfl⟩
theorem py {H : Type} {enc : TypeId × Value → H} {P : Program} {f : Func} {s : ChangeSpec} {W W' : World} {args : Array Value} {ds gs : List (DataW H)} {before : List MemPlace} {tb : TypeId}
   (hl : laidOutB P = true) (hr : mu P f.params.toList = true) (hv : s.vars = []) (hrt : f.resultTypes = #[tb]) (htb : P.underlying tb = some .bool)
   (hW : DataW.Whole enc P f.params.toList s.vars false W args.toList ds gs before) (hfn : s.fn H (ds ++ gs) = { results := [.lit (.bool true)], args := ds }) (hB : Below W.heap.size W W') :
   s.post enc P f false true false false W args (.bool true) W' := by
 have hlt := hW.lt
 have hW0 := hW
 obtain ⟨p, q, hA, hV, rfl, hfz, _⟩ := hW
 rw [hv] at hV
 obtain ⟨rfl, rfl⟩ := trodVars_none hV
 simp only [List.append_nil] at hlt hfz hW0 hfn
 have hres : ∀ (b : Nat) (sp : Nat → Bool) (hd : Bool), DataW.TrodAll enc P W' b sp hd f.resultTypes.toList ((Value.bool true).resultList f.resultTypes.size) (s.fn H (ds ++ [])).results [] := fun b sp hd => by
   rw [hrt, List.append_nil, hfn]
   exact trodAll_cons_mk (shut_bool htb true) trodAll_mk0
 have hargs : ∀ sp : Nat → Bool, (∀ x ∈ p, sp x.block = true) → DataW.TrodAll enc P W' 0 sp true f.params.toList args.toList (s.fn H (ds ++ [])).args p := fun sp hsp => by
   rw [List.append_nil, hfn]
   exact jt hl hB sp hr hA hlt hsp
 have hvars : ∀ sp : Nat → Bool, DataW.TrodVars enc P W' sp s.vars (s.fn H (ds ++ [])).vars [] := fun sp => by
   rw [List.append_nil, hfn, hv]
   rfl
 refine ⟨ds, [], p, [], p, [], hW0, hres _ _ _, hargs _ (fun x hx => by simpa using hlt x hx), hvars _, World.keptBut_mono (fun x hx => ⟨hx, Or.inr (by simpa using hx)⟩) (hB.frame _), fun _ => ?_⟩
 refine ⟨?_, _, _, ([] ++ p) ++ [], ⟨[] ++ p, [], trodAll_append (hargs _ (fun _ _ => rfl)) (hres _ _ _), hvars _, rfl, ?_, ?_⟩, ?_⟩
 · exact ok_one hrt rfl (okWide_bool_mk htb true)
 · intro b off hp
   have hp' : MemPlace.cell b off ∈ p := by simpa using hp
   rw [hB.frozen (p := ⟨b, off, none⟩) (hlt _ hp')]
   exact hfz b off hp'
 · intro ha; cases ha
 · intro x hx _
   simpa using hx
end TL
/-
  TlOpenL: arguments that are plots: a list of points, and a list of lists of points; whole numbers in their range.
  By an AI agent.
-/
set_option linter.all false
namespace TL
open Go Go.Proofs Go.ChangeShapes Go.WideShapes Go.Joins Go.Deep
def mX (α : Type) [Rp α] (Q : α → Prop) (P : Program) (t : TypeId) : Prop :=
  ∀ {H : Type} (enc : TypeId × Value → H) (w : World) (fuel : Nat) (cs : List Value) (x : DataW H × List MemPlace), DataW.trod enc P w 0 (fun _ => true) true fuel t cs = some x → ∃ y : α, Rp.rep c0 any w cs y ∧ Q y
def u4 (n : Int) : Prop := -9223372036854775808 ≤ n ∧ n ≤ 9223372036854775807
theorem lS {P : Program} {t : TypeId} (ht : P.underlying t = some (.int .i64)) : mX Int u4 P t := by
 intro H enc w fuel cs x h
 obtain ⟨n, rfl, _, hw⟩ := DataW.trod_int ht h
 refine ⟨n, rfl, ?_⟩
 simp only [Lit.wf, Bool.and_eq_true, decide_eq_true_eq] at hw
 have e1 : IntKind.i64.min = -9223372036854775808 := by decide
 have e2 : IntKind.i64.max = 9223372036854775807 := by decide
 unfold u4
 omega
theorem sH {P : Program} {t e : TypeId} {f0 f1 : Field} (hs : P.underlying t = some (.struct #[f0, f1])) (hone : oneCellFields P #[f0, f1] = true) (hC : P.cellsOf t = 2) (h0 : f0.type = e) (h1 : f1.type = e) (he : P.underlying e = some (.int .i64)) : mX (Int × Int) pJ P t := by
 intro H enc w fuel cs x h
 obtain ⟨y0, y1, n, _, hl, k0, k1⟩ := trod_struct2 hs h
 obtain ⟨o0, c0⟩ := hone_of hone 0 f0 rfl
 obtain ⟨o1, c1⟩ := hone_of hone 1 f1 rfl
 rw [hC] at hl
 match cs, hl with
 | [v0, v1], _ =>
   have k0' : DataW.trod enc P w 0 (fun _ => true) true n f0.type [v0] = some y0 := by simpa [o0, c0] using k0
   have k1' : DataW.trod enc P w 0 (fun _ => true) true n f1.type [v1] = some y1 := by simpa [o1, c1] using k1
   rw [h0] at k0'
   rw [h1] at k1'
   obtain ⟨a, ha, qa⟩ := lS he enc w n [v0] y0 k0'
   obtain ⟨b, hb, qb⟩ := lS he enc w n [v1] y1 k1'
   exact ⟨(a, b), ⟨[v0], [v1], rfl, ha, hb⟩, qa, qb⟩
theorem jp {α : Type} [Rp α] [Inhabited α] {Q : α → Prop} {P : Program} {t e : TypeId} (ht : P.underlying t = some (.slice e)) (hc : P.cellsOf e = Rp.sz α) (hz : 0 < Rp.sz α) (he : mX α Q P e)
   {H : Type} {enc : TypeId × Value → H} {w : World} {f : DataW H → Nat} (hf : gr f) {fuel : Nat} {v : Value} {x : DataW H × List MemPlace}
   (hs : ∀ a len cap, v = .slice (some a) len cap → a.spot = none) (h : DataW.trod enc P w 0 (fun _ => true) true fuel t [v] = some x) (hb : f x.1 ≤ 1048576) : ∃ xs : List α, Ro w v xs ∧ (∀ y ∈ xs, Q y) ∧ xs.length ≤ 1048576 := by
 rcases Deep.open_slice ht h with ⟨h0, _⟩ | ⟨a, len, cap, m, n, D, Pl, h0, _, hlc, _, hm, rfl, hx⟩
 · obtain rfl : v = .slice none 0 0 := by simpa using h0
   exact ⟨[], .inl ⟨⟨_, rfl⟩, rfl⟩, fun y hy => (by cases hy), by simp⟩
 · obtain rfl : v = .slice (some a) len cap := by simpa using h0
   have hsp := hs a len cap rfl
   obtain ⟨b, off, spot⟩ := a
   obtain rfl : spot = none := hsp
   simp only [if_true] at hm
   subst hm
   obtain ⟨Y, hY⟩ := Deep.choose_lt (α := α) (n := len) (p := fun i y => (∃ cs, (∀ j, j < Rp.sz α → w.cell? ⟨b, off + i * Rp.sz α + j, none⟩ = cs[j]?) ∧ Rp.rep c0 any w cs y) ∧ Q y) (fun i hi => by
     obtain ⟨cs', h1, h2⟩ := hx i (by omega)
     obtain ⟨y, hy, hq⟩ := he enc w n cs' _ h2
     refine ⟨y, ⟨cs', fun j hj => ?_, hy⟩, hq⟩
     obtain ⟨_, hl, hcell⟩ := World.cells?_some h1
     have := hcell j (by omega)
     rw [Deep.add_add, hc] at this
     rw [← this]
     unfold Addr.add
     by_cases hij : i * Rp.sz α + j = 0
     · rw [if_pos hij, Nat.add_assoc, hij]; rfl
     · rw [if_neg hij, Nat.add_assoc])
   have hlen : ((List.range len).map Y).length = len := by simp
   have hbound := Nat.le_trans (hf.slice _ _) hb
   have hll : len ≤ 1048576 := by simp at hbound; omega
   refine ⟨(List.range len).map Y, .inr ⟨b, off, m, by rw [hlen], ⟨by omega, by omega⟩, fun i y hi => ?_⟩, fun y hy => ?_, by omega⟩
   · have hil : i < len := by
       have := (List.getElem?_eq_some_iff.1 hi).1
       omega
     obtain rfl : Y i = y := by simpa [hil] using hi
     obtain ⟨⟨cs, h1, h2⟩, _⟩ := hY i hil
     refine ⟨?_, trivial, cs, h1, h2⟩
     have h3 := h1 0 hz
     have h4 := Rp.len h2
     have h5 : 0 < cs.length := by omega
     rw [List.getElem?_eq_getElem h5] at h3
     by_cases hbl : b < w.heap.size
     · exact hbl
     · have : w.heap[b]? = none := Array.getElem?_eq_none (by omega)
       simp [World.cell?, this] at h3
   · obtain ⟨i, hi, rfl⟩ := List.mem_map.1 hy
     exact (hY i (List.mem_range.1 hi)).2
theorem ny {α : Type} [Rp α] [Inhabited α] {Q : α → Prop} {P : Program} {e q : TypeId} (he : P.underlying e = some (.slice q)) (hc : P.cellsOf q = Rp.sz α) (hz : 0 < Rp.sz α) (hq : mX α Q P q)
    {H : Type} {enc : TypeId × Value → H} {w : World} {f : DataW H → Nat} (hf : gr f) {fuel : Nat} {u : Value} {x : DataW H × List MemPlace}
    (h : DataW.trod enc P w 0 (fun _ => true) true fuel e [u] = some x) (hb : f x.1 ≤ 1048576) : ∃ xs : List α, Ro w u xs ∧ (∀ y ∈ xs, Q y) ∧ xs.length ≤ 1048576 := by
  have h' := h
  rcases Deep.open_slice he h with ⟨h0, _⟩ | ⟨a, len, cap, m, n, D, Pl, h0, _, hlc, _, hm, rfl, hx⟩
  · obtain rfl : u = .slice none 0 0 := by simpa using h0
    exact ⟨[], .inl ⟨⟨_, rfl⟩, rfl⟩, fun y hy => (by cases hy), by simp⟩
  · obtain rfl : u = .slice (some a) len cap := by simpa using h0
    simp only [if_true] at hm
    subst hm
    by_cases hc0 : m = 0
    · have hl : len = 0 := by omega
      subst hl hc0
      exact ⟨[], .inl ⟨⟨_, rfl⟩, rfl⟩, fun y hy => (by cases hy), by simp⟩
    · obtain ⟨cs', h1, h2⟩ := hx 0 (by omega)
      obtain ⟨_, hl, hcell⟩ := World.cells?_some h1
      have h3 := hcell 0 (by omega)
      have h4 : 0 < cs'.length := by omega
      rw [List.getElem?_eq_getElem h4] at h3
      have hs : a.spot = none := by
        have := World.cell?_spot h3
        simpa [Addr.add] using this
      exact jp he hc hz hq hf (by rintro a' len' cap' e'; cases e'; exact hs) h' hb
theorem nr {α : Type} [Rp α] [Inhabited α] {Q : α → Prop} {P : Program} {t e q : TypeId} (ht : P.underlying t = some (.slice e)) (he : P.underlying e = some (.slice q)) (hce : P.cellsOf e = 1) (hc : P.cellsOf q = Rp.sz α) (hz : 0 < Rp.sz α) (hq : mX α Q P q)
    {H : Type} {enc : TypeId × Value → H} {w : World} {f : DataW H → Nat} (hf : gr f) {fuel : Nat} {v : Value} {x : DataW H × List MemPlace}
    (hs : ∀ a len cap, v = .slice (some a) len cap → a.spot = none) (h : DataW.trod enc P w 0 (fun _ => true) true fuel t [v] = some x) (hb : f x.1 ≤ 1048576) : ∃ xss : List (List α), Ro w v xss ∧ (∀ l ∈ xss, (∀ y ∈ l, Q y) ∧ l.length ≤ 1048576) ∧ xss.length ≤ 1048576 := by
  rcases Deep.open_slice ht h with ⟨h0, _⟩ | ⟨a', len, cap, m, n, D, Pl, h0, _, hlc, _, hm, hd, hx⟩
  · obtain rfl : v = .slice none 0 0 := by simpa using h0
    exact ⟨[], .inl ⟨⟨_, rfl⟩, rfl⟩, fun l hl => (by cases hl), by simp⟩
  · obtain rfl : v = .slice (some a') len cap := by simpa using h0
    have hsp := hs a' len cap rfl
    obtain ⟨b, off, spot⟩ := a'
    obtain rfl : spot = none := hsp
    simp only [if_true] at hm
    subst hm hd
    have hbound := Nat.le_trans (hf.slice _ _) hb
    obtain ⟨Y, hY⟩ := Deep.choose_lt (α := List α) (n := len) (p := fun i y => (∃ cs, (∀ j, j < Rp.sz (List α) → w.cell? ⟨b, off + i * Rp.sz (List α) + j, none⟩ = cs[j]?) ∧ Rp.rep c0 any w cs y) ∧ (∀ z ∈ y, Q z) ∧ y.length ≤ 1048576) (fun i hi => by
      obtain ⟨cs', h1, h2⟩ := hx i (by omega)
      obtain ⟨_, hl, hcell⟩ := World.cells?_some h1
      rw [hce] at hl
      obtain ⟨u, rfl⟩ : ∃ u, cs' = [u] := by
        match cs', hl with
        | [u], _ => exact ⟨u, rfl⟩
      obtain ⟨y, hy, hyl⟩ := ny he hc hz hq hf h2 (Nat.le_trans (hf.elem _ _ _ (by simp; exact ⟨i, hi, rfl⟩)) hb)
      refine ⟨y, ⟨[u], fun j hj => ?_, u, rfl, hy⟩, hyl⟩
      have hj0 : j < 1 := hj
      have := hcell j (by rw [hce]; exact hj0)
      rw [Deep.add_add, hce] at this
      rw [← this]
      show w.cell? ⟨b, off + i * 1 + j, none⟩ = _
      unfold Addr.add
      by_cases hij : i * 1 + j = 0
      · rw [if_pos hij, Nat.add_assoc, hij]; rfl
      · rw [if_neg hij, Nat.add_assoc])
    have hlen : ((List.range len).map Y).length = len := by simp
    have hll : len ≤ 1048576 := by simp at hbound; omega
    refine ⟨(List.range len).map Y, .inr ⟨b, off, m, by rw [hlen], ⟨by omega, by omega⟩, fun i y hi => ?_⟩, fun l hl => ?_, by omega⟩
    · have hil : i < len := by
        have := (List.getElem?_eq_some_iff.1 hi).1
        omega
      obtain rfl : Y i = y := by simpa [hil] using hi
      obtain ⟨⟨cs, h1, h2⟩, _⟩ := hY i hil
      refine ⟨?_, trivial, cs, h1, h2⟩
      have h3 := h1 0 Nat.zero_lt_one
      have h4 := Rp.len h2
      have h5 : 0 < cs.length := by rw [h4]; exact Nat.zero_lt_one
      rw [List.getElem?_eq_getElem h5] at h3
      by_cases hbl : b < w.heap.size
      · exact hbl
      · have : w.heap[b]? = none := Array.getElem?_eq_none (by omega)
        simp [World.cell?, this] at h3
    · obtain ⟨i, hi, rfl⟩ := List.mem_map.1 hl
      exact (hY i (List.mem_range.1 hi)).2
theorem ph {P : Program} {t t0 t1 e q : TypeId} {f0 f1 : Field} (hs : P.underlying t = some (.struct #[f0, f1])) (hone : oneCellFields P #[f0, f1] = true) (hC : P.cellsOf t = 2) (hts : P.cellTypes P.depth t = some [t0, t1])
    (h0 : f0.type = t0) (h1 : f1.type = t1) (ht0 : P.underlying t0 = some (.slice q)) (ht1 : P.underlying t1 = some (.slice e)) (he : P.underlying e = some (.slice q)) (hce : P.cellsOf e = 1) (hcq : P.cellsOf q = 2) (hq : mX (Int × Int) pJ P q)
    {H : Type} {enc : TypeId × Value → H} {w : World} {f : DataW H → Nat} (hf : gr f) {base : Nat} {v : Value} {d : DataW H} {p : List MemPlace}
    (hval : Value.okWide P w .any base t v) (h : DataW.Trod enc P w 0 (fun _ => true) true t v d p) (hb : f d ≤ 1048576) : ∃ (u0 u1 : Value) (xs : List (Int × Int)) (xss : List (List (Int × Int))), v = .agg #[u0, u1] ∧ Ro w u0 xs ∧ Ro w u1 xss ∧ sI (xs, xss) := by
  obtain ⟨v0, v1, y0, y1, n, rfl, rfl, rfl, r0, r1⟩ := open_agg2 hs hone hC hval h
  subst h0 h1
  simp only [Value.okWide, hs] at hval
  obtain ⟨cs, hcs, _, ts, h3, _, h4⟩ := hval
  rw [hts] at h3
  obtain rfl := Option.some.inj h3
  obtain rfl : #[v0, v1] = cs := by simpa using hcs
  obtain ⟨t0', hu0, hk0⟩ := h4 0 v0 rfl
  obtain ⟨t1', hu1, hk1⟩ := h4 1 v1 rfl
  simp at hu0 hu1
  subst hu0 hu1
  obtain ⟨xs, hx, hxq, hxl⟩ := jp (α := Int × Int) ht0 (by rw [hcq]; rfl) (by decide) hq hf (fb ht0 hk0) (x := y0) r0 (Nat.le_trans (hf.part _ _ (by simp)) hb)
  obtain ⟨xss, hy, hyq, hyl⟩ := nr (α := Int × Int) ht1 he hce (by rw [hcq]; rfl) (by decide) hq hf (fb ht1 hk1) (x := y1) r1 (Nat.le_trans (hf.part _ _ (by simp)) hb)
  exact ⟨v0, v1, xs, xss, rfl, hx, hy, ⟨by show (xs.length : Int) ≤ _; omega, by show (xss.length : Int) ≤ _; omega, fun l hl => (hyq l hl).2⟩, hxq, fun l hl => (hyq l hl).1⟩
end TL
