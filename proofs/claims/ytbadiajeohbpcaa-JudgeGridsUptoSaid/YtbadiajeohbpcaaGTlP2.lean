/- Plain texts of this claim, part 2. By an AI agent. -/
import Derived.Test.YtbadiajeohbpcaaGTlP1
import Derived.Carry
import Derived.Deep.Slices
import Derived.Lib.SmallJoins
import Derived.RowKit
import Derived.Shelf.SlSortCmp.Whole1
/-
  TlJudge: plots: their flaws, as the code and the document gather them.
  By an AI agent.
-/
set_option linter.all false
namespace TL
abbrev iR := Int × Int × Int
abbrev dl := List Pt × List (List Pt)
def bb {β : Type} (f : Nat → List β) : Nat → List β
  | 0 => []
  | k + 1 => bb f k ++ f k
section
variable {β : Type} {f h : Nat → List β} {k n : Nat} {x : β} {F B : List β}
theorem c6 : ∀ {k : Nat}, bb f k = [] ↔ ∀ j, j < k → f j = []
 | 0 => by simp [bb]
 | k + 1 => by
   rw [bb, List.append_eq_nil_iff, c6]
   constructor
   · rintro ⟨h1, h2⟩ j hj
     by_cases e : j = k
     · subst e; exact h2
     · exact h1 j (by omega)
   · intro h
     exact ⟨fun j hj => h j (by omega), h k (by omega)⟩
theorem ec (hf : ∀ j, j < k → f j = []) : bb f k = [] := c6.2 hf
theorem dG : ∀ {k : Nat}, (∀ j, j < k → f j = h j) → bb f k = bb h k
 | 0, _ => rfl
 | k + 1, e => by rw [bb, bb, dG (fun j hj => e j (by omega)), e k (by omega)]
theorem fF {c : Nat} : ∀ {k : Nat}, (∀ j, j < k → (f j).length ≤ c) → (bb f k).length ≤ k * c
 | 0, _ => by simp [bb]
 | k + 1, e => by
   have h1 := fF (k := k) fun j hj => e j (by omega)
   have h2 := e k (by omega)
   rw [bb, List.length_append, Nat.succ_mul]
   omega
theorem cG (e : ∀ j, (f j).length ≤ 1) : (bb f k).length ≤ k := by
 have := fF (f := f) (k := k) (c := 1) fun j _ => e j
 omega
theorem fD {c : Nat} (hk : k ≤ 3072) (hc : c ≤ 3072) (e : ∀ j, (f j).length ≤ c) : (bb f k).length ≤ 9437184 := by
 have h1 := fF (f := f) (k := k) (c := c) fun j _ => e j
 have h2 : k * c ≤ 3072 * 3072 := Nat.mul_le_mul hk hc
 omega
theorem f3 (hF : F = B ++ bb f k) (hf : f k = [x]) : F ++ [x] = B ++ bb f (k + 1) := by rw [hF, bb, hf, List.append_assoc]
theorem gj (hF : F = B ++ bb f k) (hf : f k = []) : F = B ++ bb f (k + 1) := by rw [hF, bb, hf, List.append_nil]
theorem kf (hF : F = bb f k) (hf : f k = [x]) : F ++ [x] = bb f (k + 1) := by rw [hF, bb, hf]
theorem lW (hF : F = bb f k) (hf : f k = []) : F = bb f (k + 1) := by rw [hF, bb, hf, List.append_nil]
theorem lH (hF : F = (B ++ bb f k) ++ f k) : F = B ++ bb f (k + 1) := by rw [hF, bb, List.append_assoc]
end
def fl {β : Type} (p : Prop) [Decidable p] (x : β) : List β := if p then [x] else []
section
variable {β : Type} {p : Prop} [Decidable p] {x : β}
theorem cD (h : p) : fl p x = [x] := if_pos h
theorem cC (h : ¬ p) : fl p x = [] := if_neg h
theorem dR : (fl p x).length ≤ 1 := by unfold fl; split <;> simp
theorem eW : fl p x = [] ↔ ¬ p := by unfold fl; split <;> simp_all
theorem ng {y : β} : y ∈ fl p x ↔ p ∧ y = x := by unfold fl; split <;> simp_all
end
def sr (l : List Pt) : Prop := 2 ≤ (l.length : Int) ∧ cX l
instance (l : List Pt) : Decidable (sr l) := by unfold sr; infer_instance
def h8 (p : dl) (v : Nat) : List iR := fl (¬ c4 (gI p.1 (v : Int))) (2, (v : Int), 0)
def iT (p : dl) (e : Nat) : List iR := fl (¬ sr (gI p.2 (e : Int))) (3, (e : Int), 0)
def bL (g : da) (p : dl) : List iR :=
 if (p.1.length : Int) = g.1 ∧ (p.2.length : Int) = g.2.length then bb (h8 p) p.1.length ++ bb (iT p) p.2.length else [(1, 0, 0)]
def mw (p : dl) (v w : Nat) : List iR := fl (v < w ∧ gI p.1 (v : Int) = gI p.1 (w : Int)) (4, (v : Int), (w : Int))
def c3 (p : dl) : List iR := bb (fun v => bb (mw p v) p.1.length) p.1.length
def fZ (g : da) (p : dl) (e : Int) : Prop := gI (gI p.2 e) 0 = gI p.1 (gI g.2 e).1 ∧ gI (gI p.2 e) (((gI p.2 e).length : Int) - 1) = gI p.1 (gI g.2 e).2
instance (g : da) (p : dl) (e : Int) : Decidable (fZ g p e) := by unfold fZ; infer_instance
def cB (g : da) (p : dl) (e : Nat) : List iR := fl (¬ fZ g p (e : Int)) (5, (e : Int), 0)
def dY (p : dl) (e : Nat) : List iR := fl (¬ gk (gI p.2 (e : Int))) (6, (e : Int), 0)
def dg (g : da) (p : dl) : List iR := bb (cB g p) p.2.length ++ bb (dY p) p.2.length
def dN (l : List Pt) (q : Pt) : Prop := ∃ s ∈ jM l (l.length - 1), bD s.1 s.2 q
instance (l : List Pt) (q : Pt) : Decidable (dN l q) := by unfold dN; infer_instance
def e7 (g : da) (p : dl) (e v : Nat) : List iR := fl (((v : Int) ≠ (gI g.2 (e : Int)).1 ∧ (v : Int) ≠ (gI g.2 (e : Int)).2) ∧ dN (gI p.2 (e : Int)) (gI p.1 (v : Int))) (7, (e : Int), (v : Int))
def db (g : da) (p : dl) : List iR := bb (fun e => bb (e7 g p e) p.1.length) p.2.length
def gU (g : da) (p : dl) (e f : Int) : List Pt :=
  fl ((gI g.2 e).1 ∈ [(gI g.2 f).1, (gI g.2 f).2]) (gI p.1 (gI g.2 e).1) ++ fl ((gI g.2 e).2 ∈ [(gI g.2 f).1, (gI g.2 f).2]) (gI p.1 (gI g.2 e).2)
def ch (s t : Sg) (but : List Pt) : Prop := aR s.1 s.2 t.1 t.2 = 0 ∨ (aR s.1 s.2 t.1 t.2 = 1 ∨ aR s.1 s.2 t.1 t.2 = 2) ∧ ∃ x ∈ but, dK s.1 s.2 t.1 t.2 x
instance (s t : Sg) (but : List Pt) : Decidable (ch s t but) := by unfold ch; infer_instance
def gm (a b but : List Pt) : Prop := ∀ s ∈ jM a (a.length - 1), ∀ t ∈ jM b (b.length - 1), ch s t but
instance (a b but : List Pt) : Decidable (gm a b but) := by unfold gm; infer_instance
def dF (g : da) (p : dl) (e f : Nat) : List iR := fl (e < f ∧ ¬ gm (gI p.2 (e : Int)) (gI p.2 (f : Int)) (gU g p (e : Int) (f : Int))) (8, (e : Int), (f : Int))
def jl (g : da) (p : dl) : List iR := bb (fun e => bb (dF g p e) p.2.length) p.2.length
def bT (g : da) (p : dl) : List iR :=
 if bL g p = [] then c3 p ++ dg g p ++ (if dg g p = [] then db g p ++ jl g p else []) else bL g p
def aK (g : da) (p : dl) : List iR × Int := if ci g then (bT g p, 0) else ([], 1)
section
variable {g : da} {p : dl}
structure sE (g : da) (p : dl) : Prop where
  n : (p.1.length : Int) = g.1
  m : (p.2.length : Int) = g.2.length
  pt : ∀ v : Int, 0 ≤ v → v < p.1.length → c4 (gI p.1 v)
  ln : ∀ e : Int, 0 ≤ e → e < p.2.length → 2 ≤ ((gI p.2 e).length : Int) ∧ cX (gI p.2 e)
theorem eP : bL g p = [] ↔ sE g p := by
 unfold bL
 by_cases c : (p.1.length : Int) = g.1 ∧ (p.2.length : Int) = g.2.length
 · rw [if_pos c, List.append_eq_nil_iff, c6, c6]
   constructor
   · rintro ⟨h1, h2⟩
     refine ⟨c.1, c.2, fun v h0 hv => ?_, fun e h0 he => ?_⟩
     · have := h1 v.toNat (by omega)
       unfold h8 at this
       rw [eW, Int.toNat_of_nonneg h0] at this
       exact Classical.not_not.1 this
     · have := h2 e.toNat (by omega)
       unfold iT at this
       rw [eW, Int.toNat_of_nonneg h0] at this
       exact Classical.not_not.1 this
   · intro h
     exact ⟨fun v hv => eW.2 (Classical.not_not.2 (h.pt _ (by omega) (by omega))), fun e he => eW.2 (Classical.not_not.2 (h.ln _ (by omega) (by omega)))⟩
 · rw [if_neg c]
   exact ⟨fun h => by simp at h, fun h => absurd ⟨h.n, h.m⟩ c⟩
theorem jk (v : Nat) : (h8 p v).length ≤ 1 := dR
theorem m5 (v : Nat) : (iT p v).length ≤ 1 := dR
theorem ni (u v : Nat) : (mw p u v).length ≤ 1 := dR
theorem jS (v : Nat) : (cB g p v).length ≤ 1 := dR
theorem oy (v : Nat) : (dY p v).length ≤ 1 := dR
theorem iZ (u v : Nat) : (e7 g p u v).length ≤ 1 := dR
theorem iv (u v : Nat) : (dF g p u v).length ≤ 1 := dR
theorem iy (hm : ci g) : ((bL g p).length : Int) ≤ 5000 := by
 obtain ⟨_, h2, h3, _⟩ := hm
 unfold bL
 split
 · rename_i c
   have l1 := cG (f := h8 p) (k := p.1.length) jk
   have l2 := cG (f := iT p) (k := p.2.length) m5
   rw [List.length_append]; omega
 · simp
end
end TL
namespace TL
theorem iG {a b p : Pt} (ha : c4 a) (hb : c4 b) (hp : c4 p) : (dO a b p).1 = decide (bD a b p) := by
 unfold dO; rw [if_pos ⟨ha, hb, hp⟩]
theorem nS {a b c d : Pt} (ha : c4 a) (hb : c4 b) (hc : c4 c) (hd : c4 d) : (cK a b c d).1 = aR a b c d := by
 unfold cK; rw [if_pos ⟨⟨ha, hb⟩, hc, hd⟩]
section
variable {l : List Pt} {p : Pt} {i : Nat}
theorem gv : dN l p ↔ ∃ j : Nat, j + 1 < l.length ∧ bD (gI l (j : Int)) (gI l ((j : Int) + 1)) p := by
 unfold dN
 constructor
 · rintro ⟨s, hs, h⟩
   obtain ⟨j, hj, rfl⟩ := eu.1 hs
   exact ⟨j, by omega, h⟩
 · rintro ⟨j, hj, h⟩
   exact ⟨_, eu.2 ⟨j, by omega, rfl⟩, h⟩
theorem mn {b : Bool} (h : 1 ≤ i ∧ ∀ j : Nat, j + 1 < i → ¬ bD (gI l (j : Int)) (gI l ((j : Int) + 1)) p) (he : b = decide (bD (gI l ((i : Int) - 1)) (gI l (i : Int)) p)) (hb : ¬ b = true) : 1 ≤ i + 1 ∧ ∀ j : Nat, j + 1 < i + 1 → ¬ bD (gI l (j : Int)) (gI l ((j : Int) + 1)) p := by
 refine ⟨by omega, fun j hj => ?_⟩
 by_cases e : j + 1 = i
 · rw [he] at hb
   have e1 : (j : Int) = (i : Int) - 1 := by omega
   have e2 : (j : Int) + 1 = (i : Int) := by omega
   rw [e2, e1]
   simpa using hb
 · exact h.2 j (by omega)
theorem mN {b : Bool} (h1 : 1 ≤ i) (hi : (i : Int) < l.length) (he : b = decide (bD (gI l ((i : Int) - 1)) (gI l (i : Int)) p)) (hb : b = true) : true = decide (dN l p) := by
 refine (decide_eq_true (gv.2 ⟨i - 1, by omega, ?_⟩)).symm
 rw [he] at hb
 have e1 : ((i - 1 : Nat) : Int) = (i : Int) - 1 := by omega
 rw [e1, show (i : Int) - 1 + 1 = (i : Int) by omega]
 exact of_decide_eq_true hb
theorem qV (h : 1 ≤ i ∧ ∀ j : Nat, j + 1 < i → ¬ bD (gI l (j : Int)) (gI l ((j : Int) + 1)) p) (hi : ¬ (i : Int) < l.length) : false = decide (dN l p) := by
 refine (decide_eq_false fun ho => ?_).symm
 obtain ⟨j, hj, hb⟩ := gv.1 ho
 exact h.2 j (by omega) hb
end
section
variable {a b c d : Pt} {but : List Pt} {k : Nat} {m : Int}
theorem gy {x : Pt} {u v : Bool} (h1 : u = decide (bD a b x)) (h2 : v = decide (bD c d x)) (h : ¬ u = true ∨ ¬ v = true) : ¬ dK a b c d x := by
 rintro ⟨q1, q2⟩
 rcases h with h | h
 · exact h (h1.trans (decide_eq_true q1))
 · exact h (h2.trans (decide_eq_true q2))
theorem mg (hm : m = aR a b c d) (h : m = 0) : true = decide (ch (a, b) (c, d) but) := (decide_eq_true (.inl (hm.symm.trans h))).symm
theorem kC {u v : Bool} (hm : m = aR a b c d) (h : m = 1 ∨ m = 2) (hk : (k : Int) < but.length) (h1 : u = decide (bD a b (gI but (k : Int)))) (h2 : v = decide (bD c d (gI but (k : Int)))) (q1 : u = true) (q2 : v = true) : true = decide (ch (a, b) (c, d) but) :=
 (decide_eq_true (.inr ⟨by rw [← hm]; exact h, _, bq (by omega) hk, of_decide_eq_true (h1 ▸ q1), of_decide_eq_true (h2 ▸ q2)⟩)).symm
theorem je (hm : m = aR a b c d) (h0 : ¬ m = 0) (h : ∀ j : Nat, j < k → ¬ dK a b c d (gI but (j : Int))) (hk : ¬ (k : Int) < but.length) : false = decide (ch (a, b) (c, d) but) := by
 refine (decide_eq_false ?_).symm
 rintro (e | ⟨_, x, hx, hb⟩)
 · exact h0 (hm.trans e)
 · obtain ⟨j, hj, rfl⟩ := List.mem_iff_getElem.1 hx
   refine h j (by omega) ?_
   have e : gI but (j : Int) = but[j] := by unfold gI; rw [Int.toNat_natCast, List.getD_eq_getElem?_getD, List.getElem?_eq_getElem hj]; rfl
   rw [e]; exact hb
theorem pY (hm : m = aR a b c d) (h0 : ¬ m = 0) (h1 : ¬ m = 1) (h2 : ¬ m = 2) : false = decide (ch (a, b) (c, d) but) := by
 refine (decide_eq_false ?_).symm
 rintro (e | ⟨e | e, _⟩)
 · exact h0 (hm.trans e)
 · exact h1 (hm.trans e)
 · exact h2 (hm.trans e)
end
def ei (p : dl) (h : Int) : Pt := if h % 2 = 0 then gI (gI p.2 (h / 2)) 1 else gI (gI p.2 (h / 2)) (((gI p.2 (h / 2)).length : Int) - 2)
def rH (u v : Pt) : Int := u.1 * v.1 + u.2 * v.2
def dM (u v : Pt) : Prop := dh u v = 0 ∧ 0 < rH u v
instance (u v : Pt) : Decidable (dM u v) := by unfold dM; infer_instance
theorem nT {o a : Pt} (ho : c4 o) (ha : c4 a) : (-2097152 ≤ a.1 - o.1 ∧ a.1 - o.1 ≤ 2097152) ∧ -2097152 ≤ a.2 - o.2 ∧ a.2 - o.2 ≤ 2097152 := by
 unfold c4 at ho ha; omega
end TL
namespace TL
theorem rU {o a b : Pt} (h : (a.1 - o.1) * (b.2 - o.2) = (a.2 - o.2) * (b.1 - o.1)) : decide (0 < (a.1 - o.1) * (b.1 - o.1) + (a.2 - o.2) * (b.2 - o.2)) = decide (dM (aS a o) (aS b o)) := by
 rw [decide_eq_decide]
 unfold dM dh rH aS
 simp only
 omega
theorem sa {o a b : Pt} (h : ¬ (a.1 - o.1) * (b.2 - o.2) = (a.2 - o.2) * (b.1 - o.1)) : false = decide (dM (aS a o) (aS b o)) := by
 refine (decide_eq_false ?_).symm
 unfold dM dh rH aS
 simp only
 omega
end TL
namespace TL
section
variable {g : da} {p : dl} {F G B : List iR} {v e k i : Nat}
theorem mV (h : decide (cX [gI p.1 (v : Int)]) = true) : h8 p v = [] := cC (Classical.not_not.2 ((of_decide_eq_true h).2 _ (by simp)))
theorem mR (h : ¬ decide (cX [gI p.1 (v : Int)]) = true) : h8 p v = [(2, (v : Int), 0)] :=
 cD fun ho => h (decide_eq_true ⟨by simp, fun x hx => by obtain rfl := List.mem_singleton.1 hx; exact ho⟩)
theorem rd (h : (((gI p.2 (e : Int)).length : Nat) : Int) < 2) : iT p e = [(3, (e : Int), 0)] := cD fun ho => by have := ho.1; omega
theorem r4 (h : ¬ decide (cX (gI p.2 (e : Int))) = true) : iT p e = [(3, (e : Int), 0)] := cD fun ho => h (decide_eq_true ho.2)
theorem qZ (h0 : ¬ (((gI p.2 (e : Int)).length : Nat) : Int) < 2) (h : decide (cX (gI p.2 (e : Int))) = true) : iT p e = [] := cC fun ho => ho ⟨by omega, of_decide_eq_true h⟩
theorem jR {β : Type} {f h : Nat → List β} {F : List β} {k n : Nat} (hF : F = bb f k) (hk : k = n) : F = bb f n ++ bb h 0 := by
 subst hk; rw [hF]; simp [bb]
theorem qX (h : ¬ ((p.1.length : Nat) : Int) = g.1) : [(1, 0, 0)] = bL g p := by unfold bL; rw [if_neg fun c => h c.1]
theorem ri (h : ¬ ((p.2.length : Nat) : Int) = (g.2.length : Int)) : [(1, 0, 0)] = bL g p := by unfold bL; rw [if_neg fun c => h c.2]
theorem rh (h1 : ((p.1.length : Nat) : Int) = g.1) (h2 : ((p.2.length : Nat) : Int) = (g.2.length : Int)) (hG : G = bb (h8 p) p.1.length ++ bb (iT p) e) (he : e = p.2.length) : G = bL g p := by
 unfold bL; rw [if_pos ⟨h1, h2⟩, hG, he]
theorem lX (hF : F = bb (h8 p) v) : F.length ≤ v := by rw [hF]; exact cG jk
theorem lu (hF : F = bb (h8 p) v ++ bb (iT p) e) : F.length ≤ v + e := by
 rw [hF, List.length_append]
 have l1 := cG (f := h8 p) (k := v) jk
 have l2 := cG (f := iT p) (k := e) m5
 omega
theorem om (hF : F = bL g p) (h : 0 < (F.length : Int)) : F = bT g p := by
 unfold bT
 rw [← hF, if_neg]
 intro e; subst e; simp at h
theorem nn (hF : F = bL g p) (h : ¬ 0 < (F.length : Int)) : F = [] ∧ bL g p = [] ∧ sE g p := by
 have : F = [] := List.eq_nil_of_length_eq_zero (by omega)
 have h2 : bL g p = [] := hF ▸ this
 exact ⟨this, h2, eP.1 h2⟩
def iS (l : List Pt) (q : Pt) (k : Nat) : List Int := bb (fun j => fl (gI l (j : Int) = q) (j : Int)) k
theorem lS (l : List Pt) (q : Pt) (k : Nat) : (iS l q k).length ≤ k := cG fun j => dR
theorem nl {l : List Pt} {first : Pt → List Int} {k : Nat} (h : first = fun q => iS l q k) : (fun q => if q = gI l (k : Int) then first (gI l (k : Int)) ++ [(k : Int)] else first q) = fun q => iS l q (k + 1) := by
 funext q
 rw [h]
 simp only [iS, bb]
 by_cases e : q = gI l (k : Int)
 · subst e
   rw [if_pos rfl, cD rfl]
 · rw [if_neg e, cC (fun h => e h.symm), List.append_nil]
def fO (v : Nat) (u : Int) : List iR := fl ((v : Int) < u) (4, (v : Int), u)
theorem qy {k : Nat} : (iS p.1 (gI p.1 (v : Int)) k).flatMap (fO v) = bb (mw p v) k := by
 induction k with
 | zero => rfl
 | succ k ih =>
   have e1 : iS p.1 (gI p.1 (v : Int)) (k + 1) = iS p.1 (gI p.1 (v : Int)) k ++ fl (gI p.1 (k : Int) = gI p.1 (v : Int)) (k : Int) := rfl
   rw [e1, List.flatMap_append, ih, bb]
   congr 1
   unfold mw fO
   by_cases c : gI p.1 (k : Int) = gI p.1 (v : Int)
   · rw [cD c, List.flatMap_cons]
     simp only [List.flatMap_nil, List.append_nil]
     by_cases c2 : v < k
     · rw [cD (by omega), cD ⟨c2, c.symm⟩]
     · rw [cC (by omega), cC (fun h => c2 h.1)]
   · rw [cC c, cC (fun h => c h.2.symm)]; rfl
def eT (p : dl) (v : Nat) : List iR := bb (mw p v) p.1.length
theorem nk {l : List Int} (hF : F = bb (eT p) v) : F = bb (eT p) v ++ (l.take 0).flatMap (fO v) := by rw [hF]; simp
theorem pH {l : List Int} (hG : G = bb (eT p) v ++ (l.take i).flatMap (fO v)) (hi : (i : Int) < l.length) (h : (v : Int) < gI l (i : Int)) : G ++ [(4, (v : Int), gI l (i : Int))] = bb (eT p) v ++ (l.take (i + 1)).flatMap (fO v) := by
 rw [bU hi, List.flatMap_append, hG]
 simp [fO, cD h]
theorem rG {l : List Int} (hG : G = bb (eT p) v ++ (l.take i).flatMap (fO v)) (hi : (i : Int) < l.length) (h : ¬ (v : Int) < gI l (i : Int)) : G = bb (eT p) v ++ (l.take (i + 1)).flatMap (fO v) := by
 rw [bU hi, List.flatMap_append, hG]
 simp [fO, cC h]
theorem mP {first : Pt → List Int} {n : Nat} (hf : first = fun q => iS p.1 q n) (hn : n = p.1.length) (hG : G = bb (eT p) v ++ ((first (gI p.1 (v : Int))).take i).flatMap (fO v)) (hi : ¬ (i : Int) < (first (gI p.1 (v : Int))).length) : G = bb (eT p) (v + 1) := by
 rw [List.take_of_length_le (by omega), hf] at hG
 simp only at hG
 rw [qy, hn] at hG
 exact hG
theorem kv (v : Nat) : (eT p v).length ≤ p.1.length := cG (ni v)
theorem oT {l : List Int} (hn : p.1.length ≤ 1024) (hv : v ≤ 1024) (hG : G = bb (eT p) v ++ (l.take i).flatMap (fO v)) (hl : l.length ≤ 1024) : G.length ≤ 9440000 := by
 have l1 := fD (f := eT p) (k := v) (c := 1024) (by omega) (by omega) fun j => Nat.le_trans (kv j) hn
 have l2 : ∀ m : List Int, (m.flatMap (fO v)).length ≤ m.length := fun m => by
   induction m with
   | nil => simp
   | cons a m ih =>
     have h1 : (fO v a).length ≤ 1 := dR
     rw [List.flatMap_cons, List.length_append, List.length_cons]; omega
 have l3 := l2 (l.take i)
 rw [List.length_take] at l3
 rw [hG, List.length_append]; omega
theorem sj (hn : p.1.length ≤ 1024) (hv : v ≤ 1024) (hG : G = bb (eT p) v) : G.length ≤ 9440000 := by
 have l1 := fD (f := eT p) (k := v) (c := 1024) (by omega) (by omega) fun j => Nat.le_trans (kv j) hn
 rw [hG]; omega
theorem nu : c3 p = bb (eT p) p.1.length := rfl
theorem jb (hn : p.1.length ≤ 1024) : (c3 p).length ≤ 9440000 := sj hn hn rfl
theorem mj (hF : F = bb (eT p) v) (hv : v = p.1.length) : F = c3 p ++ bb (cB g p) 0 ∧ true = decide (bb (cB g p) 0 = []) := by
 subst hv; rw [hF, nu]; simp [bb]
theorem jL {b : Bool} (h : F = c3 p ++ bb (cB g p) e ∧ b = decide (bb (cB g p) e = [])) (hn : ¬ fZ g p (e : Int)) : F ++ [(5, (e : Int), 0)] = c3 p ++ bb (cB g p) (e + 1) ∧ false = decide (bb (cB g p) (e + 1) = []) := by
 have hx : cB g p e = [(5, (e : Int), 0)] := cD hn
 exact ⟨f3 h.1 hx, (decide_eq_false (by rw [bb, hx]; simp)).symm⟩
theorem pk {b : Bool} (h : F = c3 p ++ bb (cB g p) e ∧ b = decide (bb (cB g p) e = [])) (hn : fZ g p (e : Int)) : F = c3 p ++ bb (cB g p) (e + 1) ∧ b = decide (bb (cB g p) (e + 1) = []) := by
 have hx : cB g p e = [] := cC (Classical.not_not.2 hn)
 refine ⟨gj h.1 hx, ?_⟩
 rw [h.2, bb, hx, List.append_nil]
theorem mQ (hn : p.1.length ≤ 1024) (he : e ≤ 3072) (h : F = c3 p ++ bb (cB g p) e) : F.length ≤ 9500000 := by
 have l1 := jb hn
 have l2 := cG (f := cB g p) (k := e) jS
 rw [h, List.length_append]; omega
theorem og {b : Bool} (h : F = c3 p ++ bb (cB g p) e ∧ b = decide (bb (cB g p) e = [])) (he : e = p.2.length) : F = c3 p ++ (bb (cB g p) p.2.length ++ bb (dY p) 0) ∧ b = decide (bb (cB g p) p.2.length ++ bb (dY p) 0 = []) := by
 subst he; simpa [bb] using h
theorem oz {b : Bool} (h : F = c3 p ++ (bb (cB g p) p.2.length ++ bb (dY p) e) ∧ b = decide (bb (cB g p) p.2.length ++ bb (dY p) e = [])) (hn : ¬ gk (gI p.2 (e : Int))) : F ++ [(6, (e : Int), 0)] = c3 p ++ (bb (cB g p) p.2.length ++ bb (dY p) (e + 1)) ∧ false = decide (bb (cB g p) p.2.length ++ bb (dY p) (e + 1) = []) := by
 have hx : dY p e = [(6, (e : Int), 0)] := cD hn
 refine ⟨?_, (decide_eq_false (by rw [bb, hx]; simp)).symm⟩
 rw [h.1, bb, hx]; simp
theorem qq {b : Bool} (h : F = c3 p ++ (bb (cB g p) p.2.length ++ bb (dY p) e) ∧ b = decide (bb (cB g p) p.2.length ++ bb (dY p) e = [])) (hn : gk (gI p.2 (e : Int))) : F = c3 p ++ (bb (cB g p) p.2.length ++ bb (dY p) (e + 1)) ∧ b = decide (bb (cB g p) p.2.length ++ bb (dY p) (e + 1) = []) := by
 have hx : dY p e = [] := cC (Classical.not_not.2 hn)
 rw [bb, hx, List.append_nil]; exact h
theorem lD (hn : p.1.length ≤ 1024) (hm : p.2.length ≤ 3072) (he : e ≤ 3072) (h : F = c3 p ++ (bb (cB g p) p.2.length ++ bb (dY p) e)) : F.length ≤ 9500000 := by
 have l1 := jb hn
 have l2 := cG (f := cB g p) (k := p.2.length) jS
 have l3 := cG (f := dY p) (k := e) oy
 rw [h, List.length_append, List.length_append]; omega
theorem j7 {b : Bool} (h : F = c3 p ++ (bb (cB g p) p.2.length ++ bb (dY p) e) ∧ b = decide (bb (cB g p) p.2.length ++ bb (dY p) e = [])) (he : e = p.2.length) : F = c3 p ++ dg g p ∧ b = decide (dg g p = []) := by
 subst he; exact h
def cO (g : da) (p : dl) : List iR := c3 p ++ dg g p
theorem kp (hn : p.1.length ≤ 1024) (hm : p.2.length ≤ 3072) : (cO g p).length ≤ 9500000 := lD hn hm hm rfl
def gn (g : da) (p : dl) (e : Nat) : List iR := bb (e7 g p e) p.1.length
def gO (g : da) (p : dl) (e : Nat) : List iR := bb (dF g p e) p.2.length
theorem jZ (e : Nat) : (gn g p e).length ≤ p.1.length := cG (iZ e)
theorem nX (e : Nat) : (gO g p e).length ≤ p.2.length := cG (iv e)
theorem l5 (h : F = c3 p ++ dg g p) : F = cO g p ++ bb (gn g p) 0 := by rw [h]; simp [bb, cO]
theorem m9 (hn : p.1.length ≤ 1024) (hm : p.2.length ≤ 3072) (he : e ≤ 3072) (hv : v ≤ 1024) (h : G = (cO g p ++ bb (gn g p) e) ++ bb (e7 g p e) v) : G.length ≤ 20000000 := by
 have l1 := kp (g := g) hn hm
 have l2 := fD (f := gn g p) (k := e) (c := 1024) he (by omega) fun j => Nat.le_trans (jZ j) hn
 have l3 := cG (f := e7 g p e) (k := v) (iZ e)
 rw [h, List.length_append, List.length_append]; omega
theorem mG (h : G = (cO g p ++ bb (gn g p) e) ++ bb (e7 g p e) v) (hv : v = p.1.length) : G = cO g p ++ bb (gn g p) (e + 1) := by
 subst hv; exact lH h
theorem kR (h : F = cO g p ++ bb (gn g p) e) (he : e = p.2.length) : F = (cO g p ++ db g p) ++ bb (gO g p) 0 := by
 subst he; rw [h]; simp [bb, db]; rfl
theorem l6 (h : F = (cO g p ++ db g p) ++ bb (gO g p) e) : F = ((cO g p ++ db g p) ++ bb (gO g p) e) ++ bb (dF g p e) (e + 1) ∧ e < e + 1 := by
 refine ⟨?_, by omega⟩
 rw [ec (f := dF g p e) (k := e + 1) fun j hj => cC fun h => by omega, List.append_nil]; exact h
theorem m8 (hn : p.1.length ≤ 1024) (hm : p.2.length ≤ 3072) : (db g p).length ≤ 9437184 :=
 fD (f := gn g p) (k := p.2.length) (c := 1024) (by omega) (by omega) fun j => Nat.le_trans (jZ j) hn
theorem mI {f : Nat} (hn : p.1.length ≤ 1024) (hm : p.2.length ≤ 3072) (he : e ≤ 3072) (hf : f ≤ 3072) (h : G = ((cO g p ++ db g p) ++ bb (gO g p) e) ++ bb (dF g p e) f) : G.length ≤ 40000000 := by
 have l1 := kp (g := g) hn hm
 have l0 := m8 (g := g) hn hm
 have l2 := fD (f := gO g p) (k := e) (c := 3072) he (by omega) fun j => Nat.le_trans (nX j) hm
 have l3 := cG (f := dF g p e) (k := f) (iv e)
 rw [h, List.length_append, List.length_append, List.length_append]; omega
theorem mr {f : Nat} (h : G = ((cO g p ++ db g p) ++ bb (gO g p) e) ++ bb (dF g p e) f) (hf : f = p.2.length) : G = (cO g p ++ db g p) ++ bb (gO g p) (e + 1) := by
 subst hf; exact lH h
theorem qe (h : (v : Int) = (gI g.2 (e : Int)).1) : e7 g p e v = [] := cC fun c => c.1.1 h
theorem qB (h : (v : Int) = (gI g.2 (e : Int)).2) : e7 g p e v = [] := cC fun c => c.1.2 h
theorem oM (h : ¬ decide (dN (gI p.2 (e : Int)) (gI p.1 (v : Int))) = true) : e7 g p e v = [] := cC fun c => h (decide_eq_true c.2)
theorem qa (h1 : ¬ (v : Int) = (gI g.2 (e : Int)).1) (h2 : ¬ (v : Int) = (gI g.2 (e : Int)).2) (h : decide (dN (gI p.2 (e : Int)) (gI p.1 (v : Int))) = true) : e7 g p e v = [(7, (e : Int), (v : Int))] := cD ⟨⟨h1, h2⟩, of_decide_eq_true h⟩
theorem nB {b : Bool} (hs : bL g p = []) (hF : F = c3 p ++ dg g p) (hb : b = decide (dg g p = [])) (h : ¬ b = true) : F = bT g p := by
 have : ¬ dg g p = [] := fun e => h (hb.trans (decide_eq_true e))
 unfold bT
 rw [if_pos hs, if_neg this, List.append_nil]; exact hF
theorem mb {b : Bool} (hs : bL g p = []) (hb : b = decide (dg g p = [])) (h : b = true) (hF : F = (cO g p ++ db g p) ++ bb (gO g p) e) (he : e = p.2.length) : F = bT g p := by
 have : dg g p = [] := of_decide_eq_true (hb ▸ h)
 subst he
 unfold bT
 rw [if_pos hs, if_pos this, hF]
 unfold cO
 rw [List.append_assoc]; rfl
end
section
variable {g : da} {p : dl} {e f : Int}
theorem sw (h1 : ¬ decide ((gI g.2 e).1 ∈ [(gI g.2 f).1, (gI g.2 f).2]) = true) (h2 : ¬ decide ((gI g.2 e).2 ∈ [(gI g.2 f).1, (gI g.2 f).2]) = true) : [] = gU g p e f := by
 unfold gU; rw [cC fun h => h1 (decide_eq_true h), cC fun h => h2 (decide_eq_true h)]; rfl
theorem sQ (h1 : decide ((gI g.2 e).1 ∈ [(gI g.2 f).1, (gI g.2 f).2]) = true) (h2 : ¬ decide ((gI g.2 e).2 ∈ [(gI g.2 f).1, (gI g.2 f).2]) = true) : [gI p.1 (gI g.2 e).1] = gU g p e f := by
 unfold gU; rw [cD (of_decide_eq_true h1), cC fun h => h2 (decide_eq_true h)]; rfl
theorem sL (h1 : ¬ decide ((gI g.2 e).1 ∈ [(gI g.2 f).1, (gI g.2 f).2]) = true) (h2 : decide ((gI g.2 e).2 ∈ [(gI g.2 f).1, (gI g.2 f).2]) = true) : [gI p.1 (gI g.2 e).2] = gU g p e f := by
 unfold gU; rw [cD (of_decide_eq_true h2), cC fun h => h1 (decide_eq_true h)]; rfl
theorem sG (h1 : decide ((gI g.2 e).1 ∈ [(gI g.2 f).1, (gI g.2 f).2]) = true) (h2 : decide ((gI g.2 e).2 ∈ [(gI g.2 f).1, (gI g.2 f).2]) = true) : [gI p.1 (gI g.2 e).1] ++ [gI p.1 (gI g.2 e).2] = gU g p e f := by
 unfold gU; rw [cD (of_decide_eq_true h2), cD (of_decide_eq_true h1)]
theorem rV : (gU g p e f).length ≤ 2 := by
 unfold gU
 rw [List.length_append]
 have h1 : (fl ((gI g.2 e).1 ∈ [(gI g.2 f).1, (gI g.2 f).2]) (gI p.1 (gI g.2 e).1)).length ≤ 1 := dR
 have h2 : (fl ((gI g.2 e).2 ∈ [(gI g.2 f).1, (gI g.2 f).2]) (gI p.1 (gI g.2 e).2)).length ≤ 1 := dR
 omega
theorem rJ {x : Pt} : x ∈ gU g p e f ↔ ∃ v, (v = (gI g.2 e).1 ∨ v = (gI g.2 e).2) ∧ (v = (gI g.2 f).1 ∨ v = (gI g.2 f).2) ∧ x = gI p.1 v := by
 unfold gU
 rw [List.mem_append, ng, ng]
 simp only [List.mem_cons, List.not_mem_nil, or_false]
 constructor
 · rintro (⟨h1, h2⟩ | ⟨h1, h2⟩)
   · exact ⟨_, .inl rfl, h1, h2⟩
   · exact ⟨_, .inr rfl, h1, h2⟩
 · rintro ⟨v, rfl | rfl, h1, h2⟩
   · exact .inl ⟨h1, h2⟩
   · exact .inr ⟨h1, h2⟩
theorem gH (hm : ci g) (h0 : 0 ≤ e) (h1 : e < g.2.length) : (0 ≤ (gI g.2 e).1 ∧ (gI g.2 e).1 < g.1) ∧ 0 ≤ (gI g.2 e).2 ∧ (gI g.2 e).2 < g.1 := hm.2.2.2 _ (bq h0 h1)
theorem sB (hm : ci g) (hs : sE g p) (h0 : 0 ≤ e) (h1 : e < g.2.length) : ∀ x ∈ gU g p e f, c4 x := by
 intro x hx
 obtain ⟨v, hv, _, rfl⟩ := rJ.1 hx
 obtain ⟨⟨a1, a2⟩, a3, a4⟩ := gH hm h0 h1
 have := hs.n
 rcases hv with rfl | rfl
 · exact hs.pt _ a1 (by omega)
 · exact hs.pt _ a3 (by omega)
end
section
variable {a b but : List Pt} {i k : Nat}
theorem ii : gm a b but ↔ ∀ j : Nat, j + 1 < a.length → ∀ q : Nat, q + 1 < b.length → ch (gI a (j : Int), gI a ((j : Int) + 1)) (gI b (q : Int), gI b ((q : Int) + 1)) but := by
 unfold gm
 constructor
 · intro h j hj q hq
   exact h _ (eu.2 ⟨j, by omega, rfl⟩) _ (eu.2 ⟨q, by omega, rfl⟩)
 · intro h s hs t ht
   obtain ⟨j, hj, rfl⟩ := eu.1 hs
   obtain ⟨q, hq, rfl⟩ := eu.1 ht
   exact h j (by omega) q (by omega)
theorem qK (h : 1 ≤ i ∧ ∀ j : Nat, j + 1 < i → ∀ q : Nat, q + 1 < b.length → ch (gI a (j : Int), gI a ((j : Int) + 1)) (gI b (q : Int), gI b ((q : Int) + 1)) but)
   (h2 : 1 ≤ k ∧ ∀ q : Nat, q + 1 < k → ch (gI a ((i : Int) - 1), gI a (i : Int)) (gI b (q : Int), gI b ((q : Int) + 1)) but) (hk : ¬ (k : Int) < b.length) :
   1 ≤ i + 1 ∧ ∀ j : Nat, j + 1 < i + 1 → ∀ q : Nat, q + 1 < b.length → ch (gI a (j : Int), gI a ((j : Int) + 1)) (gI b (q : Int), gI b ((q : Int) + 1)) but := by
 refine ⟨by omega, fun j hj q hq => ?_⟩
 by_cases e : j + 1 = i
 · have h3 := h2.2 q (by omega)
   rw [show (j : Int) = (i : Int) - 1 by omega, show (i : Int) - 1 + 1 = (i : Int) by omega]
   exact h3
 · exact h.2 j (by omega) q hq
theorem ov (h : 1 ≤ k ∧ ∀ q : Nat, q + 1 < k → ch (gI a ((i : Int) - 1), gI a (i : Int)) (gI b (q : Int), gI b ((q : Int) + 1)) but) (ho : decide (ch (gI a ((i : Int) - 1), gI a (i : Int)) (gI b ((k : Int) - 1), gI b (k : Int)) but) = true) :
   1 ≤ k + 1 ∧ ∀ q : Nat, q + 1 < k + 1 → ch (gI a ((i : Int) - 1), gI a (i : Int)) (gI b (q : Int), gI b ((q : Int) + 1)) but := by
 refine ⟨by omega, fun q hq => ?_⟩
 by_cases e : q + 1 = k
 · rw [show (q : Int) = (k : Int) - 1 by omega, show (k : Int) - 1 + 1 = (k : Int) by omega]
   exact of_decide_eq_true ho
 · exact h.2 q (by omega)
theorem sc (h1 : 1 ≤ i) (hi : (i : Int) < a.length) (h2 : 1 ≤ k) (hk : (k : Int) < b.length) (ho : ¬ decide (ch (gI a ((i : Int) - 1), gI a (i : Int)) (gI b ((k : Int) - 1), gI b (k : Int)) but) = true) : false = decide (gm a b but) := by
 refine (decide_eq_false fun h => ho (decide_eq_true ?_)).symm
 have := ii.1 h (i - 1) (by omega) (k - 1) (by omega)
 rwa [show ((i - 1 : Nat) : Int) = (i : Int) - 1 by omega, show ((k - 1 : Nat) : Int) = (k : Int) - 1 by omega, show (i : Int) - 1 + 1 = (i : Int) by omega, show (k : Int) - 1 + 1 = (k : Int) by omega] at this
theorem ql (h : 1 ≤ i ∧ ∀ j : Nat, j + 1 < i → ∀ q : Nat, q + 1 < b.length → ch (gI a (j : Int), gI a ((j : Int) + 1)) (gI b (q : Int), gI b ((q : Int) + 1)) but) (hi : ¬ (i : Int) < a.length) : true = decide (gm a b but) :=
 (decide_eq_true (ii.2 fun j hj => h.2 j (by omega))).symm
end
section
variable {g : da} {p : dl} {e f : Nat} {b : Bool}
theorem kX (hef : e < f) (hb : b = decide (gm (gI p.2 (e : Int)) (gI p.2 (f : Int)) (gU g p (e : Int) (f : Int)))) (h : ¬ b = true) : dF g p e f = [(8, (e : Int), (f : Int))] :=
 cD ⟨hef, fun c => h (hb.trans (decide_eq_true c))⟩
theorem mE (hb : b = decide (gm (gI p.2 (e : Int)) (gI p.2 (f : Int)) (gU g p (e : Int) (f : Int)))) (h : b = true) : dF g p e f = [] :=
 cC fun c => c.2 (of_decide_eq_true (hb ▸ h))
end
end TL
/-
  TlArr: the whole of an array that lies in a list, as a list.
  By an AI agent.
-/
set_option linter.all false
namespace TL
open Go
def mM (v : Value) (i : Nat) : Value := .slice (some (bF v 2 i)) 2 2
section
variable {P : Program} {f : Fr} {w : World} {dst : Option Tmp} {ty : TypeId} {pos : String} {after : Array Edge} {g : Option (Nat × Bool)} {t e : TypeId} {x y : Operand}
theorem fq {v : Value} {i : Nat} (ht : P.underlying t = some (.array 2 e)) (hs : (P.info? e).map (·.size) = some 1) (hx : ev f x = .pointer (some (bF v 2 i))) :
   (execOp (ev f) ⟨dst, .slice t x none none none, ty, pos, after, g⟩).run P w = .ok (.value (mM v i)) w := by
 cases hq : P.info? e with
 | none => simp [hq] at hs
 | some q =>
   have hsub : execOp (ev f) ⟨dst, .slice t x none none none, ty, pos, after, g⟩ = (do pure (.value (← Instr.sliceAt t (.pointer (some (bF v 2 i))) none none none))) := by
     simp [execOp, hx]
   rw [hsub]
   have ha : (bF v 2 i).add 0 = bF v 2 i := by rw [gW, Nat.add_zero, ← fJ]
   simp [Instr.sliceAt, Instr.sureAddr, Instr.sliceBounds, aZ ht, ck hq, mM, ha]
theorem kH {γ : aP} {S : c8 → Prop} {v : Value} {xs : List (Int × Int)} {i : Int} (hs : Sl γ S w v xs) (h0 : 0 ≤ i) (h1 : i < xs.length) : Sl γ S w (mM v i.toNat) [(gI xs i).1, (gI xs i).2] := by
 have hg := fm h0 h1
 rcases hs with ⟨⟨_, rfl⟩, rfl⟩ | ⟨b, off, cap, rfl, _, hx⟩
 · simp at h1; omega
 · obtain ⟨hb, hS, cs, hcs, hr⟩ := hx _ _ hg
   have hr' : cs = [.int .i64 (gI xs i).1, .int .i64 (gI xs i).2] := by
     have := Fl.rep_iff.1 hr
     simpa [Fl.cells] using this
   refine .inr ⟨b, off + i.toNat * 2, 2, rfl, ⟨by simp, by simp⟩, fun j x hj => ?_⟩
   have hc0 := hcs 0 (by decide)
   have hc1 := hcs 1 (by decide)
   rw [hr'] at hc0 hc1
   have hlt : j < 2 := by have := (List.getElem?_eq_some_iff.1 hj).1; simpa using this
   rcases (by omega : j = 0 ∨ j = 1) with rfl | rfl
   · have hx0 : (gI xs i).1 = x := by simpa using hj
     refine ⟨hb, hS, [.int .i64 (gI xs i).1], fun q hq => ?_, by rw [hx0]; rfl⟩
     have : q = 0 := by have h9 : q < 1 := hq; omega
     subst this
     exact hc0
   · have hx0 : (gI xs i).2 = x := by simpa using hj
     refine ⟨hb, hS, [.int .i64 (gI xs i).2], fun q hq => ?_, by rw [hx0]; rfl⟩
     have : q = 0 := by have h9 : q < 1 := hq; omega
     subst this
     exact hc1
end
end TL
/-
  TlCyc: lists gone round: what stands behind what; rotations turned, and moved.
  By an AI agent.
-/
set_option linter.all false
namespace TL
section
variable {g : da} {r : dQ} {to : List Int}
end
theorem kP {g : da} {r : dQ} (hm : ci g) (hrp : gZ g r) : cV g r = (ew r, 0) := by unfold cV; rw [if_pos (kd hm hrp)]
end TL
/-
  TlOrb: going round by a permutation; two places changed; what that does to the numbers of rounds.
  By an AI agent.
-/
set_option linter.all false
namespace TL
def tr (a b x : Int) : Int := if x = a then b else if x = b then a else x
theorem iI {P : Nat → Prop} : ∀ (k : Nat), P k → ∃ m, P m ∧ ∀ j, j < m → ¬ P j := by
 intro k
 induction k using Nat.strongRecOn with
 | ind k ih =>
   intro hk
   by_cases c : ∃ j, j < k ∧ P j
   · obtain ⟨j, hj, hp⟩ := c
     exact ih j hj hp
   · exact ⟨k, hk, fun j hj hp => c ⟨j, hj, hp⟩⟩
end TL
/-
  TlDual: faces as nodes: the dual, corners' faces, edges laid, taken and split, ways over faces, as plain functions.
  By an AI agent.
-/
set_option linter.all false
namespace TL
def r6 (g : da) (r : dQ) (c : Int × Int) : Prop := (0 ≤ c.1 ∧ c.1 < g.1) ∧ if ((gI r c.1).length : Int) = 0 then c.2 = -1 else c.2 ∈ gI r c.1
instance (g : da) (r : dQ) (c : Int × Int) : Decidable (r6 g r c) := by unfold r6; infer_instance
theorem nQ {l : List Int} {x : Int} : decide (0 ≤ cY l x) = decide (x ∈ l) := by
 unfold cY
 by_cases h : x ∈ l
 · rw [if_pos h, decide_eq_true h, decide_eq_true (by omega)]
 · rw [if_neg h, decide_eq_false h]; rfl
end TL
namespace TL
end TL
namespace TL
end TL
namespace TL
section
variable {g : da} {r : dQ} {a b : Int × Int}
end
end TL
/-
  TlMapL: maps of the call's own whose elements are lists of the call's own.
  By an AI agent.
-/
set_option linter.all false
namespace TL
open Go
theorem ko {P : Program} {kt e bytes : Nat} {z : Value} {f0 f1 : Field} (ht : P.underlying kt = some (.struct #[f0, f1])) (h0 : f0.type = e) (h1 : f1.type = e) (o0 : f0.offset = 0) (o1 : f1.offset = 1) (n0 : (f0.name != "_") = true) (n1 : (f1.name != "_") = true) (he : P.underlying e = some (.int .i64)) (hp : Tp P e false 1 bytes z) (hs : P.stoodInHeld kt = false) : ls P kt (Int × Int) where
 check b k w := by
   have hc : ∀ x : Int, (Instr.checkKey b 9999 e (.int .i64 x)).run P w = .ok () w := fun x => by
     rw [Instr.checkKey]
     simp only [Sem.run_bind, aZ he, Result.andThen_ok]
     rfl
   have p0 := fun (x y : Int) => fo (P := P) (w := w) (cs := #[.int .i64 x, .int .i64 y]) (o := 0) hp (v := .int .i64 x) (by rfl)
   have p1 := fun (x y : Int) => fo (P := P) (w := w) (cs := #[.int .i64 x, .int .i64 y]) (o := 1) hp (v := .int .i64 y) (by rfl)
   have n0' : f0.name ≠ "_" := by simpa using n0
   have n1' : f1.name ≠ "_" := by simpa using n1
   show (Instr.checkKey b (9999 + 1) kt _).run P w = _
   rw [Instr.checkKey]
   simp only [Ky.val, Sem.run_bind, aZ ht, Result.andThen_ok]
   rw [← Array.forIn_toList]
   simp [n0', n1', h0, h1, o0, o1, p0, p1, hc]
 find k es ks w hm := by
   have heq1 : ∀ a b : Int × Int, (Op.equal kt (Ky.val a) (Ky.val b)).run P w = .ok (decide (a = b)) w := fun a b => by
     have e1 : P.fieldsOf kt = #[f0, f1] := by simp [Program.fieldsOf, ht]
     have := run_equalIn_struct (P := P) w 9999 kt #[.int .i64 a.1, .int .i64 a.2] #[.int .i64 b.1, .int .i64 b.2] (by rw [e1]; exact ht) hs
     rw [e1, fc (bs := [decide (a.1 = b.1), decide (a.2 = b.2)]) (.cons n0 (by rw [h0]; exact hp) (by rw [o0]; rfl) (by rw [o0]; rfl) (.int (by rw [h0]; exact he)) (.cons n1 (by rw [h1]; exact hp) (by rw [o1]; rfl) (by rw [o1]; rfl) (.int (by rw [h1]; exact he)) .nil)) 9998] at this
     have hq : ([decide (a.1 = b.1), decide (a.2 = b.2)].all id) = decide (a = b) := by simp [Prod.ext_iff, Bool.decide_and]
     rw [hq] at this
     exact this
   have hfn : ∀ (es : List MapEntry) (i : Nat), es ≠ [] → (∀ e ∈ es, ∃ c, e.key = .agg c) → Instr.findNow (.struct #[f0, f1]) (Ky.val k) es i = none := by
     intro es i h0 _
     cases es with
     | nil => exact absurd rfl h0
     | cons a l => simp [Instr.findNow, Instr.sameNow]
   have hask : ∀ (es : List MapEntry) (ks : List (Int × Int)) (i : Nat), es.map (·.key) = ks.map Ky.val → (Instr.findAsking kt (Ky.val k) es i).run P w = .ok ((ks.findIdx? (· = k)).bind fun j => (es[j]?).map fun e => (i + j, e.val)) w := by
     intro es
     induction es with
     | nil =>
       intro ks i h
       have : ks = [] := by cases ks <;> simp at h ⊢
       subst this; simp [Instr.findAsking]
     | cons a l ih =>
       intro ks i h
       cases ks with
       | nil => simp at h
       | cons q ks =>
         simp only [List.map_cons, List.cons.injEq] at h
         obtain ⟨ha, hl⟩ := h
         have heq' : (Op.equal kt (Ky.val k) a.key).run P w = .ok (decide (k = q)) w := by rw [ha]; exact heq1 k q
         by_cases hkq : k = q
         · subst hkq
           simp [Instr.findAsking, heq', List.findIdx?_cons]
         · have hqk : ¬ q = k := fun h => hkq h.symm
           have ih' := ih ks (i + 1) hl
           simp [Instr.findAsking, heq', hkq, List.findIdx?_cons, hqk, ih']
           cases ks.findIdx? (fun x => decide (x = k)) with
           | none => rfl
           | some j => simp [Nat.add_comm 1 j, Nat.add_assoc]
   simp only [Instr.findKey, Sem.run_bind, aZ ht, Result.andThen_ok]
   cases es with
   | nil =>
     have : ks = [] := by cases ks <;> simp at hm ⊢
     subst this; simp [Instr.findNow]
   | cons a l =>
     rw [hfn (a :: l) 0 (by simp) (fun e he => by
       have : e.key ∈ (a :: l).map (·.key) := List.mem_map_of_mem he
       rw [hm] at this
       obtain ⟨q, _, hq⟩ := List.mem_map.1 this
       exact ⟨_, hq.symm⟩)]
     simp only [hask (a :: l) ks 0 hm, Nat.zero_add]
 bits k := by
   show Instr.sameBits (9999 + 1) _ _ = true
   simp [Ky.val, Instr.sameBits]
def zz (x : Int) : Nat := if 0 ≤ x then 2 * x.toNat else 2 * (-x).toNat + 1
theorem nt {x y : Int} (h : zz x = zz y) : x = y := by
 unfold zz at h
 split at h <;> split at h <;> omega
def fM (q : Int × Int) : Nat := (zz q.1 + zz q.2) * (zz q.1 + zz q.2) + zz q.1
theorem oc {a b c d : Nat} (h : (a + b) * (a + b) + a = (c + d) * (c + d) + c) : a = c ∧ b = d := by
 have lt : ∀ {a b c d : Nat}, a + b < c + d → (a + b) * (a + b) + a < (c + d) * (c + d) + c := fun {a b c d} hl => by
   have h1 : (a + b + 1) * (a + b + 1) ≤ (c + d) * (c + d) := Nat.mul_le_mul hl hl
   have h2 : (a + b + 1) * (a + b + 1) = (a + b) * (a + b) + 2 * (a + b) + 1 := by
     generalize a + b = s
     rw [Nat.add_mul, Nat.mul_add]; omega
   omega
 rcases Nat.lt_trichotomy (a + b) (c + d) with hl | hl | hl
 · have := lt hl; omega
 · rw [hl] at h; omega
 · have := lt hl; omega
theorem mW {p q : Int × Int} (h : fM p = fM q) : p = q := by
 obtain ⟨h1, h2⟩ := oc h
 exact Prod.ext (nt h1) (nt h2)
structure eo (K : Type) where
 key : K
 val : Value
 born : Nat
def eB {K : Type} [Ky K] (e : eo K) : MapEntry := { key := Ky.val e.key, val := e.val, born := e.born }
def g5 {K : Type} [DecidableEq K] (es : List (eo K)) (k : K) : Value := ((es.find? fun e => decide (e.key = k)).map (·.val)).getD (.slice none 0 0)
structure ti {K : Type} (es : List (eo K)) (clock : Nat) : Prop where
 keys : (es.map (·.key)).Nodup
 born : (es.map (·.born)).Nodup
 lt : ∀ e ∈ es, e.born < clock
def Vp {K : Type} [DecidableEq K] [Ky K] (γ : aP) (J : c8 → Prop) (w : World) (v : Value) (F : K → Value) : Prop :=
 ∃ (r : Nat) (es : List (eo K)) (clock : Nat), v = .map (some r) ∧ J (γ r) ∧ w.heap[r]? = some (.map (es.map eB).toArray clock) ∧ ti es clock ∧ F = g5 es
def sq {K : Type} [DecidableEq K] [Ky K] (γ : aP) (J : c8 → Prop) (w : World) (v : Value) (F : K → Value) (s : Int) (k : K) : Prop :=
 ∃ (r : Nat) (es : List (eo K)) (clock : Nat), v = .map (some r) ∧ J (γ r) ∧ w.heap[r]? = some (.map (es.map eB).toArray clock) ∧ ti es clock ∧ F = g5 es ∧ ∃ (i : Nat) (e : eo K), es[i]? = some e ∧ e.key = k ∧ (e.born : Int) = s
section
variable {K : Type} [DecidableEq K] [Ky K] {γ γ' : aP} {J J' : c8 → Prop} {w w' : World} {v : Value} {F : K → Value} {s : Int} {k : K}
theorem Vp.chg (h : Vp γ J w v F) (hc : aO J' γ w γ' w') (hJ : ∀ c, J c → ¬ J' c) : Vp γ' J w' v F := by
 obtain ⟨r, es, clock, h1, h2, h3, h4⟩ := h
 exact ⟨r, es, clock, h1, by rw [hc.col r (cu h3) (hJ _ h2)]; exact h2, by rw [hc.keep r (cu h3) (hJ _ h2)]; exact h3, h4⟩
theorem sq.chg (h : sq γ J w v F s k) (hc : aO J' γ w γ' w') (hJ : ∀ c, J c → ¬ J' c) : sq γ' J w' v F s k := by
 obtain ⟨r, es, clock, h1, h2, h3, h4⟩ := h
 exact ⟨r, es, clock, h1, by rw [hc.col r (cu h3) (hJ _ h2)]; exact h2, by rw [hc.keep r (cu h3) (hJ _ h2)]; exact h3, h4⟩
theorem Vp.bel (h : Vp γ J w v F) (hc : cQ w.heap.size w w') : Vp γ J w' v F := by
 obtain ⟨r, es, clock, h1, h2, h3, h4⟩ := h
 exact ⟨r, es, clock, h1, h2, by rw [hc.block r (cu h3)]; exact h3, h4⟩
theorem jh (es : List (eo K)) (k : K) : (((es.map (·.key)).findIdx? (· = k)).bind fun i => ((es.map eB)[i]?).map fun e => (i, e.val)) = ((es.map (·.key)).findIdx? (· = k)).map fun i => (i, g5 es k) := by
 cases h : (es.map (·.key)).findIdx? (· = k) with
 | none => rfl
 | some i =>
   obtain ⟨hi, hk, hlt⟩ := List.findIdx?_eq_some_iff_getElem.1 h
   have hi' : i < es.length := by simpa using hi
   have hke : es[i].key = k := by simpa using hk
   have hf : es.find? (fun e => decide (e.key = k)) = some es[i] := by
     rw [List.find?_eq_some_iff_getElem]
     refine ⟨by simpa using hke, i, hi', rfl, fun j hj => ?_⟩
     have := hlt j hj
     simpa using this
   simp [hi', eB, g5, hf]
end
section
variable {P : Program} {f : Fr} {w : World} {dst : Option Tmp} {ty : TypeId} {pos : String} {after : Array Edge} {g : Option (Nat × Bool)} {t : TypeId} {x y z : Operand} {N : Value → World → Prop}
theorem ml {K : Type} [DecidableEq K] [Ky K] {γ : aP} {J : c8 → Prop} {v u : Value} {F : K → Value} {kt et size bytes : Nat} {agg : Bool} (k : K) (ht : P.underlying t = some (.map kt et)) (hk : ls P kt K) (he : Tp P et agg size bytes (.slice none 0 0)) (hx : ev f x = v) (hm : Vp γ J w v F) (hy : ev f y = u) (hu : u = Ky.val k) :
   (execOp (ev f) ⟨dst, .lookup t x y false, ty, pos, after, g⟩).run P w = .ok (.value (F k)) w := by
 obtain ⟨r, es, clock, rfl, hJ, hb, hok, rfl⟩ := hm
 obtain ⟨i, hi, _, _, hz⟩ := he.info
 subst hu
 have hf := hk.find k (es.map eB) (es.map (·.key)) w (by simp [eB, Function.comp_def])
 rw [jh] at hf
 cases h : (es.map (·.key)).findIdx? (· = k) with
 | none =>
   rw [h] at hf
   have h0 : g5 es k = .slice none 0 0 := by
     have hn : es.find? (fun e => decide (e.key = k)) = none := by
       rw [List.find?_eq_none]
       intro e he
       have := List.findIdx?_eq_none_iff.1 h (e.key) (List.mem_map_of_mem he)
       simpa using this
     simp [g5, hn]
   simp [execOp, hx, hy, Instr.lookup, aZ ht, dj hb, hk.check, hf, dT hi hz, h0]
 | some i =>
   rw [h] at hf
   simp [execOp, hx, hy, Instr.lookup, aZ ht, dj hb, hk.check, hf]
theorem kD {K : Type} [DecidableEq K] [Ky K] {γ : aP} {J : c8 → Prop} {v u : Value} {F : K → Value} {kt et size bytes : Nat} {agg : Bool} (k : K) (ht : P.underlying t = some (.map kt et)) (hk : ls P kt K) (he : Tp P et agg size bytes (.slice none 0 0)) (hx : ev f x = v) (hm : Vp γ J w v F) (hy : ev f y = u) (hu : u = Ky.val k)
   (hn : ∀ w' s, aO J γ w γ w' → sq γ J w' v F s k → N (.tuple (List.toArray [F k, .int .i64 s])) w') : eU P ⟨dst, .mapEntry t x y, ty, pos, after, g⟩ f w N := by
 obtain ⟨r, es, clock, rfl, hJ, hb, hok, rfl⟩ := hm
 obtain ⟨q, hi, _, _, hz⟩ := he.info
 subst hu
 have hf := hk.find k (es.map eB) (es.map (·.key)) w (by simp [eB, Function.comp_def])
 rw [jh] at hf
 cases h : (es.map (·.key)).findIdx? (· = k) with
 | none =>
   rw [h] at hf
   have hnk : ∀ e ∈ es, e.key ≠ k := fun e he => by
     have := List.findIdx?_eq_none_iff.1 h (e.key) (List.mem_map_of_mem he)
     simpa using this
   have h0 : g5 es k = .slice none 0 0 := by
     have hn : es.find? (fun e => decide (e.key = k)) = none := by
       rw [List.find?_eq_none]
       intro e he
       simpa using hnk e he
     simp [g5, hn]
   refine aG (v := .tuple (List.toArray [g5 es k, .int .i64 (clock : Int)])) (w' := { w with heap := w.heap.setIfInBounds r (.map ((es ++ [(⟨k, .slice none 0 0, clock⟩ : eo K)]).map eB).toArray (clock + 1)) }) ?_ ?_
   rotate_left
   · refine hn _ _ (gc γ _ hJ) ⟨r, es ++ [⟨k, .slice none 0 0, clock⟩], clock + 1, rfl, hJ, fv hb, ⟨?_, ?_, ?_⟩, ?_, es.length, ⟨k, .slice none 0 0, clock⟩, by simp, rfl, rfl⟩
     rotate_left 3
     · funext k'
       simp only [g5, List.find?_append]
       by_cases hkk : k = k'
       · subst hkk
         have hn : es.find? (fun e => decide (e.key = k)) = none := by
           rw [List.find?_eq_none]
           intro e he
           simpa using hnk e he
         simp [hn]
       · cases es.find? (fun e => decide (e.key = k')) <;> simp [hkk]
     · rw [List.map_append, List.nodup_append]
       refine ⟨hok.keys, by simp, fun a ha b hb => ?_⟩
       obtain ⟨e, he, rfl⟩ := List.mem_map.1 ha
       have : b = k := by simpa using hb
       subst this; exact hnk e he
     · rw [List.map_append, List.nodup_append]
       refine ⟨hok.born, by simp, fun a ha b hb => ?_⟩
       obtain ⟨e, he, rfl⟩ := List.mem_map.1 ha
       have : b = clock := by simpa using hb
       subst this; exact Nat.ne_of_lt (hok.lt e he)
     · intro e he
       rcases List.mem_append.1 he with h | h
       · exact Nat.lt_succ_of_lt (hok.lt e h)
       · obtain rfl := List.mem_singleton.1 h; exact Nat.lt_succ_self _
   · simp [execOp, hx, hy, Instr.mapEntry, aZ ht, dj hb, hk.check, hf, dT hi hz, em hb, h0, eB, goInt]
 | some i =>
   rw [h] at hf
   obtain ⟨hil, hke, _⟩ := List.findIdx?_eq_some_iff_getElem.1 h
   have hi' : i < es.length := by simpa using hil
   have hke' : es[i].key = k := by simpa using hke
   have hsame : (es.map eB).modify i (fun e => { e with key := Ky.val k }) = es.map eB := by
     apply List.ext_getElem?
     intro j
     rw [List.getElem?_modify]
     by_cases hij : i = j
     · subst hij; simp [hi', eB, hke']
     · simp [hij]
   refine aG (v := .tuple (List.toArray [g5 es k, .int .i64 ((es[i].born : Nat) : Int)])) (w' := { w with heap := w.heap.setIfInBounds r (.map (es.map eB).toArray clock) }) ?_
     (hn _ _ (gc γ _ hJ) ⟨r, es, clock, rfl, hJ, fv hb, hok, rfl, i, es[i], by simp, hke', rfl⟩)
   have hkb := hk.bits k
   have hold : (Instr.keyThatStays (Ky.val k) (Ky.val k)).run P w = .ok (Ky.val k) w := by simp [Instr.keyThatStays, hkb]
   simp [execOp, hx, hy, Instr.mapEntry, aZ ht, dj hb, hk.check, hf, hi', eB, hke', hold, em hb, goInt]
   rw [hsame]
theorem iY {K : Type} [DecidableEq K] [Ky K] {γ : aP} {J : c8 → Prop} {v m : Value} {F : K → Value} {s : Int} {k : K} (hx : ev f x = v) (hm : sq γ J w v F s k) (hy : ev f y = .int .i64 s) (hz : ev f z = m)
   (hn : ∀ w', aO J γ w γ w' → Vp γ J w' v (fun k' => if k' = k then m else F k') → N undef w') : eU P ⟨dst, .entryStore t x y z, ty, pos, after, g⟩ f w N := by
 obtain ⟨r, es, clock, rfl, hJ, hb, hok, rfl, i, e, hie, rfl, rfl⟩ := hm
 have hi' : i < es.length := (List.getElem?_eq_some_iff.1 hie).1
 have hei : es[i] = e := (List.getElem?_eq_some_iff.1 hie).2
 have hfi : ((es.map eB).toArray.findIdx? (fun q => (q.born : Int) == (e.born : Int))) = some i := by
   rw [List.findIdx?_toArray, List.findIdx?_eq_some_iff_getElem]
   refine ⟨by simpa using hi', by simp [eB, hei], fun j hj => ?_⟩
   have hj' : j < es.length := by omega
   have hne : es[j].born ≠ e.born := fun h => by
     have h1 : (es.map (·.born))[j]'(by simpa using hj') = (es.map (·.born))[i]'(by simpa using hi') := by simp [hei, h]
     have := (List.getElem_inj hok.born).1 h1
     omega
   simp [eB]
   omega
 have hmod : (es.map eB).modify i (fun q => { q with val := m }) = (es.modify i (fun q => { q with val := m })).map eB := by
   apply List.ext_getElem?
   intro j
   rw [List.getElem?_modify, List.getElem?_map, List.getElem?_map, List.getElem?_modify]
   by_cases hij : i = j
   · subst hij; simp [hi', eB]
   · simp [hij]
 have hkeys : (es.modify i (fun q => { q with val := m })).map (·.key) = es.map (·.key) := by
   apply List.ext_getElem?
   intro j
   rw [List.getElem?_map, List.getElem?_map, List.getElem?_modify]
   by_cases hij : i = j
   · subst hij; simp [hi']
   · simp [hij]
 have hborn : (es.modify i (fun q => { q with val := m })).map (·.born) = es.map (·.born) := by
   apply List.ext_getElem?
   intro j
   rw [List.getElem?_map, List.getElem?_map, List.getElem?_modify]
   by_cases hij : i = j
   · subst hij; simp [hi']
   · simp [hij]
 refine fA (w' := { w with heap := w.heap.setIfInBounds r (.map ((es.modify i (fun q => { q with val := m })).map eB).toArray clock) }) ?_
   (hn _ (gc γ _ hJ) ⟨r, es.modify i (fun q => { q with val := m }), clock, rfl, hJ, fv hb, ⟨by rw [hkeys]; exact hok.keys, by rw [hborn]; exact hok.born, fun q hq => ?_⟩, ?_⟩)
 · simp [execOp, hx, hy, hz, Instr.entryStore, dj hb, asInt, asIntOf, hfi, em hb]
   rw [← hmod]
 · have : q.born ∈ es.map (·.born) := by rw [← hborn]; exact List.mem_map_of_mem hq
   obtain ⟨q', hq', he'⟩ := List.mem_map.1 this
   rw [← he']; exact hok.lt q' hq'
 · funext k'
   have hfind : ∀ (l : List (eo K)), (l.map (·.key)).Nodup → ∀ j (hj : j < l.length), g5 l l[j].key = l[j].val := by
     intro l hl j hj
     have hf : l.find? (fun e => decide (e.key = l[j].key)) = some l[j] := by
       rw [List.find?_eq_some_iff_getElem]
       refine ⟨by simp, j, hj, rfl, fun q hq => ?_⟩
       have hne : l[q].key ≠ l[j].key := fun h => by
         have h1 : (l.map (·.key))[q]'(by simp; omega) = (l.map (·.key))[j]'(by simpa using hj) := by simp [h]
         have := (List.getElem_inj hl).1 h1
         omega
       simpa using hne
     simp [g5, hf]
   by_cases hkk : k' = e.key
   · subst hkk
     rw [if_pos rfl]
     have h1 := hfind (es.modify i (fun q => { q with val := m })) (by rw [hkeys]; exact hok.keys) i (by simpa using hi')
     simp [List.getElem_modify, hei] at h1
     exact h1.symm
   · rw [if_neg hkk]
     have hfe : (es.modify i (fun q => { q with val := m })).find? (fun e => decide (e.key = k')) = es.find? (fun e => decide (e.key = k')) := by
       have hgen : ∀ (l : List (eo K)) (i : Nat) (e : eo K), l[i]? = some e → k' ≠ e.key → (l.modify i (fun q => { q with val := m })).find? (fun e => decide (e.key = k')) = l.find? (fun e => decide (e.key = k')) := by
         intro l
         induction l with
         | nil => intro i e h; simp at h
         | cons a l ih =>
           intro i e h hne
           cases i with
           | zero =>
             obtain rfl : a = e := by simpa using h
             have : decide (a.key = k') = false := by simpa using fun h => hne h.symm
             simp [List.find?_cons, this]
           | succ i =>
             have h' : l[i]? = some e := by simpa using h
             simp only [List.modify_succ_cons, List.find?_cons, ih i e h' hne]
       exact hgen es i e hie hkk
     simp [g5, hfe]
end
def Ml {α : Type} [Rp α] (γ : aP) (i : Nat) (w : World) (v : Value) (L : (Int × Int) → List α) : Prop :=
  ∃ F : (Int × Int) → Value, Vp γ (row i 0) w v F ∧ ∀ q, Ow γ (row i (fM q + 1)) (row i (fM q + 1)) w (F q) (L q)
def r5 {α : Type} [Rp α] (γ : aP) (i : Nat) (w : World) (v : Value) (L : (Int × Int) → List α) (s : Int) (k : Int × Int) : Prop :=
  ∃ F : (Int × Int) → Value, sq γ (row i 0) w v F s k ∧ ∀ q, q ≠ k → Ow γ (row i (fM q + 1)) (row i (fM q + 1)) w (F q) (L q)
section
variable {α : Type} [Rp α] {γ γ' : aP} {i : Nat} {w w' : World} {v : Value} {L : (Int × Int) → List α} {s : Int} {k : Int × Int}
theorem Ml.chg {J : c8 → Prop} (h : Ml γ i w v L) (hc : aO J γ w γ' w') (hJ : ∀ c, is i c → ¬ J c) : Ml γ' i w' v L := by
 obtain ⟨F, h1, h2⟩ := h
 exact ⟨F, h1.chg hc fun c h => hJ c (cN c h), fun q => (h2 q).chg hc (fun c h => hJ c (cN c h)) (fun c h => hJ c (cN c h))⟩
theorem r5.chg {J : c8 → Prop} (h : r5 γ i w v L s k) (hc : aO J γ w γ' w') (hJ : ∀ c, is i c → ¬ J c) : r5 γ' i w' v L s k := by
 obtain ⟨F, h1, h2⟩ := h
 exact ⟨F, h1.chg hc fun c h => hJ c (cN c h), fun q hq => (h2 q hq).chg hc (fun c h => hJ c (cN c h)) (fun c h => hJ c (cN c h))⟩
theorem r5.rowchg (h : r5 γ i w v L s k) (hc : aO (row i (fM k + 1)) γ w γ' w') : r5 γ' i w' v L s k := by
 obtain ⟨F, h1, h2⟩ := h
 refine ⟨F, h1.chg hc (cx (by omega)), fun q hq => ?_⟩
 have : fM q + 1 ≠ fM k + 1 := fun e => hq (mW (by omega))
 exact (h2 q hq).chg hc (cx this) (cx this)
theorem rZ [Fl α] (h : Ml γ i w v L) (k : Int × Int) : ∃ F : (Int × Int) → Value, Vp γ (row i 0) w v F ∧ Sl γ (is i) w (F k) (L k) := by
  obtain ⟨F, h1, h2⟩ := h
  exact ⟨F, h1, (h2 k).row_sl⟩
variable {P : Program} {f : Fr} {dst : Option Tmp} {ty : TypeId} {pos : String} {after : Array Edge} {g : Option (Nat × Bool)} {t : TypeId} {x y z : Operand} {N : Value → World → Prop}
theorem l7 (γ : aP) (i : Nat) (hk : ∀ γ' w' v, aO no γ w γ' w' → Ml (α := α) γ' i w' v (fun _ => []) → N v w') : eU P ⟨dst, .makeMap t none, ty, pos, after, g⟩ f w N := by
 refine aG (v := .map (some w.heap.size)) (w' := w.alloc (.map #[] 0)) (by simp [execOp, Instr.makeMap]) (hk (fN γ w.heap.size (i, 0)) _ _ (eO γ w _ (i, 0)) ⟨fun _ => .slice none 0 0, ⟨w.heap.size, [], 0, rfl, by simp [fN, row], by rw [d8]; rfl, ⟨by simp, by simp, by simp⟩, ?_⟩, fun q => Ow.nil⟩)
 funext k; simp [g5]
theorem jY {u : Value} {kt et size bytes : Nat} {agg : Bool} (k : Int × Int) (ht : P.underlying t = some (.map kt et)) (hk : ls P kt (Int × Int)) (he : Tp P et agg size bytes (.slice none 0 0)) (hx : ev f x = v) (hm : Ml γ i w v L) (hy : ev f y = u) (hu : u = Ky.val k)
   (hn : ∀ w' s q, aO (row i 0) γ w γ w' → r5 γ i w' v L s k → Ow γ (row i (fM k + 1)) (row i (fM k + 1)) w' q (L k) → N (.tuple (List.toArray [q, .int .i64 s])) w') : eU P ⟨dst, .mapEntry t x y, ty, pos, after, g⟩ f w N := by
 obtain ⟨F, h1, h2⟩ := hm
 refine kD k ht hk he hx h1 hy hu fun w' s hc hv => hn w' s (F k) hc ⟨F, hv, fun q _ => (h2 q).chg hc (cx (by omega)) (cx (by omega))⟩ ((h2 k).chg hc (cx (by omega)) (cx (by omega)))
theorem iX {m : Value} {l : List α} (hx : ev f x = v) (hm : r5 γ i w v L s k) (hy : ev f y = .int .i64 s) (hz : ev f z = m) (ho : Ow γ (row i (fM k + 1)) (row i (fM k + 1)) w m l)
   (hn : ∀ w', aO (row i 0) γ w γ w' → Ml γ i w' v (fun q => if q = k then l else L q) → N undef w') : eU P ⟨dst, .entryStore t x y z, ty, pos, after, g⟩ f w N := by
 obtain ⟨F, h1, h2⟩ := hm
 refine iY hx h1 hy hz fun w' hc hv => hn w' hc ⟨_, hv, fun q => ?_⟩
 by_cases e : q = k
 · subst e
   simp only [if_true]
   exact ho.chg hc (cx (by omega)) (cx (by omega))
 · simp only [if_neg e]
   exact (h2 q e).chg hc (cx (by omega)) (cx (by omega))
end
end TL
namespace TL
open Go
section
variable {α : Type} [Rp α] {γ γ' : aP} {w w' : World} {v : Value} {L : List Nat} {j k : Nat} {F : (Int × Int) → List α}
theorem Ml.ca (h : Ml γ j w v F) (hc : aO (bR L) γ w γ' w') (hj : L.contains j = false := by exact rfl) : Ml γ' j w' v F := h.chg hc (bB hj)
theorem Ml.ce (h : Ml γ j w v F) (hc : aO (is k) γ w γ' w') (hj : Nat.beq j k = false := by exact rfl) : Ml γ' j w' v F := h.chg hc (ex hj)
theorem Ml.cn (h : Ml γ j w v F) (hc : aO no γ w γ' w') : Ml γ' j w' v F := h.chg hc (fu _)
end
end TL
/-
  TlJudge2: what is told of a plot; its rotation.
  By an AI agent.
-/
set_option linter.all false
namespace TL
def az (p : dl) : List Pt := p.1 ++ p.2.flatten
theorem nj {p : dl} {l : List Pt} {k : Nat} (h : l = p.1 ++ (p.2.take k).flatten ∧ (l.length : Int) ≤ 1024 + 4096 * (k : Int)) (hk : (k : Int) < p.2.length) (hl : (gI p.2 (k : Int)).length ≤ 4096) : l ++ gI p.2 (k : Int) = p.1 ++ (p.2.take (k + 1)).flatten ∧ ((l ++ gI p.2 (k : Int)).length : Int) ≤ 1024 + 4096 * ((k + 1 : Nat) : Int) := by
 refine ⟨by rw [bU hk, h.1]; simp, ?_⟩
 rw [List.length_append]; have := h.2; omega
theorem oN {p : dl} {l : List Pt} {k : Nat} (h : l = p.1 ++ (p.2.take k).flatten) (hk : ¬ (k : Int) < p.2.length) : l = az p := by
 rw [List.take_of_length_le (by omega)] at h; exact h
def eG (p : dl) : Nat → Int
 | 0 => 0
 | k + 1 => eG p k + (((gI p.2 (k : Int)).length : Int) - 2)
theorem kq {p : dl} (h : ∀ e : Int, 0 ≤ e → e < p.2.length → 2 ≤ ((gI p.2 e).length : Int) ∧ cX (gI p.2 e)) : ∀ k : Nat, (k : Int) ≤ p.2.length → 0 ≤ eG p k ∧ eG p k ≤ 4096 * (k : Int)
 | 0, _ => by simp [eG]
 | k + 1, hk => by
   have h1 := kq h k (by omega)
   obtain ⟨h2, h3, _⟩ := h (k : Int) (by omega) (by omega)
   unfold eG; omega
def ep (f : Nat → Bool) : Nat → Bool
 | 0 => true
 | k + 1 => ep f k && f k
theorem iC {f h : Nat → Bool} : ∀ {k : Nat}, (∀ j, j < k → f j = h j) → ep f k = ep h k
 | 0, _ => rfl
 | k + 1, e => by rw [ep, ep, iC fun j hj => e j (by omega), e k (by omega)]
def kE (l : List Pt) (j : Nat) : Bool := decide ((gI l (j : Int)).1 = (gI l ((j : Int) + 1)).1 ∨ (gI l (j : Int)).2 = (gI l ((j : Int) + 1)).2)
def st (p : dl) (e : Nat) : Bool := ep (kE (gI p.2 (e : Int))) ((gI p.2 (e : Int)).length - 1)
def iO (p : dl) (k : Nat) : Bool := ep (st p) k
section
variable {p : dl} {l : List Pt} {a b : Bool} {i k : Nat}
theorem pX (h : a = iO p k) : 1 ≤ (1 : Nat) ∧ a = (iO p k && ep (kE l) (1 - 1)) := ⟨Nat.le_refl _, by rw [h]; simp [ep]⟩
theorem sZ (h : 1 ≤ i ∧ a = (iO p k && ep (kE l) (i - 1))) (ha : a = true) (hx : (gI l ((i : Int) - 1)).1 = (gI l (i : Int)).1) : 1 ≤ i + 1 ∧ true = (iO p k && ep (kE l) (i + 1 - 1)) := by
 obtain ⟨h1, h2⟩ := h
 refine ⟨by omega, ?_⟩
 obtain ⟨j, rfl⟩ : ∃ j, i = j + 1 := ⟨i - 1, by omega⟩
 have e : (((j + 1 : Nat) : Int) - 1) = (j : Int) := by omega
 have e2 : ((j + 1 : Nat) : Int) = (j : Int) + 1 := by omega
 rw [e, e2] at hx
 rw [Nat.add_sub_cancel, ep, ← Bool.and_assoc]
 rw [Nat.add_sub_cancel] at h2
 rw [← h2, ha]
 unfold kE
 rw [decide_eq_true (.inl hx)]; rfl
theorem td (h : 1 ≤ i ∧ a = (iO p k && ep (kE l) (i - 1))) (ha : a = true) (hx : ¬ (gI l ((i : Int) - 1)).1 = (gI l (i : Int)).1) : 1 ≤ i + 1 ∧ decide ((gI l ((i : Int) - 1)).2 = (gI l (i : Int)).2) = (iO p k && ep (kE l) (i + 1 - 1)) := by
 obtain ⟨h1, h2⟩ := h
 refine ⟨by omega, ?_⟩
 obtain ⟨j, rfl⟩ : ∃ j, i = j + 1 := ⟨i - 1, by omega⟩
 have e : (((j + 1 : Nat) : Int) - 1) = (j : Int) := by omega
 have e2 : ((j + 1 : Nat) : Int) = (j : Int) + 1 := by omega
 rw [e, e2] at hx ⊢
 rw [Nat.add_sub_cancel, ep, ← Bool.and_assoc]
 rw [Nat.add_sub_cancel] at h2
 rw [← h2, ha]
 unfold kE
 rw [Bool.true_and, decide_eq_decide]
 exact ⟨.inr, fun h => h.resolve_left hx⟩
theorem sY (h : 1 ≤ i ∧ a = (iO p k && ep (kE l) (i - 1))) (ha : ¬ a = true) : 1 ≤ i + 1 ∧ false = (iO p k && ep (kE l) (i + 1 - 1)) := by
 obtain ⟨h1, h2⟩ := h
 refine ⟨by omega, ?_⟩
 obtain ⟨j, rfl⟩ : ∃ j, i = j + 1 := ⟨i - 1, by omega⟩
 rw [Nat.add_sub_cancel, ep, ← Bool.and_assoc]
 rw [Nat.add_sub_cancel] at h2
 rw [← h2, Bool.eq_false_iff.2 ha]; rfl
theorem sd (hb : b = iO p k) (h : 1 ≤ i ∧ a = (iO p k && ep (kE (gI p.2 (k : Int))) (i - 1))) (hi : ¬ (i : Int) < (gI p.2 (k : Int)).length) (hi2 : (i : Int) ≤ (gI p.2 (k : Int)).length) : a = iO p (k + 1) := by
 have : i = (gI p.2 (k : Int)).length := by omega
 rw [h.2, this]; rfl
end
def i2 (p : dl) : Int × Int :=
 if 0 < ((az p).length : Int) then ((kG (az p) (az p).length).1 - (kF (az p) (az p).length).1, (kG (az p) (az p).length).2 - (kF (az p) (az p).length).2) else (0, 0)
def fT (p : dl) : Int × Int × Int × Bool × Bool := (eG p p.2.length, (i2 p).1, (i2 p).2, decide (eG p p.2.length = 0), iO p p.2.length)
def aL (g : da) (p : dl) : (Int × Int × Int × Bool × Bool) × Int :=
 if ci g then if bL g p = [] then (fT p, 0) else ((0, 0, 0, false, false), 24) else ((0, 0, 0, false, false), 1)
section
variable {g : da} {p : dl}
theorem rP (h : sE g p) : ∀ q ∈ az p, c4 q := by
 intro q hq
 unfold az at hq
 rcases List.mem_append.1 hq with hq | hq
 · obtain ⟨i, hi, rfl⟩ := List.mem_iff_getElem.1 hq
   have := h.pt (i : Int) (by omega) (by omega)
   rwa [show gI p.1 (i : Int) = p.1[i] by simp [gI, hi]] at this
 · obtain ⟨l, hl, hq⟩ := List.mem_flatten.1 hq
   obtain ⟨i, hi, rfl⟩ := List.mem_iff_getElem.1 hl
   have := (h.ln (i : Int) (by omega) (by omega)).2.2
   rw [show gI p.2 (i : Int) = p.2[i] by simp [gI, hi]] at this
   exact this q hq
theorem r8 {l : List Pt} (h : ∀ q ∈ l, c4 q) (h0 : 0 < l.length) : ∀ k : Nat, k ≤ l.length → c4 (kF l k) ∧ c4 (kG l k)
 | 0, _ => ⟨h _ (bq (by omega) (by omega)), h _ (bq (by omega) (by omega))⟩
 | k + 1, hk => by
   obtain ⟨h1, h2⟩ := r8 h h0 k (by omega)
   have h3 := h _ (bq (xs := l) (i := (k : Int)) (by omega) (by omega))
   unfold kF kG
   unfold c4 at *
   simp only
   omega
theorem ow (h : ¬ ci g) : aL g p = ((0, 0, 0, false, false), 1) := by unfold aL; rw [if_neg h]
theorem lQ (h : ci g) {F : List iR} (hF : F = bL g p) (h1 : 0 < (F.length : Int)) : aL g p = ((0, 0, 0, false, false), 24) := by
 unfold aL
 rw [if_pos h, if_neg]
 intro e
 rw [hF, e] at h1
 simp at h1
theorem ji (h : ci g) (h1 : bL g p = []) : aL g p = (fT p, 0) := by unfold aL; rw [if_pos h, if_pos h1]
theorem rC {n : Int} {a : Bool} {k q : Nat} {x1 x2 y1 y2 : Int} (hn : n = eG p k) (ha : a = iO p k) (hk : k = p.2.length) (h0 : 0 < ((az p).length : Int)) (hb : (x1 = (kF (az p) q).1 ∧ x2 = (kF (az p) q).2) ∧ y1 = (kG (az p) q).1 ∧ y2 = (kG (az p) q).2) (hq : q = (az p).length) :
   (n, y1 - x1, y2 - x2, decide (n = 0), a) = fT p := by
 obtain ⟨⟨e1, e2⟩, e3, e4⟩ := hb
 subst hk hq
 unfold fT i2
 rw [if_pos h0, hn, ha, e1, e2, e3, e4]
theorem rq {n : Int} {a : Bool} {k : Nat} (hn : n = eG p k) (ha : a = iO p k) (hk : k = p.2.length) (h0 : ¬ 0 < ((az p).length : Int)) : (n, 0, 0, decide (n = 0), a) = fT p := by
 subst hk
 unfold fT i2
 rw [if_neg h0, hn, ha]
end
def dW (p : dl) (l : List Int) : List Pt := l.map (ei p)
noncomputable def tuL (p : dl) (o : Pt) (l : List Int) : List Int := (arL o (dW p l)).map (gI l)
def kT (p : dl) (o : Pt) (l : List Int) : Prop := ∃ j : Nat, j < l.length ∧ 0 < j ∧ dM (aS (gI (dW p l) (gI (arL o (dW p l)) ((j : Int) - 1))) o) (aS (gI (dW p l) (gI (arL o (dW p l)) (j : Int))) o)
noncomputable instance (p : dl) (o : Pt) (l : List Int) : Decidable (kT p o l) := by unfold kT; infer_instance
noncomputable def tuS (g : da) (p : dl) : dQ := (List.range g.1.toNat).map fun (v : Nat) => tuL p (gI p.1 (v : Int)) (cU g (v : Int))
def kz (g : da) (p : dl) : Prop := ∃ v : Nat, v < g.1.toNat ∧ kT p (gI p.1 (v : Int)) (cU g (v : Int))
noncomputable instance (g : da) (p : dl) : Decidable (kz g p) := by unfold kz; infer_instance
noncomputable def turnsR (g : da) (p : dl) : dQ × Int :=
 if ci g then if bT g p = [] then if kz g p then ([], 24) else (ew (tuS g p), 0) else ([], 24) else ([], 1)
end TL
/-
  TlSort: the library's sort by a function, met in this frame.
  By an AI agent.
-/
set_option linter.all false
namespace TL
open Go Go.Proofs Go.Shelf Go.Sort Go.Lib
theorem cQ.grown {w w' : World} (h : cQ w.heap.size w w') : ∃ q os, w' = grow (w.drewN q) os := by
 obtain ⟨h1, h2, h3, h4, h5, h6⟩ := h
 refine ⟨w'.drawn - w.drawn, w'.heap.extract w.heap.size w'.heap.size, ?_⟩
 have hh : w'.heap = w.heap ++ w'.heap.extract w.heap.size w'.heap.size := by
   apply Array.ext_getElem?
   intro k
   rw [Array.getElem?_append]
   by_cases hk : k < w.heap.size
   · rw [if_pos hk]; exact h5 k hk
   · rw [if_neg hk, Array.getElem?_extract]
     split
     · rw [show w.heap.size + (k - w.heap.size) = k by omega]
     · exact Array.getElem?_eq_none (by omega)
 have hd : w'.drawn = w.drawn + (w'.drawn - w.drawn) := by omega
 cases w with
 | mk a b c d e =>
   cases w' with
   | mk a' b' c' d' e' =>
     simp only [grow, World.drewN] at *
     subst h1 h2 h3
     simp only [World.mk.injEq, true_and, and_true]
     exact ⟨hh, hd⟩
section
variable {α : Type} [Inhabited α] {γ : aP} {w : World} {j b : Nat}
theorem kr (enc : α → Value) (hb : is j (γ b)) (m : Nat) (d : Array α) (os : Array Obj) : aO (is j) γ w γ (sortWorld enc w b 0 m d os) := by
 refine ⟨rfl, rfl, rfl, ?_, fun _ _ _ => rfl, fun k hk hn => ?_, ?_⟩
 · unfold sortWorld; rw [size_grow, Go.Sort.size_putRow]; simp only [heap_ahead]; omega
 · unfold sortWorld
   rw [heap_grow_old _ _ (by rw [Go.Sort.size_putRow]; exact hk)]
   have : b ≠ k := fun e => hn (by subst e; exact hb)
   simp [putRow, mapBlock, Array.getElem?_modify, this]
 · show w.drawn ≤ w.drawn + m
   omega
theorem ms (enc : α → Value) {c : Array Value} {e : TypeId} {fr : Nat × Nat} (h : w.heap[b]? = some (.cells c e fr)) (m : Nat) (d : Array α) (os : Array Obj) : (sortWorld enc w b 0 m d os).heap[b]? = some (.cells (putCells enc 0 d c) e fr) := by
 unfold sortWorld
 rw [heap_grow_old _ _ (by rw [Go.Sort.size_putRow]; exact cu h)]
 simp [putRow, mapBlock, Array.getElem?_modify, h, onCells]
theorem km (enc : α → Value) {d : Array α} {c : Array Value} {k : Nat} (h : k < d.size) (hc : k < c.size) : (putCells enc 0 d c)[k]? = some (enc d[k]!) := by
 simp [putCells, h, hc]
end
theorem mm {P : Program} {ρ : Ren} (L : SlLaysF.n6 P ρ) {α : Type} [Inhabited α] (fe : α → Int) (cf : α → α → Int) (hO : SWO (ltOf cf)) (g : Nat) (cb : Array Value) (eg : ∀ args w, (callFunc g args).run P w = .ok (.enter g args) w)
   {γ : aP} {w : World} {j : Nat} {v : Value} {ds : List α} (hne : ds ≠ []) (hl : Ow γ (is j) (is j) w v (ds.map fe))
   (hc : ∀ W, aO (is j) γ w γ W → ∀ x y, Calls P g (#[.int .i64 (fe x), .int .i64 (fe y)] ++ cb) W fun e w' => e = .returned (.int .i64 (cf x y)) ∧ cQ W.heap.size W w') :
   Calls P (ρ.f 6) #[v, .func (.func g) #[] cb] w fun e w' => e = .returned (.tuple #[]) ∧ ∃ ds' : List α, ds'.Perm ds ∧ ds'.Pairwise (fun x y => ltOf cf y x = false) ∧ aO (is j) γ w γ w' ∧ Ow γ (is j) (is j) w' v (ds'.map fe) := by
 rcases hl with ⟨_, h⟩ | ⟨b, cap, c, e, rfl, hcap, hm, hJ, hb, hcs, hx⟩
 · simp at h; exact absurd h hne
 · simp only [List.length_map] at hcap
   have hsz1 : Rp.sz Int = 1 := rfl
   rw [hsz1, Nat.mul_one] at hcs
   have hbs := cu hb
   have hlen : (ds.map fe).length = ds.toArray.size := by simp
   have hget : ∀ i, i < ds.length → c[i]? = some (Value.int .i64 (fe ds.toArray[i]!)) := fun i hi => by
     obtain ⟨cs, h1, h2⟩ := hx i (fe ds[i]) (by simp [hi])
     have h2 : cs = [Value.int .i64 (fe ds[i])] := h2
     have h1 := h1 0 (by decide)
     rw [h2] at h1
     simp only [hsz1, Nat.mul_one, Nat.add_zero] at h1
     rw [h1]
     simp [hi]
   have hH : Holds (fun x : α => Value.int .i64 (fe x)) w b 0 ds.toArray := fun i hi => by
     have hi : i < ds.length := by simpa using hi
     constructor
     · have := hget i hi
       simp only [World.cell?, hb, Nat.zero_add]
       exact this
     · simp [World.frozen?, hb]
   have hcmp : CmpLays1 P g cb (fun x : α => Value.int .i64 (fe x)) cf b 0 ds.toArray.size w := fun m os dk hs x y =>
     (hc _ (kr _ hJ m dk os) x y).mono fun e w' ⟨h1, h2⟩ => ⟨h1, h2.grown⟩
   have key := Any.slices_SortFunc L (fun x : α => Value.int .i64 (fe x)) (fun _ => rfl) cf hO g cb b 0 cap ds.toArray w eg hcmp hH hbs (by simp; omega)
   rw [hlen]
   refine key.mono fun e' w' ⟨h1, d', n, os, hp, hs, hw⟩ => ⟨h1, d'.toList, ?_, ?_, ?_, ?_⟩
   · obtain ⟨q1, _, q3⟩ := hp
     rw [← q1] at q3
     have e1 : (d'.extract 0 d'.size) = d' := by simp
     rw [e1, q1] at q3
     have e2 : (ds.toArray.extract 0 ds.toArray.size) = ds.toArray := Array.extract_size
     rw [e2] at q3
     simpa using q3
   · rw [List.pairwise_iff_getElem]
     intro i k hi hk hik
     have hi : i < d'.size := by simpa using hi
     have hk : k < d'.size := by simpa using hk
     have := hs i k (Nat.zero_le _) hik (by rw [← hp.1]; exact hk)
     rw [getElem!_pos d' k hk, getElem!_pos d' i hi] at this
     simpa using this
   · rw [hw]; exact kr _ hJ n d' os
   · have hs' : d'.size = ds.length := by rw [hp.1]; simp
     have hd : d'.toList.length = ds.length := by simpa using hs'
     refine .inr ⟨b, cap, _, e, by rw [List.length_map, hd]; simp, by rw [List.length_map, hd]; exact hcap, hm, hJ, by rw [hw]; exact ms _ hb n d' os, by rw [hsz1, Nat.mul_one]; simpa [putCells] using hcs, fun i x hi => ?_⟩
     have hi' : i < d'.size := by
       have := (List.getElem?_eq_some_iff.1 hi).1
       simpa using this
     refine ⟨[Value.int .i64 x], fun q hq => ?_, rfl⟩
     have : q = 0 := by have : q < 1 := hq; omega
     subst this
     rw [hsz1, Nat.mul_one, Nat.add_zero, km _ hi' (by rw [hcs]; omega), getElem!_pos d' _ hi']
     simp [hi'] at hi
     simp [hi]
end TL
/-
  TlJudge3: a plot's rotation: the half-edges of each node, turned.
  By an AI agent.
-/
set_option linter.all false
namespace TL
theorem dc {α β : Type} [Inhabited α] [Inhabited β] {f : α → β} {l : List α} {i : Int} (h0 : 0 ≤ i) (h1 : i < l.length) : gI (l.map f) i = f (gI l i) := by
 have h : i.toNat < l.length := by omega
 unfold gI
 rw [List.getD_eq_getElem?_getD, List.getD_eq_getElem?_getD, List.getElem?_map, List.getElem?_eq_getElem h]; rfl
theorem nP {α : Type} [Inhabited α] {l : List α} {x : α} (h : x ∈ l) : ∃ j : Nat, j < l.length ∧ gI l (j : Int) = x := by
 obtain ⟨j, hj, rfl⟩ := List.mem_iff_getElem.1 h
 exact ⟨j, hj, by simp [gI, hj]⟩
section
variable {g : da} {p : dl}
theorem lm {v h : Int} : h ∈ cU g v ↔ (0 ≤ h ∧ h < 2 * (g.2.length : Int)) ∧ dE g h = v := by
 unfold cU fV
 rw [List.mem_filter, List.mem_map]
 constructor
 · rintro ⟨⟨i, hi, rfl⟩, hf⟩
   have := List.mem_range.1 hi
   exact ⟨by omega, of_decide_eq_true hf⟩
 · rintro ⟨h1, h2⟩
   exact ⟨⟨h.toNat, List.mem_range.2 (by omega), by omega⟩, decide_eq_true h2⟩
theorem mc {v : Int} : (cU g v).Nodup := by
 unfold cU fV
 refine List.Nodup.sublist List.filter_sublist ?_
 unfold List.Nodup
 rw [List.pairwise_map]
 refine List.Pairwise.imp ?_ List.nodup_range
 intro a b h e
 exact h (by omega)
theorem lK {v : Int} : ((cU g v).length : Int) ≤ 2 * (g.2.length : Int) := by
 have := j9 g v g.2.length
 unfold cU; omega
theorem mf {r : dQ} (hm : ci g) (hl : (r.length : Int) = g.1) (hrow : ∀ v : Nat, v < r.length → (gI r (v : Int)).Nodup ∧ ∀ h, h ∈ gI r (v : Int) ↔ (0 ≤ h ∧ h < 2 * (g.2.length : Int)) ∧ dE g h = v) : gZ g r := by
 have hn : r.flatten.Nodup := by
   unfold List.Nodup
   rw [List.pairwise_flatten]
   refine ⟨fun l hl => ?_, ?_⟩
   · obtain ⟨v, hv, rfl⟩ := nP hl
     exact (hrow v hv).1
   · rw [List.pairwise_iff_getElem]
     intro i j hi hj hij x hx y hy e
     subst e
     have e1 : gI r (i : Int) = r[i] := by simp [gI, hi]
     have e2 : gI r (j : Int) = r[j] := by simp [gI, hj]
     have h1 := ((hrow i hi).2 x).1 (by rw [e1]; exact hx)
     have h2 := ((hrow j hj).2 x).1 (by rw [e2]; exact hy)
     have := h1.2.symm.trans h2.2
     omega
 refine ⟨hl, fun v hv h hh => ((hrow v hv).2 h).1 hh, hn, ?_⟩
 have hp : r.flatten.Perm (fW (2 * g.2.length)) := by
   rw [List.perm_ext_iff_of_nodup hn (kU _)]
   intro h
   rw [List.mem_flatten, jT]
   constructor
   · rintro ⟨l, hl, hh⟩
     obtain ⟨v, hv, rfl⟩ := nP hl
     have := (((hrow v hv).2 h).1 hh).1
     omega
   · intro hh
     have hf := nL hm (h := h) (by omega) (by omega)
     have hv : (dE g h).toNat < r.length := by omega
     refine ⟨gI r (((dE g h).toNat : Nat) : Int), bq (by omega) (by omega), ((hrow _ hv).2 h).2 ⟨by omega, by omega⟩⟩
 have := hp.length_eq
 rw [n5] at this
 omega
structure sU (g : da) (p : dl) : Prop where
  sh : sE g p
  pl : ∀ v w : Nat, v < w → w < p.1.length → gI p.1 (v : Int) ≠ gI p.1 (w : Int)
  en : ∀ e : Int, 0 ≤ e → e < p.2.length → fZ g p e
  si : ∀ e : Int, 0 ≤ e → e < p.2.length → gk (gI p.2 e)
  nd : ∀ e v : Nat, e < p.2.length → v < p.1.length → (v : Int) ≠ (gI g.2 (e : Int)).1 → (v : Int) ≠ (gI g.2 (e : Int)).2 → ¬ dN (gI p.2 (e : Int)) (gI p.1 (v : Int))
  ap : ∀ e f : Nat, e < f → f < p.2.length → gm (gI p.2 (e : Int)) (gI p.2 (f : Int)) (gU g p (e : Int) (f : Int))
theorem kS : bT g p = [] ↔ sU g p := by
 unfold bT
 by_cases hs : bL g p = []
 · rw [if_pos hs]
   have hsh := eP.1 hs
   rw [List.append_eq_nil_iff, List.append_eq_nil_iff]
   constructor
   · rintro ⟨⟨h1, h2⟩, h3⟩
     rw [if_pos h2, List.append_eq_nil_iff] at h3
     unfold dg at h2
     rw [List.append_eq_nil_iff, c6, c6] at h2
     refine ⟨hsh, fun v w hvw hw e => ?_, fun e h0 h4 => ?_, fun e h0 h4 => ?_, fun e v he hv hn1 hn2 ho => ?_, fun e f hef hf => ?_⟩
     · have k1 := c6.1 h1 v (by omega)
       have k2 := c6.1 k1 w hw
       exact eW.1 k2 ⟨hvw, e⟩
     · have k1 := h2.1 e.toNat (by omega)
       have k2 := eW.1 k1
       rw [Int.toNat_of_nonneg h0] at k2
       exact Classical.not_not.1 k2
     · have k1 := h2.2 e.toNat (by omega)
       have k2 := eW.1 k1
       rw [Int.toNat_of_nonneg h0] at k2
       exact Classical.not_not.1 k2
     · have k1 := c6.1 h3.1 e he
       have k2 := c6.1 k1 v hv
       exact eW.1 k2 ⟨⟨hn1, hn2⟩, ho⟩
     · have k1 := c6.1 h3.2 e (by omega)
       have k2 := c6.1 k1 f hf
       exact Classical.not_not.1 fun c => eW.1 k2 ⟨hef, c⟩
   · intro h
     have hL : dg g p = [] := by
       unfold dg
       rw [List.append_eq_nil_iff]
       exact ⟨ec fun e he => cC (Classical.not_not.2 (h.en _ (by omega) (by omega))), ec fun e he => cC (Classical.not_not.2 (h.si _ (by omega) (by omega)))⟩
     refine ⟨⟨ec fun v hv => ec fun w hw => cC fun c => h.pl v w c.1 hw c.2, hL⟩, ?_⟩
     rw [if_pos hL, List.append_eq_nil_iff]
     exact ⟨ec fun e he => ec fun v hv => cC fun c => h.nd e v he hv c.1.1 c.1.2 c.2, ec fun e he => ec fun f hf => cC fun c => c.2 (h.ap e f c.1 hf)⟩
 · rw [if_neg hs]
   exact ⟨fun h => absurd h hs, fun h => absurd (eP.2 h.sh) hs⟩
theorem jm (hm : ci g) (hc : sU g p) {v h : Int} (hh : h ∈ cU g v) : ((0 ≤ h ∧ h < 2 * (p.2.length : Int)) ∧ 2 ≤ ((gI p.2 (h / 2)).length : Int)) ∧ c4 (ei p h) ∧ ei p h ≠ gI p.1 v := by
  obtain ⟨⟨h0, h1⟩, hf⟩ := lm.1 hh
  have hs := hc.sh
  have hm2 := hs.m
  have e0 : 0 ≤ h / 2 := by omega
  have e1 : h / 2 < p.2.length := by omega
  obtain ⟨l1, l2, l3⟩ := hs.ln _ e0 e1
  have hen := hc.en _ e0 e1
  have hsi := hc.si _ e0 e1
  refine ⟨⟨⟨h0, by omega⟩, l1⟩, ?_⟩
  unfold ei
  unfold fZ at hen
  unfold dE pI at hf
  rcases (by omega : h % 2 = 0 ∨ h % 2 = 1) with c | c
  · rw [if_pos c]
    rw [c] at hf
    refine ⟨l3 _ (bq (by omega) (by omega)), fun e => ?_⟩
    have k1 := (hsi 0 (by omega) (by omega)).1
    have hf' : (gI g.2 (h / 2)).1 = v := by simpa using hf
    rw [← hf', ← hen.1] at e
    exact k1 e.symm
  · rw [if_neg (by omega)]
    rw [c] at hf
    refine ⟨l3 _ (bq (by omega) (by omega)), fun e => ?_⟩
    have k1 := (hsi ((gI p.2 (h / 2)).length - 2) (by omega) (by omega)).1
    have hf' : (gI g.2 (h / 2)).2 = v := by simpa using hf
    rw [← hf', ← hen.2] at e
    rw [show (((gI p.2 (h / 2)).length - 2 : Nat) : Int) = ((gI p.2 (h / 2)).length : Int) - 2 by omega, show ((gI p.2 (h / 2)).length : Int) - 2 + 1 = ((gI p.2 (h / 2)).length : Int) - 1 by omega] at k1
    exact k1 e
theorem kO (hm : ci g) (hc : sU g p) (hfew : (g.2.length : Int) ≤ 2000) (v : Int) : cX (dW p (cU g v)) ∧ gV (gI p.1 v) (dW p (cU g v)) := by
 have hl := lK (g := g) (v := v)
 refine ⟨⟨by unfold dW; rw [List.length_map]; omega, fun q hq => ?_⟩, fun i hi => ?_⟩
 · obtain ⟨h, hh, rfl⟩ := List.mem_map.1 hq
   exact (jm hm hc hh).2.1
 · unfold dW at hi ⊢
   rw [List.length_map] at hi
   rw [dc (by omega) (by omega)]
   exact (jm hm hc (bq (by omega) (by omega))).2.2
theorem ph {o : Pt} {ps : List Pt} (hz : gV o ps) : (arL o ps).Perm (eC ps.length) := by
 obtain ⟨h1, h2⟩ := hP hz
 have n1 : (arL o ps).Nodup := List.Pairwise.imp (fun {a b} h e => by subst e; exact eZ _ _ h) h1
 have n2 : (eC ps.length).Nodup := by
   unfold eC List.Nodup
   rw [List.pairwise_map]
   refine List.Pairwise.imp ?_ List.nodup_range
   intro a b h e
   exact h (by omega)
 rw [List.perm_ext_iff_of_nodup n1 n2]
 intro x
 rw [h2 x]
 unfold eC
 rw [List.mem_map]
 constructor
 · intro h
   exact ⟨x.toNat, List.mem_range.2 (by omega), by omega⟩
 · rintro ⟨i, hi, rfl⟩
   have := List.mem_range.1 hi
   omega
theorem qN (l : List Int) : (eC l.length).map (gI l) = l := by
 apply List.ext_getElem
 · simp [eC]
 · intro i h1 h2
   simp [eC, gI, h2]
theorem pV {o : Pt} {l : List Int} (hz : gV o (dW p l)) : (tuL p o l).Perm l := by
 have h := (ph hz).map (gI l)
 have e : (dW p l).length = l.length := by simp [dW]
 rw [e, qN] at h
 exact h
theorem sx (hm : ci g) {v : Nat} (hv : (v : Int) < g.1) : gI (tuS g p) (v : Int) = tuL p (gI p.1 (v : Int)) (cU g (v : Int)) := by
 unfold tuS
 have : v < g.1.toNat := by omega
 simp [gI, this]
theorem ij : (tuS g p).length = g.1.toNat := by simp [tuS]
theorem pT (hm : ci g) (hc : sU g p) (hfew : (g.2.length : Int) ≤ 2000) : gZ g (tuS g p) := by
 have h0 := hm.1
 refine mf hm (by rw [ij]; omega) fun v hv => ?_
 rw [ij] at hv
 have hp := pV (p := p) (kO hm hc hfew (v : Int)).2
 rw [sx hm (by omega)]
 exact ⟨hp.nodup_iff.2 mc, fun h => by rw [hp.mem_iff]; exact lm⟩
structure fP (g : da) (p : dl) (first : dQ) (v : Nat) : Prop where
 len : first.length = g.1.toNat
 row : ∀ j : Nat, j < g.1.toNat → gI first (j : Int) = if j < v then tuL p (gI p.1 (j : Int)) (cU g (j : Int)) else cU g (j : Int)
 ok : ∀ j : Nat, j < v → ¬ kT p (gI p.1 (j : Int)) (cU g (j : Int))
theorem fP.start (hm : ci g) : fP g p (eJ g) 0 := by
 have h0 := hm.1
 refine ⟨by simp [eJ], fun j hj => ?_, fun j hj => by omega⟩
 rw [if_neg (by omega)]
 unfold eJ
 simp [gI, hj]
theorem fP.start' (hm : ci g) {r : dQ} (h : r = eJ g) : fP g p r 0 := h ▸ fP.start hm
theorem fP.now {first : dQ} {v : Nat} (h : fP g p first v) (hv : v < g.1.toNat) : gI first (v : Int) = cU g (v : Int) := by
 rw [h.row v hv, if_neg (by omega)]
theorem fP.next {first : dQ} {v : Nat} {X : List Int} (h : fP g p first v) (hv : v < g.1.toNat) (hX : X = tuL p (gI p.1 (v : Int)) (cU g (v : Int))) (hn : ¬ kT p (gI p.1 (v : Int)) (cU g (v : Int))) : fP g p (first.set (Int.toNat (v : Int)) X) (v + 1) := by
 have hl := h.len
 refine ⟨by simpa using hl, fun j hj => ?_, fun j hj => ?_⟩
 · rw [hY (by omega) (by omega) (by omega)]
   by_cases e : (j : Int) = (v : Int)
   · have : j = v := by omega
     subst this
     rw [if_pos rfl, if_pos (by omega), hX]
   · rw [if_neg e, h.row j hj]
     by_cases c : j < v
     · rw [if_pos c, if_pos (by omega)]
     · rw [if_neg c, if_neg (by omega)]
 · by_cases e : j = v
   · subst e; exact hn
   · exact h.ok j (by omega)
theorem fP.fin {first : dQ} {v : Nat} (h : fP g p first v) (hv : v = g.1.toNat) : first = tuS g p ∧ ¬ kz g p := by
 subst hv
 refine ⟨?_, fun ⟨v, hv, hb⟩ => h.ok v hv hb⟩
 apply List.ext_getElem
 · rw [h.len, ij]
 · intro i h1 h2
   have hi : i < g.1.toNat := by rw [← h.len]; exact h1
   have := h.row i hi
   rw [if_pos hi] at this
   have e1 : gI first (i : Int) = first[i] := by simp [gI, h1]
   rw [← e1, this]
   simp [tuS]
theorem qf {to_ : List Pt} {l : List Int} {k : Nat} (h : to_ = (l.take k).map (ei p)) (hk : (k : Int) < l.length) : to_ ++ [ei p (gI l (k : Int))] = (l.take (k + 1)).map (ei p) := by
 rw [bU hk, List.map_append, h]; rfl
theorem rX {to_ : List Pt} {l : List Int} {k : Nat} (h : to_ = (l.take k).map (ei p)) (hk : ¬ (k : Int) < l.length) : to_ = dW p l := by
 rw [h, List.take_of_length_le (by omega)]; rfl
def kZ (p : dl) (o : Pt) (l T : List Int) (i : Nat) : Prop := T = ((arL o (dW p l)).take i).map (gI l) ∧ ∀ j : Nat, j < i → 0 < j → ¬ dM (aS (gI (dW p l) (gI (arL o (dW p l)) ((j : Int) - 1))) o) (aS (gI (dW p l) (gI (arL o (dW p l)) (j : Int))) o)
theorem kZ.start {o : Pt} {l : List Int} : kZ p o l [] 0 := ⟨rfl, fun j hj => by omega⟩
theorem kZ.next {o : Pt} {l T : List Int} {i : Nat} (h : kZ p o l T i) (hi : (i : Int) < (arL o (dW p l)).length) (hs : ¬ 0 < (i : Int) ∨ ¬ decide (dM (aS (gI (dW p l) (gI (arL o (dW p l)) ((i : Int) - 1))) o) (aS (gI (dW p l) (gI (arL o (dW p l)) (i : Int))) o)) = true) :
   kZ p o l (T ++ [gI l (gI (arL o (dW p l)) (i : Int))]) (i + 1) := by
 refine ⟨by rw [bU hi, List.map_append, h.1]; rfl, fun j hj h0 hb => ?_⟩
 by_cases e : j = i
 · subst e
   rcases hs with hs | hs
   · omega
   · exact hs (decide_eq_true hb)
 · exact h.2 j (by omega) h0 hb
theorem kZ.fin {o : Pt} {l T : List Int} {i : Nat} (hz : gV o (dW p l)) (h : kZ p o l T i) (hi : ¬ (i : Int) < (arL o (dW p l)).length) : T = tuL p o l ∧ ¬ kT p o l := by
 have hl := gL hz
 have e : (dW p l).length = l.length := by simp [dW]
 refine ⟨by rw [h.1, List.take_of_length_le (by omega)]; rfl, fun ⟨j, hj, h0, hb⟩ => h.2 j (by omega) h0 hb⟩
theorem kZ.bad {v : Nat} {i : Nat} (hv : v < g.1.toNat) (hz : gV (gI p.1 (v : Int)) (dW p (cU g (v : Int)))) (hi : (i : Int) < (arL (gI p.1 (v : Int)) (dW p (cU g (v : Int)))).length) (h0 : 0 < (i : Int))
   (hs : decide (dM (aS (gI (dW p (cU g (v : Int))) (gI (arL (gI p.1 (v : Int)) (dW p (cU g (v : Int)))) ((i : Int) - 1))) (gI p.1 (v : Int))) (aS (gI (dW p (cU g (v : Int))) (gI (arL (gI p.1 (v : Int)) (dW p (cU g (v : Int)))) (i : Int))) (gI p.1 (v : Int)))) = true) : kz g p := by
 have hl := gL hz
 have e : (dW p (cU g (v : Int))).length = (cU g (v : Int)).length := by simp [dW]
 exact ⟨v, hv, i, by omega, by omega, of_decide_eq_true hs⟩
theorem lA (h : ¬ ci g) : turnsR g p = ([], 1) := by unfold turnsR; rw [if_neg h]
theorem kk (h : ci g) (h1 : ¬ bT g p = []) : turnsR g p = ([], 24) := by unfold turnsR; rw [if_pos h, if_neg h1]
theorem j4 (h : ci g) (h1 : bT g p = []) (h2 : kz g p) : turnsR g p = ([], 24) := by unfold turnsR; rw [if_pos h, if_pos h1, if_pos h2]
theorem kB (h : ci g) (h1 : bT g p = []) (h2 : ¬ kz g p) : turnsR g p = (ew (tuS g p), 0) := by unfold turnsR; rw [if_pos h, if_pos h1, if_neg h2]
theorem i6 (h : ci g) (h1 : bT g p = []) (hfew : (g.2.length : Int) ≤ 2000) {first : dQ} {v : Nat} (ht : fP g p first v) (hv : v = g.1.toNat) : cV g first = turnsR g p := by
 obtain ⟨e, hb⟩ := ht.fin hv
 rw [e, kB h h1 hb, kP h (pT h (kS.1 h1) hfew)]
end
end TL
/-
  TlJudge4: directions around a point; a plot turned by a quarter; the example's rotation.
  By an AI agent.
-/
set_option linter.all false
namespace TL
section
variable {u v w : Pt}
end
section
variable {p : dl} {o : Pt} {l : List Int}
theorem nA (hz : gV o (dW p l)) (h : kT p o l) : ∃ i k : Int, ((0 ≤ i ∧ i < ((dW p l).length : Int)) ∧ 0 ≤ k ∧ k < ((dW p l).length : Int)) ∧ i ≠ k ∧ dM (vA o (dW p l) i) (vA o (dW p l) k) := by
 obtain ⟨j, hj, h0, hs⟩ := h
 have e : (dW p l).length = l.length := by simp [dW]
 exact ⟨_, _, ⟨l4 hz (i := (j : Int) - 1) (by omega) (by omega), l4 hz (i := (j : Int)) (by omega) (by omega)⟩, rt hz (by omega) (by omega) (by omega), hs⟩
end
def mK : da := (3, [(0, 1), (1, 2)])
def q9 : dl := ([(0, 0), (2, 0), (1, 0)], [[(0, 0), (1, 1), (2, 0)], [(2, 0), (1, 0)]])
theorem nU : ci mK := by decide
theorem k7 : bT mK q9 = [] := by decide +kernel
def nZ (p : dl) (o : Pt) (l : List Int) : Bool := (List.range l.length).all fun i => (List.range l.length).all fun k => i == k || !decide (dM (vA o (dW p l) (i : Int)) (vA o (dW p l) (k : Int)))
theorem nW : (List.range 3).all (fun v => nZ q9 (gI q9.1 ((v : Nat) : Int)) (cU mK ((v : Nat) : Int))) = true := by decide +kernel
theorem pq : ¬ kz mK q9 := by
 rintro ⟨v, hv, hb⟩
 have hv3 : v < 3 := hv
 have hz := (kO nU (kS.1 k7) (by decide) (v : Int)).2
 obtain ⟨i, k, ⟨hi, hk⟩, hne, hs⟩ := nA hz hb
 have e : (dW q9 (cU mK (v : Int))).length = (cU mK (v : Int)).length := by simp [dW]
 have h1 := List.all_eq_true.1 nW v (List.mem_range.2 hv3)
 unfold nZ at h1
 have i1 : i.toNat ∈ List.range (cU mK (v : Int)).length := List.mem_range.2 (by omega)
 have k1 : k.toNat ∈ List.range (cU mK (v : Int)).length := List.mem_range.2 (by omega)
 have h2 := List.all_eq_true.1 (List.all_eq_true.1 h1 _ i1) _ k1
 rw [Int.toNat_of_nonneg hi.1, Int.toNat_of_nonneg hk.1, decide_eq_true hs] at h2
 simp at h2
 omega
theorem kh : turnsR mK q9 = (ew (tuS mK q9), 0) := kB nU k7 pq
theorem oI : (List.length (turnsR mK q9).1 : Int) = 3 := by
 rw [kh]
 simp [ew, ij]; rfl
theorem mT : (turnsR mK q9).2 = 0 := by rw [kh]
section
variable {u v : Pt} {i k : Int}
def sF (u : Pt) : Prop := 0 ≤ u.1 ∧ 0 < u.2
instance (u : Pt) : Decidable (sF u) := by unfold sF; infer_instance
end
section
variable {o : Pt} {ps : List Pt}
end
end TL
/-
  TlJTr: plots moved as a whole: their flaws.
  By an AI agent.
-/
set_option linter.all false
namespace TL
structure jc (T : Pt → Pt) (D : Pt → Prop) : Prop where
  inj : ∀ a b, T a = T b → a = b
  ok : ∀ a, D a → (c4 (T a) ↔ c4 a)
  on : ∀ a b q, bD (T a) (T b) (T q) ↔ bD a b q
  meet : ∀ a b c d, c4 a → c4 b → c4 c → c4 d → c4 (T a) → c4 (T b) → c4 (T c) → c4 (T d) → aR (T a) (T b) (T c) (T d) = aR a b c d
def dU (T : Pt → Pt) (p : dl) : dl := (p.1.map T, p.2.map (List.map T))
section
variable {T : Pt → Pt} {D : Pt → Prop} {g : da} {p : dl} {l a b but : List Pt} {q : Pt} {i k : Nat}
theorem jc.eq (hT : jc T D) {x y : Pt} : T x = T y ↔ x = y := ⟨hT.inj x y, fun h => by rw [h]⟩
theorem jc.okl (hT : jc T D) (hD : ∀ q ∈ l, D q) : cX (l.map T) ↔ cX l := by
 unfold cX
 rw [List.length_map]
 refine and_congr Iff.rfl ⟨fun h q hq => (hT.ok q (hD q hq)).1 (h _ (List.mem_map_of_mem hq)), fun h q hq => ?_⟩
 obtain ⟨x, hx, rfl⟩ := List.mem_map.1 hq
 exact (hT.ok x (hD x hx)).2 (h x hx)
theorem jc.lnp (hT : jc T D) (hD : ∀ q ∈ l, D q) : sr (l.map T) ↔ sr l := by
 unfold sr
 rw [hT.okl hD, List.length_map]
theorem jc.both (hT : jc T D) {x y u v z : Pt} : dK (T x) (T y) (T u) (T v) (T z) ↔ dK x y u v z := by unfold dK; rw [hT.on, hT.on]
theorem jc.over (hT : jc T D) : dN (l.map T) (T q) ↔ dN l q := by
 rw [gv, gv, List.length_map]
 constructor
 · rintro ⟨j, hj, h⟩
   rw [dc (by omega) (by omega), dc (by omega) (by omega), hT.on] at h
   exact ⟨j, hj, h⟩
 · rintro ⟨j, hj, h⟩
   refine ⟨j, hj, ?_⟩
   rw [dc (by omega) (by omega), dc (by omega) (by omega), hT.on]
   exact h
theorem jc.only (hT : jc T D) {s t : Sg} (h1 : c4 s.1) (h2 : c4 s.2) (h3 : c4 t.1) (h4 : c4 t.2) (k1 : c4 (T s.1)) (k2 : c4 (T s.2)) (k3 : c4 (T t.1)) (k4 : c4 (T t.2)) : ch (T s.1, T s.2) (T t.1, T t.2) (but.map T) ↔ ch s t but := by
 unfold ch
 simp only
 rw [hT.meet _ _ _ _ h1 h2 h3 h4 k1 k2 k3 k4]
 have : (∃ x ∈ but.map T, dK (T s.1) (T s.2) (T t.1) (T t.2) x) ↔ ∃ x ∈ but, dK s.1 s.2 t.1 t.2 x := by
   constructor
   · rintro ⟨x, hx, h⟩
     obtain ⟨y, hy, rfl⟩ := List.mem_map.1 hx
     exact ⟨y, hy, hT.both.1 h⟩
   · rintro ⟨x, hx, h⟩
     exact ⟨T x, List.mem_map_of_mem hx, hT.both.2 h⟩
 rw [this]
theorem jc.apa (hT : jc T D) (ha : cX a) (hb : cX b) (ha' : cX (a.map T)) (hb' : cX (b.map T)) : gm (a.map T) (b.map T) (but.map T) ↔ gm a b but := by
 have key : ∀ j : Nat, j + 1 < a.length → ∀ q : Nat, q + 1 < b.length → (ch (gI (a.map T) (j : Int), gI (a.map T) ((j : Int) + 1)) (gI (b.map T) (q : Int), gI (b.map T) ((q : Int) + 1)) (but.map T) ↔ ch (gI a (j : Int), gI a ((j : Int) + 1)) (gI b (q : Int), gI b ((q : Int) + 1)) but) := by
   intro j hj q hq
   rw [dc (by omega) (by omega), dc (by omega) (by omega), dc (by omega) (by omega), dc (by omega) (by omega)]
   have o1 : ∀ i : Int, 0 ≤ i → i < a.length → c4 (gI a i) ∧ c4 (T (gI a i)) := fun i h0 h1 => ⟨ha.2 _ (bq h0 h1), ha'.2 _ (List.mem_map_of_mem (bq h0 h1))⟩
   have o2 : ∀ i : Int, 0 ≤ i → i < b.length → c4 (gI b i) ∧ c4 (T (gI b i)) := fun i h0 h1 => ⟨hb.2 _ (bq h0 h1), hb'.2 _ (List.mem_map_of_mem (bq h0 h1))⟩
   have x1 := o1 (j : Int) (by omega) (by omega)
   have x2 := o1 ((j : Int) + 1) (by omega) (by omega)
   have y1 := o2 (q : Int) (by omega) (by omega)
   have y2 := o2 ((q : Int) + 1) (by omega) (by omega)
   exact hT.only (s := (gI a (j : Int), gI a ((j : Int) + 1))) (t := (gI b (q : Int), gI b ((q : Int) + 1))) x1.1 x2.1 y1.1 y2.1 x1.2 x2.2 y1.2 y2.2
 rw [ii, ii, List.length_map, List.length_map]
 exact ⟨fun h j hj q hq => (key j hj q hq).1 (h j hj q hq), fun h j hj q hq => (key j hj q hq).2 (h j hj q hq)⟩
theorem jc.sim (hT : jc T D) (hl : cX l) (hl' : cX (l.map T)) : gk (l.map T) ↔ gk l := by
 have hg : ∀ i : Int, 0 ≤ i → i < l.length → gI (l.map T) i = T (gI l i) := fun i h0 h1 => dc h0 h1
 have ho : ∀ i : Int, 0 ≤ i → i < l.length → c4 (gI l i) ∧ c4 (T (gI l i)) := fun i h0 h1 => ⟨hl.2 _ (bq h0 h1), hl'.2 _ (List.mem_map_of_mem (bq h0 h1))⟩
 have hcl : bV (l.map T) ↔ bV l := by
   unfold bV
   rw [List.length_map]
   refine and_congr_right fun h => ?_
   rw [hg 0 (by omega) (by omega), hg _ (by omega) (by omega), hT.eq]
 have hbad : ∀ i k : Nat, (i : Int) ≤ (l.length : Int) - 2 → (k : Int) ≤ (l.length : Int) - 2 → (fx (l.map T) i k ↔ fx l i k) := by
   intro i k hi hk
   unfold fx eD sV
   rw [hcl, List.length_map, hg _ (by omega) (by omega), hg _ (by omega) (by omega), hg _ (by omega) (by omega), hg _ (by omega) (by omega)]
   have x1 := ho (i : Int) (by omega) (by omega)
   have x2 := ho ((i : Int) + 1) (by omega) (by omega)
   have y1 := ho (k : Int) (by omega) (by omega)
   have y2 := ho ((k : Int) + 1) (by omega) (by omega)
   rw [hT.meet _ _ _ _ x1.1 x2.1 y1.1 y2.1 x1.2 x2.2 y1.2 y2.2]
 unfold gk kV
 rw [List.length_map]
 constructor
 · intro h i hi hi2
   obtain ⟨h1, h2⟩ := h i hi hi2
   rw [hg _ (by omega) (by omega), hg _ (by omega) (by omega), Ne, hT.eq] at h1
   exact ⟨h1, fun k hk hik hk2 hb => h2 k hk hik hk2 ((hbad i k hi2 hk2).2 hb)⟩
 · intro h i hi hi2
   obtain ⟨h1, h2⟩ := h i hi hi2
   refine ⟨?_, fun k hk hik hk2 hb => h2 k hk hik hk2 ((hbad i k hi2 hk2).1 hb)⟩
   rw [hg _ (by omega) (by omega), hg _ (by omega) (by omega), Ne, hT.eq]
   exact h1
theorem fw {v : Int} (h0 : 0 ≤ v) (h1 : v < p.1.length) : gI (dU T p).1 v = T (gI p.1 v) := dc h0 h1
theorem go {e : Int} (h0 : 0 ≤ e) (h1 : e < p.2.length) : gI (dU T p).2 e = (gI p.2 e).map T := dc h0 h1
theorem gN : (dU T p).1.length = p.1.length ∧ (dU T p).2.length = p.2.length := ⟨List.length_map _, List.length_map _⟩
theorem iw {β : Type} {P Q : Prop} [Decidable P] [Decidable Q] {x : β} (h : P ↔ Q) : fl P x = fl Q x := by
 by_cases c : Q
 · rw [cD c, cD (h.2 c)]
 · rw [cC c, cC (fun h' => c (h.1 h'))]
theorem jc.shape (hT : jc T D) (hD1 : ∀ q ∈ p.1, D q) (hD2 : ∀ l ∈ p.2, ∀ q ∈ l, D q) : bL g (dU T p) = bL g p := by
 unfold bL
 rw [gN.1, gN.2]
 have e1 : bb (h8 (dU T p)) p.1.length = bb (h8 p) p.1.length := dG fun v hv => by
   unfold h8
   rw [fw (by omega) (by omega)]
   exact iw (not_congr (hT.ok _ (hD1 _ (bq (by omega) (by omega)))))
 have e2 : bb (iT (dU T p)) p.2.length = bb (iT p) p.2.length := dG fun v hv => by
   unfold iT
   rw [go (by omega) (by omega)]
   exact iw (not_congr (hT.lnp (hD2 _ (bq (by omega) (by omega)))))
 rw [e1, e2]
theorem jW (hT : jc T D) (hm : ci g) (hD1 : ∀ q ∈ p.1, D q) (hD2 : ∀ l ∈ p.2, ∀ q ∈ l, D q) : bT g (dU T p) = bT g p := by
 have hsh := hT.shape (g := g) hD1 hD2
 unfold bT
 rw [hsh]
 by_cases c : bL g p = []
 · rw [if_pos c, if_pos c]
   have hs := eP.1 c
   have hs' := eP.1 (hsh.trans c)
   have hn := hs.n
   have hmm := hs.m
   have l1 : (dU T p).1.length = p.1.length := gN.1
   have l2 : (dU T p).2.length = p.2.length := gN.2
   have okln : ∀ e : Nat, e < p.2.length → cX (gI p.2 (e : Int)) ∧ cX ((gI p.2 (e : Int)).map T) ∧ 2 ≤ (gI p.2 (e : Int)).length := fun e he => by
     have a := hs.ln (e : Int) (by omega) (by omega)
     have b := hs'.ln (e : Int) (by omega) (by rw [l2]; omega)
     rw [go (by omega) (by omega)] at b
     exact ⟨a.2, b.2, by omega⟩
   have ed : ∀ e : Nat, e < p.2.length → ((0 ≤ (gI g.2 (e : Int)).1 ∧ (gI g.2 (e : Int)).1 < p.1.length) ∧ 0 ≤ (gI g.2 (e : Int)).2 ∧ (gI g.2 (e : Int)).2 < p.1.length) := fun e he => by
     obtain ⟨⟨a, b⟩, c, d⟩ := gH hm (e := (e : Int)) (by omega) (by omega)
     exact ⟨⟨a, by omega⟩, c, by omega⟩
   have e1 : c3 (dU T p) = c3 p := by
     unfold c3
     rw [l1]
     refine dG fun v hv => dG fun w hw => ?_
     unfold mw
     rw [fw (by omega) (by omega), fw (by omega) (by omega)]
     exact iw (and_congr Iff.rfl hT.eq)
   have e2 : dg g (dU T p) = dg g p := by
     unfold dg
     rw [l2]
     congr 1
     · refine dG fun e he => ?_
       obtain ⟨o1, o2, o3⟩ := okln e he
       obtain ⟨⟨x1, x2⟩, x3, x4⟩ := ed e he
       have : fZ g (dU T p) (e : Int) ↔ fZ g p (e : Int) := by
         unfold fZ
         rw [go (by omega) (by omega), fw x1 x2, fw x3 x4, List.length_map, dc (by omega) (by omega), dc (by omega) (by omega)]
         exact and_congr hT.eq hT.eq
       exact iw (not_congr this)
     · refine dG fun e he => ?_
       unfold dY
       obtain ⟨o1, o2, o3⟩ := okln e he
       rw [go (by omega) (by omega)]
       exact iw (not_congr (hT.sim o1 o2))
   have e3 : db g (dU T p) = db g p := by
     unfold db
     rw [l2, l1]
     refine dG fun e he => dG fun v hv => ?_
     unfold e7
     rw [go (by omega) (by omega), fw (by omega) (by omega)]
     exact iw (and_congr Iff.rfl hT.over)
   have e4 : jl g (dU T p) = jl g p := by
     unfold jl
     rw [l2]
     refine dG fun e he => dG fun f hf => ?_
     unfold dF
     have es : gU g (dU T p) (e : Int) (f : Int) = (gU g p (e : Int) (f : Int)).map T := by
       unfold gU fl
       obtain ⟨⟨x1, x2⟩, x3, x4⟩ := ed e he
       rw [fw x1 x2, fw x3 x4, List.map_append]
       split <;> split <;> rfl
     rw [go (by omega) (by omega), go (by omega) (by omega), es]
     exact iw (and_congr Iff.rfl (not_congr (hT.apa (okln e he).1 (okln f hf).1 (okln e he).2.1 (okln f hf).2.1)))
   rw [e1, e2, e3, e4]
 · rw [if_neg c, if_neg c]
end
section
variable {g : da} {p : dl}
end
def sR (p : dl) : Nat → Int
 | 0 => (p.1.length : Int)
 | k + 1 => sR p k + ((gI p.2 (k : Int)).length : Int) + 1
def n7 (g : da) (p : dl) : Prop := sR p p.2.length ≤ 400 ∧ (¬ ci g ∨ g.1 ≤ 30 ∧ (g.2.length : Int) ≤ 40)
instance (g : da) (p : dl) : Decidable (n7 g p) := by unfold n7; infer_instance
end TL
namespace TL
section
variable {g : da} {p : dl} {l r : List Pt} {L : List (List Pt)} {k e : Nat}
end
end TL
namespace TL
section
variable {α : Type} [Inhabited α] [DecidableEq α] {a b : List α} {k : Nat}
end
section
variable {g : da} {p : dl} {n : Int} {e : Nat}
end
end TL
/-
  TlJGrid: grids drawn at their places.
  By an AI agent.
-/
set_option linter.all false
namespace TL
def d5 (w h : Int) (y x : Nat) : List (Int × Int) := fl ((x : Int) + 1 < w) ((y : Int) * w + (x : Int), (y : Int) * w + (x : Int) + 1) ++ fl ((y : Int) + 1 < h) ((y : Int) * w + (x : Int), (y : Int) * w + (x : Int) + w)
def fR (w h : Int) (y : Nat) : List (Int × Int) := bb (d5 w h y) w.toNat
def aA (w h : Int) : da := (w * h, bb (fR w h) h.toNat)
theorem fj {a b : Int} {A B : Nat} (h1 : 0 ≤ a ∧ a ≤ A) (h2 : 0 ≤ b ∧ b ≤ B) : 0 ≤ a * b ∧ a * b ≤ ((A * B : Nat) : Int) := by
 refine ⟨Int.mul_nonneg h1.1 h2.1, ?_⟩
 rw [Int.natCast_mul]
 exact Int.mul_le_mul h1.2 h2.2 h2.1 (by omega)
section
variable {w h : Int} {x y : Nat} {E F B : List (Int × Int)}
theorem j8 : (d5 w h y x).length ≤ 2 := by
 unfold d5
 rw [List.length_append]
 have h1 : (fl ((x : Int) + 1 < w) ((y : Int) * w + (x : Int), (y : Int) * w + (x : Int) + 1)).length ≤ 1 := dR
 have h2 : (fl ((y : Int) + 1 < h) ((y : Int) * w + (x : Int), (y : Int) * w + (x : Int) + w)).length ≤ 1 := dR
 omega
theorem rg (hw : w ≤ 6) (hy : y ≤ 10) (hx : x ≤ 10) (hE : E = bb (fR w h) y ++ bb (d5 w h y) x) : E.length ≤ 1000 := by
 have l1 := fF (f := d5 w h y) (k := x) (c := 2) fun j _ => j8
 have l2 := fF (f := fR w h) (k := y) (c := 12) fun j _ => by
   have := fF (f := d5 w h j) (k := w.toNat) (c := 2) fun j _ => j8
   unfold fR; omega
 rw [hE, List.length_append]; omega
theorem o9 (hE : E = bb (fR w h) y) : E = bb (fR w h) y ++ bb (d5 w h y) 0 := by rw [hE]; simp [bb]
theorem sC (hE : E = bb (fR w h) y ++ bb (d5 w h y) x) (hx : x = w.toNat) : E = bb (fR w h) (y + 1) := by subst hx; rw [hE]; rfl
theorem ta (hE : E = B ++ bb (d5 w h y) x) (h1 : (x : Int) + 1 < w) (h2 : (y : Int) + 1 < h) : E ++ [((y : Int) * w + (x : Int), (y : Int) * w + (x : Int) + 1)] ++ [((y : Int) * w + (x : Int), (y : Int) * w + (x : Int) + w)] = B ++ bb (d5 w h y) (x + 1) := by
 rw [hE, bb]; unfold d5; rw [cD h1, cD h2]; simp
theorem t8 (hE : E = B ++ bb (d5 w h y) x) (h1 : (x : Int) + 1 < w) (h2 : ¬ (y : Int) + 1 < h) : E ++ [((y : Int) * w + (x : Int), (y : Int) * w + (x : Int) + 1)] = B ++ bb (d5 w h y) (x + 1) := by
 rw [hE, bb]; unfold d5; rw [cD h1, cC h2]; simp
theorem sX (hE : E = B ++ bb (d5 w h y) x) (h1 : ¬ (x : Int) + 1 < w) (h2 : (y : Int) + 1 < h) : E ++ [((y : Int) * w + (x : Int), (y : Int) * w + (x : Int) + w)] = B ++ bb (d5 w h y) (x + 1) := by
 rw [hE, bb]; unfold d5; rw [cC h1, cD h2]; simp
theorem t6 (hE : E = B ++ bb (d5 w h y) x) (h1 : ¬ (x : Int) + 1 < w) (h2 : ¬ (y : Int) + 1 < h) : E = B ++ bb (d5 w h y) (x + 1) := by
 rw [hE, bb]; unfold d5; rw [cC h1, cC h2]; simp
theorem sO (hE : E = bb (fR w h) y) (hy : y = h.toNat) : (w * h, E) = aA w h := by subst hy; rw [hE]; rfl
end
def oR (w dx dy : Int) (j : Nat) : Pt := ((j : Int) % w * dx, (j : Int) / w * dy)
def mu (w h dx dy : Int) : List Pt := (List.range (w * h).toNat).map (oR w dx dy)
def pO (at_ : List Pt) (e : Int × Int) : List Pt := [gI at_ e.1, gI at_ e.2]
def gP (w h dx dy : Int) : dl := (mu w h dx dy, (aA w h).2.map (pO (mu w h dx dy)))
def kK (w h dx dy : Int) : dl := ((mu w h dx dy).set (Int.toNat (w * h - 1)) (gI (mu w h dx dy) 0), (gP w h dx dy).2)
def dX (dx dy : Int) (a : Pt) : Pt := (a.1 * dx, a.2 * dy)
def oo (a : Pt) : Prop := (0 ≤ a.1 ∧ a.1 ≤ 30) ∧ 0 ≤ a.2 ∧ a.2 ≤ 30
instance (a : Pt) : Decidable (oo a) := by unfold oo; infer_instance
section
variable {dx dy : Int}
theorem iN {k x y : Int} (hk : 0 < k) : bE (x * k) (y * k) = bE x y := by
 have h1 : x * k < y * k ↔ x < y := ⟨fun h => Int.lt_of_mul_lt_mul_right h (Int.le_of_lt hk), fun h => Int.mul_lt_mul_of_pos_right h hk⟩
 have h2 : y * k < x * k ↔ y < x := ⟨fun h => Int.lt_of_mul_lt_mul_right h (Int.le_of_lt hk), fun h => Int.mul_lt_mul_of_pos_right h hk⟩
 unfold bE
 by_cases c1 : x < y
 · rw [if_pos (h1.2 c1), if_pos c1]
 · rw [if_neg (fun h => c1 (h1.1 h)), if_neg c1]
   by_cases c2 : y < x
   · rw [if_pos (h2.2 c2), if_pos c2]
   · rw [if_neg (fun h => c2 (h2.1 h)), if_neg c2]
theorem fy {k x y : Int} (hk : 0 < k) : x * k ≤ y * k ↔ x ≤ y := ⟨fun h => Int.le_of_mul_le_mul_right h hk, fun h => Int.mul_le_mul_of_nonneg_right h (Int.le_of_lt hk)⟩
theorem ia {k x y : Int} (hk : 0 < k) : min (x * k) (y * k) = min x y * k := by
 rcases Int.le_total x y with h | h
 · rw [Int.min_eq_left h, Int.min_eq_left ((fy hk).2 h)]
 · rw [Int.min_eq_right h, Int.min_eq_right ((fy hk).2 h)]
theorem ig {k x y : Int} (hk : 0 < k) : max (x * k) (y * k) = max x y * k := by
 rcases Int.le_total x y with h | h
 · rw [Int.max_eq_right h, Int.max_eq_right ((fy hk).2 h)]
 · rw [Int.max_eq_left h, Int.max_eq_left ((fy hk).2 h)]
theorem oF (hx : 0 < dx) (hy : 0 < dy) (a b c : Pt) : bw (dX dx dy a) (dX dx dy b) (dX dx dy c) = bw a b c := by
 unfold bw
 have e : dh (aS (dX dx dy b) (dX dx dy a)) (aS (dX dx dy c) (dX dx dy a)) = dh (aS b a) (aS c a) * (dx * dy) := by
   unfold dh aS dX
   simp only
   grind
 rw [e]
 have := iN (x := dh (aS b a) (aS c a)) (y := 0) (Int.mul_pos hx hy)
 rwa [Int.zero_mul] at this
theorem rn (hx : 0 < dx) (hy : 0 < dy) (a b p : Pt) : bD (dX dx dy a) (dX dx dy b) (dX dx dy p) ↔ bD a b p := by
 unfold bD jn
 rw [oF hx hy]
 unfold dX
 simp only
 rw [ia hx, ig hx, ia hy, ig hy, fy hx, fy hx, fy hy, fy hy]
theorem sk (hx : 0 < dx) (hy : 0 < dy) (a b : Pt) : aM (dX dx dy a) (dX dx dy b) = aM a b := by
 unfold aM dX
 simp only
 rw [iN hx, iN hy]
theorem rz {P : Prop} [Decidable P] (a b : Pt) : (if P then dX dx dy a else dX dx dy b) = dX dx dy (if P then a else b) := by split <;> rfl
theorem pM (hx : 0 < dx) (hy : 0 < dy) (a b c d : Pt) : aX (dX dx dy a) (dX dx dy b) (dX dx dy c) (dX dx dy d) = aX a b c d := by
 unfold aX
 simp only [sk hx hy, rz]
theorem pp (hx : 0 < dx) (hy : 0 < dy) (a b c d : Pt) : aR (dX dx dy a) (dX dx dy b) (dX dx dy c) (dX dx dy d) = aR a b c d := by
 unfold aR
 simp only [oF hx hy, pM hx hy, rn hx hy]
theorem np (hx : 0 < dx ∧ dx ≤ 1000) (hy : 0 < dy ∧ dy ≤ 1000) : jc (dX dx dy) oo := by
 refine ⟨fun a b h => ?_, fun a h => ?_, rn hx.1 hy.1, fun a b c d _ _ _ _ _ _ _ _ => pp hx.1 hy.1 a b c d⟩
 · have h1 := congrArg Prod.fst h
   have h2 := congrArg Prod.snd h
   exact Prod.ext (Int.eq_of_mul_eq_mul_right (by omega) h1) (Int.eq_of_mul_eq_mul_right (by omega) h2)
 · obtain ⟨h1, h2⟩ := h
   have m1 := fj (A := 30) (B := 1000) h1 (b := dx) (by omega)
   have m2 := fj (A := 30) (B := 1000) h2 (b := dy) (by omega)
   unfold c4 dX
   simp only
   omega
end
theorem gf {P : Int → Int → Bool} (h : ((List.range 6).all fun a => (List.range 5).all fun b => P ((a : Int) + 1) ((b : Int) + 1)) = true) {w h' : Int} (hw : 1 ≤ w ∧ w ≤ 6) (hh : 1 ≤ h' ∧ h' ≤ 5) : P w h' = true := by
 have h1 := List.all_eq_true.1 h (w - 1).toNat (List.mem_range.2 (by omega))
 have h2 := List.all_eq_true.1 h1 (h' - 1).toNat (List.mem_range.2 (by omega))
 have e1 : (((w - 1).toNat : Nat) : Int) + 1 = w := by omega
 have e2 : (((h' - 1).toNat : Nat) : Int) + 1 = h' := by omega
 rwa [e1, e2] at h2
def ka (p : dl) : Bool := (p.1.all fun a => decide ((0 ≤ a.1 ∧ a.1 ≤ 30) ∧ 0 ≤ a.2 ∧ a.2 ≤ 30)) && p.2.all fun l => l.all fun a => decide ((0 ≤ a.1 ∧ a.1 ≤ 30) ∧ 0 ≤ a.2 ∧ a.2 ≤ 30)
theorem jH {p : dl} (h : ka p = true) : (∀ q ∈ p.1, oo q) ∧ ∀ l ∈ p.2, ∀ q ∈ l, oo q := by
 unfold ka at h
 rw [Bool.and_eq_true] at h
 exact ⟨fun q hq => of_decide_eq_true (List.all_eq_true.1 h.1 q hq), fun l hl q hq => of_decide_eq_true (List.all_eq_true.1 (List.all_eq_true.1 h.2 l hl) q hq)⟩
def lF (w h : Int) : Bool := match bT (aA w h) (kK w h 1 1) with
 | [] => false
 | x :: r => decide (x = (4, 0, w * h - 1)) && (match r with | [] => true | y :: _ => decide (4 < y.1))
end TL
/-
  TlJGridT: gf grids, tried one by one.
  By an AI agent.
-/
set_option linter.all false
namespace TL
theorem s6 : ((List.range 6).all fun a => (List.range 5).all fun b => decide (ci (aA ((a : Int) + 1) ((b : Int) + 1)))) = true := by decide +kernel
theorem sb : ((List.range 6).all fun a => (List.range 5).all fun b => ka (gP ((a : Int) + 1) ((b : Int) + 1) 1 1) && ka (kK ((a : Int) + 1) ((b : Int) + 1) 1 1)) = true := by decide +kernel
theorem pb : ((List.range 6).all fun a => (List.range 5).all fun b => decide (bL (aA ((a : Int) + 1) ((b : Int) + 1)) (gP ((a : Int) + 1) ((b : Int) + 1) 1 1) = [] ∧ fT (gP ((a : Int) + 1) ((b : Int) + 1) 1 1) = (0, (a : Int), (b : Int), true, true))) = true := by decide +kernel
theorem ny : ((List.range 6).all fun a => (List.range 5).all fun b => decide (bT (aA ((a : Int) + 1) ((b : Int) + 1)) (gP ((a : Int) + 1) ((b : Int) + 1) 1 1) = [])) = true := by decide +kernel
theorem pS : ((List.range 6).all fun a => (List.range 5).all fun b => decide (((a : Int) + 1) * ((b : Int) + 1) < 2) || lF ((a : Int) + 1) ((b : Int) + 1)) = true := by decide +kernel
end TL
/-
  TlJGridL: grids stretched: what the gf ones have, all have.
  By an AI agent.
-/
set_option linter.all false
namespace TL
theorem ef {α β : Type} [Inhabited α] [Inhabited β] {f : α → β} (hf : f default = default) (l : List α) (i : Int) : gI (l.map f) i = f (gI l i) := by
 unfold gI
 rw [List.getD_eq_getElem?_getD, List.getD_eq_getElem?_getD, List.getElem?_map]
 cases l[i.toNat]? with
 | none => exact hf.symm
 | some x => rfl
section
variable {w h dx dy : Int}
theorem ga (dx dy : Int) : dX dx dy (default : Pt) = default := Prod.ext (Int.zero_mul dx) (Int.zero_mul dy)
theorem nm : mu w h dx dy = (mu w h 1 1).map (dX dx dy) := by
 unfold mu
 rw [List.map_map]
 refine List.map_congr_left fun j _ => ?_
 show oR w dx dy j = dX dx dy (oR w 1 1 j)
 unfold oR dX
 simp only [Int.mul_one]
theorem s1 (l : List Pt) (e : Int × Int) : pO (l.map (dX dx dy)) e = (pO l e).map (dX dx dy) := by
 unfold pO
 rw [ef (ga dx dy), ef (ga dx dy)]; rfl
theorem ol : gP w h dx dy = dU (dX dx dy) (gP w h 1 1) := by
 unfold gP dU
 simp only
 rw [nm, List.map_map]
 refine Prod.ext rfl ?_
 exact List.map_congr_left fun e _ => s1 _ e
theorem rS : kK w h dx dy = dU (dX dx dy) (kK w h 1 1) := by
 have e := congrArg Prod.snd (ol (w := w) (h := h) (dx := dx) (dy := dy))
 unfold kK
 rw [e]
 refine Prod.ext ?_ rfl
 show (mu w h dx dy).set (Int.toNat (w * h - 1)) (gI (mu w h dx dy) 0) = ((mu w h 1 1).set (Int.toNat (w * h - 1)) (gI (mu w h 1 1) 0)).map (dX dx dy)
 rw [nm, ef (ga dx dy), List.map_set]
theorem oe (hx : 0 < dx) (hy : 0 < dy) (l : List Pt) : ∀ k : Nat, kF (l.map (dX dx dy)) k = dX dx dy (kF l k) ∧ kG (l.map (dX dx dy)) k = dX dx dy (kG l k)
 | 0 => by unfold kF kG; rw [ef (ga dx dy)]; exact ⟨rfl, rfl⟩
 | k + 1 => by
   obtain ⟨h1, h2⟩ := oe hx hy l k
   unfold kF kG
   rw [h1, h2, ef (ga dx dy)]
   unfold dX
   simp only
   rw [ia hx, ia hy, ig hx, ig hy]
   exact ⟨rfl, rfl⟩
theorem li {f : Pt → Pt} : ∀ L : List (List Pt), (L.map (List.map f)).flatten = L.flatten.map f
 | [] => rfl
 | a :: L => by rw [List.map_cons, List.flatten_cons, li L, List.flatten_cons, List.map_append]
theorem pw (hx : 0 < dx) (hy : 0 < dy) (p : dl) : i2 (dU (dX dx dy) p) = ((i2 p).1 * dx, (i2 p).2 * dy) := by
 have e : az (dU (dX dx dy) p) = (az p).map (dX dx dy) := by unfold az dU; simp only; rw [li, List.map_append]
 unfold i2
 rw [e, List.length_map]
 split
 · rw [(oe hx hy _ _).1, (oe hx hy _ _).2]
   unfold dX
   simp only
   rw [Int.sub_mul, Int.sub_mul]
 · simp
theorem lC {f : Pt → Pt} (p : dl) : ∀ k : Nat, eG (dU f p) k = eG p k
 | 0 => rfl
 | k + 1 => by
   unfold eG
   rw [lC p k]
   have : (gI (dU f p).2 (k : Int)).length = (gI p.2 (k : Int)).length := by
     show (gI (p.2.map (List.map f)) (k : Int)).length = _
     rw [ef (f := List.map f) rfl, List.length_map]
   rw [this]
theorem sv (hx : 0 < dx) (hy : 0 < dy) (p : dl) (k : Nat) : iO (dU (dX dx dy) p) k = iO p k := by
 refine iC fun e _ => ?_
 unfold st
 have e1 : gI (dU (dX dx dy) p).2 (e : Int) = (gI p.2 (e : Int)).map (dX dx dy) := ef (f := List.map (dX dx dy)) rfl _ _
 rw [e1, List.length_map]
 refine iC fun j _ => ?_
 unfold kE
 rw [ef (ga dx dy), ef (ga dx dy), decide_eq_decide]
 unfold dX
 simp only
 have a : ∀ {x y k : Int}, 0 < k → (x * k = y * k ↔ x = y) := fun hk => ⟨fun h => Int.eq_of_mul_eq_mul_right (by omega) h, fun h => by rw [h]⟩
 rw [a hx, a hy]
variable (hw : 1 ≤ w ∧ w ≤ 6) (hh : 1 ≤ h ∧ h ≤ 5) (hdx : 0 < dx ∧ dx ≤ 1000) (hdy : 0 < dy ∧ dy ≤ 1000)
include hw hh
theorem lB : ci (aA w h) := of_decide_eq_true (gf (P := fun w h => decide (ci (aA w h))) s6 hw hh)
theorem n4 : ka (gP w h 1 1) = true ∧ ka (kK w h 1 1) = true := by
 have := gf (P := fun w h => ka (gP w h 1 1) && ka (kK w h 1 1)) sb hw hh
 simpa using this
include hdx hdy
theorem px : aK (aA w h) (gP w h dx dy) = ([], 0) := by
 have hm := lB hw hh
 have hl := jH (n4 hw hh).1
 have h1 := of_decide_eq_true (gf (P := fun w h => decide (bT (aA w h) (gP w h 1 1) = [])) ny hw hh)
 unfold aK
 rw [if_pos hm, ol, jW (np hdx hdy) hm hl.1 hl.2, h1]
theorem ry : aL (aA w h) (gP w h dx dy) = ((0, (w - 1) * dx, (h - 1) * dy, true, true), 0) := by
 have hm := lB hw hh
 have hl := jH (n4 hw hh).1
 have h0 := gf (P := fun w h => decide (bL (aA w h) (gP w h 1 1) = [] ∧ fT (gP w h 1 1) = (0, w - 1, h - 1, true, true))) (by
   have := pb
   rw [List.all_eq_true] at this ⊢
   intro a ha
   have h1 := this a ha
   rw [List.all_eq_true] at h1 ⊢
   intro b hb
   have h2 := of_decide_eq_true (h1 b hb)
   refine decide_eq_true ⟨h2.1, ?_⟩
   rw [h2.2, Int.add_sub_cancel, Int.add_sub_cancel]) hw hh
 obtain ⟨k1, k2⟩ := of_decide_eq_true h0
 unfold fT at k2
 simp only [Prod.mk.injEq] at k2
 obtain ⟨b1, b2, b3, b4, b5⟩ := k2
 unfold aL
 rw [if_pos hm, ol, (np hdx hdy).shape hl.1 hl.2, if_pos k1]
 unfold fT
 rw [gN.2, lC, pw hdx.1 hdy.1, sv hdx.1 hdy.1, b1, b2, b3, b5]
 rfl
theorem s2 (h2 : ¬ w * h < 2) : (0 < ((aK (aA w h) (kK w h dx dy)).1.length : Int) ∧ gI (aK (aA w h) (kK w h dx dy)).1 0 = (4, 0, w * h - 1)) ∧ (((aK (aA w h) (kK w h dx dy)).1.length : Int) = 1 ∨ 4 < (gI (aK (aA w h) (kK w h dx dy)).1 1).1) := by
 have hm := lB hw hh
 have hl := jH (n4 hw hh).2
 have h0 := gf (P := fun w h => decide (w * h < 2) || lF w h) pS hw hh
 have h1 : lF w h = true := by
   rcases Bool.or_eq_true _ _ ▸ h0 with h3 | h3
   · exact absurd (of_decide_eq_true h3) h2
   · exact h3
 have e : (aK (aA w h) (kK w h dx dy)).1 = bT (aA w h) (kK w h 1 1) := by
   unfold aK
   rw [if_pos hm, rS, jW (np hdx hdy) hm hl.1 hl.2]
 rw [e]
 unfold lF at h1
 generalize bT (aA w h) (kK w h 1 1) = L at h1 ⊢
 match L, h1 with
 | [], h1 => cases h1
 | [x], h1 =>
   have : x = (4, 0, w * h - 1) := by simpa using h1
   subst this
   exact ⟨⟨by simp, rfl⟩, .inl rfl⟩
 | x :: y :: r, h1 =>
   simp only [Bool.and_eq_true, decide_eq_true_eq] at h1
   obtain ⟨rfl, h4⟩ := h1
   exact ⟨⟨by simp; omega, rfl⟩, .inr h4⟩
end
section
variable {w h dx dy : Int} {qA : List Pt} {qL : List (List Pt)} {v e : Nat}
theorem oh (hq : qA = (List.range v).map (oR w dx dy)) : qA ++ [((v : Int) % w * dx, (v : Int) / w * dy)] = (List.range (v + 1)).map (oR w dx dy) := by
 rw [List.range_succ, List.map_append, hq]; rfl
theorem oq (hq : qL = ((aA w h).2.take e).map (pO qA)) (he : (e : Int) < (aA w h).2.length) : qL ++ [[gI qA (gI (aA w h).2 (e : Int)).1, gI qA (gI (aA w h).2 (e : Int)).2]] = ((aA w h).2.take (e + 1)).map (pO qA) := by
 rw [bU he, List.map_append, hq]; rfl
theorem sf (hq : qA = (List.range v).map (oR w dx dy)) (hv : v = (aA w h).1.toNat) (hl : qL = ((aA w h).2.take e).map (pO qA)) (he : ¬ (e : Int) < (aA w h).2.length) : (qA, qL) = gP w h dx dy := by
 subst hv
 have e1 : qA = mu w h dx dy := hq
 rw [List.take_of_length_le (by omega)] at hl
 rw [hl, e1]; rfl
theorem qU (hg : (qA, qL) = gP w h dx dy) : (List.set qA (Int.toNat ((aA w h).1 - 1)) (gI qA 0), qL) = kK w h dx dy := by
 have e1 : qA = mu w h dx dy := congrArg Prod.fst hg
 have e2 : qL = (gP w h dx dy).2 := congrArg Prod.snd hg
 rw [e2, e1]; rfl
end
end TL
/-
  TlOpen: arguments opened: what a law's reader says of a slice is what a walk wants of it.
  By an AI agent.
-/
namespace TL
open Go Go.Proofs Go.ChangeShapes Go.WideShapes Go.Joins Go.Deep
structure rE {H : Type} (f : DataW H → Nat) : Prop where
 slice : ∀ l s : List (DataW H), l.length ≤ f (.slice l s)
 elem : ∀ l s : List (DataW H), ∀ d ∈ l, f d ≤ f (.slice l s)
 part : ∀ l : List (DataW H), ∀ d ∈ l, f d ≤ f (.agg l)
end TL
/-
  TlPost: what is owed behind a law that returns true and writes nothing of the caller's.
  By an AI agent.
-/
namespace TL
open Go Go.Proofs Go.ChangeShapes Go.WideShapes Go.RowKit
def lR (P : Program) (ts : List TypeId) : Bool := ts.all fun t => P.readableRec t && decide (t < P.types.size)
theorem j5 {H : Type} {enc : TypeId × Value → H} {P : Program} (hl : laidOutB P = true) {W W' : World} (hb : Below W.heap.size W W') (sp : Nat → Bool) :
   ∀ {ts : List TypeId} {vs : List Value} {ds : List (DataW H)} {ps : List MemPlace}, lR P ts = true → DataW.TrodAll enc P W 0 (fun _ => true) true ts vs ds ps → (∀ p ∈ ps, p.block < W.heap.size) → (∀ p ∈ ps, sp p.block = true) → DataW.TrodAll enc P W' 0 sp true ts vs ds ps
 | [], [], [], _, _, h, _, _ => h
 | [], [], _ :: _, _, _, h, _, _ => h.elim
 | [], _ :: _, _, _, _, h, _, _ => by cases ‹List (DataW H)› <;> exact h.elim
 | _ :: _, [], _, _, _, h, _, _ => by cases ‹List (DataW H)› <;> exact h.elim
 | _ :: _, _ :: _, [], _, _, h, _, _ => h.elim
 | t :: ts, v :: vs, d :: ds, ps, hr, h, hlt, hsp => by
   obtain ⟨p, q, h1, h2, rfl⟩ := h
   simp only [lR, List.all_cons, Bool.and_eq_true, decide_eq_true_eq] at hr
   exact ⟨p, q, WideElems.Trod_stays hl hr.1.1 hr.1.2 h1 (fun x hx => hb.same (hlt x (by simp [hx]))) (fun x hx => hsp x (by simp [hx])),
     j5 hl hb sp hr.2 h2 (fun x hx => hlt x (by simp [hx])) (fun x hx => hsp x (by simp [hx])), rfl⟩
theorem nr {H : Type} {enc : TypeId × Value → H} {P : Program} {f : Func} {s : ChangeSpec} {W W' : World} {args : Array Value} {ds gs : List (DataW H)} {before : List MemPlace} {tb : TypeId}
   (hl : laidOutB P = true) (hr : lR P f.params.toList = true) (hv : s.vars = []) (hrt : f.resultTypes = #[tb]) (htb : P.underlying tb = some .bool)
   (hW : DataW.Whole enc P f.params.toList s.vars false W args.toList ds gs before) (hfn : s.fn H (ds ++ gs) = { results := [.lit (.bool true)], args := ds }) (hB : Below W.heap.size W W') :
   s.post enc P f false true false false W args (.bool true) W' := by
 have hlt := hW.lt
 have hW0 := hW
 obtain ⟨p, q, hA, hV, rfl, hfz, _⟩ := hW
 rw [hv] at hV
 obtain ⟨rfl, rfl⟩ := trodVars_none hV
 simp only [List.append_nil] at hlt hfz hW0 hfn
 have hres : ∀ (b : Nat) (sp : Nat → Bool) (hd : Bool), DataW.TrodAll enc P W' b sp hd f.resultTypes.toList ((Value.bool true).resultList f.resultTypes.size) (s.fn H (ds ++ [])).results [] := fun b sp hd => by
   rw [hrt, List.append_nil, hfn]
   exact trodAll_cons_mk (shut_bool htb true) trodAll_mk0
 have hargs : ∀ sp : Nat → Bool, (∀ x ∈ p, sp x.block = true) → DataW.TrodAll enc P W' 0 sp true f.params.toList args.toList (s.fn H (ds ++ [])).args p := fun sp hsp => by
   rw [List.append_nil, hfn]
   exact j5 hl hB sp hr hA hlt hsp
 have hvars : ∀ sp : Nat → Bool, DataW.TrodVars enc P W' sp s.vars (s.fn H (ds ++ [])).vars [] := fun sp => by
   rw [List.append_nil, hfn, hv]
   rfl
 refine ⟨ds, [], p, [], p, [], hW0, hres _ _ _, hargs _ (fun x hx => by simpa using hlt x hx), hvars _, World.keptBut_mono (fun x hx => ⟨hx, Or.inr (by simpa using hx)⟩) (hB.frame _), fun _ => ?_⟩
 refine ⟨?_, _, _, ([] ++ p) ++ [], ⟨[] ++ p, [], trodAll_append (hargs _ (fun _ _ => rfl)) (hres _ _ _), hvars _, rfl, ?_, ?_⟩, ?_⟩
 · exact ok_one hrt rfl (okWide_bool_mk htb true)
 · intro b off hp
   have hp' : MemPlace.cell b off ∈ p := by simpa using hp
   rw [hB.frozen (p := ⟨b, off, none⟩) (hlt _ hp')]
   exact hfz b off hp'
 · intro ha; cases ha
 · intro x hx _
   simpa using hx
end TL
