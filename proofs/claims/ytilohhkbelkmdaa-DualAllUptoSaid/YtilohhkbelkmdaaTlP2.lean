/- Plain texts of this claim, part 2. By an AI agent. -/
import Derived.Test.YtilohhkbelkmdaaTlP1
/-
  TlWalk: going through a net breadth first, and its components, as the program does.
  By an AI agent.
-/
set_option linter.all false
namespace TL
def dO (g : bZ) (h : Int) : Int := pI (gI g.2 (h / 2)) (1 - h % 2)
theorem gj {g : bZ} (hm : bx g) {h : Int} (h0 : 0 ≤ h) (h1 : h < 2 * (g.2.length : Int)) : 0 ≤ dO g h ∧ dO g h < g.1 := by
 have hok := hm.2.2.2 _ (bu (xs := g.2) (i := h / 2) (by omega) (by omega))
 unfold lQ at hok
 unfold dO pI
 split <;> omega
structure Bf where
 order : List Int
 by_ : List Int
 far : List Int
def eQ (g : bZ) (v : Int) (s : Bf) (h : Int) : Bf :=
 if gI s.far (dO g h) < 0 then ⟨s.order ++ [dO g h], s.by_.set (dO g h).toNat h, s.far.set (dO g h).toNat (gI s.far v + 1)⟩ else s
def lb (g : bZ) (v : Int) (s : Bf) : Bf := (cZ g v).foldl (eQ g v) s
def kp (g : bZ) : Nat → Nat → Bf → Bf
 | 0, _, s => s
 | n + 1, i, s => if i < s.order.length then kp g n (i + 1) (lb g (gI s.order (i : Int)) s) else s
def eh (g : bZ) (s0 : Int) : Bf := ⟨[s0], List.replicate g.1.toNat (-1), (List.replicate g.1.toNat (-1)).set s0.toNat 0⟩
def dI (g : bZ) (s0 : Int) : Bf := kp g g.1.toNat 0 (eh g s0)
structure iJ (g : bZ) (s : Bf) : Prop where
 far : (s.far.length : Int) = g.1
 by_ : (s.by_.length : Int) = g.1
 nodup : s.order.Nodup
 rng : ∀ x ∈ s.order, 0 ≤ x ∧ x < g.1
 iff : ∀ w, 0 ≤ w → w < g.1 → (gI s.far w < 0 ↔ w ∉ s.order)
 le : ∀ w, 0 ≤ w → w < g.1 → gI s.far w ≤ s.order.length
theorem iJ.start {g : bZ} {s0 : Int} (h0 : 0 ≤ s0) (h1 : s0 < g.1) : iJ g (eh g s0) := by
 refine ⟨by simp [eh]; omega, by simp [eh]; omega, by simp [eh], by simp [eh]; omega, fun w hw0 hw1 => ?_, fun w hw0 hw1 => ?_⟩
 · simp only [eh]
   rw [cu h0 (by simp; omega) hw0]
   by_cases e : w = s0
   · subst e; simp
   · rw [if_neg e, eH hw0 (by omega)]; simp [e]
 · simp only [eh]
   rw [cu h0 (by simp; omega) hw0]
   by_cases e : w = s0
   · subst e; simp
   · rw [if_neg e, eH hw0 (by omega)]; simp
theorem iJ.len {g : bZ} {s : Bf} (h : iJ g s) (hg : 0 ≤ g.1) : (s.order.length : Int) ≤ g.1 := fk hg h.nodup h.rng
theorem iJ.one {g : bZ} {s : Bf} {v h : Int} (hs : iJ g s) (hv : v ∈ s.order) (h0 : 0 ≤ dO g h) (h1 : dO g h < g.1) : iJ g (eQ g v s h) := by
 obtain ⟨hv0, hv1⟩ := hs.rng v hv
 unfold eQ
 by_cases c : gI s.far (dO g h) < 0
 · rw [if_pos c]
   have hn := (hs.iff _ h0 h1).1 c
   have hf := hs.far
   have hlv := hs.le v hv0 hv1
   refine ⟨by simpa using hs.far, by simpa using hs.by_, ?_, fun x hx => ?_, fun w hw0 hw1 => ?_, fun w hw0 hw1 => ?_⟩
   · rw [List.nodup_append]
     refine ⟨hs.nodup, by simp, fun a ha b hb => ?_⟩
     obtain rfl := List.mem_singleton.1 hb
     intro e; subst e; exact hn ha
   · rcases List.mem_append.1 hx with hx | hx
     · exact hs.rng x hx
     · obtain rfl := List.mem_singleton.1 hx; exact ⟨h0, h1⟩
   · simp only
     rw [cu h0 (by omega) hw0]
     by_cases e : w = dO g h
     · subst e
       rw [if_pos rfl]
       have hx : ¬ gI s.far v < 0 := fun hh => (hs.iff v hv0 hv1).1 hh hv
       constructor
       · intro hh; omega
       · intro hh; simp at hh
     · rw [if_neg e, hs.iff w hw0 hw1]; simp [e]
   · simp only
     rw [cu h0 (by omega) hw0]
     by_cases e : w = dO g h
     · subst e; rw [if_pos rfl]; simp; omega
     · rw [if_neg e]
       have := hs.le w hw0 hw1
       simp; omega
 · rw [if_neg c]; exact hs
end TL
namespace TL
theorem f4 {g : bZ} {v h : Int} (hh : h ∈ cZ g v) : (0 ≤ h ∧ h < 2 * (g.2.length : Int)) ∧ bp g h = v := by
 unfold cZ ia at hh
 obtain ⟨h1, h2⟩ := List.mem_filter.1 hh
 obtain ⟨k, hk, rfl⟩ := List.mem_map.1 h1
 have := List.mem_range.1 hk
 exact ⟨by omega, by simpa using h2⟩
theorem lX (g : bZ) (v : Int) (s : Bf) (h : Int) : ∃ t, (eQ g v s h).order = s.order ++ t := by
 unfold eQ
 split
 · exact ⟨_, rfl⟩
 · exact ⟨[], by simp⟩
structure dn (s : Bf) (g : bZ) (s0 : Bf) (v : Int) (j : Nat) : Prop where
  eq : s = ((cZ g v).take j).foldl (eQ g v) s0
  ok : iJ g s
  mem : v ∈ s.order
  pre : ∃ t, s.order = s0.order ++ t
theorem dn.start {g : bZ} {s0 : Bf} {v : Int} (h : iJ g s0) (hv : v ∈ s0.order) : dn s0 g s0 v 0 := ⟨rfl, h, hv, [], by simp⟩
theorem dn.next {s s0 : Bf} {g : bZ} {v : Int} {j : Nat} (h : dn s g s0 v j) (hm : bx g) (hj : (j : Int) < (cZ g v).length) : dn (eQ g v s (gI (cZ g v) (j : Int))) g s0 v (j + 1) := by
 have hin := (f4 (bu (xs := cZ g v) (i := (j : Int)) (by omega) hj)).1
 have ht := gj hm hin.1 hin.2
 obtain ⟨t, ht2⟩ := h.pre
 obtain ⟨t', ht3⟩ := lX g v s (gI (cZ g v) (j : Int))
 refine ⟨by rw [bh hj, List.foldl_append, ← h.eq]; rfl, h.ok.one h.mem ht.1 ht.2, by rw [ht3]; simp [h.mem], t ++ t', by rw [ht3, ht2, List.append_assoc]⟩
theorem dn.done {s s0 : Bf} {g : bZ} {v : Int} {j : Nat} (h : dn s g s0 v j) (hj : ¬ (j : Int) < (cZ g v).length) : s = lb g v s0 := by
 rw [h.eq, List.take_of_length_le (by omega)]; rfl
structure fi (s : Bf) (g : bZ) (s0 : Int) (i : Nat) : Prop where
  ok : iJ g s
  le : (i : Int) ≤ s.order.length
  eq : kp g (g.1.toNat - i) i s = dI g s0
theorem fi.start {g : bZ} {s0 : Int} (h0 : 0 ≤ s0) (h1 : s0 < g.1) : fi (eh g s0) g s0 0 := ⟨iJ.start h0 h1, by omega, rfl⟩
theorem fi.next {s s' : Bf} {g : bZ} {s0 : Int} {i j : Nat} (h : fi s g s0 i) (hg : 0 ≤ g.1) (hi : (i : Int) < s.order.length) (hr : dn s' g s (gI s.order (i : Int)) j) (hj : ¬ (j : Int) < (cZ g (gI s.order (i : Int))).length) : fi s' g s0 (i + 1) := by
 obtain ⟨t, ht⟩ := hr.pre
 have hl := h.ok.len hg
 refine ⟨hr.ok, by rw [ht]; simp; omega, ?_⟩
 rw [← h.eq, show g.1.toNat - i = (g.1.toNat - (i + 1)) + 1 by omega]
 simp only [kp]
 rw [if_pos (by omega), hr.done hj]
theorem fi.done {s : Bf} {g : bZ} {s0 : Int} {i : Nat} (h : fi s g s0 i) (hi : ¬ (i : Int) < s.order.length) : s = dI g s0 := by
 rw [← h.eq]
 cases g.1.toNat - i with
 | zero => rfl
 | succ n => simp only [kp]; rw [if_neg (by omega)]
def gM (g : bZ) (p : List Int × Int) (v : Int) : List Int × Int :=
 if 0 ≤ gI p.1 v then p else ((dI g v).order.foldl (fun l w => l.set w.toNat p.2) p.1, p.2 + 1)
def bJ (g : bZ) (k : Nat) : List Int × Int := (c7 k).foldl (gM g) (List.replicate g.1.toNat (-1), 0)
def bC (g : bZ) : List Int × Int × Int := if bx g then ((bJ g g.1.toNat).1, (bJ g g.1.toNat).2, 0) else ([], 0, 1)
theorem fg (g : bZ) (k : Nat) : bJ g (k + 1) = gM g (bJ g k) (k : Int) := by
 unfold bJ
 rw [ew, List.foldl_append]; rfl
theorem iH (g : bZ) : ∀ k : Nat, (bJ g k).1.length = g.1.toNat ∧ 0 ≤ (bJ g k).2 ∧ (bJ g k).2 ≤ k := by
 intro k
 induction k with
 | zero => simp [bJ, c7]
 | succ k ih =>
   rw [fg]
   unfold gM
   have key : ∀ (l : List Int) (p : List Int) (x : Int), (l.foldl (fun l w => l.set w.toNat x) p).length = p.length := by
     intro l
     induction l with
     | nil => intro p x; rfl
     | cons a l ih => intro p x; rw [List.foldl_cons, ih]; simp
   split
   · exact ⟨ih.1, ih.2.1, by omega⟩
   · simp only
     rw [key]
     exact ⟨ih.1, by omega, by omega⟩
theorem gm {l p : List Int} {x : Int} {k : Nat} (hk : (k : Int) < l.length) : (l.take (k + 1)).foldl (fun l w => l.set w.toNat x) p = ((l.take k).foldl (fun l w => l.set w.toNat x) p).set (gI l (k : Int)).toNat x := by
 rw [bh hk, List.foldl_append]; rfl
theorem dg (x : Int) : ∀ (l p : List Int), (l.foldl (fun l w => l.set w.toNat x) p).length = p.length
 | [], p => rfl
 | a :: l, p => by rw [List.foldl_cons, dg x l]; simp
def ar (g : bZ) (r : bj) : List (List Int) × Int := if aK g r = 0 then (ax (aw g r) r, 0) else ([], aK g r)
def cH (g : bZ) (r : bj) : bj × Int := if aK g r = 0 then (ct r, 0) else ([], aK g r)
end TL
namespace TL
theorem iG {k n : Nat} {x : Int} (hk : k < n) : (List.replicate k x ++ List.replicate (n - k) 0).set (k : Int).toNat x = List.replicate (k + 1) x ++ List.replicate (n - (k + 1)) (0 : Int) := by
 have e : n - k = (n - (k + 1)) + 1 := by omega
 rw [e, List.replicate_succ]
 simp only [Int.toNat_natCast]
 rw [List.set_append_right _ _ (by simp)]
 simp only [List.length_replicate, Nat.sub_self, List.set_cons_zero]
 rw [List.replicate_succ']
 simp
theorem dZ.rl {out : List (List Int)} {g : bZ} {k : Nat} (h : dZ out g k) {v : Int} (h0 : 0 ≤ v) (h1 : v < g.1) : ((gI out v).length : Int) ≤ 2 * (k : Int) := by
 rw [h.at_ v h0 h1]
 have := qq g v k
 omega
theorem dZ.rl2 {out : List (List Int)} {g : bZ} {k : Nat} (h : dZ out g k) {u v : Int} (h2 : 0 ≤ u) (h3 : u < g.1) (h0 : 0 ≤ v) (h1 : v < g.1) (a : Int) : ((gI (out.set u.toNat (gI out u ++ [a])) v).length : Int) ≤ 2 * (k : Int) + 1 := by
 have hl := h.len
 rw [cu h2 (by omega) h0]
 split
 · have := h.rl h2 h3; simp; omega
 · have := h.rl h0 h1; omega
theorem dZ.done {out : List (List Int)} {g : bZ} {k : Nat} (h : dZ out g k) (hk : k = g.2.length) : ∀ v, 0 ≤ v → v < g.1 → gI out v = cZ g v := fun v h0 h1 => by
 subst hk; exact h.at_ v h0 h1
theorem dn.yes {O B F : List Int} {s0 : Bf} {g : bZ} {v h : Int} {j : Nat} (hr : dn ⟨O, B, F⟩ g s0 v j) (hm : bx g) (hj : (j : Int) < (cZ g v).length) (hh : h = gI (cZ g v) (j : Int)) (c : gI F (dO g h) < 0) : dn ⟨O ++ [dO g h], B.set (dO g h).toNat h, F.set (dO g h).toNat (gI F v + 1)⟩ g s0 v (j + 1) := by
 have h1 := hr.next hm hj
 rw [← hh] at h1
 unfold eQ at h1
 rw [if_pos (show gI (Bf.mk O B F).far (dO g h) < 0 from c)] at h1
 exact h1
theorem dn.no {O B F : List Int} {s0 : Bf} {g : bZ} {v h : Int} {j : Nat} (hr : dn ⟨O, B, F⟩ g s0 v j) (hm : bx g) (hj : (j : Int) < (cZ g v).length) (hh : h = gI (cZ g v) (j : Int)) (c : ¬ gI F (dO g h) < 0) : dn ⟨O, B, F⟩ g s0 v (j + 1) := by
 have h1 := hr.next hm hj
 rw [← hh] at h1
 unfold eQ at h1
 rw [if_neg (show ¬ gI (Bf.mk O B F).far (dO g h) < 0 from c)] at h1
 exact h1
theorem dn.facts {O B F : List Int} {s0 : Bf} {g : bZ} {v : Int} {j : Nat} (hr : dn ⟨O, B, F⟩ g s0 v j) (hg : 0 ≤ g.1) : (F.length : Int) = g.1 ∧ (B.length : Int) = g.1 ∧ (O.length : Int) ≤ g.1 ∧ (0 ≤ v ∧ v < g.1) ∧ gI F v ≤ O.length ∧ ¬ gI F v < 0 := by
 have h1 := hr.ok
 have hv := h1.rng v hr.mem
 exact ⟨h1.far, h1.by_, h1.len hg, hv, h1.le v hv.1 hv.2, fun hh => (h1.iff v hv.1 hv.2).1 hh hr.mem⟩
theorem fi.facts {O B F : List Int} {g : bZ} {s0 : Int} {i : Nat} (hr : fi ⟨O, B, F⟩ g s0 i) (hg : 0 ≤ g.1) : (F.length : Int) = g.1 ∧ (B.length : Int) = g.1 ∧ (O.length : Int) ≤ g.1 ∧ (i : Int) ≤ O.length := ⟨hr.ok.far, hr.ok.by_, hr.ok.len hg, hr.le⟩
theorem fi.node {O B F : List Int} {g : bZ} {s0 : Int} {i : Nat} (hr : fi ⟨O, B, F⟩ g s0 i) (hi : (i : Int) < O.length) : 0 ≤ gI O (i : Int) ∧ gI O (i : Int) < g.1 := hr.ok.rng _ (bu (by omega) hi)
theorem fi.row {O B F : List Int} {g : bZ} {s0 : Int} {i : Nat} (hr : fi ⟨O, B, F⟩ g s0 i) (hi : (i : Int) < O.length) : dn ⟨O, B, F⟩ g ⟨O, B, F⟩ (gI O (i : Int)) 0 := dn.start hr.ok (bu (by omega) hi)
theorem pb {g : bZ} {s0 : Int} {O B F : List Int} {i : Nat} (h : fi ⟨O, B, F⟩ g s0 i) (hi : ¬ (i : Int) < O.length) : O = (dI g s0).order ∧ ∀ x ∈ O, 0 ≤ x ∧ x < g.1 := ⟨congrArg Bf.order (h.done hi), h.ok.rng⟩
end TL
namespace TL
theorem la {g : bZ} {part : List Int} {n : Int} {q : Nat} (h : part = (bJ g q).1 ∧ n = (bJ g q).2) (c : 0 ≤ gI part (q : Int)) : part = (bJ g (q + 1)).1 ∧ n = (bJ g (q + 1)).2 := by
 have h1 : bJ g (q + 1) = bJ g q := by
   rw [fg]
   unfold gM
   rw [if_pos (by rw [← h.1]; exact c)]
 rw [h1]; exact h
theorem rF {g : bZ} {part part2 O : List Int} {n : Int} {q j : Nat} (h : part = (bJ g q).1 ∧ n = (bJ g q).2) (c : ¬ 0 ≤ gI part (q : Int)) (hO : O = (dI g (q : Int)).order) (hp : part2 = (O.take j).foldl (fun l w => l.set w.toNat n) part) (hj : ¬ (j : Int) < O.length) : part2 = (bJ g (q + 1)).1 ∧ n + 1 = (bJ g (q + 1)).2 := by
 rw [List.take_of_length_le (by omega)] at hp
 have h1 : bJ g (q + 1) = ((dI g (q : Int)).order.foldl (fun l w => l.set w.toNat (bJ g q).2) (bJ g q).1, (bJ g q).2 + 1) := by
   rw [fg]
   unfold gM
   rw [if_neg (by rw [← h.1]; exact c)]
 rw [h1]
 exact ⟨by rw [hp, hO, h.1, h.2], by rw [h.2]⟩
theorem fQ {g : bZ} (hm : bx g) {q : Nat} (hq : (q : Int) = g.1) {part : List Int} {n : Int} (h : part = (bJ g q).1 ∧ n = (bJ g q).2) : part = (bC g).1 ∧ n = (bC g).2.1 ∧ 0 = (bC g).2.2 := by
 have e : q = g.1.toNat := by omega
 subst e
 unfold bC
 rw [if_pos hm]
 exact ⟨h.1, h.2, rfl⟩
theorem iV (nx : List Int) : ∀ (l S : List Int), (cm nx l S).length ≤ l.length
 | [], S => by simp [cm]
 | h :: l, S => by
   simp only [cm]
   split
   · have := iV nx l S; simp; omega
   · have := iV nx l (S ++ ey nx S h); simp; omega
theorem oQ (nx : List Int) (r : bj) : (ax nx r).length ≤ nx.length + r.length := by
 unfold ax
 have h1 := iV nx (c7 nx.length) []
 rw [cP] at h1
 have h2 := List.length_filter_le (fun l : List Int => decide (l.length = 0)) r
 rw [List.length_append, List.length_map]
 omega
end TL
namespace TL
end TL
/-
  TlRot2: rotations: faces of half-edges, first ones, parts, moved ones.
  By an AI agent.
-/
set_option linter.all false
namespace TL
def nU (F : List (List Int)) (n : Int) (k : Nat) : List Int := (List.range k).foldl (fun l (q : Nat) => (gI F (q : Int)).foldl (fun l h => l.set h.toNat (q : Int)) l) (List.replicate n.toNat 0)
def k8 (F : List (List Int)) (n : Int) (k i : Nat) : List Int := ((gI F (k : Int)).take i).foldl (fun l h => l.set h.toNat (k : Int)) (nU F n k)
theorem jA (F : List (List Int)) (n : Int) : ∀ k : Nat, (nU F n k).length = n.toNat := by
 intro k
 induction k with
 | zero => simp [nU]
 | succ k ih =>
   unfold nU at ih ⊢
   rw [List.range_succ, List.foldl_append]
   simp only [List.foldl_cons, List.foldl_nil]
   rw [dg]; exact ih
theorem o7 (F : List (List Int)) (n : Int) (k i : Nat) : (k8 F n k i).length = n.toNat := by
 unfold k8
 rw [dg, jA]
theorem m0 (F : List (List Int)) (n : Int) (k : Nat) : k8 F n k 0 = nU F n k := by simp [k8]
theorem mt (F : List (List Int)) (n : Int) (k i : Nat) (hi : (i : Int) < (gI F (k : Int)).length) : k8 F n k (i + 1) = (k8 F n k i).set (gI (gI F (k : Int)) (i : Int)).toNat (k : Int) := gm hi
theorem jG (F : List (List Int)) (n : Int) (k i : Nat) (hi : ¬ (i : Int) < (gI F (k : Int)).length) : k8 F n k i = nU F n (k + 1) := by
 unfold k8
 rw [List.take_of_length_le (by omega)]
 conv => rhs; unfold nU
 rw [List.range_succ, List.foldl_append]
 rfl
def bX (g : bZ) (r : bj) : List Int := nU (ax (aw g r) r) (2 * (g.2.length : Int)) (ax (aw g r) r).length
def bU (g : bZ) (r : bj) : List Int × Int := if aK g r = 0 then (bX g r, 0) else ([], aK g r)
theorem pZ {nx : List Int} (hn : ∀ k : Int, 0 ≤ k → k < nx.length → 0 ≤ gI nx k ∧ gI nx k < nx.length) : ∀ (n : Nat) (seen : List Int) (k : Int), 0 ≤ k → k < nx.length → ∀ h ∈ fG nx n seen k, 0 ≤ h ∧ h < nx.length
  | 0, seen, k, _, _, h, hh => by simp [fG] at hh
  | n + 1, seen, k, h0, h1, h, hh => by
    simp only [fG] at hh
    split at hh
    · cases hh
    · rcases List.mem_cons.1 hh with rfl | hh
      · exact ⟨h0, h1⟩
      · have := hn k h0 h1
        exact pZ hn n _ _ this.1 this.2 h hh
theorem jX {nx : List Int} (hn : ∀ k : Int, 0 ≤ k → k < nx.length → 0 ≤ gI nx k ∧ gI nx k < nx.length) : ∀ (l S : List Int), (∀ h ∈ l, 0 ≤ h ∧ h < nx.length) → ∀ f ∈ cm nx l S, ∀ h ∈ f, 0 ≤ h ∧ h < nx.length
 | [], S, _, f, hf => by simp [cm] at hf
 | a :: l, S, hl, f, hf => by
   simp only [cm] at hf
   split at hf
   · exact jX hn l S (fun h hh => hl h (by simp [hh])) f hf
   · rcases List.mem_cons.1 hf with rfl | hf
     · have := hl a (by simp)
       exact pZ hn _ _ _ this.1 this.2
     · exact jX hn l _ (fun h hh => hl h (by simp [hh])) f hf
theorem iu {g : bZ} {r : bj} (hr : cf g r) : ∀ f ∈ ax (aw g r) r, ∀ h ∈ f, 0 ≤ h ∧ h < 2 * (g.2.length : Int) := by
 intro f hf h hh
 have hl := dW g r
 unfold ax at hf
 rcases List.mem_append.1 hf with hf | hf
 · have := jX (nx := aw g r) (fun k h0 h1 => by
     have := lf hr h0 (by omega)
     omega) _ [] (fun h hh => by
     have := cQ.1 hh
     omega) f hf h hh
   omega
 · obtain ⟨l, _, rfl⟩ := List.mem_map.1 hf
   cases hh
theorem pB {g : bZ} {r : bj} (hr : cf g r) {k i : Nat} (hk : (k : Int) < (ax (aw g r) r).length) (hi : (i : Int) < (gI (ax (aw g r) r) (k : Int)).length) : 0 ≤ gI (gI (ax (aw g r) r) (k : Int)) (i : Int) ∧ gI (gI (ax (aw g r) r) (k : Int)) (i : Int) < 2 * (g.2.length : Int) :=
 iu hr _ (bu (by omega) hk) _ (bu (by omega) hi)
def cb (g : bZ) : bj := (List.range g.1.toNat).map fun (v : Nat) => cZ g (v : Int)
theorem dZ.first {out : bj} {g : bZ} {k : Nat} (h : dZ out g k) (hk : k = g.2.length) : out = cb g := by
 have hl := h.len
 apply dj
 · simp [cb]; omega
 · intro i hi
   rw [h.done hk _ (by omega) (by omega)]
   have : i < g.1.toNat := by omega
   simp [cb, gI, this]
structure ed (out : bj) (g : bZ) (h : Nat) : Prop where
  len : (out.length : Int) = g.1
  at_ : ∀ v, 0 ≤ v → v < g.1 → gI out v = na g v h
theorem ed.start {g : bZ} (h : 0 ≤ g.1) : ed (List.replicate g.1.toNat []) g 0 := ⟨by simp; omega, fun v h0 h1 => by rw [eH h0 (by omega)]; simp [na]⟩
theorem ed.next {out : bj} {g : bZ} {h : Nat} (hi : ed out g h) (h0 : 0 ≤ bp g h) (h1 : bp g h < g.1) : ed (out.set (bp g h).toNat (gI out (bp g h) ++ [(h : Int)])) g (h + 1) := by
 have hl := hi.len
 refine ⟨by simpa using hl, fun v h2 h3 => ?_⟩
 rw [cu h0 (by omega) h2, qp]
 by_cases e : v = bp g (h : Int)
 · rw [if_pos e, if_pos e.symm, hi.at_ _ h0 h1, ← e]
 · rw [if_neg e, if_neg (fun h => e h.symm), hi.at_ v h2 h3]
theorem ed.bd {out : bj} {g : bZ} {h : Nat} (hi : ed out g h) {v : Int} (h0 : 0 ≤ v) (h1 : v < g.1) : (gI out v).length ≤ h := by
 rw [hi.at_ v h0 h1]; exact sq g v h
theorem ed.done {out : bj} {g : bZ} {h : Nat} (hi : ed out g h) (hh : h = 2 * g.2.length) : out = cb g := by
 have hl := hi.len
 apply dj
 · simp [cb]; omega
 · intro i hlt
   rw [hi.at_ _ (by omega) (by omega), rA g _ hh]
   have : i < g.1.toNat := by omega
   simp [cb, gI, this]
def dM (keep : List Int) (l : List Int) : List Int := (l.filter fun h => decide (0 < ik keep (h / 2))).map fun h => 2 * (ik keep (h / 2) - 1) + h % 2
theorem o9 {keep l : List Int} {i : Nat} (hi : (i : Int) < l.length) (h : 0 < ik keep (gI l (i : Int) / 2)) : dM keep (l.take (i + 1)) = dM keep (l.take i) ++ [2 * (ik keep (gI l (i : Int) / 2) - 1) + gI l (i : Int) % 2] := by
 unfold dM
 rw [bh hi, List.filter_append, List.map_append]
 simp [h]
theorem oV {keep l : List Int} {i : Nat} (hi : (i : Int) < l.length) (h : ¬ 0 < ik keep (gI l (i : Int) / 2)) : dM keep (l.take (i + 1)) = dM keep (l.take i) := by
 unfold dM
 rw [bh hi, List.filter_append, List.map_append]
 simp [h]
theorem nI (keep l : List Int) : (dM keep l).length ≤ l.length := by
 unfold dM
 rw [List.length_map]
 exact List.length_filter_le _ _
structure cM (out : bj) (keep : List Int) (r : bj) (k i : Nat) : Prop where
  len : out.length = r.length
  old : ∀ v : Nat, v < k → v < r.length → gI out (v : Int) = dM keep (gI r (v : Int))
  row : k < r.length → gI out (k : Int) = dM keep ((gI r (k : Int)).take i)
  new : ∀ v : Nat, k < v → v < r.length → gI out (v : Int) = []
theorem cM.start (keep : List Int) (r : bj) : cM (List.replicate r.length []) keep r 0 0 :=
 ⟨by simp, fun v hv => by omega, fun h => by rw [eH (by omega) (by omega)]; simp [dM], fun v h1 h2 => by rw [eH (by omega) (by omega)]⟩
theorem cM.yes {out : bj} {keep : List Int} {r : bj} {k i : Nat} (h : cM out keep r k i) (hk : (k : Int) < r.length) (hi : (i : Int) < (gI r (k : Int)).length) (c : 0 < ik keep (gI (gI r (k : Int)) (i : Int) / 2)) :
   cM (out.set (k : Int).toNat (gI out (k : Int) ++ [2 * (ik keep (gI (gI r (k : Int)) (i : Int) / 2) - 1) + gI (gI r (k : Int)) (i : Int) % 2])) keep r k (i + 1) := by
 have hl := h.len
 simp only [Int.toNat_natCast]
 refine ⟨by simpa using hl, fun v h1 h2 => by rw [eK (by omega)]; exact h.old v h1 h2, fun h1 => ?_, fun v h1 h2 => by rw [eK (by omega)]; exact h.new v h1 h2⟩
 rw [fm (by omega), h.row h1, o9 hi c]
theorem cM.no {out : bj} {keep : List Int} {r : bj} {k i : Nat} (h : cM out keep r k i) (hi : (i : Int) < (gI r (k : Int)).length) (c : ¬ 0 < ik keep (gI (gI r (k : Int)) (i : Int) / 2)) : cM out keep r k (i + 1) :=
 ⟨h.len, h.old, fun h1 => by rw [h.row h1, oV hi c], h.new⟩
theorem cM.row_done {out : bj} {keep : List Int} {r : bj} {k i : Nat} (h : cM out keep r k i) (hk : (k : Int) < r.length) (hi : ¬ (i : Int) < (gI r (k : Int)).length) : cM out keep r (k + 1) 0 := by
 have h1 := h.row (by omega)
 rw [List.take_of_length_le (by omega)] at h1
 refine ⟨h.len, fun v h2 h3 => ?_, fun h2 => ?_, fun v h2 h3 => h.new v (by omega) h3⟩
 · by_cases e : v = k
   · subst e; exact h1
   · exact h.old v (by omega) h3
 · rw [h.new (k + 1) (by omega) h2]; simp [dM]
theorem cM.bd {out : bj} {keep : List Int} {r : bj} {k i : Nat} (h : cM out keep r k i) (hk : (k : Int) < r.length) : (gI out (k : Int)).length ≤ i := by
 rw [h.row (by omega)]
 have h1 := nI keep ((gI r (k : Int)).take i)
 have h2 := List.length_take_le i (gI r (k : Int))
 omega
theorem cM.done {out : bj} {keep : List Int} {r : bj} {k : Nat} (h : cM out keep r k 0) (hk : ¬ (k : Int) < r.length) : out = r.map (dM keep) := by
 have hl := h.len
 apply dj
 · simpa using hl
 · intro v hv
   rw [h.old v (by omega) (by omega), iY _ (by omega) (by omega)]
def bS (g : bZ) (r : bj) (keep : List Int) : bZ × bj × Int :=
 if aK g r = 0 then if (c8 g keep).2 = 0 then ((c8 g keep).1, ct (r.map (dM keep)), 0) else ((0, []), [], (c8 g keep).2) else ((0, []), [], aK g r)
def pC (r : bj) (to : List Int) (n : Int) : bj := (c7 n.toNat).map fun u => gI r ((to.idxOf u : Nat) : Int)
def fX (g : bZ) (r : bj) (to : List Int) : bZ × bj × Int :=
 if aK g r = 0 then if (oG g to).2 = 0 then ((oG g to).1, ct (pC r to g.1), 0) else ((0, []), [], (oG g to).2) else ((0, []), [], aK g r)
end TL
/-
  TlTr: one of each class, how many classes there are; the components of a net.
  By an AI agent.
-/
set_option linter.all false
namespace TL
structure Tr (D : Int → Prop) (R : Int → Int → Prop) (l : List Int) : Prop where
  nd : l.Nodup
  dom : ∀ x ∈ l, D x
  all : ∀ x, D x → ∃ y ∈ l, R x y
  one : ∀ x ∈ l, ∀ y ∈ l, R x y → x = y
structure pQ (D : Int → Prop) (R : Int → Int → Prop) : Prop where
 rfl : ∀ x, D x → R x x
 symm : ∀ x y, D x → D y → R x y → R y x
 trans : ∀ x y z, D x → D y → D z → R x y → R y z → R x z
theorem pw {P : Int → Int → Prop} : ∀ (l l' : List Int), l.Nodup → (∀ x ∈ l, ∃ y ∈ l', P x y) → (∀ x ∈ l, ∀ x' ∈ l, ∀ y, y ∈ l' → P x y → P x' y → x = x') → l.length ≤ l'.length
 | [], l', _, _, _ => by simp
 | a :: l, l', hn, h1, h2 => by
   obtain ⟨y, hy, hp⟩ := h1 a (by simp)
   have hn' := List.nodup_cons.1 hn
   have h3 := pw (P := P) l (l'.erase y) hn'.2 (fun x hx => by
     obtain ⟨z, hz, hq⟩ := h1 x (by simp [hx])
     refine ⟨z, (List.mem_erase_of_ne (fun e => ?_)).2 hz, hq⟩
     subst e
     have := h2 a (by simp) x (by simp [hx]) z hz hp hq
     subst this
     exact hn'.1 hx) (fun x hx x' hx' z hz => h2 x (by simp [hx]) x' (by simp [hx']) z (List.mem_of_mem_erase hz))
   have h4 := List.length_erase_of_mem hy
   have h5 := List.length_pos_of_mem hy
   simp; omega
theorem Tr.len {D : Int → Prop} {R : Int → Int → Prop} {l l' : List Int} (he : pQ D R) (h : Tr D R l) (h' : Tr D R l') : l.length = l'.length := by
 have key : ∀ {l l' : List Int}, Tr D R l → Tr D R l' → l.length ≤ l'.length := fun {l l'} h h' => pw (P := R) l l' h.nd (fun x hx => h'.all x (h.dom x hx)) (fun x hx x' hx' y hy h1 h2 => h.one x hx x' hx' (he.trans _ _ _ (h.dom x hx) (h'.dom y hy) (h.dom x' hx') h1 (he.symm _ _ (h.dom x' hx') (h'.dom y hy) h2)))
 exact Nat.le_antisymm (key h h') (key h' h)
theorem dU {f : Int → Int} : ∀ {l : List Int}, l.Nodup → (∀ x ∈ l, ∀ y ∈ l, f x = f y → x = y) → (l.map f).Nodup
 | [], _, _ => by simp
 | a :: l, hn, h => by
   have hn' := List.nodup_cons.1 hn
   rw [List.map_cons, List.nodup_cons]
   refine ⟨fun hm => ?_, dU hn'.2 (fun x hx y hy => h x (by simp [hx]) y (by simp [hy]))⟩
   obtain ⟨y, hy, e⟩ := List.mem_map.1 hm
   have := h a (by simp) y (by simp [hy]) e.symm
   subst this
   exact hn'.1 hy
theorem Tr.map {D D' : Int → Prop} {R R' : Int → Int → Prop} {l : List Int} (f : Int → Int) (h : Tr D R l) (he' : pQ D' R') (hd : ∀ x, D x → D' (f x)) (hr : ∀ x y, D x → D y → R x y → R' (f x) (f y)) (hb : ∀ x y, D x → D y → R' (f x) (f y) → R x y) (hs : ∀ z, D' z → ∃ x, D x ∧ R' z (f x)) : Tr D' R' (l.map f) := by
  refine ⟨dU h.nd fun x hx y hy e => ?_, fun z hz => ?_, fun z hz => ?_, fun z hz w hw hzw => ?_⟩
  · have hx' := h.dom x hx
    have hy' := h.dom y hy
    exact h.one x hx y hy (hb x y hx' hy' (by rw [← e]; exact he'.rfl _ (hd x hx')))
  · obtain ⟨x, hx, rfl⟩ := List.mem_map.1 hz
    exact hd x (h.dom x hx)
  · obtain ⟨x, hx, hzx⟩ := hs z hz
    obtain ⟨y, hy, hxy⟩ := h.all x hx
    exact ⟨f y, List.mem_map.2 ⟨y, hy, rfl⟩, he'.trans _ _ _ hz (hd x hx) (hd y (h.dom y hy)) hzx (hr x y hx (h.dom y hy) hxy)⟩
  · obtain ⟨x, hx, rfl⟩ := List.mem_map.1 hz
    obtain ⟨y, hy, rfl⟩ := List.mem_map.1 hw
    rw [h.one x hx y hy (hb x y (h.dom x hx) (h.dom y hy) hzw)]
def jD (D : Int → Prop) (R : Int → Int → Prop) (k : Nat) : Prop := ∃ l, Tr D R l ∧ l.length = k
theorem jD.eq {D : Int → Prop} {R : Int → Int → Prop} {k k' : Nat} (he : pQ D R) (h : jD D R k) (h' : jD D R k') : k = k' := by
 obtain ⟨l, h1, rfl⟩ := h
 obtain ⟨l', h2, rfl⟩ := h'
 exact h1.len he h2
theorem jD.iff {D : Int → Prop} {R R' : Int → Int → Prop} {k : Nat} (h : jD D R k) (hi : ∀ x y, D x → D y → (R x y ↔ R' x y)) : jD D R' k := by
 obtain ⟨l, h1, h2⟩ := h
 refine ⟨l, ⟨h1.nd, h1.dom, fun x hx => ?_, fun x hx y hy hxy => h1.one x hx y hy ((hi x y (h1.dom x hx) (h1.dom y hy)).2 hxy)⟩, h2⟩
 obtain ⟨y, hy, hxy⟩ := h1.all x hx
 exact ⟨y, hy, (hi x y hx (h1.dom y hy)).1 hxy⟩
theorem jD.map {D D' : Int → Prop} {R R' : Int → Int → Prop} {k : Nat} (f : Int → Int) (h : jD D R k) (he' : pQ D' R') (hd : ∀ x, D x → D' (f x)) (hr : ∀ x y, D x → D y → R x y → R' (f x) (f y)) (hb : ∀ x y, D x → D y → R' (f x) (f y) → R x y) (hs : ∀ z, D' z → ∃ x, D x ∧ R' z (f x)) : jD D' R' k := by
 obtain ⟨l, h1, h2⟩ := h
 exact ⟨l.map f, h1.map f he' hd hr hb hs, by rw [List.length_map, h2]⟩
def lj (g : bZ) (v : Int) : Prop := 0 ≤ v ∧ v < g.1
def Cn (g : bZ) (u v : Int) : Prop := ∀ R : Int → Int → Prop, pQ (lj g) R → (∀ e ∈ g.2, R e.1 e.2) → R u v
theorem Cn.eqv (g : bZ) : pQ (lj g) (Cn g) :=
 ⟨fun x hx R hR _ => hR.rfl x hx, fun x y hx hy h R hR he => hR.symm x y hx hy (h R hR he), fun x y z hx hy hz h1 h2 R hR he => hR.trans x y z hx hy hz (h1 R hR he) (h2 R hR he)⟩
theorem Cn.edge {g : bZ} {e : Int × Int} (h : e ∈ g.2) : Cn g e.1 e.2 := fun R _ he => he e h
theorem Cn.half {g : bZ} (hm : bx g) {h : Int} (h0 : 0 ≤ h) (h1 : h < 2 * (g.2.length : Int)) : Cn g (bp g h) (dO g h) := by
 have hin := bu (xs := g.2) (i := h / 2) (by omega) (by omega)
 have hok := hm.2.2.2 _ hin
 have hc := Cn.edge hin
 unfold bp dO pI
 have h2 : h % 2 = 0 ∨ h % 2 = 1 := by omega
 rcases h2 with e | e
 · rw [e]; simpa using hc
 · rw [e]
   exact (Cn.eqv g).symm _ _ hok.1 hok.2 (by simpa using hc)
theorem vN {g : bZ} {i : Nat} (hi : (i : Int) < g.2.length) : 2 * (i : Int) ∈ cZ g (gI g.2 (i : Int)).1 ∧ 2 * (i : Int) + 1 ∈ cZ g (gI g.2 (i : Int)).2 ∧ dO g (2 * (i : Int)) = (gI g.2 (i : Int)).2 ∧ dO g (2 * (i : Int) + 1) = (gI g.2 (i : Int)).1 := by
 have e1 : (2 * (i : Int)) / 2 = i := by omega
 have e2 : (2 * (i : Int)) % 2 = 0 := by omega
 have e3 : (2 * (i : Int) + 1) / 2 = i := by omega
 have e4 : (2 * (i : Int) + 1) % 2 = 1 := by omega
 refine ⟨?_, ?_, by unfold dO; rw [e1, e2]; simp [pI], by unfold dO; rw [e3, e4]; simp [pI]⟩
 · unfold cZ ia
   refine List.mem_filter.2 ⟨List.mem_map.2 ⟨2 * i, List.mem_range.2 (by omega), by push_cast; rfl⟩, ?_⟩
   simp only [decide_eq_true_eq]
   unfold bp; rw [e1, e2]; simp [pI]
 · unfold cZ ia
   refine List.mem_filter.2 ⟨List.mem_map.2 ⟨2 * i + 1, List.mem_range.2 (by omega), by push_cast; rfl⟩, ?_⟩
   simp only [decide_eq_true_eq]
   unfold bp; rw [e3, e4]; simp [pI]
theorem mx {g : bZ} {S : Int → Prop} (hS : ∀ x h, S x → h ∈ cZ g x → S (dO g h)) {u v : Int} (hc : Cn g u v) : S u → S v := by
 refine (hc (fun u v => S u ↔ S v) ⟨fun _ _ => Iff.rfl, fun _ _ _ _ h => h.symm, fun _ _ _ _ _ _ h1 h2 => h1.trans h2⟩ (fun e he => ?_)).1
 obtain ⟨i, hi, rfl⟩ := List.mem_iff_getElem.1 he
 have e : gI g.2 (i : Int) = g.2[i] := by simp [gI, hi]
 obtain ⟨a, b, c, d⟩ := vN (g := g) (i := i) (by omega)
 rw [e] at a b c d
 exact ⟨fun h => by rw [← c]; exact hS _ _ h a, fun h => by rw [← d]; exact hS _ _ h b⟩
theorem qZ (g : bZ) (v : Int) (s : Bf) (h : Int) : ∀ x ∈ (eQ g v s h).order, x ∈ s.order ∨ x = dO g h := by
 intro x hx
 unfold eQ at hx
 split at hx
 · rcases List.mem_append.1 hx with hx | hx
   · exact .inl hx
   · exact .inr (List.mem_singleton.1 hx)
 · exact .inl hx
theorem mu {g : bZ} (hm : bx g) {v : Int} : ∀ (l : List Int) (s : Bf), (∀ h ∈ l, h ∈ cZ g v) → iJ g s → v ∈ s.order →
   iJ g (l.foldl (eQ g v) s) ∧ (∃ t, (l.foldl (eQ g v) s).order = s.order ++ t) ∧ (∀ x ∈ (l.foldl (eQ g v) s).order, x ∈ s.order ∨ ∃ h ∈ cZ g v, x = dO g h) ∧ ∀ h ∈ l, dO g h ∈ (l.foldl (eQ g v) s).order
 | [], s, _, hs, hv => ⟨hs, ⟨[], by simp⟩, fun x hx => .inl hx, by simp⟩
 | a :: l, s, hl, hs, hv => by
   have hin := (f4 (hl a (by simp))).1
   have ht := gj hm hin.1 hin.2
   have h1 := hs.one (v := v) (h := a) hv ht.1 ht.2
   obtain ⟨t, ht1⟩ := lX g v s a
   have ha : dO g a ∈ (eQ g v s a).order := by
     by_cases c : gI s.far (dO g a) < 0
     · unfold eQ; rw [if_pos c]; simp
     · rw [ht1]
       have : dO g a ∈ s.order := Classical.byContradiction fun hn => c ((hs.iff _ ht.1 ht.2).2 hn)
       simp [this]
   obtain ⟨k1, ⟨t2, k2⟩, k3, k4⟩ := mu hm l (eQ g v s a) (fun h hh => hl h (by simp [hh])) h1 (by rw [ht1]; simp [hv])
   rw [List.foldl_cons]
   refine ⟨k1, ⟨t ++ t2, by rw [k2, ht1, List.append_assoc]⟩, fun x hx => ?_, fun h hh => ?_⟩
   · rcases k3 x hx with hx | hx
     · rcases qZ g v s a x hx with hx | hx
       · exact .inl hx
       · exact .inr ⟨a, hl a (by simp), hx⟩
     · exact .inr hx
   · rcases List.mem_cons.1 hh with rfl | hh
     · rw [k2]; simp [ha]
     · exact k4 h hh
theorem pL {g : bZ} (hm : bx g) {s0 : Int} : ∀ (n i : Nat) (s : Bf), iJ g s → (∀ x ∈ s.order, Cn g s0 x) → s0 ∈ s.order → lj g s0 → (∀ q : Nat, q < i → (q : Int) < s.order.length → ∀ h ∈ cZ g (gI s.order (q : Int)), dO g h ∈ s.order) → (g.1 : Int) ≤ n + i →
   iJ g (kp g n i s) ∧ (∀ x ∈ (kp g n i s).order, Cn g s0 x) ∧ s0 ∈ (kp g n i s).order ∧ ∀ x ∈ (kp g n i s).order, ∀ h ∈ cZ g x, dO g h ∈ (kp g n i s).order
 | 0, i, s, hs, hc, h0, hd, hq, hn => by
   refine ⟨hs, hc, h0, fun x hx h hh => ?_⟩
   obtain ⟨q, hq1, e⟩ := List.mem_iff_getElem.1 hx
   have hl := hs.len hm.1
   change q < s.order.length at hq1
   have eq1 : gI s.order (q : Int) = x := by simp only [kp] at e; simp [gI, hq1, e]
   exact hq q (by omega) (by omega) h (by rw [eq1]; exact hh)
 | n + 1, i, s, hs, hc, h0, hd, hq, hn => by
   simp only [kp]
   by_cases c : i < s.order.length
   · rw [if_pos c]
     have hv := bu (xs := s.order) (i := (i : Int)) (by omega) (by omega)
     obtain ⟨k1, ⟨t, k2⟩, k3, k4⟩ := mu hm (v := gI s.order (i : Int)) (cZ g (gI s.order (i : Int))) s (fun h hh => hh) hs hv
     have hvd := hs.rng _ hv
     have hpre : ∀ q : Nat, (q : Int) < s.order.length → gI (lb g (gI s.order (i : Int)) s).order (q : Int) = gI s.order (q : Int) := fun q hq' => by
       unfold lb; rw [k2]; unfold gI
       have : ((q : Int)).toNat < s.order.length := by omega
       simp only [Int.toNat_natCast] at this ⊢
       simp [List.getD_eq_getElem?_getD, List.getElem?_append_left this]
     refine pL hm n (i + 1) (lb g (gI s.order (i : Int)) s) k1 (fun x hx => ?_) (by unfold lb; rw [k2]; simp [h0]) hd (fun q hq1 hq2 h hh => ?_) (by omega)
     · rcases k3 x hx with hx | ⟨h, hh, rfl⟩
       · exact hc x hx
       · have hin := f4 hh
         have h1 := Cn.half hm hin.1.1 hin.1.2
         rw [hin.2] at h1
         exact (Cn.eqv g).trans _ _ _ hd hvd (gj hm hin.1.1 hin.1.2) (hc _ hv) h1
     · by_cases e : q = i
       · subst e
         rw [hpre q (by omega)] at hh
         exact k4 h hh
       · have hq3 : (q : Int) < s.order.length := by omega
         rw [hpre q hq3] at hh
         have := hq q (by omega) hq3 h hh
         unfold lb; rw [k2]; simp [this]
   · rw [if_neg c]
     refine ⟨hs, hc, h0, fun x hx h hh => ?_⟩
     obtain ⟨q, hq1, e⟩ := List.mem_iff_getElem.1 hx
     have eq1 : gI s.order (q : Int) = x := by simp [gI, hq1, e]
     exact hq q (by omega) (by omega) h (by rw [eq1]; exact hh)
theorem kb {g : bZ} (hm : bx g) {s0 : Int} (h0 : lj g s0) : (∀ x ∈ (dI g s0).order, lj g x) ∧ ∀ x, x ∈ (dI g s0).order ↔ Cn g s0 x := by
 obtain ⟨k1, k2, k3, k4⟩ := pL hm (s0 := s0) g.1.toNat 0 (eh g s0) (iJ.start h0.1 h0.2) (by simp [eh]; exact (Cn.eqv g).rfl s0 h0) (by simp [eh]) h0 (fun q hq => by omega) (by have := hm.1; omega)
 refine ⟨k1.rng, fun x => ⟨k2 x, fun hc => ?_⟩⟩
 exact mx (S := fun x => x ∈ (dI g s0).order) (fun x h hx hh => k4 x hx h hh) hc k3
theorem jg {n : Int} : ∀ (O p : List Int) (v : Int), 0 ≤ v → v < p.length → (∀ x ∈ O, 0 ≤ x ∧ x < p.length) → gI (O.foldl (fun l w => l.set w.toNat n) p) v = if v ∈ O then n else gI p v
 | [], p, v, h0, h1, _ => by simp
 | a :: O, p, v, h0, h1, ho => by
   have ha := ho a (by simp)
   rw [List.foldl_cons, jg O _ v h0 (by simpa using h1) (fun x hx => by simpa using ho x (by simp [hx])), cu ha.1 ha.2 h0]
   by_cases e : v = a
   · subst e; simp
   · by_cases hv : v ∈ O
     · simp [hv]
     · simp [hv, e]
structure ra (g : bZ) (p : List Int × Int) (l : List Int) (k : Nat) : Prop where
  len : (p.1.length : Int) = g.1
  num : p.2 = (l.length : Int)
  nd : l.Nodup
  dom : ∀ x ∈ l, lj g x
  one : ∀ x ∈ l, ∀ y ∈ l, Cn g x y → x = y
  iff : ∀ v, lj g v → (0 ≤ gI p.1 v ↔ ∃ y ∈ l, Cn g v y)
  all : ∀ v : Nat, v < k → (v : Int) < g.1 → ∃ y ∈ l, Cn g (v : Int) y
theorem lF {g : bZ} (hm : bx g) : ∀ k : Nat, (k : Int) ≤ g.1 → ∃ l, ra g (bJ g k) l k
 | 0, _ => ⟨[], by simp [bJ, c7]; have := hm.1; omega, by simp [bJ, c7], by simp, by simp, by simp, fun v hv => by
     have e : (bJ g 0).1 = List.replicate g.1.toNat (-1) := by simp [bJ, c7]
     rw [e, eH hv.1 (by have := hv.2; omega)]; simp, fun v hv => by omega⟩
 | k + 1, hk => by
   obtain ⟨l, h⟩ := lF hm k (by omega)
   have hkd : lj g (k : Int) := ⟨by omega, by omega⟩
   obtain ⟨hb1, hb2⟩ := kb hm hkd
   rw [fg]
   unfold gM
   by_cases c : 0 ≤ gI (bJ g k).1 (k : Int)
   · rw [if_pos c]
     refine ⟨l, h.len, h.num, h.nd, h.dom, h.one, h.iff, fun v hv hg => ?_⟩
     by_cases e : v = k
     · subst e; exact (h.iff _ hkd).1 c
     · exact h.all v (by omega) hg
   · rw [if_neg c]
     have hno : ∀ y ∈ l, ¬ Cn g (k : Int) y := fun y hy hc => c ((h.iff _ hkd).2 ⟨y, hy, hc⟩)
     have hlen := h.len
     have hnn : 0 ≤ (bJ g k).2 := by rw [h.num]; omega
     refine ⟨l ++ [(k : Int)], ?_, ?_, ?_, ?_, ?_, ?_, ?_⟩
     · simp only; rw [dg]; exact hlen
     · simp only [h.num]; simp
     · rw [List.nodup_append]
       refine ⟨h.nd, by simp, fun a ha b hb e => ?_⟩
       obtain rfl := List.mem_singleton.1 hb
       subst e
       exact hno _ ha ((Cn.eqv g).rfl _ hkd)
     · intro x hx
       rcases List.mem_append.1 hx with hx | hx
       · exact h.dom x hx
       · obtain rfl := List.mem_singleton.1 hx; exact hkd
     · intro x hx y hy hc
       rcases List.mem_append.1 hx with hx | hx
       · rcases List.mem_append.1 hy with hy | hy
         · exact h.one x hx y hy hc
         · obtain rfl := List.mem_singleton.1 hy
           exact absurd ((Cn.eqv g).symm _ _ (h.dom x hx) hkd hc) (hno x hx)
       · obtain rfl := List.mem_singleton.1 hx
         rcases List.mem_append.1 hy with hy | hy
         · exact absurd hc (hno y hy)
         · obtain rfl := List.mem_singleton.1 hy; rfl
     · intro v hv
       simp only
       rw [jg _ _ v hv.1 (by have := hv.2; omega) (fun x hx => by have := hb1 x hx; exact ⟨this.1, by have := this.2; omega⟩)]
       by_cases hvo : v ∈ (dI g (k : Int)).order
       · rw [if_pos hvo]
         exact ⟨fun _ => ⟨(k : Int), by simp, (Cn.eqv g).symm _ _ hkd hv ((hb2 v).1 hvo)⟩, fun _ => hnn⟩
       · rw [if_neg hvo, h.iff v hv]
         constructor
         · rintro ⟨y, hy, hc⟩; exact ⟨y, by simp [hy], hc⟩
         · rintro ⟨y, hy, hc⟩
           rcases List.mem_append.1 hy with hy | hy
           · exact ⟨y, hy, hc⟩
           · obtain rfl := List.mem_singleton.1 hy
             exact absurd ((hb2 v).2 ((Cn.eqv g).symm _ _ hv hkd hc)) hvo
     · intro v hv hg
       by_cases e : v = k
       · subst e; exact ⟨(v : Int), by simp, (Cn.eqv g).rfl _ hkd⟩
       · obtain ⟨y, hy, hc⟩ := h.all v (by omega) hg
         exact ⟨y, by simp [hy], hc⟩
end TL
/-
  TlCyc: lists gone round: what stands behind what; rotations turned, and moved.
  By an AI agent.
-/
set_option linter.all false
namespace TL
def nQ (l : List Int) (h : Int) : Int := gI l ((((l.idxOf h : Nat) : Int) + 1) % (l.length : Int))
theorem dV {u w : List Int} {x : Int} (hx : x ∉ u) : nQ (u ++ x :: w) x = gI (w ++ u ++ [x]) 0 := by
 have hi : (u ++ x :: w).idxOf x = u.length := by
   rw [List.idxOf_append, if_neg hx]; simp
 unfold nQ
 rw [hi]
 cases w with
 | nil =>
   have h1 : ((u.length : Int) + 1) % ((u ++ [x]).length : Int) = 0 := by simp
   rw [h1]; simp
 | cons b w =>
   have h1 : ((u.length : Int) + 1) % ((u ++ x :: b :: w).length : Int) = (u.length : Int) + 1 := Int.emod_eq_of_lt (by omega) (by simp; omega)
   rw [h1]
   unfold gI
   rw [show ((u.length : Int) + 1).toNat = u.length + 1 by omega]
   simp [List.getD_eq_getElem?_getD]
theorem mR {s t : List Int} {y : Int} (hn : (s ++ t).Nodup) (hy : y ∈ s ++ t) : nQ (s ++ t) y = nQ (t ++ s) y := by
 have hn2 := List.nodup_append.1 hn
 rcases List.mem_append.1 hy with h | h
 · obtain ⟨s1, s2, rfl⟩ := List.append_of_mem h
   have h1 : y ∉ s1 := fun hm => (List.nodup_append.1 hn2.1).2.2 y hm y (by simp) rfl
   have h2 : y ∉ t := fun hm => hn2.2.2 y h y hm rfl
   have e1 : (s1 ++ y :: s2) ++ t = s1 ++ y :: (s2 ++ t) := by simp
   have e2 : t ++ (s1 ++ y :: s2) = (t ++ s1) ++ y :: s2 := by simp
   rw [e1, e2, dV h1, dV (by simp [h1, h2])]
   simp [List.append_assoc]
 · obtain ⟨t1, t2, rfl⟩ := List.append_of_mem h
   have h1 : y ∉ t1 := fun hm => (List.nodup_append.1 hn2.2.1).2.2 y hm y (by simp) rfl
   have h2 : y ∉ s := fun hm => hn2.2.2 y hm y h rfl
   have e1 : s ++ (t1 ++ y :: t2) = (s ++ t1) ++ y :: t2 := by simp
   have e2 : (t1 ++ y :: t2) ++ s = t1 ++ y :: (t2 ++ s) := by simp
   rw [e1, e2, dV h1, dV (by simp [h1, h2])]
   simp [List.append_assoc]
theorem qO {g : bZ} {r : bj} (hr : cf g r) {v : Nat} (hv : (v : Int) < r.length) {h : Int} (hh : h ∈ gI r (v : Int)) : et r h = nQ (gI r (v : Int)) h := by
 unfold et; rw [pT hr hv hh]; rfl
theorem rJ {g : bZ} {r : bj} (hr : cf g r) {h : Int} (h0 : 0 ≤ h) (h1 : h < 2 * (g.2.length : Int)) : ∃ v : Nat, (v : Int) < r.length ∧ h ∈ gI r (v : Int) := by
 obtain ⟨v, i, hv, hi, e⟩ := kz hr h0 h1
 exact ⟨v, hv, by rw [← e]; exact bu (by omega) hi⟩
theorem uG (L : bj) : (L.map fun _ => ([] : List Int)) = List.replicate L.length [] := by
 induction L with
 | nil => rfl
 | cons a L ih => rw [List.map_cons, ih]; rfl
section
variable {g : bZ} {r : bj} {to : List Int}
end
theorem j1 {g : bZ} {r : bj} (hm : bx g) (hrp : cf g r) : cH g r = (ct r, 0) := by unfold cH; rw [if_pos (br hm hrp)]
end TL
/-
  TlOrb: going round by a permutation; two places changed; what that does to the numbers of rounds.
  By an AI agent.
-/
set_option linter.all false
namespace TL
def Jn (R : Int → Int → Prop) (a b x y : Int) : Prop := R x y ∨ (R x a ∧ R b y) ∨ (R x b ∧ R a y)
theorem Jn.eqv {D : Int → Prop} {R : Int → Int → Prop} (h : pQ D R) {a b : Int} (ha : D a) (hb : D b) : pQ D (Jn R a b) := by
 refine ⟨fun x hx => .inl (h.rfl x hx), fun x y hx hy hxy => ?_, fun x y z hx hy hz h1 h2 => ?_⟩
 · rcases hxy with e | ⟨e1, e2⟩ | ⟨e1, e2⟩
   · exact .inl (h.symm _ _ hx hy e)
   · exact .inr (.inr ⟨h.symm _ _ hb hy e2, h.symm _ _ hx ha e1⟩)
   · exact .inr (.inl ⟨h.symm _ _ ha hy e2, h.symm _ _ hx hb e1⟩)
 · rcases h1 with e | ⟨e1, e2⟩ | ⟨e1, e2⟩
   · rcases h2 with f | ⟨f1, f2⟩ | ⟨f1, f2⟩
     · exact .inl (h.trans _ _ _ hx hy hz e f)
     · exact .inr (.inl ⟨h.trans _ _ _ hx hy ha e f1, f2⟩)
     · exact .inr (.inr ⟨h.trans _ _ _ hx hy hb e f1, f2⟩)
   · rcases h2 with f | ⟨f1, f2⟩ | ⟨f1, f2⟩
     · exact .inr (.inl ⟨e1, h.trans _ _ _ hb hy hz e2 f⟩)
     · exact .inr (.inl ⟨e1, f2⟩)
     · exact .inl (h.trans _ _ _ hx ha hz e1 f2)
   · rcases h2 with f | ⟨f1, f2⟩ | ⟨f1, f2⟩
     · exact .inr (.inr ⟨e1, h.trans _ _ _ ha hy hz e2 f⟩)
     · exact .inl (h.trans _ _ _ hx hb hz e1 f2)
     · exact .inr (.inr ⟨e1, f2⟩)
theorem jD.join {D : Int → Prop} {R : Int → Int → Prop} (he : pQ D R) {a b : Int} (ha : D a) (hb : D b) (hab : ¬ R a b) {k : Nat} (h : jD D R k) : ∃ k', jD D (Jn R a b) k' ∧ k' + 1 = k := by
 obtain ⟨l, h, rfl⟩ := h
 obtain ⟨z, hz, hbz⟩ := h.all b hb
 have hzd := h.dom z hz
 refine ⟨(l.erase z).length, ⟨l.erase z, ⟨h.nd.erase z, fun x hx => h.dom x (List.mem_of_mem_erase hx), fun x hx => ?_, fun x hx y hy hxy => ?_⟩, rfl⟩, ?_⟩
 · obtain ⟨y, hy, hxy⟩ := h.all x hx
   by_cases e : y = z
   · subst e
     obtain ⟨w, hw, haw⟩ := h.all a ha
     refine ⟨w, (List.mem_erase_of_ne fun e => hab ?_).2 hw, .inr (.inr ⟨he.trans _ _ _ hx hzd hb hxy (he.symm _ _ hb hzd hbz), haw⟩)⟩
     subst e
     exact he.trans _ _ _ ha hzd hb haw (he.symm _ _ hb hzd hbz)
   · exact ⟨y, (List.mem_erase_of_ne e).2 hy, .inl hxy⟩
 · have hx' := h.nd.mem_erase_iff.1 hx
   have hy' := h.nd.mem_erase_iff.1 hy
   have hxd := h.dom x hx'.2
   have hyd := h.dom y hy'.2
   rcases hxy with e | ⟨_, e⟩ | ⟨e, _⟩
   · exact h.one x hx'.2 y hy'.2 e
   · exact absurd (h.one y hy'.2 z hz (he.trans _ _ _ hyd hb hzd (he.symm _ _ hb hyd e) hbz)) hy'.1
   · exact absurd (h.one x hx'.2 z hz (he.trans _ _ _ hxd hb hzd e hbz)) hx'.1
 · have h1 := List.length_erase_of_mem hz
   have h2 := List.length_pos_of_mem hz
   omega
def In (n x : Int) : Prop := 0 ≤ x ∧ x < n
theorem jD.ex {n : Int} {R : Int → Int → Prop} (he : pQ (In n) R) : ∃ k, jD (In n) R k := by
 have key : ∀ m : Nat, (m : Int) ≤ n → ∃ l : List Int, l.Nodup ∧ (∀ x ∈ l, 0 ≤ x ∧ x < m) ∧ (∀ x : Int, 0 ≤ x → x < m → ∃ y ∈ l, R x y) ∧ ∀ x ∈ l, ∀ y ∈ l, R x y → x = y := by
   intro m
   induction m with
   | zero => exact fun _ => ⟨[], by simp, by simp, fun x h0 h1 => by omega, by simp⟩
   | succ m ih =>
     intro hm
     obtain ⟨l, h1, h2, h3, h4⟩ := ih (by omega)
     have hmd : In n (m : Int) := ⟨by omega, by omega⟩
     by_cases c : ∃ y ∈ l, R (m : Int) y
     · refine ⟨l, h1, fun x hx => by have := h2 x hx; omega, fun x h0 hx => ?_, h4⟩
       by_cases e : x = (m : Int)
       · subst e; exact c
       · exact h3 x h0 (by omega)
     · refine ⟨(m : Int) :: l, List.nodup_cons.2 ⟨fun hm => by have := h2 _ hm; omega, h1⟩, fun x hx => ?_, fun x h0 hx => ?_, fun x hx y hy hxy => ?_⟩
       · rcases List.mem_cons.1 hx with rfl | hx
         · omega
         · have := h2 x hx; omega
       · by_cases e : x = (m : Int)
         · subst e; exact ⟨(m : Int), by simp, he.rfl _ hmd⟩
         · obtain ⟨y, hy, hxy⟩ := h3 x h0 (by omega)
           exact ⟨y, by simp [hy], hxy⟩
       · have hlt : ∀ z ∈ l, In n z := fun z hz => by have := h2 z hz; exact ⟨by omega, by omega⟩
         rcases List.mem_cons.1 hx with rfl | hx
         · rcases List.mem_cons.1 hy with rfl | hy
           · rfl
           · exact absurd ⟨y, hy, hxy⟩ c
         · rcases List.mem_cons.1 hy with rfl | hy
           · exact absurd ⟨x, hx, he.symm _ _ (hlt x hx) hmd hxy⟩ c
           · exact h4 x hx y hy hxy
 by_cases hn : 0 ≤ n
 · obtain ⟨l, h1, h2, h3, h4⟩ := key n.toNat (by omega)
   exact ⟨l.length, l, ⟨h1, fun x hx => by have := h2 x hx; exact ⟨by omega, by omega⟩, fun x hx => h3 x hx.1 (by have := hx.2; omega), h4⟩, rfl⟩
 · exact ⟨0, [], ⟨by simp, by simp, fun x hx => by have := hx.1; have := hx.2; omega, by simp⟩, rfl⟩
def it (p : Int → Int) : Nat → Int → Int
 | 0, x => x
 | k + 1, x => it p k (p x)
theorem iQ (p : Int → Int) : ∀ (a b : Nat) (x : Int), it p (a + b) x = it p b (it p a x)
 | 0, b, x => by simp [it]
 | a + 1, b, x => by
   rw [show a + 1 + b = (a + b) + 1 by omega]
   simp only [it]
   exact iQ p a b (p x)
theorem sW (p : Int → Int) (k : Nat) (x : Int) : it p (k + 1) x = p (it p k x) := iQ p k 1 x
structure Pm (n : Int) (p : Int → Int) : Prop where
 rng : ∀ x, In n x → In n (p x)
 inj : ∀ x y, In n x → In n y → p x = p y → x = y
theorem Pm.it {n : Int} {p : Int → Int} (h : Pm n p) : ∀ (k : Nat) {x : Int}, In n x → In n (it p k x)
 | 0, x, hx => hx
 | k + 1, x, hx => h.it k (h.rng x hx)
theorem Pm.itinj {n : Int} {p : Int → Int} (h : Pm n p) : ∀ (k : Nat) {x y : Int}, In n x → In n y → TL.it p k x = TL.it p k y → x = y
 | 0, x, y, hx, hy, e => e
 | k + 1, x, y, hx, hy, e => h.inj x y hx hy (h.itinj k (h.rng x hx) (h.rng y hy) e)
theorem Pm.back {n : Int} {p : Int → Int} (h : Pm n p) {x : Int} (hx : In n x) : ∃ k, TL.it p (k + 1) x = x := by
 refine Classical.byContradiction fun hno => ?_
 have hnd : ((List.range (n.toNat + 1)).map fun k => TL.it p k x).Nodup := by
   refine List.pairwise_map.2 (List.Pairwise.imp (R := fun a b => a < b) (fun {a b} (hab : a < b) => fun (e : TL.it p a x = TL.it p b x) => hno ⟨b - a - 1, ?_⟩) List.pairwise_lt_range)
   have e2 : TL.it p b x = TL.it p a (TL.it p (b - a - 1 + 1) x) := by rw [← iQ]; congr 1; omega
   rw [e2] at e
   exact (h.itinj a hx (h.it _ hx) e).symm
 have := fk (n := n) (by have := hx.1; have := hx.2; omega) hnd (fun y hy => by
   obtain ⟨k, _, rfl⟩ := List.mem_map.1 hy
   exact h.it k hx)
 simp at this
 have := hx.1; have := hx.2
 omega
def dl (p : Int → Int) (x y : Int) : Prop := ∃ k, TL.it p k x = y
theorem dl.step (p : Int → Int) (x : Int) : dl p x (p x) := ⟨1, rfl⟩
theorem dl.refl (p : Int → Int) (x : Int) : dl p x x := ⟨0, rfl⟩
theorem dl.trans {p : Int → Int} {x y z : Int} (h1 : dl p x y) (h2 : dl p y z) : dl p x z := by
 obtain ⟨a, rfl⟩ := h1
 obtain ⟨b, rfl⟩ := h2
 exact ⟨a + b, iQ p a b x⟩
theorem dl.ind {p : Int → Int} {S : Int → Prop} (hS : ∀ x, S x → S (p x)) {x y : Int} (h : dl p x y) : S x → S y := by
 obtain ⟨k, rfl⟩ := h
 induction k generalizing x with
 | zero => exact fun h => h
 | succ k ih => exact fun h => ih (hS x h)
theorem dl.mem {n : Int} {p : Int → Int} (hp : Pm n p) {x y : Int} (h : dl p x y) (hx : In n x) : In n y := dl.ind (S := In n) hp.rng h hx
theorem Pm.eqv {n : Int} {p : Int → Int} (h : Pm n p) : pQ (In n) (dl p) := by
 refine ⟨fun x _ => dl.refl p x, fun x y hx hy hxy => ?_, fun x y z _ _ _ h1 h2 => h1.trans h2⟩
 obtain ⟨k, rfl⟩ := hxy
 obtain ⟨c, hc⟩ := h.back hx
 have hm : ∀ m : Nat, TL.it p (m * (c + 1)) x = x := by
   intro m
   induction m with
   | zero => simp [TL.it]
   | succ m ih => rw [show (m + 1) * (c + 1) = m * (c + 1) + (c + 1) by rw [Nat.add_mul]; omega, iQ, ih, hc]
 refine ⟨k * c, ?_⟩
 rw [← iQ, show k + k * c = k * (c + 1) by rw [Nat.mul_succ]; omega]
 exact hm k
theorem dl.congr {n : Int} {p q : Int → Int} (hp : Pm n p) (h : ∀ x, In n x → p x = q x) {x y : Int} (hx : In n x) (ho : dl p x y) : dl q x y := by
 obtain ⟨k, rfl⟩ := ho
 refine ⟨k, ?_⟩
 induction k generalizing x with
 | zero => rfl
 | succ k ih =>
   show TL.it q k (q x) = TL.it p k (p x)
   rw [← h x hx]
   exact ih (hp.rng x hx)
theorem Pm.congr {n : Int} {p q : Int → Int} (hp : Pm n p) (h : ∀ x, In n x → p x = q x) : Pm n q :=
 ⟨fun x hx => by rw [← h x hx]; exact hp.rng x hx, fun x y hx hy e => hp.inj x y hx hy (by rw [h x hx, h y hy]; exact e)⟩
theorem dl.iff {n : Int} {p q : Int → Int} (hp : Pm n p) (h : ∀ x, In n x → p x = q x) {x y : Int} (hx : In n x) : dl p x y ↔ dl q x y :=
 ⟨dl.congr hp h hx, dl.congr (hp.congr h) (fun x hx => (h x hx).symm) hx⟩
def tr (a b x : Int) : Int := if x = a then b else if x = b then a else x
theorem sF (a b x : Int) : tr a b (tr a b x) = x := by
 unfold tr
 by_cases h1 : x = a
 · subst h1
   by_cases h2 : b = x <;> simp [h2]
 · by_cases h3 : x = b
   · subst h3; simp [h1]
   · simp [h1, h3]
theorem rf {n a b x : Int} (ha : In n a) (hb : In n b) (hx : In n x) : In n (tr a b x) := by
 unfold tr
 split
 · exact hb
 · split
   · exact ha
   · exact hx
def sw (p : Int → Int) (a b x : Int) : Int := p (tr a b x)
theorem wW (p : Int → Int) (a b : Int) : sw (sw p a b) a b = p := funext fun x => by unfold sw; rw [sF]
theorem sB (p : Int → Int) (a b : Int) : sw p a b a = p b := by simp [sw, tr]
theorem vK (p : Int → Int) {a b : Int} : sw p a b b = p a := by
 unfold sw tr
 by_cases h : b = a
 · subst h; simp
 · simp [h]
theorem rk (p : Int → Int) {a b x : Int} (h1 : x ≠ a) (h2 : x ≠ b) : sw p a b x = p x := by simp [sw, tr, h1, h2]
theorem Pm.sw {n : Int} {p : Int → Int} (h : Pm n p) {a b : Int} (ha : In n a) (hb : In n b) : Pm n (sw p a b) :=
 ⟨fun x hx => h.rng _ (rf ha hb hx), fun x y hx hy e => by
   have := h.inj _ _ (rf ha hb hx) (rf ha hb hy) e
   have := congrArg (tr a b) this
   rwa [sF, sF] at this⟩
theorem pP {n : Int} {p : Int → Int} (h : Pm n p) {a b : Int} (ha : In n a) (hb : In n b) (hab : ¬ dl p a b) : dl (sw p a b) a b := by
 have key : ∀ (k : Nat) (z : Int), In n z → TL.it p k z = b → dl (sw p a b) z b := by
   intro k
   induction k with
   | zero => intro z _ e; rw [show z = b from e]; exact dl.refl _ _
   | succ k ih =>
     intro z hz e
     by_cases hzb : z = b
     · rw [hzb]; exact dl.refl _ _
     · have hza : z ≠ a := fun h => hab (by rw [← h]; exact ⟨k + 1, e⟩)
       have h1 := ih (p z) (h.rng z hz) e
       have h2 := dl.step (sw p a b) z
       rw [rk p hza hzb] at h2
       exact h2.trans h1
 obtain ⟨k, hk⟩ := h.eqv.symm _ _ hb (h.rng b hb) (dl.step p b)
 have h1 := key k (p b) (h.rng b hb) hk
 have h2 := dl.step (sw p a b) a
 rw [sB] at h2
 exact h2.trans h1
theorem lG {n : Int} {p : Int → Int} (h : Pm n p) {a b : Int} (ha : In n a) (hb : In n b) (hab : ¬ dl p a b) {x y : Int} (hx : In n x) (hy : In n y) : dl (sw p a b) x y ↔ Jn (dl p) a b x y := by
 have hj := Jn.eqv h.eqv ha hb
 have hq := h.sw ha hb
 have hq' := hq.eqv
 constructor
 · intro ho
   refine (dl.ind (S := fun z => In n z ∧ Jn (dl p) a b x z) (fun z hz => ?_) ho ⟨hx, hj.rfl x hx⟩).2
   refine ⟨hq.rng z hz.1, hj.trans _ _ _ hx hz.1 (hq.rng z hz.1) hz.2 ?_⟩
   by_cases e1 : z = a
   · rw [e1, sB]; exact .inr (.inl ⟨dl.refl _ _, dl.step p b⟩)
   · by_cases e2 : z = b
     · rw [e2, vK]; exact .inr (.inr ⟨dl.refl _ _, dl.step p a⟩)
     · rw [rk p e1 e2]; exact .inl (dl.step p z)
 · have h1 := pP h ha hb hab
   have h2 := hq'.symm _ _ ha hb h1
   have key : ∀ {u v : Int}, In n u → dl p u v → dl (sw p a b) u v := by
     intro u v hu ho
     refine (dl.ind (S := fun z => In n z ∧ dl (sw p a b) u z) (fun z hz => ⟨h.rng z hz.1, hz.2.trans ?_⟩) ho ⟨hu, dl.refl _ _⟩).2
     by_cases e1 : z = a
     · rw [e1]
       have h3 := dl.step (sw p a b) b
       rw [vK] at h3
       exact h1.trans h3
     · by_cases e2 : z = b
       · rw [e2]
         have h3 := dl.step (sw p a b) a
         rw [sB] at h3
         exact h2.trans h3
       · have h3 := dl.step (sw p a b) z
         rwa [rk p e1 e2] at h3
   rintro (e | ⟨e1, e2⟩ | ⟨e1, e2⟩)
   · exact key hx e
   · exact (key hx e1).trans (h1.trans (key hb e2))
   · exact (key hx e1).trans (h2.trans (key ha e2))
theorem rx {P : Nat → Prop} : ∀ (k : Nat), P k → ∃ m, P m ∧ ∀ j, j < m → ¬ P j := by
 intro k
 induction k using Nat.strongRecOn with
 | ind k ih =>
   intro hk
   by_cases c : ∃ j, j < k ∧ P j
   · obtain ⟨j, hj, hp⟩ := c
     exact ih j hj hp
   · exact ⟨k, hk, fun j hj hp => c ⟨j, hj, hp⟩⟩
theorem s5 {n : Int} {p : Int → Int} (h : Pm n p) {a b : Int} (ha : In n a) (hb : In n b) (hne : a ≠ b) (hab : dl p a b) : ¬ dl (sw p a b) a b := by
 have h1 : dl p (p b) a := h.eqv.symm _ _ ha (h.rng b hb) (hab.trans (dl.step p b))
 obtain ⟨k0, hk0⟩ := h1
 obtain ⟨k, hk, hmin⟩ := rx (P := fun k => TL.it p k (p b) = a) k0 hk0
 have hno : ∀ j, j ≤ k → TL.it p j (p b) ≠ b := by
   intro j hj e
   have hjk : j ≠ k := fun e2 => hne (by rw [← hk, ← e2]; exact e)
   have e3 : TL.it p (k - j - 1) (p b) = a := by
     have : TL.it p k (p b) = TL.it p (k - j) (TL.it p j (p b)) := by rw [← iQ]; congr 1; omega
     rw [e, show k - j = (k - j - 1) + 1 by omega] at this
     rw [← hk, this]; rfl
   exact hmin (k - j - 1) (by omega) e3
 intro ho
 obtain ⟨j, hj, e⟩ := dl.ind (S := fun z => ∃ j, j ≤ k ∧ TL.it p j (p b) = z) (fun z hz => by
   obtain ⟨j, hj, e⟩ := hz
   by_cases c : j = k
   · have : z = a := by rw [← e, c]; exact hk
     rw [this, sB]
     exact ⟨0, by omega, rfl⟩
   · rw [rk p (fun e2 => hmin j (by omega) (by rw [e, e2])) (fun e2 => hno j hj (by rw [e, e2]))]
     exact ⟨j + 1, by omega, by rw [sW, e]⟩) ho ⟨k, Nat.le_refl _, hk⟩
 exact hno j hj e
def Lk (n : Int) (s t : Int → Int) (x y : Int) : Prop := ∀ R : Int → Int → Prop, pQ (In n) R → (∀ x, In n x → R x (s x)) → (∀ x, In n x → R x (t x)) → R x y
theorem Lk.eqv (n : Int) (s t : Int → Int) : pQ (In n) (Lk n s t) :=
 ⟨fun x hx R hR _ _ => hR.rfl x hx, fun x y hx hy h R hR h1 h2 => hR.symm x y hx hy (h R hR h1 h2), fun x y z hx hy hz h1 h2 R hR h3 h4 => hR.trans x y z hx hy hz (h1 R hR h3 h4) (h2 R hR h3 h4)⟩
theorem Lk.s {n : Int} {s t : Int → Int} {x : Int} (hx : In n x) : Lk n s t x (s x) := fun R _ h _ => h x hx
theorem Lk.t {n : Int} {s t : Int → Int} {x : Int} (hx : In n x) : Lk n s t x (t x) := fun R _ _ h => h x hx
theorem Lk.orb {n : Int} {s t : Int → Int} (hs : Pm n s) {x y : Int} (hx : In n x) (h : dl s x y) : Lk n s t x y :=
 (dl.ind (S := fun z => In n z ∧ Lk n s t x z) (fun z hz => ⟨hs.rng z hz.1, (Lk.eqv n s t).trans _ _ _ hx hz.1 (hs.rng z hz.1) hz.2 (Lk.s hz.1)⟩) h ⟨hx, (Lk.eqv n s t).rfl x hx⟩).2
def Ec (n : Int) (t s : Int → Int) (d : Int) : Prop := ∃ V F C : Nat, jD (In n) (dl s) V ∧ jD (In n) (dl fun x => s (t x)) F ∧ jD (In n) (Lk n s t) C ∧ d = 2 * (C : Int) - V - F
structure Tw (n : Int) (t : Int → Int) : Prop where
 rng : ∀ x, In n x → In n (t x)
 inv : ∀ x, In n x → t (t x) = x
theorem Tw.comp {n : Int} {t s : Int → Int} (ht : Tw n t) (hs : Pm n s) : Pm n (fun x => s (t x)) :=
 ⟨fun x hx => hs.rng _ (ht.rng x hx), fun x y hx hy e => by
   have := hs.inj _ _ (ht.rng x hx) (ht.rng y hy) e
   have := congrArg t this
   rwa [ht.inv x hx, ht.inv y hy] at this⟩
theorem Ec.ex {n : Int} {t s : Int → Int} (ht : Tw n t) (hs : Pm n s) : ∃ d, Ec n t s d := by
 obtain ⟨V, h1⟩ := jD.ex hs.eqv
 obtain ⟨F, h2⟩ := jD.ex (ht.comp hs).eqv
 obtain ⟨C, h3⟩ := jD.ex (Lk.eqv n s t)
 exact ⟨_, V, F, C, h1, h2, h3, rfl⟩
theorem Ec.sw {n : Int} {t s : Int → Int} (ht : Tw n t) (hs : Pm n s) {a b : Int} (ha : In n a) (hb : In n b) (hab : ¬ dl s a b) {d : Int} (h : Ec n t s d) : ∃ d', Ec n t (sw s a b) d' ∧ (d' = d ∨ d' = d + 2) := by
 obtain ⟨V, F, C, h1, h2, h3, rfl⟩ := h
 have hs' := hs.sw ha hb
 have hne : a ≠ b := fun e => hab (by rw [e]; exact dl.refl _ _)
 have hta := ht.rng a ha
 have htb := ht.rng b hb
 have htne : t a ≠ t b := fun e => hne (by have := congrArg t e; rwa [ht.inv a ha, ht.inv b hb] at this)
 -- nodes
 obtain ⟨V', hV, eV⟩ := h1.join hs.eqv ha hb hab
 have hV' : jD (In n) (dl (TL.sw s a b)) V' := hV.iff fun x y hx hy => (lG hs ha hb hab hx hy).symm
 -- faces
 have hf := ht.comp hs
 have hfx : ∀ x, In n x → TL.sw (fun x => s (t x)) (t a) (t b) x = TL.sw s a b (t x) := by
   intro x hx
   unfold TL.sw tr
   by_cases e1 : x = t a
   · rw [if_pos e1, if_pos (by rw [e1, ht.inv a ha])]
     show s (t (t b)) = s b
     rw [ht.inv b hb]
   · have e1' : ¬ t x = a := fun e => e1 (by rw [← e, ht.inv x hx])
     rw [if_neg e1, if_neg e1']
     by_cases e2 : x = t b
     · rw [if_pos e2, if_pos (by rw [e2, ht.inv b hb])]
       show s (t (t a)) = s a
       rw [ht.inv a ha]
     · have e2' : ¬ t x = b := fun e => e2 (by rw [← e, ht.inv x hx])
       rw [if_neg e2, if_neg e2']
 have hF : ∃ F' : Nat, jD (In n) (dl fun x => TL.sw s a b (t x)) F' ∧ ((¬ dl (fun x => s (t x)) (t a) (t b) ∧ F' + 1 = F) ∨ (dl (fun x => s (t x)) (t a) (t b) ∧ F' = F + 1)) := by
   have hsw := hf.sw hta htb
   by_cases c : dl (fun x => s (t x)) (t a) (t b)
   · obtain ⟨k, hk⟩ := jD.ex hsw.eqv
     have hap := s5 hf hta htb htne c
     obtain ⟨k', hk', e⟩ := hk.join hsw.eqv hta htb hap
     have hk2 : jD (In n) (dl fun x => s (t x)) k' := hk'.iff fun x y hx hy => by
       rw [← lG hsw hta htb hap hx hy, wW]
     have := hk2.eq hf.eqv h2
     exact ⟨k, hk.iff fun x y hx hy => dl.iff hsw hfx hx, .inr ⟨c, by omega⟩⟩
   · obtain ⟨k', hk', e⟩ := h2.join hf.eqv hta htb c
     exact ⟨k', (hk'.iff fun x y hx hy => (lG hf hta htb c hx hy).symm).iff fun x y hx hy => dl.iff hsw hfx hx, .inl ⟨c, e⟩⟩
 obtain ⟨F', hF1, hF2⟩ := hF
 -- what is joined
 have hle := Lk.eqv n s t
 have hle' := Lk.eqv n (TL.sw s a b) t
 have hL : ∀ x y, In n x → In n y → (Jn (Lk n s t) a b x y ↔ Lk n (TL.sw s a b) t x y) := by
   intro x y hx hy
   have hup : ∀ {u v : Int}, Lk n s t u v → Lk n (TL.sw s a b) t u v := fun {u v} huv => huv _ hle' (fun z hz => Lk.orb hs' hz ((lG hs ha hb hab hz (hs.rng z hz)).2 (.inl (dl.step s z)))) (fun z hz => Lk.t hz)
   have hab' : Lk n (TL.sw s a b) t a b := Lk.orb hs' ha (pP hs ha hb hab)
   constructor
   · rintro (e | ⟨e1, e2⟩ | ⟨e1, e2⟩)
     · exact hup e
     · exact hle'.trans _ _ _ hx ha hy (hup e1) (hle'.trans _ _ _ ha hb hy hab' (hup e2))
     · exact hle'.trans _ _ _ hx hb hy (hup e1) (hle'.trans _ _ _ hb ha hy (hle'.symm _ _ ha hb hab') (hup e2))
   · intro h
     refine h _ (Jn.eqv hle ha hb) (fun z hz => ?_) (fun z hz => .inl (Lk.t hz))
     rcases (lG hs ha hb hab hz (hs'.rng z hz)).1 (dl.step _ z) with e | ⟨e1, e2⟩ | ⟨e1, e2⟩
     · exact .inl (Lk.orb hs hz e)
     · exact .inr (.inl ⟨Lk.orb hs hz e1, Lk.orb hs hb e2⟩)
     · exact .inr (.inr ⟨Lk.orb hs hz e1, Lk.orb hs ha e2⟩)
 by_cases c : Lk n s t a b
 · have hC : jD (In n) (Lk n (TL.sw s a b) t) C := h3.iff fun x y hx hy => by
     rw [← hL x y hx hy]
     constructor
     · exact fun e => .inl e
     · rintro (e | ⟨e1, e2⟩ | ⟨e1, e2⟩)
       · exact e
       · exact hle.trans _ _ _ hx ha hy e1 (hle.trans _ _ _ ha hb hy c e2)
       · exact hle.trans _ _ _ hx hb hy e1 (hle.trans _ _ _ hb ha hy (hle.symm _ _ ha hb c) e2)
   refine ⟨_, ⟨V', F', C, hV', hF1, hC, rfl⟩, ?_⟩
   omega
 · obtain ⟨C', hC, eC⟩ := h3.join hle ha hb c
   have hn : ¬ dl (fun x => s (t x)) (t a) (t b) := by
     intro ho
     apply c
     have h4 : Lk n s t (t a) (t b) := (dl.ind (S := fun z => In n z ∧ Lk n s t (t a) z) (fun z hz => ⟨hf.rng z hz.1, hle.trans _ _ _ hta hz.1 (hf.rng z hz.1) hz.2 (hle.trans _ _ _ hz.1 (ht.rng z hz.1) (hf.rng z hz.1) (Lk.t hz.1) (Lk.s (ht.rng z hz.1)))⟩) ho ⟨hta, hle.rfl _ hta⟩).2
     exact hle.trans _ _ _ ha hta hb (Lk.t ha) (hle.trans _ _ _ hta htb hb h4 (hle.symm _ _ hb htb (Lk.t hb)))
   refine ⟨_, ⟨V', F', C', hV', hF1, hC.iff hL, rfl⟩, ?_⟩
   rcases hF2 with ⟨_, e⟩ | ⟨e, _⟩
   · omega
   · exact absurd e hn
end TL
/-
  TlEul: Euler's count of a rotation.
  By an AI agent.
-/
set_option linter.all false
namespace TL
def cy (r : bj) (x : Int) : Int := match r.find? (fun l => decide (x ∈ l)) with
  | some l => nQ l x
  | none => x
theorem jZ {F : bj} (hn : F.flatten.Nodup) {f f' : List Int} (hf : f ∈ F) (hf' : f' ∈ F) {x : Int} (hx : x ∈ f) (hx' : x ∈ f') : f = f' := by
 obtain ⟨A, B, rfl⟩ := List.append_of_mem hf
 rw [List.flatten_append, List.flatten_cons] at hn
 have h1 := List.nodup_append.1 hn
 have h2 := List.nodup_append.1 h1.2.1
 rcases List.mem_append.1 hf' with h | h
 · exact absurd rfl (h1.2.2 x (List.mem_flatten.2 ⟨f', h, hx'⟩) x (List.mem_append.2 (.inl hx)))
 · rcases List.mem_cons.1 h with h | h
   · exact h.symm
   · exact absurd rfl (h2.2.2 x hx x (List.mem_flatten.2 ⟨f', h, hx'⟩))
theorem gL {r : bj} (hn : r.flatten.Nodup) {l : List Int} (hl : l ∈ r) {x : Int} (hx : x ∈ l) : cy r x = nQ l x := by
 unfold cy
 cases h : r.find? (fun l => decide (x ∈ l)) with
 | none =>
   have := List.find?_eq_none.1 h l hl
   simp [hx] at this
 | some l' =>
   have h1 := List.mem_of_find?_eq_some h
   have h2 := List.find?_some h
   simp only [decide_eq_true_eq] at h2
   simp only
   rw [jZ hn hl h1 hx h2]
theorem k7 {r : bj} {x : Int} (hx : x ∉ r.flatten) : cy r x = x := by
 unfold cy
 rw [List.find?_eq_none.2 (fun l hl => by
   simp only [decide_eq_true_eq]
   exact fun hm => hx (List.mem_flatten.2 ⟨l, hl, hm⟩))]
theorem tY {u w : List Int} {x : Int} (hn : (u ++ x :: w).Nodup) (hne : u ++ w ≠ []) : ∃ a ∈ u ++ w, nQ (u ++ x :: w) x = nQ (u ++ w) a ∧ nQ (u ++ x :: w) a = x ∧ ∀ y ∈ u ++ w, y ≠ a → nQ (u ++ x :: w) y = nQ (u ++ w) y := by
 have hne' : w ++ u ≠ [] := fun e => hne (by
   have := List.append_eq_nil_iff.1 e
   rw [this.1, this.2]; rfl)
 obtain ⟨z, a, hz⟩ : ∃ z a, w ++ u = z ++ [a] := ⟨(w ++ u).dropLast, (w ++ u).getLast hne', (List.dropLast_concat_getLast hne').symm⟩
 have hmem : ∀ y, y ∈ u ++ w ↔ y ∈ z ++ [a] := fun y => by rw [← hz, List.mem_append, List.mem_append]; exact Or.comm
 have hsub : List.Sublist (u ++ w) (u ++ x :: w) := List.Sublist.append_left (List.sublist_cons_self _ _) _
 have hn1 : (u ++ w).Nodup := hn.sublist hsub
 have hp : List.Perm (u ++ x :: w) (x :: (w ++ u)) := List.perm_append_comm
 have hn2 : (x :: (w ++ u)).Nodup := hp.nodup_iff.1 hn
 rw [hz] at hn2
 have hn3 := List.nodup_cons.1 hn2
 have hn4 := List.nodup_append.1 hn3.2
 have r1 : ∀ y, y ∈ u ++ x :: w → nQ (u ++ x :: w) y = nQ ((z ++ [a]) ++ [x]) y := fun y hy => by
   have h1 := mR hn hy
   have h2 : (x :: w) ++ u = [x] ++ (z ++ [a]) := by rw [← hz]; rfl
   rw [h1, h2]
   exact mR (by rw [← h2]; exact (List.perm_append_comm.nodup_iff).1 hn) (by rw [← h2]; exact List.perm_append_comm.mem_iff.1 hy)
 have r2 : ∀ y, y ∈ u ++ w → nQ (u ++ w) y = nQ (z ++ [a]) y := fun y hy => by rw [mR hn1 hy, hz]
 have hxz : x ∉ z ++ [a] := hn3.1
 have haz : a ∉ z := fun h => hn4.2.2 a h a (by simp) rfl
 have ha : a ∈ u ++ w := (hmem a).2 (by simp)
 refine ⟨a, ha, ?_, ?_, fun y hy hya => ?_⟩
 · rw [r1 x (by simp), r2 a ha]
   rw [show (z ++ [a]) ++ [x] = (z ++ [a]) ++ x :: [] from rfl, dV hxz, show z ++ [a] = z ++ a :: [] from rfl, dV haz]
   cases z <;> simp [gI]
 · rw [r1 a (hsub.subset ha), List.append_assoc, show z ++ ([a] ++ [x]) = z ++ a :: [x] from rfl, dV haz]
   simp [gI]
 · rw [r1 y (hsub.subset hy), r2 y hy]
   have hyz : y ∈ z := by
     rcases List.mem_append.1 ((hmem y).1 hy) with h | h
     · exact h
     · exact absurd (List.mem_singleton.1 h) hya
   obtain ⟨z1, z2, rfl⟩ := List.append_of_mem hyz
   have hy1 : y ∉ z1 := fun h => (List.nodup_append.1 hn4.1).2.2 y h y (by simp) rfl
   rw [show (z1 ++ y :: z2) ++ [a] ++ [x] = z1 ++ y :: (z2 ++ [a] ++ [x]) by simp, dV hy1, show (z1 ++ y :: z2) ++ [a] = z1 ++ y :: (z2 ++ [a]) by simp, dV hy1]
   cases z2 <;> simp [gI]
theorem wX {A B : bj} {u w : List Int} {x : Int} (hn : (A ++ (u ++ x :: w) :: B).flatten.Nodup) :
   cy (A ++ (u ++ x :: w) :: B) = cy (A ++ (u ++ w) :: B) ∨ ∃ a, a ∈ u ++ w ∧ a ≠ x ∧ cy (A ++ (u ++ w) :: B) x = x ∧ cy (A ++ (u ++ x :: w) :: B) = sw (cy (A ++ (u ++ w) :: B)) x a := by
 have hsub : List.Sublist (A ++ (u ++ w) :: B).flatten (A ++ (u ++ x :: w) :: B).flatten := by
   rw [List.flatten_append, List.flatten_append, List.flatten_cons, List.flatten_cons]
   exact List.Sublist.append_left (List.Sublist.append_right (List.Sublist.append_left (List.sublist_cons_self _ _) _) _) _
 have hn' := hn.sublist hsub
 have hl : (u ++ x :: w) ∈ A ++ (u ++ x :: w) :: B := by simp
 have hl' : (u ++ w) ∈ A ++ (u ++ w) :: B := by simp
 have hrow := hn.sublist (fl hl)
 have hxuw : x ∉ u ++ w := by
   have hp : List.Perm (u ++ x :: w) (x :: (u ++ w)) := List.perm_middle
   exact (List.nodup_cons.1 (hp.nodup_iff.1 hrow)).1
 have hx' : x ∉ (A ++ (u ++ w) :: B).flatten := by
   intro hm
   obtain ⟨f, hf, hxf⟩ := List.mem_flatten.1 hm
   rcases List.mem_append.1 hf with h | h
   · have := jZ hn (f := f) (f' := u ++ x :: w) (by simp [h]) hl hxf (by simp)
     rw [List.flatten_append] at hn
     exact (List.nodup_append.1 hn).2.2 x (List.mem_flatten.2 ⟨f, h, hxf⟩) x (by simp) rfl
   · rcases List.mem_cons.1 h with h | h
     · rw [h] at hxf; exact hxuw hxf
     · rw [List.flatten_append, List.flatten_cons] at hn
       exact (List.nodup_append.1 (List.nodup_append.1 hn).2.1).2.2 x (by simp) x (List.mem_flatten.2 ⟨f, h, hxf⟩) rfl
 -- everything but the one row
 have other : ∀ y, y ∉ u ++ x :: w → cy (A ++ (u ++ x :: w) :: B) y = cy (A ++ (u ++ w) :: B) y := by
   intro y hy
   by_cases hm : y ∈ (A ++ (u ++ x :: w) :: B).flatten
   · obtain ⟨f, hf, hyf⟩ := List.mem_flatten.1 hm
     have hf' : f ∈ A ++ (u ++ w) :: B := by
       rcases List.mem_append.1 hf with h | h
       · simp [h]
       · rcases List.mem_cons.1 h with h | h
         · rw [h] at hyf; exact absurd hyf hy
         · simp [h]
     rw [gL hn hf hyf, gL hn' hf' hyf]
   · rw [k7 hm, k7 fun h => hm (hsub.subset h)]
 by_cases he : u ++ w = []
 · refine .inl (funext fun y => ?_)
   by_cases hy : y ∈ u ++ x :: w
   · have hu := List.append_eq_nil_iff.1 he
     have hyx : y = x := by
       rw [hu.1, hu.2] at hy; simpa using hy
     rw [hyx, k7 hx', gL hn hl (by simp), hu.1, hu.2]
     simp [nQ, gI]
   · exact other y hy
 · obtain ⟨a, ha, k1, k2, k3⟩ := tY hrow he
   have hax : a ≠ x := fun e => hxuw (by rw [← e]; exact ha)
   have ha2 : a ∈ u ++ x :: w := (List.Sublist.append_left (List.sublist_cons_self _ _) _).subset ha
   refine .inr ⟨a, ha, hax, k7 hx', funext fun y => ?_⟩
   by_cases hyx : y = x
   · rw [hyx, sB, gL hn hl (by simp), gL hn' hl' ha, k1]
   · by_cases hya : y = a
     · rw [hya, vK, k7 hx', gL hn hl ha2, k2]
     · rw [rk _ hyx hya]
       by_cases hy : y ∈ u ++ x :: w
       · have hy2 : y ∈ u ++ w := by
           rcases List.mem_append.1 hy with h | h
           · simp [h]
           · rcases List.mem_cons.1 h with h | h
             · exact absurd h hyx
             · simp [h]
         rw [gL hn hl hy, gL hn' hl' hy2, k3 y hy2 hya]
       · exact other y hy
def tQ (x : Int) (r : bj) : bj := r.map fun l => l.filter fun y => decide (y ≠ x)
def qr (L : List Int) (r : bj) : bj := r.map fun l => l.filter fun y => decide (y ∉ L)
theorem sJ (x : Int) (L : List Int) (r : bj) : qr (x :: L) r = tQ x (qr L r) := by
 unfold qr tQ
 rw [List.map_map]
 apply List.map_congr_left
 intro l _
 simp only [Function.comp]
 rw [List.filter_filter]
 apply List.filter_congr
 intro y _
 simp
theorem tg (L : List Int) (r : bj) : List.Sublist (qr L r).flatten r.flatten := by
 induction r with
 | nil => simp [qr]
 | cons l r ih =>
   have : qr L (l :: r) = (l.filter fun y => decide (y ∉ L)) :: qr L r := rfl
   rw [this, List.flatten_cons, List.flatten_cons]
   exact List.Sublist.append List.filter_sublist ih
theorem oZ {x : Int} {A : bj} (h : ∀ l ∈ A, x ∉ l) : tQ x A = A := by
 unfold tQ
 conv => rhs; rw [← List.map_id A]
 apply List.map_congr_left
 intro l hl
 refine List.filter_eq_self.2 fun y hy => ?_
 simp only [decide_eq_true_eq]
 exact fun e => h l hl (by rw [← e]; exact hy)
theorem sC {x : Int} {A : List Int} (h : x ∉ A) : (A.filter fun y => decide (y ≠ x)) = A :=
 List.filter_eq_self.2 fun y hy => by
   simp only [decide_eq_true_eq]
   exact fun e => h (by rw [← e]; exact hy)
theorem up {n : Int} {t : Int → Int} (ht : Tw n t) {r : bj} {x : Int} (hn : r.flatten.Nodup) (hin : ∀ y ∈ r.flatten, In n y) (hp : Pm n (cy (tQ x r))) :
   Pm n (cy r) ∧ ∀ d, Ec n t (cy (tQ x r)) d → ∃ d', Ec n t (cy r) d' ∧ (d' = d ∨ d' = d + 2) := by
 by_cases hx : x ∈ r.flatten
 · obtain ⟨l, hl, hxl⟩ := List.mem_flatten.1 hx
   obtain ⟨A, B, rfl⟩ := List.append_of_mem hl
   obtain ⟨u, w, rfl⟩ := List.append_of_mem hxl
   have hn0 := hn
   rw [List.flatten_append, List.flatten_cons] at hn0
   have n1 := List.nodup_append.1 hn0
   have n2 := List.nodup_append.1 n1.2.1
   have hrow := n2.1
   have hxuw : x ∉ u ++ w := by
     have hp : List.Perm (u ++ x :: w) (x :: (u ++ w)) := List.perm_middle
     exact (List.nodup_cons.1 (hp.nodup_iff.1 hrow)).1
   have e1 : tQ x (A ++ (u ++ x :: w) :: B) = A ++ (u ++ w) :: B := by
     have eA := oZ (x := x) (A := A) (fun l hl hm => n1.2.2 x (List.mem_flatten.2 ⟨l, hl, hm⟩) x (by simp) rfl)
     have eB := oZ (x := x) (A := B) (fun l hl hm => n2.2.2 x (by simp) x (List.mem_flatten.2 ⟨l, hl, hm⟩) rfl)
     unfold tQ at eA eB ⊢
     rw [List.map_append, List.map_cons, eA, eB, List.filter_append, List.filter_cons, if_neg (by simp), sC (fun h => hxuw (by simp [h])), sC (fun h => hxuw (by simp [h]))]
   rw [e1] at hp ⊢
   have hxi := hin x hx
   rcases wX hn with e | ⟨a, ha, hax, hxx, e⟩
   · rw [e]; exact ⟨hp, fun d hd => ⟨d, hd, .inl rfl⟩⟩
   · have hai : In n a := hin a (by
       rw [List.flatten_append, List.flatten_cons]
       rcases List.mem_append.1 ha with h | h <;> simp [h])
     rw [e]
     refine ⟨hp.sw hxi hai, fun d hd => hd.sw ht hp hxi hai fun ho => hax ?_⟩
     exact (dl.ind (S := fun z => z = x) (fun z hz => by rw [hz]; exact hxx) ho rfl)
 · have e1 : tQ x r = r := oZ fun l hl hm => hx (List.mem_flatten.2 ⟨l, hl, hm⟩)
   rw [e1] at hp ⊢
   exact ⟨hp, fun d hd => ⟨d, hd, .inl rfl⟩⟩
theorem oq {n : Int} {t : Int → Int} (ht : Tw n t) {r : bj} (hn : r.flatten.Nodup) (hin : ∀ y ∈ r.flatten, In n y) : ∀ L : List Int, Pm n (cy (qr L r)) →
   Pm n (cy r) ∧ ∀ d, Ec n t (cy (qr L r)) d → ∃ d', Ec n t (cy r) d' ∧ d ≤ d' ∧ (d' - d) % 2 = 0
 | [], hp => by
   have e : qr [] r = r := by
     unfold qr
     conv => rhs; rw [← List.map_id r]
     apply List.map_congr_left
     intro l _
     exact List.filter_eq_self.2 fun y _ => by simp
   rw [e] at hp ⊢
   exact ⟨hp, fun d hd => ⟨d, hd, Int.le_refl _, by omega⟩⟩
 | x :: L, hp => by
   rw [sJ] at hp ⊢
   have hs := tg L r
   obtain ⟨h1, h2⟩ := up ht (hn.sublist hs) (fun y hy => hin y (hs.subset hy)) hp
   obtain ⟨h3, h4⟩ := oq ht hn hin L h1
   refine ⟨h3, fun d hd => ?_⟩
   obtain ⟨d1, k1, k2⟩ := h2 d hd
   obtain ⟨d2, k3, k4, k5⟩ := h4 d1 k1
   exact ⟨d2, k3, by omega, by omega⟩
theorem kA (m : Nat) : Tw (2 * (m : Int)) bK :=
 ⟨fun x hx => eJ hx.1 hx.2, fun x hx => iA hx.1⟩
theorem lW {x : Int} (h : 0 ≤ x) : bK x / 2 = x / 2 := by
 unfold bK; split <;> omega
theorem uI (m : Nat) : Pm (2 * (m : Int)) (fun x => x) ∧ Ec (2 * (m : Int)) bK (fun x => x) (-(m : Int)) := by
 have hpid : Pm (2 * (m : Int)) (fun x => x) := ⟨fun x hx => hx, fun x y _ _ e => e⟩
 have ht := kA m
 have hpt : Pm (2 * (m : Int)) (fun x => (fun x => x) (bK x)) := ht.comp hpid
 refine ⟨hpid, 2 * m, m, m, ⟨c7 (2 * m), ⟨gD _, fun x hx => by have := cQ.1 hx; exact ⟨by omega, by omega⟩, fun x hx => ⟨x, cQ.2 ⟨hx.1, by have := hx.2; omega⟩, dl.refl _ _⟩, fun x hx y hy h => ?_⟩, cP _⟩, ?_, ?_, by omega⟩
 · exact (dl.ind (S := fun z => z = x) (fun z hz => hz) h rfl).symm
 · refine ⟨(c7 m).map fun i => 2 * i, ⟨dU (gD _) (fun x _ y _ e => by omega), fun x hx => ?_, fun x hx => ?_, fun x hx y hy h => ?_⟩, by rw [List.length_map, cP]⟩
   · obtain ⟨i, hi, rfl⟩ := List.mem_map.1 hx
     have := cQ.1 hi
     exact ⟨by omega, by omega⟩
   · have hx1 := hx.1
     have hx2 := hx.2
     refine ⟨2 * (x / 2), List.mem_map.2 ⟨x / 2, cQ.2 ⟨by omega, by omega⟩, rfl⟩, ?_⟩
     by_cases e : x % 2 = 0
     · rw [show 2 * (x / 2) = x by omega]; exact dl.refl _ _
     · have h1 := dl.step (fun x => (fun x => x) (bK x)) x
       have h2 : bK x = 2 * (x / 2) := by unfold bK; rw [if_neg e]; omega
       simp only at h1
       rwa [h2] at h1
   · obtain ⟨i, hi, rfl⟩ := List.mem_map.1 hx
     obtain ⟨j, hj, rfl⟩ := List.mem_map.1 hy
     have := cQ.1 hi
     have := (dl.ind (S := fun z => 0 ≤ z ∧ z / 2 = i) (fun z hz => ⟨by show 0 ≤ bK z; unfold bK; split <;> omega, by show bK z / 2 = i; rw [lW hz.1]; exact hz.2⟩) h ⟨by omega, by omega⟩).2
     omega
 · refine ⟨(c7 m).map fun i => 2 * i, ⟨dU (gD _) (fun x _ y _ e => by omega), fun x hx => ?_, fun x hx => ?_, fun x hx y hy h => ?_⟩, by rw [List.length_map, cP]⟩
   · obtain ⟨i, hi, rfl⟩ := List.mem_map.1 hx
     have := cQ.1 hi
     exact ⟨by omega, by omega⟩
   · have hx1 := hx.1
     have hx2 := hx.2
     refine ⟨2 * (x / 2), List.mem_map.2 ⟨x / 2, cQ.2 ⟨by omega, by omega⟩, rfl⟩, ?_⟩
     by_cases e : x % 2 = 0
     · rw [show 2 * (x / 2) = x by omega]; exact (Lk.eqv _ _ _).rfl x hx
     · have h1 : Lk (2 * (m : Int)) (fun x => x) bK x (bK x) := Lk.t hx
       have h2 : bK x = 2 * (x / 2) := by unfold bK; rw [if_neg e]; omega
       rwa [h2] at h1
   · obtain ⟨i, hi, rfl⟩ := List.mem_map.1 hx
     obtain ⟨j, hj, rfl⟩ := List.mem_map.1 hy
     have := h (fun u v => u / 2 = v / 2) ⟨fun _ _ => rfl, fun _ _ _ _ e => e.symm, fun _ _ _ _ _ _ e f => e.trans f⟩ (fun x _ => rfl) (fun x hx => (lW hx.1).symm)
     omega
theorem wH {m : Nat} {r : bj} (hn : r.flatten.Nodup) (hin : ∀ y ∈ r.flatten, In (2 * (m : Int)) y) :
   Pm (2 * (m : Int)) (cy r) ∧ ∃ d, Ec (2 * (m : Int)) bK (cy r) d ∧ -(m : Int) ≤ d ∧ (d + m) % 2 = 0 := by
 have e0 : cy (qr r.flatten r) = fun x => x := funext fun x => k7 fun hm => by
   obtain ⟨l, hl, hx⟩ := List.mem_flatten.1 hm
   unfold qr at hl
   obtain ⟨l', hl', rfl⟩ := List.mem_map.1 hl
   obtain ⟨h1, h2⟩ := List.mem_filter.1 hx
   simp only [decide_eq_true_eq] at h2
   exact h2 (List.mem_flatten.2 ⟨l', hl', h1⟩)
 obtain ⟨b1, b2⟩ := uI m
 obtain ⟨h1, h2⟩ := oq (kA m) hn hin r.flatten (by rw [e0]; exact b1)
 obtain ⟨d, k1, k2, k3⟩ := h2 (-(m : Int)) (by rw [e0]; exact b2)
 exact ⟨h1, d, k1, k2, by omega⟩
end TL
/-
  TlEul2: faces, each half-edge on one; the genus by Euler's count.
  By an AI agent.
-/
set_option linter.all false
namespace TL
theorem ms {nx : List Int} (hp : Pm nx.length (gI nx)) : ∀ (n : Nat) (seen : List Int) (k : Int), seen.Nodup → (∀ x ∈ seen, In nx.length x) → seen.length + n = nx.length → In nx.length k →
   (seen ++ fG nx n seen k).Nodup ∧ (∀ x ∈ fG nx n seen k, In nx.length x) ∧ k ∈ seen ++ fG nx n seen k ∧ (∀ x ∈ fG nx n seen k, dl (gI nx) k x) ∧ (∀ x ∈ fG nx n seen k, gI nx x ∈ seen ++ fG nx n seen k) ∧
   (∀ i : Nat, i + 1 < (fG nx n seen k).length → gI (fG nx n seen k) ((i : Int) + 1) = gI nx (gI (fG nx n seen k) (i : Int))) ∧ (fG nx n seen k ≠ [] → gI (fG nx n seen k) 0 = k)
 | 0, seen, k, hn, hin, hl, hk => by
   have hm := m9 hn (n := nx.length) hin (by omega) hk.1 hk.2
   simp [fG, hn, hm]
 | n + 1, seen, k, hn, hin, hl, hk => by
   simp only [fG]
   by_cases c : k ∈ seen
   · rw [if_pos c]; simp [hn, c]
   · rw [if_neg c]
     have hk' := hp.rng k hk
     obtain ⟨a1, a2, a3, a4, a5, a6, a7⟩ := ms hp n (seen ++ [k]) (gI nx k) (List.nodup_append.2 ⟨hn, by simp, fun a ha b hb e => by
       obtain rfl := List.mem_singleton.1 hb
       rw [e] at ha; exact c ha⟩) (fun x hx => by
       rcases List.mem_append.1 hx with h | h
       · exact hin x h
       · obtain rfl := List.mem_singleton.1 h; exact hk) (by simp; omega) hk'
     rw [List.append_assoc] at a1 a3 a5
     refine ⟨a1, fun x hx => ?_, by simp, fun x hx => ?_, fun x hx => ?_, fun i hi => ?_, fun _ => by simp [gI]⟩
     · rcases List.mem_cons.1 hx with rfl | hx
       · exact hk
       · exact a2 x hx
     · rcases List.mem_cons.1 hx with rfl | hx
       · exact dl.refl _ _
       · exact (dl.step (gI nx) k).trans (a4 x hx)
     · rcases List.mem_cons.1 hx with rfl | hx
       · exact a3
       · exact a5 x hx
     · have e0 : ∀ j : Nat, gI (k :: fG nx n (seen ++ [k]) (gI nx k)) ((j : Int) + 1) = gI (fG nx n (seen ++ [k]) (gI nx k)) (j : Int) := fun j => by
         unfold gI
         rw [show ((j : Int) + 1).toNat = j + 1 by omega]
         simp
       rw [e0]
       cases i with
       | zero =>
         have hne : fG nx n (seen ++ [k]) (gI nx k) ≠ [] := fun e => by rw [e] at hi; simp at hi
         have := a7 hne
         simpa [gI] using this
       | succ i =>
         simp only [List.length_cons] at hi
         have := a6 i (by omega)
         rw [show (((i + 1 : Nat) : Int)) = (i : Int) + 1 by omega, this, e0]
structure vh (nx S : List Int) (f : List Int) : Prop where
  ne : f ≠ []
  notS : ∀ x ∈ f, x ∉ S
  inn : ∀ x ∈ f, In nx.length x
  orb : ∀ x ∈ f, dl (gI nx) (gI f 0) x
  cls : ∀ x ∈ f, gI nx x ∈ f
  chain : ∀ i : Nat, i + 1 < f.length → gI f ((i : Int) + 1) = gI nx (gI f (i : Int))
theorem pY {nx S : List Int} (hp : Pm nx.length (gI nx)) (hn : S.Nodup) (hin : ∀ x ∈ S, In nx.length x) (hc : ∀ x ∈ S, gI nx x ∈ S) {h : Int} (hh : In nx.length h) (hS : h ∉ S) :
   vh nx S (ey nx S h) ∧ gI (ey nx S h) 0 = h ∧ (S ++ ey nx S h).Nodup ∧ h ∈ ey nx S h := by
 have hlen := fk (n := (nx.length : Int)) (by omega) hn hin
 obtain ⟨a1, a2, a3, a4, a5, a6, a7⟩ := ms hp (nx.length - S.length) S h hn hin (by omega) hh
 change (S ++ ey nx S h).Nodup at a1
 change ∀ x ∈ ey nx S h, In nx.length x at a2
 change h ∈ S ++ ey nx S h at a3
 change ∀ x ∈ ey nx S h, dl (gI nx) h x at a4
 change ∀ x ∈ ey nx S h, gI nx x ∈ S ++ ey nx S h at a5
 change ∀ i : Nat, i + 1 < (ey nx S h).length → gI (ey nx S h) ((i : Int) + 1) = gI nx (gI (ey nx S h) (i : Int)) at a6
 change ey nx S h ≠ [] → gI (ey nx S h) 0 = h at a7
 have hmem : h ∈ ey nx S h := (List.mem_append.1 a3).resolve_left hS
 have hne : ey nx S h ≠ [] := fun e => by rw [e] at hmem; cases hmem
 have h0 := a7 hne
 have hd : ∀ x ∈ ey nx S h, x ∉ S := fun x hx hxS => (List.nodup_append.1 a1).2.2 x hxS x hx rfl
 refine ⟨⟨hne, hd, a2, fun x hx => by rw [h0]; exact a4 x hx, fun x hx => ?_, a6⟩, h0, a1, hmem⟩
 rcases List.mem_append.1 (a5 x hx) with hs | hs
 · have hb := hp.eqv.symm _ _ (a2 x hx) (hp.rng x (a2 x hx)) (dl.step (gI nx) x)
   exact absurd (dl.ind (S := fun z => z ∈ S) hc hb hs) (hd x hx)
 · exact hs
theorem ig {nx : List Int} (hp : Pm nx.length (gI nx)) : ∀ (l S : List Int), S.Nodup → (∀ x ∈ S, In nx.length x) → (∀ x ∈ S, gI nx x ∈ S) → (∀ x ∈ l, In nx.length x) →
   (∀ f ∈ cm nx l S, vh nx S f ∧ gI f 0 ∈ l) ∧ (S ++ (cm nx l S).flatten).Nodup ∧ ∀ h ∈ l, h ∈ S ++ (cm nx l S).flatten
 | [], S, hn, _, _, _ => by simp [cm, hn]
 | a :: l, S, hn, hin, hc, hl => by
   have ha := hl a (by simp)
   simp only [cm]
   by_cases c : a ∈ S
   · rw [if_pos c]
     obtain ⟨h1, h2, h3⟩ := ig hp l S hn hin hc (fun x hx => hl x (by simp [hx]))
     refine ⟨fun f hf => ⟨(h1 f hf).1, by simp [(h1 f hf).2]⟩, h2, fun h hh => ?_⟩
     rcases List.mem_cons.1 hh with rfl | hh
     · simp [c]
     · exact h3 h hh
   · rw [if_neg c]
     obtain ⟨k1, k2, k3, k4⟩ := pY hp hn hin hc ha c
     obtain ⟨h1, h2, h3⟩ := ig hp l (S ++ ey nx S a) k3 (fun x hx => by
       rcases List.mem_append.1 hx with h | h
       · exact hin x h
       · exact k1.inn x h) (fun x hx => by
       rcases List.mem_append.1 hx with h | h
       · simp [hc x h]
       · simp [k1.cls x h]) (fun x hx => hl x (by simp [hx]))
     rw [List.append_assoc] at h2 h3
     refine ⟨fun f hf => ?_, by rw [List.flatten_cons]; exact h2, fun h hh => ?_⟩
     · rcases List.mem_cons.1 hf with rfl | hf
       · exact ⟨k1, by rw [k2]; simp⟩
       · have := h1 f hf
         exact ⟨⟨this.1.ne, fun x hx hxS => this.1.notS x hx (by simp [hxS]), this.1.inn, this.1.orb, this.1.cls, this.1.chain⟩, by simp [this.2]⟩
     · rw [List.flatten_cons]
       rcases List.mem_cons.1 hh with rfl | hh
       · simp [k4]
       · exact h3 h hh
theorem jc {f : List Int} (h : f ≠ []) : gI f 0 ∈ f := by
 cases f with
 | nil => exact absurd rfl h
 | cons a l => simp [gI]
theorem my : ∀ (F : bj), (∀ f ∈ F, f ≠ []) → List.Sublist (F.map fun f => gI f 0) F.flatten
 | [], _ => by simp
 | f :: F, h => by
   rw [List.map_cons, List.flatten_cons]
   have ih := my F (fun x hx => h x (by simp [hx]))
   cases f with
   | nil => exact absurd rfl (h [] (by simp))
   | cons a l =>
     have : gI (a :: l) 0 = a := by simp [gI]
     rw [this, List.cons_append]
     exact (ih.trans (List.sublist_append_right _ _)).cons₂ a
theorem jQ {nx : List Int} (hp : Pm nx.length (gI nx)) : (∀ f ∈ cm nx (c7 nx.length) [], vh nx [] f) ∧ (cm nx (c7 nx.length) []).flatten.Nodup ∧ (∀ h, In nx.length h → h ∈ (cm nx (c7 nx.length) []).flatten) ∧ Tr (In nx.length) (dl (gI nx)) ((cm nx (c7 nx.length) []).map fun f => gI f 0) := by
  obtain ⟨h1, h2, h3⟩ := ig hp (c7 nx.length) [] (by simp) (by simp) (by simp) (fun x hx => by have := cQ.1 hx; exact ⟨by omega, by omega⟩)
  rw [List.nil_append] at h2 h3
  have h3' : ∀ h, In nx.length h → h ∈ (cm nx (c7 nx.length) []).flatten := fun h hh => h3 h (cQ.2 ⟨hh.1, by have := hh.2; omega⟩)
  refine ⟨fun f hf => (h1 f hf).1, h2, h3', ⟨h2.sublist (my _ fun f hf => (h1 f hf).1.ne), fun x hx => ?_, fun x hx => ?_, fun x hx y hy hxy => ?_⟩⟩
  · obtain ⟨f, hf, rfl⟩ := List.mem_map.1 hx
    exact (h1 f hf).1.inn _ (jc (h1 f hf).1.ne)
  · obtain ⟨f, hf, hxf⟩ := List.mem_flatten.1 (h3' x hx)
    exact ⟨_, List.mem_map.2 ⟨f, hf, rfl⟩, hp.eqv.symm _ _ ((h1 f hf).1.inn _ (jc (h1 f hf).1.ne)) hx ((h1 f hf).1.orb x hxf)⟩
  · obtain ⟨f, hf, rfl⟩ := List.mem_map.1 hx
    obtain ⟨f', hf', rfl⟩ := List.mem_map.1 hy
    have hy' := dl.ind (S := fun z => z ∈ f) (h1 f hf).1.cls hxy (jc (h1 f hf).1.ne)
    rw [jZ h2 hf hf' hy' (jc (h1 f' hf').1.ne)]
section
variable {g : bZ} {r : bj}
theorem oU (hr : cf g r) : ∀ y ∈ r.flatten, In (2 * (g.2.length : Int)) y := fun y hy => by
 obtain ⟨l, hl, hyl⟩ := List.mem_flatten.1 hy
 obtain ⟨v, hv, e⟩ := List.mem_iff_getElem.1 hl
 have ev : gI r (v : Int) = l := by rw [← e]; simp [gI, hv]
 exact (hr.2.1 v hv y (by rw [ev]; exact hyl)).1
theorem ub (hr : cf g r) {x : Int} (hx : In (2 * (g.2.length : Int)) x) : cy r x = et r x := by
 obtain ⟨v, hv, hh⟩ := rJ hr hx.1 hx.2
 rw [qO hr hv hh, gL hr.2.2.1 (bu (xs := r) (i := (v : Int)) (by omega) hv) hh]
theorem wh (hr : cf g r) : Pm (2 * (g.2.length : Int)) (cy r) := (wH hr.2.2.1 (oU hr)).1
theorem nb (hr : cf g r) : Pm (aw g r).length (gI (aw g r)) ∧ ∀ x, In (2 * (g.2.length : Int)) x → gI (aw g r) x = cy r (bK x) := by
 have hl := dW g r
 have h1 : ∀ x, In (2 * (g.2.length : Int)) x → gI (aw g r) x = cy r (bK x) := fun x hx => by
   rw [jj hx.1 hx.2, ub hr ((kA g.2.length).rng x hx)]
 refine ⟨?_, h1⟩
 rw [hl]
 exact ((kA g.2.length).comp (wh hr)).congr fun x hx => (h1 x hx).symm
end
end TL
/-
  TlDfs: components found by a stack: the document's way.
  By an AI agent.
-/
set_option linter.all false
namespace TL
def jF (c : List Int) : Nat := (c.filter fun x => decide (x < 0)).length
theorem om {c : List Int} {w n : Int} (h0 : 0 ≤ w) (h1 : w < c.length) (hc : gI c w < 0) (hn : 0 ≤ n) : jF (c.set w.toNat n) + 1 = jF c := by
 have hlt : w.toNat < c.length := by omega
 have e0 : gI c w = c[w.toNat] := by simp [gI, hlt]
 have e1 : c = c.take w.toNat ++ c[w.toNat] :: c.drop (w.toNat + 1) := by
   rw [← List.drop_eq_getElem_cons hlt, List.take_append_drop]
 have e2 : c.set w.toNat n = c.take w.toNat ++ n :: c.drop (w.toNat + 1) := List.set_eq_take_append_cons_drop.trans (if_pos hlt)
 rw [e2]
 conv => rhs; rw [e1]
 unfold jF
 rw [List.filter_append, List.filter_append, List.filter_cons, List.filter_cons, if_neg (by simp; omega), if_pos (by rw [← e0]; simpa using hc)]
 simp
 omega
theorem u9 (c : List Int) : jF c ≤ c.length := List.length_filter_le _ _
theorem s3 {g : bZ} {v : Int} (h0 : 0 ≤ v) (h1 : v < g.1) : gI (cb g) v = cZ g v := by
 unfold cb gI
 have : v.toNat < g.1.toNat := by omega
 simp [List.getD_eq_getElem?_getD, this]
 congr 1
 omega
theorem qP (g : bZ) (h : 0 ≤ g.1) : ((cb g).length : Int) = g.1 := by simp [cb]; omega
structure eF (g : bZ) (c0 c todo x : List Int) (n s : Int) : Prop where
  len : (c.length : Int) = g.1
  n0 : 0 ≤ n
  sd : lj g s
  pre : ∀ w, lj g w → Cn g s w → gI c0 w < 0
  cmp : ∀ w, lj g w → (Cn g s w ∧ gI c w = n) ∨ gI c w = gI c0 w
  nd : todo.Nodup
  tds : ∀ t ∈ todo, lj g t ∧ Cn g s t ∧ gI c t = n
  clo : ∀ v, lj g v → Cn g s v → gI c v = n → v ∉ todo → v ∉ x → ∀ h ∈ cZ g v, 0 ≤ gI c (dO g h)
  src : gI c s = n
theorem eF.start {g : bZ} (hm : bx g) {c0 : List Int} {n : Int} {q : Nat} (hq : (q : Int) < g.1) (h : c0 = (bJ g q).1 ∧ n = (bJ g q).2) (c : ¬ 0 ≤ gI c0 (q : Int)) : eF g c0 (c0.set (q : Int).toNat n) [(q : Int)] [] n (q : Int) := by
 obtain ⟨l, hi⟩ := lF hm q (by omega)
 obtain ⟨rfl, rfl⟩ := h
 have hqd : lj g (q : Int) := ⟨by omega, hq⟩
 have hn : 0 ≤ (bJ g q).2 := by rw [hi.num]; omega
 have hlen := hi.len
 have hcn := Cn.eqv g
 have hpre : ∀ w, lj g w → Cn g (q : Int) w → gI (bJ g q).1 w < 0 := fun w hw hc => by
   refine Int.not_le.1 fun h0 => c ?_
   obtain ⟨y, hy, hwy⟩ := (hi.iff w hw).1 h0
   exact (hi.iff _ hqd).2 ⟨y, hy, hcn.trans _ _ _ hqd hw (hi.dom y hy) hc hwy⟩
 have hset : ∀ w, lj g w → gI ((bJ g q).1.set (q : Int).toNat (bJ g q).2) w = if w = q then (bJ g q).2 else gI (bJ g q).1 w := fun w hw => cu (by omega) (by omega) hw.1
 refine ⟨by simpa using hlen, hn, hqd, hpre, fun w hw => ?_, by simp, fun t ht => ?_, fun v hv hc e hnt _ => ?_, ?_⟩
 · rw [hset w hw]
   by_cases e : w = q
   · subst e; exact .inl ⟨hcn.rfl _ hqd, if_pos rfl⟩
   · rw [if_neg e]; exact .inr rfl
 · obtain rfl := List.mem_singleton.1 ht
   exact ⟨hqd, hcn.rfl _ hqd, by rw [hset _ hqd, if_pos rfl]⟩
 · have hne : v ≠ q := fun e => hnt (by simp [e])
   rw [hset v hv, if_neg hne] at e
   have := hpre v hv hc
   omega
 · rw [hset _ hqd, if_pos rfl]
section
variable {g : bZ} {c0 c todo x : List Int} {n s : Int}
theorem eF.bd (h : eF g c0 c todo x n s) : (todo.length : Int) ≤ g.1 := by
 have h1 := h.sd.1
 have h2 := h.sd.2
 exact fk (by omega) h.nd (fun t ht => (h.tds t ht).1)
theorem eF.pop (h : eF g c0 c todo [] n s) (ht : 0 < todo.length) : eF g c0 c (todo.take (todo.length - 1)) [gI todo ((todo.length : Int) - 1)] n s ∧ lj g (gI todo ((todo.length : Int) - 1)) ∧ Cn g s (gI todo ((todo.length : Int) - 1)) ∧ gI c (gI todo ((todo.length : Int) - 1)) = n := by
 have hm := bu (xs := todo) (i := (todo.length : Int) - 1) (by omega) (by omega)
 have hs := bh (xs := todo) (k := todo.length - 1) (by omega)
 rw [List.take_of_length_le (by omega), show ((todo.length - 1 : Nat) : Int) = (todo.length : Int) - 1 by omega] at hs
 refine ⟨⟨h.len, h.n0, h.sd, h.pre, h.cmp, h.nd.sublist (List.take_sublist _ _), fun t ht => h.tds t (List.mem_of_mem_take ht), fun v hv hc e hnt hnx => h.clo v hv hc e (fun hm => ?_) (by simp), h.src⟩, h.tds _ hm⟩
 rw [hs] at hm
 rcases List.mem_append.1 hm with hm | hm
 · exact hnt hm
 · exact hnx hm
theorem eF.push (hm : bx g) (h : eF g c0 c todo x n s) {v : Int} (hv : lj g v) (hc : Cn g s v) {hh : Int} (hh0 : hh ∈ cZ g v) (hw : gI c (dO g hh) < 0) : eF g c0 (c.set (dO g hh).toNat n) (todo ++ [dO g hh]) x n s ∧ ∀ u, 0 ≤ u → 0 ≤ gI c u → 0 ≤ gI (c.set (dO g hh).toNat n) u := by
 obtain ⟨⟨a1, a2⟩, a3⟩ := f4 hh0
 have hto := gj hm a1 a2
 have hlen := h.len
 have hn := h.n0
 have hcw : Cn g s (dO g hh) := (Cn.eqv g).trans _ _ _ h.sd hv hto hc (by have := Cn.half hm a1 a2; rwa [a3] at this)
 have hset : ∀ u, 0 ≤ u → gI (c.set (dO g hh).toNat n) u = if u = dO g hh then n else gI c u := fun u h0 => cu hto.1 (by omega) h0
 have hmono : ∀ u, 0 ≤ u → 0 ≤ gI c u → 0 ≤ gI (c.set (dO g hh).toNat n) u := fun u h0 h1 => by
   rw [hset u h0]; split <;> omega
 refine ⟨⟨by simpa using hlen, hn, h.sd, h.pre, fun w hwd => ?_, ?_, fun t ht => ?_, fun v' hv' hc' e hnt hnx h' hh' => ?_, ?_⟩, hmono⟩
 · rw [hset w hwd.1]
   by_cases e : w = dO g hh
   · subst e; exact .inl ⟨hcw, if_pos rfl⟩
   · rw [if_neg e]; exact h.cmp w hwd
 · rw [List.nodup_append]
   refine ⟨h.nd, by simp, fun a ha b hb e => ?_⟩
   obtain rfl := List.mem_singleton.1 hb
   have := (h.tds a ha).2.2
   rw [e] at this
   omega
 · rcases List.mem_append.1 ht with ht | ht
   · obtain ⟨b1, b2, b3⟩ := h.tds t ht
     refine ⟨b1, b2, ?_⟩
     rw [hset t b1.1]; split
     · rfl
     · exact b3
   · obtain rfl := List.mem_singleton.1 ht
     exact ⟨hto, hcw, by rw [hset _ hto.1, if_pos rfl]⟩
 · have hne : v' ≠ dO g hh := fun e => hnt (by simp [e])
   rw [hset v' hv'.1, if_neg hne] at e
   have b := f4 hh'
   exact hmono _ (gj hm b.1.1 b.1.2).1 (h.clo v' hv' hc' e (fun hm => hnt (by simp [hm])) hnx h' hh')
 · rw [hset s h.sd.1]; split
   · rfl
   · exact h.src
structure hH (g : bZ) (c0 c todo : List Int) (n s v : Int) (k M : Nat) : Prop where
  inv : eF g c0 c todo [v] n s
  vd : lj g v
  vc : Cn g s v
  row : ∀ i : Nat, i < k → (i : Int) < (cZ g v).length → 0 ≤ gI c (dO g (gI (cZ g v) (i : Int)))
  meas : todo.length + 2 * jF c < M
theorem eF.row (h : eF g c0 c todo [] n s) (ht : 0 < todo.length) : hH g c0 c (todo.take (todo.length - 1)) n s (gI todo ((todo.length : Int) - 1)) 0 (todo.length + 2 * jF c) := by
 obtain ⟨h1, h2, h3, h4⟩ := h.pop ht
 exact ⟨h1, h2, h3, fun i hi => by omega, by rw [List.length_take]; omega⟩
variable {v : Int} {k M : Nat}
theorem hH.skip (h : hH g c0 c todo n s v k M) (hk : 0 ≤ gI c (dO g (gI (cZ g v) (k : Int)))) : hH g c0 c todo n s v (k + 1) M :=
 ⟨h.inv, h.vd, h.vc, fun i hi hl => by
   by_cases e : i = k
   · subst e; exact hk
   · exact h.row i (by omega) hl, h.meas⟩
theorem hH.push (hm : bx g) (h : hH g c0 c todo n s v k M) (hl : (k : Int) < (cZ g v).length) (hk : ¬ 0 ≤ gI c (dO g (gI (cZ g v) (k : Int)))) : hH g c0 (c.set (dO g (gI (cZ g v) (k : Int))).toNat n) (todo ++ [dO g (gI (cZ g v) (k : Int))]) n s v (k + 1) M := by
 have hmem := bu (xs := cZ g v) (i := (k : Int)) (by omega) hl
 obtain ⟨h1, h2⟩ := h.inv.push hm h.vd h.vc hmem (by omega)
 have b := f4 hmem
 have hto := gj hm b.1.1 b.1.2
 have hlen := h.inv.len
 have hn := h.inv.n0
 have hme := h.meas
 have hcn := om (c := c) (w := dO g (gI (cZ g v) (k : Int))) (n := n) hto.1 (by omega) (by omega) hn
 refine ⟨h1, h.vd, h.vc, fun i hi hil => ?_, ?_⟩
 · by_cases e : i = k
   · subst e
     rw [cu hto.1 (by omega) hto.1, if_pos rfl]; exact hn
   · have bi := f4 (bu (xs := cZ g v) (i := (i : Int)) (by omega) hil)
     exact h2 _ (gj hm bi.1.1 bi.1.2).1 (h.row i (by omega) hil)
 · rw [List.length_append, List.length_singleton]; omega
theorem hH.done (h : hH g c0 c todo n s v k M) (hl : ¬ (k : Int) < (cZ g v).length) : eF g c0 c todo [] n s :=
 ⟨h.inv.len, h.inv.n0, h.inv.sd, h.inv.pre, h.inv.cmp, h.inv.nd, h.inv.tds, fun u hu hc e hnt _ hh hhu => by
   by_cases e2 : u = v
   · subst e2
     obtain ⟨i, hi, rfl⟩ := List.mem_iff_getElem.1 hhu
     have e3 : gI (cZ g u) (i : Int) = (cZ g u)[i] := by simp [gI, hi]
     rw [← e3]
     exact h.row i (by omega) (by omega)
   · exact h.inv.clo u hu hc e hnt (by simp [e2]) hh hhu, h.inv.src⟩
theorem eF.done (hm : bx g) {q : Nat} (h : eF g c0 c todo [] n (q : Int)) (ht : ¬ 0 < todo.length) (h0 : c0 = (bJ g q).1 ∧ n = (bJ g q).2) (hc : ¬ 0 ≤ gI c0 (q : Int)) : c = (bJ g (q + 1)).1 ∧ n + 1 = (bJ g (q + 1)).2 := by
 have hnil : todo = [] := List.eq_nil_of_length_eq_zero (by omega)
 subst hnil
 obtain ⟨hb1, hb2⟩ := kb hm h.sd
 have hpl := iH g q
 have hall : ∀ w, Cn g (q : Int) w → gI c w = n := fun w hw =>
   (mx (S := fun w => (lj g w ∧ Cn g (q : Int) w) ∧ gI c w = n) (fun x hh hx hhx => by
     have b := f4 hhx
     have hto := gj hm b.1.1 b.1.2
     have hcx : Cn g (q : Int) (dO g hh) := (Cn.eqv g).trans _ _ _ h.sd hx.1.1 hto hx.1.2 (by have := Cn.half hm b.1.1 b.1.2; rwa [b.2] at this)
     have h1 := h.clo x hx.1.1 hx.1.2 hx.2 (by simp) (by simp) hh hhx
     refine ⟨⟨hto, hcx⟩, ?_⟩
     rcases h.cmp _ hto with e | e
     · exact e.2
     · have := h.pre _ hto hcx
       omega) hw ⟨⟨h.sd, (Cn.eqv g).rfl _ h.sd⟩, h.src⟩).2
 have h1 : bJ g (q + 1) = ((dI g (q : Int)).order.foldl (fun l w => l.set w.toNat (bJ g q).2) (bJ g q).1, (bJ g q).2 + 1) := by
   rw [fg]
   unfold gM
   rw [if_neg (by rw [← h0.1]; exact hc)]
 have hlen := h.len
 have hsd := h.sd
 have hsd2 := hsd.2
 rw [h1]
 refine ⟨?_, by rw [h0.2]⟩
 simp only
 have hl2 : (((dI g (q : Int)).order.foldl (fun l w => l.set w.toNat (bJ g q).2) (bJ g q).1).length : Int) = g.1 := by rw [dg, hpl.1]; omega
 apply dj
 · omega
 · intro w hw
   have hwd : lj g (w : Int) := ⟨by omega, by omega⟩
   rw [jg _ _ (w : Int) (by omega) (by rw [hpl.1]; omega) (fun x hx => by
     have := hb1 x hx
     rw [hpl.1]
     have h2 := this.1
     have h3 := this.2
     omega)]
   by_cases hc' : Cn g (q : Int) (w : Int)
   · rw [if_pos ((hb2 _).2 hc'), hall _ hc', h0.2]
   · rw [if_neg (fun hm => hc' ((hb2 _).1 hm)), ← h0.1]
     rcases h.cmp _ hwd with e | e
     · exact absurd e.1 hc'
     · exact e
end
end TL
/-
  TlFaces: faces: each half-edge on one, the rx ahead, each right behind the bK of the one ahead; and the mirror's faces.
  By an AI agent.
-/
set_option linter.all false
namespace TL
theorem gW {nx : List Int} (hp : Pm nx.length (gI nx)) : ∀ (l S : List Int), S.Nodup → (∀ x ∈ S, In nx.length x) → (∀ x ∈ S, gI nx x ∈ S) → (∀ x ∈ l, In nx.length x) → l.Pairwise (· < ·) → (∀ x, In nx.length x → x ∈ S ∨ x ∈ l) → ∀ f ∈ cm nx l S, ∀ x ∈ f, gI f 0 ≤ x
 | [], S, _, _, _, _, _, _, f, hf => by simp [cm] at hf
 | a :: l, S, hn, hin, hc, hl, hs, hall, f, hf => by
   simp only [cm] at hf
   have hs' := List.pairwise_cons.1 hs
   by_cases c : a ∈ S
   · rw [if_pos c] at hf
     exact gW hp l S hn hin hc (fun x hx => hl x (by simp [hx])) hs'.2 (fun x hx => by
       rcases hall x hx with h | h
       · exact .inl h
       · rcases List.mem_cons.1 h with h | h
         · rw [h]; exact .inl c
         · exact .inr h) f hf
   · rw [if_neg c] at hf
     obtain ⟨k1, k2, k3, k4⟩ := pY hp hn hin hc (hl a (by simp)) c
     rcases List.mem_cons.1 hf with rfl | hf
     · intro x hx
       rw [k2]
       have hxS := k1.notS x hx
       rcases hall x (k1.inn x hx) with h | h
       · exact absurd h hxS
       · rcases List.mem_cons.1 h with h | h
         · omega
         · have := hs'.1 x h; omega
     · refine gW hp l _ k3 (fun x hx => ?_) (fun x hx => ?_) (fun x hx => hl x (by simp [hx])) hs'.2 (fun x hx => ?_) f hf
       · rcases List.mem_append.1 hx with h | h
         · exact hin x h
         · exact k1.inn x h
       · rcases List.mem_append.1 hx with h | h
         · exact List.mem_append.2 (.inl (hc x h))
         · exact List.mem_append.2 (.inr (k1.cls x h))
       · rcases hall x hx with h | h
         · exact .inl (by simp [h])
         · rcases List.mem_cons.1 h with h | h
           · rw [h]; exact .inl (by simp [k4])
           · exact .inr h
theorem nu (n : Nat) : (c7 n).Pairwise (· < ·) := by
 unfold c7
 rw [List.pairwise_map]
 exact List.pairwise_lt_range.imp (fun h => by omega)
theorem sy {nx S f : List Int} (hp : Pm nx.length (gI nx)) (h : vh nx S f) (hn : f.Nodup) {k : Nat} (hk : (k : Int) < f.length) : gI f (((k : Int) + 1) % (f.length : Int)) = gI nx (gI f (k : Int)) := by
  by_cases c : k + 1 < f.length
  · rw [Int.emod_eq_of_lt (by omega) (by omega)]; exact h.chain k c
  · have e : (k : Int) + 1 = f.length := by omega
    rw [e, Int.emod_self]
    have hx := bu (xs := f) (i := (k : Int)) (by omega) hk
    obtain ⟨j, hj, ej⟩ := List.mem_iff_getElem.1 (h.cls _ hx)
    have ej' : gI f (j : Int) = gI nx (gI f (k : Int)) := by rw [← ej]; simp [gI, hj]
    cases j with
    | zero => exact ej'
    | succ j =>
      have h1 := h.chain j hj
      rw [show ((j + 1 : Nat) : Int) = (j : Int) + 1 by omega, h1] at ej'
      have h2 := hp.inj _ _ (h.inn _ (bu (xs := f) (i := (j : Int)) (by omega) (by omega))) (h.inn _ hx) ej'
      have := rb hn (i := (j : Int)) (j := (k : Int)) (by omega) (by omega) (by omega) hk h2
      omega
theorem ng (k : Nat) : (List.replicate k ([] : List Int)).flatten = [] := by
 induction k with
 | zero => rfl
 | succ k ih => rw [List.replicate_succ, List.flatten_cons, ih]; rfl
section
variable {g : bZ} {r : bj}
theorem mm (hr : cf g r) : (ax (aw g r) r).flatten.Nodup ∧ ((ax (aw g r) r).flatten.length : Int) = 2 * (g.2.length : Int) ∧ ∀ f ∈ ax (aw g r) r, (∀ x ∈ f, gI f 0 ≤ x) ∧ f.Nodup ∧ ∀ k : Nat, (k : Int) < f.length → gI f (((k : Int) + 1) % (f.length : Int)) = gI (aw g r) (gI f (k : Int)) := by
 obtain ⟨hp, _⟩ := nb hr
 obtain ⟨h1, h2, h3, _⟩ := jQ hp
 have hl := dW g r
 have e : (ax (aw g r) r).flatten = (cm (aw g r) (c7 (aw g r).length) []).flatten := by
   unfold ax
   rw [uG, List.flatten_append, ng, List.append_nil]
 have hperm : List.Perm (cm (aw g r) (c7 (aw g r).length) []).flatten (c7 (aw g r).length) := (List.perm_ext_iff_of_nodup h2 (gD _)).2 fun x => by
   rw [cQ]
   constructor
   · intro hx
     obtain ⟨f, hf, hxf⟩ := List.mem_flatten.1 hx
     exact (h1 f hf).inn x hxf
   · exact fun hx => h3 x hx
 rw [e, hperm.length_eq, cP, hl]
 refine ⟨h2, rfl, fun f hf => ?_⟩
 unfold ax at hf
 rcases List.mem_append.1 hf with hf | hf
 · have hfn := h2.sublist (fl hf)
   refine ⟨gW hp _ _ (by simp) (by simp) (by simp) (fun x hx => by have := cQ.1 hx; exact ⟨by omega, by omega⟩) (nu _) (fun x hx => .inr (cQ.2 ⟨hx.1, by have := hx.2; omega⟩)) f hf, hfn, fun k hk => sy hp (h1 f hf) hfn hk⟩
 · obtain ⟨l, _, rfl⟩ := List.mem_map.1 hf
   exact ⟨by simp, by simp, fun k hk => by simp at hk; omega⟩
end
end TL
/-
  TlFacesW: what the loops over faces keep.
  By an AI agent.
-/
set_option linter.all false
namespace TL
section
variable {g : bZ} {r L P : bj} {seen : List Bool} {count : Int} {q k : Nat}
variable {lens : List Int} {n : Int} {p : Nat}
theorem fL (h : (ar g r).2 = 0) : aK g r = 0 := by
 unfold ar at h
 by_cases c : aK g r = 0
 · exact c
 · rw [if_neg c] at h; exact h
end
end TL
/-
  TlLess: edges taken away never raise the genus.
  By an AI agent.
-/
set_option linter.all false
namespace TL
theorem jD.ext {D D' : Int → Prop} {R R' : Int → Int → Prop} {k : Nat} (f : Int → Int) (E : List Int) (h : jD D' R' k) (he : pQ D R) (hd : ∀ x, D' x → D (f x)) (hr : ∀ x y, D' x → D' y → (R' x y ↔ R (f x) (f y))) (hEn : E.Nodup) (hE : ∀ e ∈ E, D e) (h1 : ∀ e ∈ E, ∀ x, D' x → ¬ R (f x) e) (h2 : ∀ a ∈ E, ∀ b ∈ E, R a b → a = b) (hs : ∀ z, D z → (∃ x, D' x ∧ R z (f x)) ∨ ∃ e ∈ E, R z e) : jD D R (k + E.length) := by
  obtain ⟨l, hl, rfl⟩ := h
  refine ⟨l.map f ++ E, ⟨List.nodup_append.2 ⟨dU hl.nd (fun x hx y hy e => hl.one x hx y hy ((hr x y (hl.dom x hx) (hl.dom y hy)).2 (by rw [e]; exact he.rfl _ (hd y (hl.dom y hy))))), hEn, fun a ha b hb e => ?_⟩, fun x hx => ?_, fun z hz => ?_, fun a ha b hb hab => ?_⟩, by simp⟩
  · obtain ⟨x, hx, rfl⟩ := List.mem_map.1 ha
    exact h1 b hb x (hl.dom x hx) (by rw [e]; exact he.rfl b (hE b hb))
  · rcases List.mem_append.1 hx with h | h
    · obtain ⟨y, hy, rfl⟩ := List.mem_map.1 h; exact hd y (hl.dom y hy)
    · exact hE x h
  · rcases hs z hz with ⟨x, hx, hzx⟩ | ⟨e, he', hze⟩
    · obtain ⟨y, hy, hxy⟩ := hl.all x hx
      exact ⟨f y, by simp; exact .inl ⟨y, hy, rfl⟩, he.trans _ _ _ hz (hd x hx) (hd y (hl.dom y hy)) hzx ((hr x y hx (hl.dom y hy)).1 hxy)⟩
    · exact ⟨e, by simp [he'], hze⟩
  · rcases List.mem_append.1 ha with h | h
    · obtain ⟨x, hx, rfl⟩ := List.mem_map.1 h
      have hxd := hl.dom x hx
      rcases List.mem_append.1 hb with h' | h'
      · obtain ⟨y, hy, rfl⟩ := List.mem_map.1 h'
        rw [hl.one x hx y hy ((hr x y hxd (hl.dom y hy)).2 hab)]
      · exact absurd hab (h1 b h' x hxd)
    · rcases List.mem_append.1 hb with h' | h'
      · obtain ⟨y, hy, rfl⟩ := List.mem_map.1 h'
        exact absurd (he.symm _ _ (hE a h) (hd y (hl.dom y hy)) hab) (h1 a h y (hl.dom y hy))
      · exact h2 a h b h' hab
section
variable {m K : Nat} {f s s' : Int → Int} {E : List Int}
end
end TL
/-
  TlRef9: the document's own answer for rotations: what stands behind each half-edge, next ones.
  By an AI agent.
-/
set_option linter.all false
namespace TL
structure fE (l : List Int) (g : bZ) (r : bj) (k i : Nat) : Prop where
 len : (l.length : Int) = 2 * (g.2.length : Int)
 old : ∀ v j : Nat, v < k → (v : Int) < r.length → (j : Int) < (gI r (v : Int)).length → gI l (gI (gI r (v : Int)) (j : Int)) = et r (gI (gI r (v : Int)) (j : Int))
 row : ∀ j : Nat, j < i → (j : Int) < (gI r (k : Int)).length → gI l (gI (gI r (k : Int)) (j : Int)) = et r (gI (gI r (k : Int)) (j : Int))
theorem fE.start (g : bZ) (r : bj) : fE (List.replicate (2 * (g.2.length : Int)).toNat 0) g r 0 0 := ⟨by simp; omega, fun v j hv => by omega, fun j hj => by omega⟩
theorem fE.next {l : List Int} {g : bZ} {r : bj} {k i : Nat} (h : fE l g r k i) (hr : cf g r) (hk : (k : Int) < r.length) (hi : (i : Int) < (gI r (k : Int)).length) :
   fE (l.set (gI (gI r (k : Int)) (i : Int)).toNat (gI (gI r (k : Int)) (((i : Int) + 1) % ((gI r (k : Int)).length : Int)))) g r k (i + 1) := by
 have hl := h.len
 have hin := (hr.2.1 k (by omega) _ (bu (xs := gI r (k : Int)) (i := (i : Int)) (by omega) hi)).1
 have key : ∀ x : Int, 0 ≤ x → x < 2 * (g.2.length : Int) → gI l x = et r x ∨ x = gI (gI r (k : Int)) (i : Int) → gI (l.set (gI (gI r (k : Int)) (i : Int)).toNat (gI (gI r (k : Int)) (((i : Int) + 1) % ((gI r (k : Int)).length : Int)))) x = et r x := by
   intro x hx0 hx1 hx
   rw [cu hin.1 (by omega) hx0]
   by_cases e : x = gI (gI r (k : Int)) (i : Int)
   · rw [if_pos e, e, lI hr hk hi]
   · rw [if_neg e]
     exact hx.resolve_right e
 refine ⟨by simpa using hl, fun v j hv hvr hj => ?_, fun j hj hjr => ?_⟩
 · have hx := (hr.2.1 v (by omega) _ (bu (xs := gI r (v : Int)) (i := (j : Int)) (by omega) hj)).1
   exact key _ hx.1 hx.2 (.inl (h.old v j hv hvr hj))
 · have hx := (hr.2.1 k (by omega) _ (bu (xs := gI r (k : Int)) (i := (j : Int)) (by omega) hjr)).1
   refine key _ hx.1 hx.2 ?_
   by_cases e : j = i
   · subst e; exact .inr rfl
   · exact .inl (h.row j (by omega) hjr)
theorem fE.row_done {l : List Int} {g : bZ} {r : bj} {k i : Nat} (h : fE l g r k i) (hi : ¬ (i : Int) < (gI r (k : Int)).length) : fE l g r (k + 1) 0 := by
 refine ⟨h.len, fun v j hv hvr hj => ?_, fun j hj => by omega⟩
 by_cases e : v = k
 · subst e; exact h.row j (by omega) hj
 · exact h.old v j (by omega) hvr hj
theorem fE.done {l : List Int} {g : bZ} {r : bj} {k i : Nat} (h : fE l g r k i) (hr : cf g r) (hk : ¬ (k : Int) < r.length) {x : Int} (h0 : 0 ≤ x) (h1 : x < 2 * (g.2.length : Int)) : gI l x = et r x := by
 obtain ⟨v, j, hv, hj, e⟩ := kz hr h0 h1
 have := h.old v j (by omega) hv hj
 rw [e] at this
 exact this
def iM (l : List Int) (g : bZ) (r : bj) (h : Nat) : Prop := (l.length : Int) = 2 * (g.2.length : Int) ∧ ∀ j : Nat, j < h → (j : Int) < 2 * (g.2.length : Int) → gI l (j : Int) = et r (bK (j : Int))
theorem iM.start {g : bZ} {r : bj} {n : Int} (h : n = 2 * (g.2.length : Int)) : iM (List.replicate n.toNat 0) g r 0 := ⟨by simp; omega, fun j hj => by omega⟩
theorem iM.next {l : List Int} {g : bZ} {r : bj} {h : Nat} {x : Int} (hi : iM l g r h) (hh : (h : Int) < 2 * (g.2.length : Int)) (hx : x = et r (bK (h : Int))) : iM (l.set (Int.toNat (h : Int)) x) g r (h + 1) := by
 obtain ⟨h1, h2⟩ := hi
 refine ⟨by simpa using h1, fun j hj hjl => ?_⟩
 rw [cu (by omega) (by omega) (by omega)]
 by_cases e : j = h
 · subst e; rw [if_pos rfl, hx]
 · rw [if_neg (by omega)]; exact h2 j (by omega) hjl
theorem iM.done {l : List Int} {g : bZ} {r : bj} {h : Nat} (hi : iM l g r h) (hh : ¬ (h : Int) < l.length) : l = aw g r := by
 obtain ⟨h1, h2⟩ := hi
 have hn := dW g r
 apply dj
 · omega
 · intro q hq
   rw [jj (by omega) (by omega)]
   exact h2 q (by omega) (by omega)
theorem dX.yes' {seen0 seen : List Bool} {l : List (List Int)} {nx S f : List Int} {q : Nat} {k : Int} (h : dX seen0 l nx S q) (ho : fh seen f nx S q k) (hs : gI seen k = true) (h0 : ¬ gI seen0 (q : Int) = true) (hq : (q : Int) < nx.length) : dX seen (l ++ [f]) nx (S ++ f) (q + 1) := by
 refine h.yes ho hs ?_ hq
 have e := ho.done hs
 have hq2 := h.rm.low (by omega) hq h0
 have hb := (h.rm.next (h := (q : Int)) (by omega) hq (Bool.eq_false_iff.2 h0)).bd
 simp only [List.length_append, List.length_cons, List.length_nil] at hb
 rw [pe hq2 (by omega)] at e
 rw [e]; simp
end TL
/-
  TlDual: faces as nodes: the dual, corners' faces, edges laid, taken and split, ways over faces, as plain functions.
  By an AI agent.
-/
set_option linter.all false
namespace TL
def aB (of : List Int) (e : Int) : Int × Int := (gI of (2 * e), gI of (2 * e + 1))
def fo (g : bZ) (r : bj) : bZ := (((ar g r).1.length : Int), (c7 g.2.length).map (aB (bU g r).1))
def aT (g : bZ) (r : bj) : bZ × bj × Int :=
 if (ar g r).2 = 0 then if bx (fo g r) then (fo g r, (cH (fo g r) (ar g r).1).1, 0) else ((0, []), [], 3)
 else ((0, []), [], (ar g r).2)
theorem ec (g : bZ) (r : bj) : ((bX g r).length : Int) = 2 * (g.2.length : Int) := by unfold bX; rw [jA]; omega
theorem eN {g : bZ} {r : bj} (h : aK g r = 0) : bU g r = (bX g r, 0) := if_pos h
theorem bG {g : bZ} {r : bj} (h : aK g r = 0) : ar g r = (ax (aw g r) r, 0) := if_pos h
theorem cT (g : bZ) (r : bj) (hm : bx g) (hr : cf g r) : (ar g r).1.length ≤ 8000 := by
 rw [bG (br hm hr)]
 have h1 := oQ (aw g r) r
 have h2 := dW g r
 obtain ⟨h3, h4, h5, _⟩ := hm
 have h6 := hr.1
 show (ax (aw g r) r).length ≤ 8000
 omega
def c9 (g : bZ) (r : bj) (c : Int × Int) : Prop := (0 ≤ c.1 ∧ c.1 < g.1) ∧ if ((gI r c.1).length : Int) = 0 then c.2 = -1 else c.2 ∈ gI r c.1
instance (g : bZ) (r : bj) (c : Int × Int) : Decidable (c9 g r c) := by unfold c9; infer_instance
theorem qa {g : bZ} {r : bj} {c : Int × Int} (h : ¬ (0 ≤ c.1 ∧ c.1 < g.1)) : false = decide (c9 g r c) := (decide_eq_false fun hc => h hc.1).symm
theorem oN {g : bZ} {r : bj} {c : Int × Int} (h : 0 ≤ c.1 ∧ c.1 < g.1) (h0 : ((gI r c.1).length : Int) = 0) : decide (c.2 = -1) = decide (c9 g r c) :=
 decide_eq_decide.2 (by unfold c9; rw [if_pos h0]; exact ⟨fun x => ⟨h, x⟩, fun x => x.2⟩)
theorem ta {g : bZ} {r : bj} {c : Int × Int} (h : 0 ≤ c.1 ∧ c.1 < g.1) (h0 : ¬ ((gI r c.1).length : Int) = 0) : decide (c.2 ∈ gI r c.1) = decide (c9 g r c) :=
 decide_eq_decide.2 (by unfold c9; rw [if_neg h0]; exact ⟨fun x => ⟨h, x⟩, fun x => x.2⟩)
theorem rR {l : List Int} {x : Int} : decide (0 ≤ bf l x) = decide (x ∈ l) := by
 unfold bf
 by_cases h : x ∈ l
 · rw [if_pos h, decide_eq_true h, decide_eq_true (by omega)]
 · rw [if_neg h, decide_eq_false h]; rfl
theorem lM {l : List Int} {x : Int} (h : x ∈ l) : 0 ≤ bf l x ∧ bf l x < l.length ∧ gI l (bf l x) = x := by
 unfold bf
 rw [if_pos h]
 have h1 := List.idxOf_lt_length_iff.2 h
 refine ⟨by omega, by omega, ?_⟩
 simp [gI, h1]
theorem mZ (l : List Int) (x : Int) : -1 ≤ bf l x ∧ bf l x < l.length := by
 by_cases h : x ∈ l
 · have := lM h; omega
 · unfold bf; rw [if_neg h]; omega
def en (r : bj) (k : Nat) : Int := (((r.take k).filter fun l => decide (l.length = 0)).length : Int)
theorem nJ {r : bj} {k : Nat} (hk : (k : Int) < r.length) (h : ((gI r (k : Int)).length : Int) = 0) : en r (k + 1) = en r k + 1 := by
 unfold en
 have h' : (gI r (k : Int)).length = 0 := by omega
 rw [bh hk, List.filter_append]
 have : [gI r (k : Int)].filter (fun l => decide (l.length = 0)) = [gI r (k : Int)] := by
   rw [List.filter_cons, decide_eq_true h']; rfl
 rw [this]; simp
theorem pH {r : bj} {k : Nat} (hk : (k : Int) < r.length) (h : ¬ ((gI r (k : Int)).length : Int) = 0) : en r (k + 1) = en r k := by
 unfold en
 have h' : ¬ (gI r (k : Int)).length = 0 := by omega
 rw [bh hk, List.filter_append]
 have : [gI r (k : Int)].filter (fun l => decide (l.length = 0)) = [] := by
   rw [List.filter_cons, decide_eq_false h']; rfl
 rw [this]; simp
theorem nf (r : bj) (k : Nat) : 0 ≤ en r k ∧ en r k ≤ k := by
 unfold en
 have h1 := List.length_filter_le (fun l : List Int => decide (l.length = 0)) (r.take k)
 have h2 := List.length_take_le k r
 omega
def cd (r : bj) (of : List Int) (n : Int) (c : Int × Int) : Int :=
  if 0 < ((gI r c.1).length : Int) then gI of (gI (gI r c.1) ((bf (gI r c.1) c.2 + 1) % ((gI r c.1).length : Int))) else n + en r c.1.toNat
def bt (F : bj) : Int := ((F.filter fun l => decide (0 < (l.length : Int))).length : Int)
theorem oF {F : bj} {k : Nat} (hk : (k : Int) < F.length) (h : 0 < ((gI F (k : Int)).length : Int)) : bt (F.take (k + 1)) = bt (F.take k) + 1 := by
 unfold bt
 rw [bh hk, List.filter_append]
 have : [gI F (k : Int)].filter (fun l => decide (0 < (l.length : Int))) = [gI F (k : Int)] := by
   rw [List.filter_cons, decide_eq_true h]; rfl
 rw [this]; simp
theorem qw {F : bj} {k : Nat} (hk : (k : Int) < F.length) (h : ¬ 0 < ((gI F (k : Int)).length : Int)) : bt (F.take (k + 1)) = bt (F.take k) := by
 unfold bt
 rw [bh hk, List.filter_append]
 have : [gI F (k : Int)].filter (fun l => decide (0 < (l.length : Int))) = [] := by
   rw [List.filter_cons, decide_eq_false h]; rfl
 rw [this]; simp
theorem iD (F : bj) : 0 ≤ bt F ∧ bt F ≤ F.length := by
 unfold bt
 have h1 := List.length_filter_le (fun l : List Int => decide (0 < (l.length : Int))) F
 omega
def eX (r : bj) (c : Int × Int) (hs : List Int) : bj :=
  r.set c.1.toNat ((gI r c.1).take (bf (gI r c.1) c.2 + 1).toNat ++ hs ++ (gI r c.1).drop (bf (gI r c.1) c.2 + 1).toNat)
theorem ib (r : bj) (c : Int × Int) (hs : List Int) : (eX r c hs).length = r.length := by simp [eX]
theorem kU {r : bj} {c : Int × Int} {hs : List Int} (h0 : 0 ≤ c.1) (h1 : c.1 < r.length) {v : Int} (hv : 0 ≤ v) : ((gI (eX r c hs) v).length : Int) ≤ ((gI r v).length : Int) + hs.length := by
 unfold eX
 rw [cu h0 h1 hv]
 by_cases e : v = c.1
 · rw [if_pos e, e]; simp; omega
 · rw [if_neg e]; omega
def dR (g : bZ) (a b : Int × Int) : bZ := (g.1, g.2 ++ [(a.1, b.1)])
def eS (g : bZ) (r : bj) (a b : Int × Int) : bj :=
 if a = b then eX r a [2 * (g.2.length : Int), 2 * (g.2.length : Int) + 1] else eX (eX r a [2 * (g.2.length : Int)]) b [2 * (g.2.length : Int) + 1]
def bg (g : bZ) (r : bj) (a b : Int × Int) : bZ × bj × Int :=
 if (ar g r).2 = 0 then
   if c9 g r a ∧ c9 g r b then
     if 3072 ≤ (g.2.length : Int) then ((0, []), [], 3)
     else if gI (bC g).1 a.1 = gI (bC g).1 b.1 ∧ cd r (bU g r).1 (bt (ar g r).1) a ≠ cd r (bU g r).1 (bt (ar g r).1) b then ((0, []), [], 5)
     else (dR g a b, (cH (dR g a b) (eS g r a b)).1, 0)
   else ((0, []), [], 2)
 else ((0, []), [], (ar g r).2)
def iI (e : Int) (k : Nat) : List Int := (c7 k).filter fun i => decide (i ≠ e)
theorem nA {e : Int} {k : Nat} (h : ¬ (k : Int) = e) : iI e (k + 1) = iI e k ++ [(k : Int)] := by
 unfold iI
 rw [ew, List.filter_append]
 simp [h]
theorem pV {e : Int} {k : Nat} (h : (k : Int) = e) : iI e (k + 1) = iI e k := by
 unfold iI
 rw [ew, List.filter_append]
 simp [h]
theorem nL (e : Int) (k : Nat) : (iI e k).length ≤ k := by
 have h1 := List.length_filter_le (fun i : Int => decide (i ≠ e)) (c7 k)
 rw [cP] at h1
 exact h1
def aX (g : bZ) (r : bj) (e : Int) : bZ × bj × Int :=
 if aK g r = 0 then if e < 0 ∨ (g.2.length : Int) ≤ e then ((0, []), [], 2) else bS g r (iI e g.2.length) else ((0, []), [], aK g r)
def eO (g : bZ) (r : bj) (e : Int) : bj :=
  r.set (gI g.2 e).2.toNat ((gI r (gI g.2 e).2).set (bf (gI r (gI g.2 e).2) (2 * e + 1)).toNat (2 * (g.2.length : Int) + 1)) ++ [[2 * e + 1, 2 * (g.2.length : Int)]]
def aF (g : bZ) (r : bj) (e : Int) : bZ × bj × Int :=
 if aK g r = 0 then if (aM g e).2 = 0 then ((aM g e).1, (cH (aM g e).1 (eO g r e)).1, 0) else ((0, []), [], (aM g e).2) else ((0, []), [], aK g r)
theorem kd {g : bZ} {r : bj} (hm : bx g) (hr : cf g r) {e : Int} (he : 0 ≤ e ∧ e < (g.2.length : Int)) : (0 ≤ (gI g.2 e).2 ∧ (gI g.2 e).2 < r.length) ∧ 2 * e + 1 ∈ gI r (gI g.2 e).2 ∧ 0 ≤ bf (gI r (gI g.2 e).2) (2 * e + 1) ∧ bf (gI r (gI g.2 e).2) (2 * e + 1) < ((gI r (gI g.2 e).2).length : Int) := by
  have hf : bp g (2 * e + 1) = (gI g.2 e).2 := by
    unfold bp
    rw [show (2 * e + 1) / 2 = e by omega, show (2 * e + 1) % 2 = 1 by omega]
    rfl
  have hb := nV hm (h := 2 * e + 1) (by omega) (by omega)
  rw [hf] at hb
  have hl := hr.1
  obtain ⟨v, hv, hin⟩ := rJ hr (h := 2 * e + 1) (by omega) (by omega)
  have h2 := (hr.2.1 v (by omega) _ hin).2
  rw [hf] at h2
  rw [← h2] at hin
  have h3 := lM hin
  exact ⟨⟨hb.1, by omega⟩, hin, h3.1, h3.2.1⟩
def eE (of : List Int) (F : Int) (k : Nat) : bj :=
 (List.range k).foldl (fun (A : bj) (e : Nat) =>
   (A.set (aB of e).1.toNat (gI A (aB of e).1 ++ [(aB of e).2])).set (aB of e).2.toNat (gI (A.set (aB of e).1.toNat (gI A (aB of e).1 ++ [(aB of e).2])) (aB of e).2 ++ [(aB of e).1])) (List.replicate F.toNat [])
theorem jJ (of : List Int) (F : Int) (k : Nat) : eE of F (k + 1) =
   ((eE of F k).set (aB of k).1.toNat (gI (eE of F k) (aB of k).1 ++ [(aB of k).2])).set (aB of k).2.toNat (gI ((eE of F k).set (aB of k).1.toNat (gI (eE of F k) (aB of k).1 ++ [(aB of k).2])) (aB of k).2 ++ [(aB of k).1]) := by
 unfold eE
 rw [List.range_succ, List.foldl_append]
 rfl
theorem ju (of : List Int) (F : Int) (k : Nat) : (eE of F k).length = F.toNat := by
 induction k with
 | zero => simp [eE]
 | succ k ih => rw [jJ]; simpa using ih
def hT (of : List Int) (F : Int) (m : Nat) : Prop := (of.length : Int) = 2 * (m : Int) ∧ ∀ h, 0 ≤ h → h < 2 * (m : Int) → 0 ≤ gI of h ∧ gI of h < F
theorem hT.ends {of : List Int} {F : Int} {m : Nat} (h : hT of F m) {e : Nat} (he : (e : Int) < m) : (0 ≤ (aB of e).1 ∧ (aB of e).1 < F) ∧ 0 ≤ (aB of e).2 ∧ (aB of e).2 < F :=
 ⟨h.2 _ (by omega) (by omega), h.2 _ (by omega) (by omega)⟩
theorem kF {A : bj} {a b : Int} {x : Int} (ha : 0 ≤ a) (ha' : a < A.length) (hb : 0 ≤ b) : gI (A.set a.toNat (gI A a ++ [x])) b = if b = a then gI A a ++ [x] else gI A b := cu ha ha' hb
theorem jf {of : List Int} {F : Int} {m : Nat} (h : hT of F m) : ∀ k : Nat, k ≤ m → ∀ f, 0 ≤ f → f < F → ((gI (eE of F k) f).length : Int) ≤ 2 * (k : Int) ∧ ∀ x, x ∈ gI (eE of F k) f ↔ ∃ e : Nat, e < k ∧ (aB of e = (f, x) ∨ aB of e = (x, f)) := by
  intro k
  induction k with
  | zero =>
    intro _ f h0 h1
    have : gI (eE of F 0) f = [] := eH (n := F.toNat) (x := ([] : List Int)) h0 (by omega)
    rw [this]
    exact ⟨by simp, fun x => by simp⟩
  | succ k ih =>
    intro hk f h0 h1
    obtain ⟨he1, he2⟩ := h.ends (e := k) (by omega)
    have hl := ju of F k
    have ihf := ih (by omega)
    rw [jJ]
    obtain ⟨A, hA⟩ : ∃ A, A = eE of F k := ⟨_, rfl⟩
    rw [← hA] at ihf hl ⊢
    obtain ⟨⟨a, b⟩, hab⟩ : ∃ p, p = aB of (k : Int) := ⟨_, rfl⟩
    rw [← hab] at he1 he2 ⊢
    simp only at he1 he2 ⊢
    have hset : gI ((A.set a.toNat (gI A a ++ [b])).set b.toNat (gI (A.set a.toNat (gI A a ++ [b])) b ++ [a])) f = (gI A f ++ (if f = a then [b] else [])) ++ (if f = b then [a] else []) := by
      rw [kF he2.1 (by simp; omega) h0, kF he1.1 (by omega) h0, kF he1.1 (by omega) he2.1]
      by_cases e1 : f = b
      · subst e1
        rw [if_pos rfl, if_pos rfl]
        by_cases e2 : f = a
        · subst e2; simp
        · simp [e2]
      · rw [if_neg e1, if_neg e1]
        by_cases e2 : f = a
        · subst e2; simp
        · simp [e2]
    rw [hset]
    obtain ⟨q1, q2⟩ := ihf f h0 h1
    refine ⟨?_, fun x => ?_⟩
    · have e1 : (if f = a then [b] else ([] : List Int)).length ≤ 1 := by split <;> simp
      have e2 : (if f = b then [a] else ([] : List Int)).length ≤ 1 := by split <;> simp
      simp only [List.length_append]; omega
    · simp only [List.mem_append, q2 x]
      constructor
      · rintro ((⟨e, he, hx⟩ | hx) | hx)
        · exact ⟨e, by omega, hx⟩
        · by_cases e2 : f = a
          · rw [if_pos e2] at hx
            obtain rfl := List.mem_singleton.1 hx
            exact ⟨k, by omega, .inl (by rw [← hab, e2])⟩
          · rw [if_neg e2] at hx; cases hx
        · by_cases e2 : f = b
          · rw [if_pos e2] at hx
            obtain rfl := List.mem_singleton.1 hx
            exact ⟨k, by omega, .inr (by rw [← hab, e2])⟩
          · rw [if_neg e2] at hx; cases hx
      · rintro ⟨e, he, hx⟩
        by_cases ek : e = k
        · subst ek
          rw [← hab] at hx
          rcases hx with hx | hx
          · cases hx; exact .inl (.inr (by simp))
          · cases hx; exact .inr (by simp)
        · exact .inl (.inl ⟨e, by omega, hx⟩)
theorem mN {of : List Int} {F : Int} {m : Nat} (h : hT of F m) {k : Nat} (hk : (k : Int) ≤ m) {f : Int} (h0 : 0 ≤ f) (h1 : f < F) : ((gI (eE of F k) f).length : Int) ≤ 2 * (k : Int) := (jf h k (by omega) f h0 h1).1
theorem rr {of : List Int} {F : Int} {m : Nat} (h : hT of F m) {k : Nat} (hk : (k : Int) < m) : ((gI ((eE of F k).set (aB of k).1.toNat (gI (eE of F k) (aB of k).1 ++ [(aB of k).2])) (aB of k).2).length : Int) ≤ 2 * (k : Int) + 1 := by
 obtain ⟨he1, he2⟩ := h.ends (e := k) hk
 have h1 := mN h (k := k) (by omega) he1.1 he1.2
 have h2 := mN h (k := k) (by omega) he2.1 he2.2
 have hl := ju of F k
 rw [kF he1.1 (by omega) he2.1]
 by_cases e : (aB of (k : Int)).2 = (aB of (k : Int)).1
 · rw [if_pos e]; simp; omega
 · rw [if_neg e]; omega
def dQ (f : Int) (s : List Int × List Int) (k : Int) : List Int × List Int := if gI s.1 k < 0 then (s.1.set k.toNat (gI s.1 f + 1), s.2 ++ [k]) else s
def pm (A : bj) (f : Int) (s : List Int × List Int) : List Int × List Int := (gI A f).foldl (dQ f) s
def hZ (A : bj) : Nat → Nat → List Int × List Int → List Int × List Int
 | 0, _, s => s
 | n + 1, i, s => if (i : Int) < s.2.length then hZ A n (i + 1) (pm A (gI s.2 i) s) else s
def dP (F : Int) (to : List Int) : List Int := to.foldl (fun l f => l.set f.toNat 0) (List.replicate F.toNat (-1))
def bT (m : Nat) (of : List Int) (F : Int) (to : List Int) : List Int := (hZ (eE of F m) (F.toNat + to.length) 0 (dP F to, to)).1
structure iK (F : Int) (B : Nat) (s : List Int × List Int) : Prop where
  len : (s.1.length : Int) = F
  rng : ∀ x ∈ s.2, 0 ≤ x ∧ x < F
  cnt : s.2.length + jF s.1 ≤ B
  pos : ∀ x ∈ s.2, 0 ≤ gI s.1 x
  le : ∀ x, 0 ≤ x → x < F → -1 ≤ gI s.1 x ∧ gI s.1 x < s.2.length
theorem f8 {F : Int} (hF : 0 ≤ F) {to : List Int} (ht : ∀ x ∈ to, 0 ≤ x ∧ x < F) {v : Int} (h0 : 0 ≤ v) (h1 : v < F) : gI (dP F to) v = if v ∈ to then 0 else -1 := by
 unfold dP
 have := jg (n := 0) to (List.replicate F.toNat (-1)) v h0 (by simp; omega) (fun x hx => by have := ht x hx; simp; omega)
 rw [this, eH h0 (by omega)]
theorem ff (F : Int) (to : List Int) : (dP F to).length = F.toNat := by
 unfold dP
 rw [dg]; simp
theorem iK.start {F : Int} (hF : 0 ≤ F) {to : List Int} (ht : ∀ x ∈ to, 0 ≤ x ∧ x < F) : iK F (F.toNat + to.length) (dP F to, to) := by
 have hl := ff F to
 refine ⟨by simp only; omega, ht, ?_, fun x hx => ?_, fun x h0 h1 => ?_⟩
 · have := u9 (dP F to)
   simp only; omega
 · have := ht x hx
   show 0 ≤ gI (dP F to) x
   rw [f8 hF ht this.1 this.2, if_pos hx]; omega
 · show -1 ≤ gI (dP F to) x ∧ gI (dP F to) x < (to.length : Int)
   rw [f8 hF ht h0 h1]
   split
   · rename_i h
     have := List.length_pos_of_mem h
     omega
   · omega
theorem iK.one {F : Int} {B : Nat} {s : List Int × List Int} (h : iK F B s) {f k : Int} (hf : f ∈ s.2) (h0 : 0 ≤ k) (h1 : k < F) : iK F B (dQ f s k) ∧ (∃ t, (dQ f s k).2 = s.2 ++ t) := by
 unfold dQ
 by_cases c : gI s.1 k < 0
 · rw [if_pos c]
   have hl := h.len
   have hp := h.pos f hf
   have hfr := h.rng f hf
   have hfl := h.le f hfr.1 hfr.2
   refine ⟨⟨by simpa using hl, fun x hx => ?_, ?_, fun x hx => ?_, fun x x0 x1 => ?_⟩, [k], rfl⟩
   · rcases List.mem_append.1 hx with hx | hx
     · exact h.rng x hx
     · obtain rfl := List.mem_singleton.1 hx; exact ⟨h0, h1⟩
   · have h2 := om (n := gI s.1 f + 1) h0 (by omega) c (by omega)
     have h3 := h.cnt
     simp only [List.length_append, List.length_cons, List.length_nil]; omega
   · show 0 ≤ gI (s.1.set k.toNat (gI s.1 f + 1)) x
     have hx0 : 0 ≤ x := by
       rcases List.mem_append.1 hx with hx | hx
       · exact (h.rng x hx).1
       · obtain rfl := List.mem_singleton.1 hx; exact h0
     rw [cu h0 (by omega) hx0]
     by_cases e : x = k
     · rw [if_pos e]; omega
     · rw [if_neg e]
       rcases List.mem_append.1 hx with hx | hx
       · exact h.pos x hx
       · exact absurd (List.mem_singleton.1 hx) e
   · show -1 ≤ gI (s.1.set k.toNat (gI s.1 f + 1)) x ∧ gI (s.1.set k.toNat (gI s.1 f + 1)) x < ((s.2 ++ [k]).length : Int)
     have := h.le x x0 x1
     rw [cu h0 (by omega) x0]
     simp only [List.length_append, List.length_cons, List.length_nil]
     split <;> omega
 · rw [if_neg c]
   exact ⟨h, [], by simp⟩
structure eu (s s0 : List Int × List Int) (A : bj) (F : Int) (B : Nat) (f : Int) (j : Nat) : Prop where
  eq : s = ((gI A f).take j).foldl (dQ f) s0
  ok : iK F B s
  mem : f ∈ s.2
theorem eu.start {s : List Int × List Int} {A : bj} {F : Int} {B : Nat} {f : Int} (h : iK F B s) (hf : f ∈ s.2) : eu s s A F B f 0 := ⟨rfl, h, hf⟩
theorem eu.next {s s0 : List Int × List Int} {A : bj} {F : Int} {B : Nat} {f : Int} {j : Nat} (h : eu s s0 A F B f j) (hj : (j : Int) < (gI A f).length) (h0 : 0 ≤ gI (gI A f) (j : Int)) (h1 : gI (gI A f) (j : Int) < F) : eu (dQ f s (gI (gI A f) (j : Int))) s0 A F B f (j + 1) := by
 obtain ⟨h2, t, ht⟩ := h.ok.one h.mem h0 h1
 refine ⟨?_, h2, by rw [ht]; exact List.mem_append_left _ h.mem⟩
 rw [bh hj, List.foldl_append, ← h.eq]
 rfl
theorem eu.yes {a q : List Int} {s0 : List Int × List Int} {A : bj} {F : Int} {B : Nat} {f : Int} {j : Nat} (h : eu (a, q) s0 A F B f j) (hj : (j : Int) < (gI A f).length) (h0 : 0 ≤ gI (gI A f) (j : Int)) (h1 : gI (gI A f) (j : Int) < F) (c : gI a (gI (gI A f) (j : Int)) < 0) :
   eu (a.set (gI (gI A f) (j : Int)).toNat (gI a f + 1), q ++ [gI (gI A f) (j : Int)]) s0 A F B f (j + 1) := by
 have := h.next hj h0 h1
 unfold dQ at this
 rwa [if_pos c] at this
theorem eu.no {a q : List Int} {s0 : List Int × List Int} {A : bj} {F : Int} {B : Nat} {f : Int} {j : Nat} (h : eu (a, q) s0 A F B f j) (hj : (j : Int) < (gI A f).length) (h0 : 0 ≤ gI (gI A f) (j : Int)) (h1 : gI (gI A f) (j : Int) < F) (c : ¬ gI a (gI (gI A f) (j : Int)) < 0) : eu (a, q) s0 A F B f (j + 1) := by
 have := h.next hj h0 h1
 unfold dQ at this
 rwa [if_neg c] at this
theorem eu.facts {a q : List Int} {s0 : List Int × List Int} {A : bj} {F : Int} {B : Nat} {f : Int} {j : Nat} (h : eu (a, q) s0 A F B f j) : (a.length : Int) = F ∧ (q.length : Int) ≤ B ∧ (0 ≤ f ∧ f < F) ∧ 0 ≤ gI a f ∧ gI a f ≤ q.length := by
 have h1 := h.ok.len
 have h2 := h.ok.cnt
 have h3 := h.ok.rng f h.mem
 have h4 := h.ok.le f h3.1 h3.2
 have h5 := h.ok.pos f h.mem
 simp only at h1 h2 h4 h5
 exact ⟨h1, by omega, h3, h5, by omega⟩
structure fS (s sa : List Int × List Int) (A : bj) (F : Int) (B i : Nat) : Prop where
  ok : iK F B s
  le : (i : Int) ≤ s.2.length
  eq : hZ A (B - i) i s = hZ A B 0 sa
theorem fS.start {s : List Int × List Int} {A : bj} {F : Int} {B : Nat} (h : iK F B s) : fS s s A F B 0 := ⟨h, by omega, rfl⟩
theorem fS.facts {a q : List Int} {sa : List Int × List Int} {A : bj} {F : Int} {B i : Nat} (h : fS (a, q) sa A F B i) : (a.length : Int) = F ∧ (q.length : Int) ≤ B ∧ (i : Int) ≤ q.length := by
 have h1 := h.ok.len
 have h2 := h.ok.cnt
 have h3 := h.le
 simp only at h1 h2 h3
 exact ⟨h1, by omega, h3⟩
theorem fS.node {a q : List Int} {sa : List Int × List Int} {A : bj} {F : Int} {B i : Nat} (h : fS (a, q) sa A F B i) (hi : (i : Int) < q.length) : 0 ≤ gI q (i : Int) ∧ gI q (i : Int) < F := h.ok.rng _ (bu (by omega) hi)
theorem fS.row {a q : List Int} {sa : List Int × List Int} {A : bj} {F : Int} {B i : Nat} (h : fS (a, q) sa A F B i) (hi : (i : Int) < q.length) : eu (a, q) (a, q) A F B (gI q (i : Int)) 0 := eu.start h.ok (bu (by omega) hi)
theorem lC (f : Int) : ∀ (l : List Int) (s : List Int × List Int), ∃ t, (l.foldl (dQ f) s).2 = s.2 ++ t
 | [], s => ⟨[], by simp⟩
 | k :: l, s => by
   obtain ⟨t, ht⟩ := lC f l (dQ f s k)
   simp only [List.foldl_cons]
   have : ∃ t', (dQ f s k).2 = s.2 ++ t' := by
     unfold dQ
     split
     · exact ⟨[k], rfl⟩
     · exact ⟨[], by simp⟩
   obtain ⟨t', ht'⟩ := this
   exact ⟨t' ++ t, by rw [ht, ht', List.append_assoc]⟩
theorem fS.next {s s' sa : List Int × List Int} {A : bj} {F : Int} {B i j : Nat} (h : fS s sa A F B i) (hi : (i : Int) < s.2.length) (hr : eu s' s A F B (gI s.2 (i : Int)) j) (hj : ¬ (j : Int) < (gI A (gI s.2 (i : Int))).length) : fS s' sa A F B (i + 1) := by
 have e : s' = pm A (gI s.2 (i : Int)) s := by rw [hr.eq, List.take_of_length_le (by omega)]; rfl
 obtain ⟨t, ht⟩ := lC (gI s.2 (i : Int)) (gI A (gI s.2 (i : Int))) s
 have e2 : s'.2 = s.2 ++ t := by rw [e]; exact ht
 refine ⟨hr.ok, by rw [e2]; simp; omega, ?_⟩
 have hc := h.ok.cnt
 rw [← h.eq, show B - i = (B - (i + 1)) + 1 by omega]
 simp only [hZ]
 rw [if_pos hi, ← e]
theorem fS.done {s sa : List Int × List Int} {A : bj} {F : Int} {B i : Nat} (h : fS s sa A F B i) (hi : ¬ (i : Int) < s.2.length) : s = hZ A B 0 sa := by
 rw [← h.eq]
 cases hB : B - i with
 | zero => rfl
 | succ n => simp only [hZ]; rw [if_neg hi]
end TL
namespace TL
theorem tl {of : List Int} {F : Int} {m : Nat} (ho : hT of F m) {f : Int} (h0 : 0 ≤ f) (h1 : f < F) {k : Int} (hk : k ∈ gI (eE of F m) f) : 0 ≤ k ∧ k < F := by
 obtain ⟨e, he, h⟩ := ((jf ho m (Nat.le_refl _) f h0 h1).2 k).1 hk
 have := ho.ends (e := e) (by omega)
 rcases h with h | h
 · rw [h] at this; exact this.2
 · rw [h] at this; exact this.1
end TL
namespace TL
theorem nT {g : bZ} {r : bj} (hm : bx g) (hr : cf g r) : ∀ l ∈ r, l.length ≤ 1000000 := fun l hl => by
 have := (fl hl).length_le
 have h2 := hr.2.2.2
 have h3 := hm.2.2.1
 omega
end TL
namespace TL
theorem qf {α : Type} [Inhabited α] {xs : List α} {n k : Nat} (h : k < n) : gI (xs.take n) (k : Int) = gI xs (k : Int) := by
 unfold gI
 rw [List.getD_eq_getElem?_getD, List.getD_eq_getElem?_getD, Int.toNat_natCast, List.getElem?_take_of_lt h]
theorem gG {g : bZ} (hm : bx g) : ((bC g).1.length : Int) = g.1 := by
 have := iH g g.1.toNat
 have h0 := hm.1
 unfold bC
 rw [if_pos hm]
 simp only
 omega
theorem di {g : bZ} {r : bj} (hm : bx g) (hr : cf g r) {c : Int × Int} (h : c9 g r c) : (0 ≤ c.1 ∧ c.1 < (r.length : Int)) ∧ (0 < ((gI r c.1).length : Int) → c.2 ∈ gI r c.1) ∧ (∀ h ∈ gI r c.1, 0 ≤ h ∧ h < 2 * (g.2.length : Int)) ∧ ((gI r c.1).length : Int) ≤ 2 * (g.2.length : Int) := by
 obtain ⟨h1, h2⟩ := h
 have hl := hr.1
 have hv : ((c.1.toNat : Nat) : Int) = c.1 := Int.toNat_of_nonneg h1.1
 refine ⟨⟨h1.1, by omega⟩, fun h0 => ?_, fun x hx => ?_, ?_⟩
 · rwa [if_neg (by omega)] at h2
 · have := (hr.2.1 c.1.toNat (by omega) x (by rw [hv]; exact hx)).1
   exact this
 · have := mU hr (k := c.1.toNat) (by omega)
   rwa [hv] at this
section
variable {g : bZ} {r : bj} {a b : Int × Int}
theorem kB (h : ¬ (ar g r).2 = 0) : bg g r a b = ((0, []), [], (ar g r).2) := if_neg h
theorem fY (h : (ar g r).2 = 0) (hc : ¬ decide (c9 g r a) = true ∨ ¬ decide (c9 g r b) = true) : bg g r a b = ((0, []), [], 2) := by
 unfold bg
 rw [if_pos h, if_neg (fun c => by rw [decide_eq_true_eq, decide_eq_true_eq] at hc; exact hc.elim (fun n => n c.1) (fun n => n c.2))]
theorem jt (h : (ar g r).2 = 0) (ha : decide (c9 g r a) = true) (hb : decide (c9 g r b) = true) (hl : 3072 ≤ (g.2.length : Int)) : bg g r a b = ((0, []), [], 3) := by
 unfold bg
 rw [if_pos h, if_pos ⟨of_decide_eq_true ha, of_decide_eq_true hb⟩, if_pos hl]
theorem jw (h : (ar g r).2 = 0) (ha : decide (c9 g r a) = true) (hb : decide (c9 g r b) = true) (hl : ¬ 3072 ≤ (g.2.length : Int)) (hp : gI (bC g).1 a.1 = gI (bC g).1 b.1) (hf : ¬ cd r (bU g r).1 (bt (ar g r).1) a = cd r (bU g r).1 (bt (ar g r).1) b) : bg g r a b = ((0, []), [], 5) := by
 unfold bg
 rw [if_pos h, if_pos ⟨of_decide_eq_true ha, of_decide_eq_true hb⟩, if_neg hl, if_pos ⟨hp, hf⟩]
theorem gE (h : (ar g r).2 = 0) (ha : decide (c9 g r a) = true) (hb : decide (c9 g r b) = true) (hl : ¬ 3072 ≤ (g.2.length : Int)) (hp : ¬ gI (bC g).1 a.1 = gI (bC g).1 b.1 ∨ cd r (bU g r).1 (bt (ar g r).1) a = cd r (bU g r).1 (bt (ar g r).1) b) : bg g r a b = (dR g a b, (cH (dR g a b) (eS g r a b)).1, 0) := by
 unfold bg
 rw [if_pos h, if_pos ⟨of_decide_eq_true ha, of_decide_eq_true hb⟩, if_neg hl, if_neg (fun c => hp.elim (fun n => n c.1) (fun n => c.2 n))]
end
end TL
/-
  TlOf: each half-edge's face: on which list of the faces it is.
  By an AI agent.
-/
set_option linter.all false
namespace TL
theorem vz {F : bj} {n : Int} (h0 : 0 ≤ n) (hn : F.flatten.Nodup) (hin : ∀ f ∈ F, ∀ h ∈ f, 0 ≤ h ∧ h < n) : ∀ k : Nat, k ≤ F.length → ∀ h, 0 ≤ h → h < n →
   (∀ q : Nat, q < k → h ∈ gI F (q : Int) → gI (nU F n k) h = q) ∧ ((∀ q : Nat, q < k → h ∉ gI F (q : Int)) → gI (nU F n k) h = 0) := by
 intro k
 induction k with
 | zero =>
   intro _ h a b
   have : gI (nU F n 0) h = 0 := eH (n := n.toNat) (x := (0 : Int)) a (by omega)
   exact ⟨fun q hq => by omega, fun _ => this⟩
 | succ k ih =>
   intro hk h a b
   have ihh := ih (by omega) h a b
   have hfm : gI F (k : Int) ∈ F := bu (by omega) (by omega)
   have e : gI (nU F n (k + 1)) h = if h ∈ gI F (k : Int) then (k : Int) else gI (nU F n k) h := by
     have hl := jA F n k
     rw [← jG F n k (gI F (k : Int)).length (by omega)]
     unfold k8
     rw [List.take_length, jg (n := (k : Int)) _ _ _ a (by omega) (fun x hx => by have := hin _ hfm x hx; omega)]
   rw [e]
   constructor
   · intro q hq hm
     by_cases c : h ∈ gI F (k : Int)
     · rw [if_pos c]
       have hqm : gI F (q : Int) ∈ F := bu (by omega) (by omega)
       by_cases e2 : q = k
       · omega
       · exfalso
         have hsub : List.Sublist (gI F (q : Int) ++ gI F (k : Int)) F.flatten := by
           have e1 : F.flatten = (F.take k).flatten ++ (F.drop k).flatten := by rw [← List.flatten_append, List.take_append_drop]
           rw [e1]
           refine List.Sublist.append (fl ?_) ?_
           · exact List.mem_iff_getElem.2 ⟨q, by simp; omega, by simp [gI, show q < F.length by omega]⟩
           · refine fl ?_
             exact List.mem_iff_getElem.2 ⟨0, by simp; omega, by simp [gI, show k < F.length by omega]⟩
         exact (List.nodup_append.1 (hn.sublist hsub)).2.2 h hm h c rfl
     · rw [if_neg c]
       have e2 : q ≠ k := fun e => by subst e; exact c hm
       exact ihh.1 q (by omega) hm
   · intro hno
     rw [if_neg (hno k (by omega))]
     exact ihh.2 fun q hq => hno q (by omega)
section
variable {g : bZ} {r : bj}
theorem vm (hr : cf g r) {q : Nat} (hq : (q : Int) < (ax (aw g r) r).length) {h : Int} (hh : h ∈ gI (ax (aw g r) r) (q : Int)) : gI (bX g r) h = q := by
 have hb := iu hr _ (bu (xs := ax (aw g r) r) (i := (q : Int)) (by omega) hq) _ hh
 exact (vz (n := 2 * (g.2.length : Int)) (by omega) (mm hr).1 (iu hr) _ (Nat.le_refl _) h hb.1 hb.2).1 q (by omega) hh
theorem uD (hr : cf g r) {h : Int} (h0 : 0 ≤ h) (h1 : h < 2 * (g.2.length : Int)) : (0 ≤ gI (bX g r) h ∧ gI (bX g r) h < (ax (aw g r) r).length) ∧ h ∈ gI (ax (aw g r) r) (gI (bX g r) h) := by
  obtain ⟨hp, _⟩ := nb hr
  obtain ⟨_, _, h3, _⟩ := jQ hp
  have hl := dW g r
  have hm := h3 h ⟨h0, by omega⟩
  obtain ⟨f, hf, hxf⟩ := List.mem_flatten.1 hm
  have hf2 : f ∈ ax (aw g r) r := by unfold ax; exact List.mem_append_left _ hf
  obtain ⟨q, hq, e⟩ := List.mem_iff_getElem.1 hf2
  have e2 : gI (ax (aw g r) r) (q : Int) = f := by simp [gI, hq, e]
  have e3 := vm hr (q := q) (by omega) (h := h) (by rw [e2]; exact hxf)
  rw [e3]
  exact ⟨⟨by omega, by omega⟩, by rw [e2]; exact hxf⟩
end
end TL
