/- Plain texts of this claim, part 3. By an AI agent. -/
import Derived.Test.YtilohhkbelkmdaaTlP2
import Derived.Carry
import Derived.Deep.Slices
import Derived.Lib.SmallJoins
import Derived.RowKit
import Derived.Shelf.Spec.SlicesInsertGrow
/-
  TlDualF: how far faces are from one another, and ways over them.
  By an AI agent.
-/
set_option linter.all false
namespace TL
structure vw (A : bj) (F : Int) (to : List Int) (s : List Int × List Int) (i : Nat) : Prop where
  len : (s.1.length : Int) = F
  rng : ∀ x ∈ s.2, 0 ≤ x ∧ x < F
  iff : ∀ x, 0 ≤ x → x < F → (0 ≤ gI s.1 x ↔ x ∈ s.2)
  src : ∀ x ∈ to, x ∈ s.2 ∧ gI s.1 x = 0
  zero : ∀ x ∈ s.2, gI s.1 x = 0 → x ∈ to
  par : ∀ x ∈ s.2, x ∉ to → ∃ k ∈ s.2, x ∈ gI A k ∧ gI s.1 x = gI s.1 k + 1
  mono : ∀ a b : Nat, a ≤ b → (b : Int) < s.2.length → gI s.1 (gI s.2 (a : Int)) ≤ gI s.1 (gI s.2 (b : Int))
  top : ∀ a b : Nat, i ≤ a → (a : Int) < s.2.length → (b : Int) < s.2.length → gI s.1 (gI s.2 (b : Int)) ≤ gI s.1 (gI s.2 (a : Int)) + 1
  done : ∀ a : Nat, a < i → (a : Int) < s.2.length → ∀ x ∈ gI A (gI s.2 (a : Int)), 0 ≤ gI s.1 x ∧ gI s.1 x ≤ gI s.1 (gI s.2 (a : Int)) + 1
section
variable {A : bj} {F : Int} {to : List Int}
theorem jk {q t : List Int} {a : Nat} (h : (a : Int) < q.length) : gI (q ++ t) (a : Int) = gI q (a : Int) := by
 have : a < q.length := by omega
 unfold gI
 rw [List.getD_eq_getElem?_getD, List.getD_eq_getElem?_getD, Int.toNat_natCast, List.getElem?_append_left this]
theorem s7 (q : List Int) (x : Int) : gI (q ++ [x]) (q.length : Int) = x := by simp [gI]
theorem rq {q : List Int} {x : Int} (h : x ∈ q) : ∃ a : Nat, (a : Int) < q.length ∧ gI q (a : Int) = x := by
 obtain ⟨a, ha, e⟩ := List.mem_iff_getElem.1 h
 exact ⟨a, by omega, by simp [gI, ha, e]⟩
structure wS (A : bj) (F : Int) (to : List Int) (s : List Int × List Int) (i : Nat) (l : List Int) : Prop where
  ok : vw A F to s i
  hi : (i : Int) < s.2.length
  row : ∀ x ∈ l, 0 ≤ gI s.1 x ∧ gI s.1 x ≤ gI s.1 (gI s.2 (i : Int)) + 1
theorem wS.one {s : List Int × List Int} {i : Nat} {l : List Int} {k : Int} (h : wS A F to s i l) (hk : k ∈ gI A (gI s.2 (i : Int))) (h0 : 0 ≤ k) (h1 : k < F) :
   wS A F to (dQ (gI s.2 (i : Int)) s k) i (l ++ [k]) ∧ gI (dQ (gI s.2 (i : Int)) s k).2 (i : Int) = gI s.2 (i : Int) := by
 obtain ⟨f, hf⟩ : ∃ f, f = gI s.2 (i : Int) := ⟨_, rfl⟩
 have hi := h.hi
 have o := h.ok
 have hfm : f ∈ s.2 := by rw [hf]; exact bu (by omega) hi
 have hfr := o.rng f hfm
 have hfp := (o.iff f hfr.1 hfr.2).2 hfm
 have hl := o.len
 rw [← hf] at hk ⊢
 unfold dQ
 by_cases c : gI s.1 k < 0
 · rw [if_pos c]
   have hkq : k ∉ s.2 := fun hm => by have := (o.iff k h0 h1).2 hm; omega
   obtain ⟨b, hb⟩ : ∃ b, b = gI s.1 f + 1 := ⟨_, rfl⟩
   rw [← hb]
   have hold : ∀ x, x ∈ s.2 → gI (s.1.set k.toNat b) x = gI s.1 x := fun x hx => by
     rw [cu h0 (by omega) (o.rng x hx).1, if_neg (fun e => hkq (by rw [← e]; exact hx))]
   have hnew : gI (s.1.set k.toNat b) k = b := by rw [cu h0 (by omega) h0, if_pos rfl]
   have hqi : gI (s.2 ++ [k]) (i : Int) = f := by rw [jk hi, ← hf]
   have hql : ∀ a : Nat, (a : Int) < (s.2 ++ [k]).length → ¬ (a : Int) < s.2.length → a = s.2.length := fun a h1 h2 => by simp at h1; omega
   have hqm : gI (s.2 ++ [k]) ((s.2.length : Nat) : Int) = k := s7 _ _
   have hqv : ∀ a : Nat, (a : Int) < s.2.length → gI (s.1.set k.toNat b) (gI (s.2 ++ [k]) (a : Int)) = gI s.1 (gI s.2 (a : Int)) := fun a ha => by
     rw [jk ha, hold _ (bu (by omega) ha)]
   refine ⟨⟨⟨by simpa using hl, fun x hx => ?_, fun x x0 x1 => ?_, fun x hx => ?_, fun x hx e => ?_, fun x hx hn => ?_, fun a c hac hc => ?_, fun a c ha hal hcl => ?_, fun a ha hal x hx => ?_⟩, by simp; omega, fun x hx => ?_⟩, hqi⟩
   · rcases List.mem_append.1 hx with hx | hx
     · exact o.rng x hx
     · obtain rfl := List.mem_singleton.1 hx; exact ⟨h0, h1⟩
   · show 0 ≤ gI (s.1.set k.toNat b) x ↔ x ∈ s.2 ++ [k]
     rw [cu h0 (by omega) x0]
     by_cases e : x = k
     · rw [if_pos e, e]; simp; omega
     · rw [if_neg e, o.iff x x0 x1]; simp [e]
   · have := o.src x hx
     exact ⟨List.mem_append_left _ this.1, by show gI (s.1.set k.toNat b) x = 0; rw [hold x this.1]; exact this.2⟩
   · have e : gI (s.1.set k.toNat b) x = 0 := e
     rcases List.mem_append.1 hx with hx | hx
     · rw [hold x hx] at e; exact o.zero x hx e
     · obtain rfl := List.mem_singleton.1 hx
       rw [hnew] at e; omega
   · show ∃ k' ∈ s.2 ++ [k], x ∈ gI A k' ∧ gI (s.1.set k.toNat b) x = gI (s.1.set k.toNat b) k' + 1
     rcases List.mem_append.1 hx with hx | hx
     · obtain ⟨y, hy, h2, h3⟩ := o.par x hx hn
       exact ⟨y, List.mem_append_left _ hy, h2, by rw [hold x hx, hold y hy]; exact h3⟩
     · obtain rfl := List.mem_singleton.1 hx
       exact ⟨f, List.mem_append_left _ hfm, hk, by rw [hnew, hold f hfm]; exact hb⟩
   · show gI (s.1.set k.toNat b) (gI (s.2 ++ [k]) (a : Int)) ≤ gI (s.1.set k.toNat b) (gI (s.2 ++ [k]) (c : Int))
     by_cases hc2 : (c : Int) < s.2.length
     · rw [hqv a (by omega), hqv c hc2]; exact o.mono a c hac hc2
     · have := hql c hc hc2
       subst this
       rw [hqm, hnew]
       by_cases ha2 : (a : Int) < s.2.length
       · rw [hqv a ha2, hb, hf]
         exact o.top i a (Nat.le_refl _) hi ha2
       · have : a = s.2.length := by omega
         subst this
         rw [hqm, hnew]; omega
   · show gI (s.1.set k.toNat b) (gI (s.2 ++ [k]) (c : Int)) ≤ gI (s.1.set k.toNat b) (gI (s.2 ++ [k]) (a : Int)) + 1
     by_cases ha2 : (a : Int) < s.2.length
     · rw [hqv a ha2]
       have h5 := o.mono i a ha ha2
       by_cases hc2 : (c : Int) < s.2.length
       · rw [hqv c hc2]; exact o.top a c ha ha2 hc2
       · have := hql c hcl hc2
         subst this
         rw [hqm, hnew, hb, hf]; omega
     · have := hql a hal ha2
       subst this
       rw [hqm, hnew]
       by_cases hc2 : (c : Int) < s.2.length
       · rw [hqv c hc2]
         have := o.top i c (Nat.le_refl _) hi hc2
         rw [hb, hf]; omega
       · have := hql c hcl hc2
         subst this
         rw [hqm, hnew]; omega
   · show 0 ≤ gI (s.1.set k.toNat b) x ∧ gI (s.1.set k.toNat b) x ≤ gI (s.1.set k.toNat b) (gI (s.2 ++ [k]) (a : Int)) + 1
     have ha2 : (a : Int) < s.2.length := by omega
     rw [hqv a ha2]
     have hx' : x ∈ gI A (gI s.2 (a : Int)) := by rwa [show gI (s.2 ++ [k]) (a : Int) = gI s.2 (a : Int) from jk ha2] at hx
     have h6 := o.done a ha ha2 x hx'
     by_cases e : x = k
     · rw [e] at h6; omega
     · by_cases hx0 : 0 ≤ x
       · rw [cu h0 (by omega) hx0, if_neg e]; exact h6
       · have e1 : gI (s.1.set k.toNat b) x = gI (s.1.set k.toNat b) 0 := by unfold gI; rw [show x.toNat = 0 by omega]; rfl
         have e2 : gI s.1 x = gI s.1 0 := by unfold gI; rw [show x.toNat = 0 by omega]; rfl
         rw [e2] at h6
         rw [e1, cu h0 (by omega) (by omega)]
         by_cases e3 : (0 : Int) = k
         · rw [← e3] at c; omega
         · rw [if_neg e3]; exact h6
   · show 0 ≤ gI (s.1.set k.toNat b) x ∧ gI (s.1.set k.toNat b) x ≤ gI (s.1.set k.toNat b) (gI (s.2 ++ [k]) (i : Int)) + 1
     rw [hqi, hold f hfm]
     rcases List.mem_append.1 hx with hx | hx
     · have h6 := h.row x hx
       rw [← hf] at h6
       by_cases e : x = k
       · rw [e] at h6; omega
       · by_cases hx0 : 0 ≤ x
         · rw [cu h0 (by omega) hx0, if_neg e]; exact h6
         · have e1 : gI (s.1.set k.toNat b) x = gI (s.1.set k.toNat b) 0 := by unfold gI; rw [show x.toNat = 0 by omega]; rfl
           have e2 : gI s.1 x = gI s.1 0 := by unfold gI; rw [show x.toNat = 0 by omega]; rfl
           rw [e2] at h6
           rw [e1, cu h0 (by omega) (by omega)]
           by_cases e3 : (0 : Int) = k
           · rw [← e3] at c; omega
           · rw [if_neg e3]; exact h6
     · obtain rfl := List.mem_singleton.1 hx
       rw [hnew]; omega
 · rw [if_neg c]
   refine ⟨⟨o, hi, fun x hx => ?_⟩, hf.symm⟩
   rcases List.mem_append.1 hx with hx | hx
   · exact h.row x hx
   · obtain rfl := List.mem_singleton.1 hx
     have hm := (o.iff x h0 h1).1 (by omega)
     obtain ⟨a, ha, e⟩ := rq hm
     refine ⟨by omega, ?_⟩
     have := o.top i a (Nat.le_refl _) hi ha
     rw [e] at this; exact this
theorem lZ {i : Nat} {f : Int} (hA : ∀ k ∈ gI A f, 0 ≤ k ∧ k < F) : ∀ (m l : List Int) (s : List Int × List Int), gI s.2 (i : Int) = f → (∀ k ∈ m, k ∈ gI A f) → wS A F to s i l → wS A F to (m.foldl (dQ f) s) i (l ++ m) ∧ gI (m.foldl (dQ f) s).2 (i : Int) = f
 | [], l, s, hf, _, h => ⟨by simpa using h, hf⟩
 | k :: m, l, s, hf, hm, h => by
   have hk := hm k (by simp)
   have hb := hA k hk
   subst hf
   obtain ⟨h1, h2⟩ := h.one (k := k) hk hb.1 hb.2
   have := lZ (f := gI s.2 (i : Int)) hA m (l ++ [k]) (dQ (gI s.2 (i : Int)) s k) h2 (fun x hx => hm x (by simp [hx])) h1
   simpa using this
theorem vw.next {s : List Int × List Int} {i : Nat} (hA : ∀ f, 0 ≤ f → f < F → ∀ k ∈ gI A f, 0 ≤ k ∧ k < F) (h : vw A F to s i) (hi : (i : Int) < s.2.length) : vw A F to (pm A (gI s.2 (i : Int)) s) (i + 1) := by
 have hr := h.rng _ (bu (by omega) hi)
 obtain ⟨h1, h2⟩ := lZ (A := A) (F := F) (to := to) (i := i) (hA _ hr.1 hr.2) (gI A (gI s.2 (i : Int))) [] s rfl (fun k hk => hk) ⟨h, hi, by simp⟩
 have o := h1.ok
 unfold pm
 refine ⟨o.len, o.rng, o.iff, o.src, o.zero, o.par, o.mono, fun a b ha hal hbl => o.top a b (by omega) hal hbl, fun a ha hal x hx => ?_⟩
 by_cases e : a = i
 · subst e
   rw [h2] at hx ⊢
   have := h1.row x (by simpa using hx)
   rwa [h2] at this
 · exact o.done a (by omega) hal x hx
theorem mV (hA : ∀ f, 0 ≤ f → f < F → ∀ k ∈ gI A f, 0 ≤ k ∧ k < F) {B : Nat} : ∀ (n i : Nat) (s : List Int × List Int), vw A F to s i → iK F B s → B ≤ n + i → ∃ j : Nat, vw A F to (hZ A n i s) j ∧ ¬ (j : Int) < (hZ A n i s).2.length
 | 0, i, s, h, ho, hb => ⟨i, h, by have := ho.cnt; simp only [hZ]; omega⟩
 | n + 1, i, s, h, ho, hb => by
   simp only [hZ]
   by_cases c : (i : Int) < s.2.length
   · rw [if_pos c]
     refine mV (B := B) hA n (i + 1) _ (h.next hA c) ?_ (by omega)
     have hfm : gI s.2 (i : Int) ∈ s.2 := bu (by omega) c
     have hr := h.rng _ hfm
     have key : ∀ (m : List Int) (s : List Int × List Int), gI s.2 (i : Int) = gI s.2 (i : Int) → True := fun _ _ _ => trivial
     have : ∀ (f : Int) (m : List Int) (s : List Int × List Int), (∀ k ∈ m, 0 ≤ k ∧ k < F) → f ∈ s.2 → iK F B s → iK F B (m.foldl (dQ f) s) := by
       intro f m
       induction m with
       | nil => intro s _ _ h; exact h
       | cons k m ih =>
         intro s hm hf ho
         obtain ⟨h1, t, ht⟩ := ho.one hf (hm k (by simp)).1 (hm k (by simp)).2
         exact ih _ (fun x hx => hm x (by simp [hx])) (by rw [ht]; exact List.mem_append_left _ hf) h1
     exact this _ _ s (hA _ hr.1 hr.2) hfm ho
   · rw [if_neg c]; exact ⟨i, h, c⟩
end
structure gz (m : Nat) (of : List Int) (F : Int) (to : List Int) (far : List Int) : Prop where
  len : (far.length : Int) = F
  low : ∀ x, 0 ≤ x → x < F → -1 ≤ gI far x
  src : ∀ x ∈ to, gI far x = 0
  zero : ∀ x, 0 ≤ x → x < F → gI far x = 0 → x ∈ to
  par : ∀ x, 0 ≤ x → x < F → 0 ≤ gI far x → x ∉ to → ∃ e : Nat, e < m ∧ ∃ k, (0 ≤ k ∧ k < F) ∧ (aB of e = (k, x) ∨ aB of e = (x, k)) ∧ gI far x = gI far k + 1
  adj : ∀ e : Nat, e < m → ∀ x y, aB of e = (x, y) ∨ aB of e = (y, x) → 0 ≤ gI far x → 0 ≤ gI far y ∧ gI far y ≤ gI far x + 1
theorem oT {m : Nat} {of : List Int} {F : Int} {to : List Int} (hF : 0 ≤ F) (ho : hT of F m) (ht : ∀ x ∈ to, 0 ≤ x ∧ x < F) : gz m of F to (bT m of F to) := by
 have hA : ∀ f, 0 ≤ f → f < F → ∀ k ∈ gI (eE of F m) f, 0 ≤ k ∧ k < F := fun f h0 h1 k hk => by
   obtain ⟨e, he, h⟩ := ((jf ho m (Nat.le_refl _) f h0 h1).2 k).1 hk
   have := ho.ends (e := e) (by omega)
   rcases h with h | h
   · rw [h] at this; exact this.2
   · rw [h] at this; exact this.1
 have h0 : vw (eE of F m) F to (dP F to, to) 0 := by
   have hfl := ff F to
   have hz : ∀ x ∈ to, gI (dP F to) x = 0 := fun x hx => by
     have := ht x hx
     rw [f8 hF ht this.1 this.2, if_pos hx]
   refine ⟨by simp only; omega, ht, fun x x0 x1 => ?_, fun x hx => ⟨hx, hz x hx⟩, fun x hx _ => hx, fun x hx hn => absurd hx hn, fun a b hab hb => ?_, fun a b _ ha hb => ?_, fun a ha => by omega⟩
   · show 0 ≤ gI (dP F to) x ↔ x ∈ to
     rw [f8 hF ht x0 x1]
     by_cases e : x ∈ to
     · rw [if_pos e]; simp [e]
     · rw [if_neg e]; simp [e]
   · simp only at hb ⊢
     rw [hz _ (bu (by omega) (by omega)), hz _ (bu (by omega) hb)]; exact Int.le_refl _
   · simp only at ha hb ⊢
     rw [hz _ (bu (by omega) ha), hz _ (bu (by omega) hb)]; omega
 obtain ⟨j, hj, hjl⟩ := mV (to := to) hA (F.toNat + to.length) 0 _ h0 (iK.start hF ht) (by omega)
 unfold bT
 refine ⟨hj.len, fun x x0 x1 => ?_, fun x hx => (hj.src x hx).2, fun x x0 x1 e => hj.zero x ((hj.iff x x0 x1).1 (by omega)) e, fun x x0 x1 hx hn => ?_, fun e he x y hxy hx => ?_⟩
 · have : ∀ (n i : Nat) (s : List Int × List Int), (∀ x, -1 ≤ gI s.1 x) → ∀ x, -1 ≤ gI (hZ (eE of F m) n i s).1 x := by
     intro n
     induction n with
     | zero => intro i s h x; exact h x
     | succ n ih =>
       intro i s h x
       simp only [hZ]
       split
       · refine ih _ _ ?_ x
         have : ∀ (f : Int) (l : List Int) (s : List Int × List Int), (∀ x, -1 ≤ gI s.1 x) → ∀ x, -1 ≤ gI (l.foldl (dQ f) s).1 x := by
           intro f l
           induction l with
           | nil => intro s h; exact h
           | cons k l ihl =>
             intro s h
             refine ihl _ fun x => ?_
             unfold dQ
             split
             · have hf := h f
               show -1 ≤ gI (s.1.set k.toNat (gI s.1 f + 1)) x
               unfold gI
               rw [List.getD_eq_getElem?_getD, List.getElem?_set]
               split
               · split
                 · simp only [Option.getD_some]
                   unfold gI at hf; omega
                 · simp [default]
               · exact h x
             · exact h x
         exact this _ _ s h
       · exact h x
   refine this _ _ _ (fun x => ?_) x
   show -1 ≤ gI (dP F to) x
   by_cases hx0 : 0 ≤ x ∧ x < F
   · rw [f8 hF ht hx0.1 hx0.2]; split <;> omega
   · by_cases hn : x < 0
     · by_cases hF0 : 0 < F
       · have e2 : gI (dP F to) x = gI (dP F to) 0 := by unfold gI; rw [show x.toNat = 0 by omega]; rfl
         rw [e2, f8 hF ht (by omega) hF0]; split <;> omega
       · have : dP F to = [] := List.eq_nil_of_length_eq_zero (by rw [ff]; omega)
         rw [this]; simp [gI, default]
     · have hl := ff F to
       have : gI (dP F to) x = 0 := by
         unfold gI
         rw [List.getD_eq_getElem?_getD, List.getElem?_eq_none (by omega)]; rfl
       rw [this]; omega
 · obtain ⟨k, hk, h2, h3⟩ := hj.par x ((hj.iff x x0 x1).1 hx) hn
   have hkr := hj.rng k hk
   obtain ⟨e, he, h4⟩ := ((jf ho m (Nat.le_refl _) k hkr.1 hkr.2).2 x).1 h2
   exact ⟨e, he, k, hkr, h4, h3⟩
 · have hb := ho.ends (e := e) (by omega)
   have hxr : 0 ≤ x ∧ x < F := by
     rcases hxy with h | h
     · rw [h] at hb; exact hb.1
     · rw [h] at hb; exact hb.2
   have hm := (hj.iff x hxr.1 hxr.2).1 hx
   obtain ⟨a, ha, e2⟩ := rq hm
   have := hj.done a (by omega) ha y (by
     rw [e2]
     exact ((jf ho m (Nat.le_refl _) x hxr.1 hxr.2).2 y).2 ⟨e, he, hxy⟩)
   rwa [e2] at this
def gn (x : Int × Int) (f : Int) : Int := if x.2 = f then x.1 else x.2
def es (of far : List Int) (f e : Int) : Prop := ((aB of e).2 = f ∨ (aB of e).1 = f) ∧ gI far (gn (aB of e) f) = gI far f - 1
instance (of far : List Int) (f e : Int) : Decidable (es of far f e) := by unfold es; infer_instance
def l8 (of far : List Int) (m : Nat) (to : Int) : Nat → Int → List Int
 | 0, _ => []
 | n + 1, f => if f = to then [] else match (c7 m).find? fun e => decide (es of far f e) with
   | some e => e :: l8 of far m to n (gn (aB of e) f)
   | none => []
theorem po {m : Nat} {of : List Int} {F : Int} {to : Int} {far : List Int} (h : gz m of F [to] far) {f : Int} (h0 : 0 ≤ f) (h1 : f < F) (hf : 0 ≤ gI far f) (hn : f ≠ to) : ∃ e : Nat, e < m ∧ es of far f e := by
  obtain ⟨e, he, k, _, h2, h3⟩ := h.par f h0 h1 hf (by simpa using hn)
  have hkf : k ≠ f := fun e => by subst e; omega
  refine ⟨e, he, ?_⟩
  unfold es gn
  rcases h2 with h2 | h2
  · rw [h2]
    exact ⟨.inl rfl, by rw [show (if (k, f).2 = f then (k, f).1 else (k, f).2) = k from if_pos rfl]; omega⟩
  · rw [h2]
    exact ⟨.inr rfl, by rw [show (if (f, k).2 = f then (f, k).1 else (f, k).2) = k from if_neg hkf]; omega⟩
theorem oR {m : Nat} {p : Int → Bool} {e : Nat} (he : e < m) (hp : p (e : Int) = true) (hl : ∀ j : Nat, j < e → p (j : Int) = false) : (c7 m).find? p = some (e : Int) := by
 refine List.find?_eq_some_iff_getElem.2 ⟨hp, e, by rw [cP]; exact he, by simp [c7], fun j hj => ?_⟩
 simp [c7, hl j hj]
theorem qy {m : Nat} {of far : List Int} {to f : Int} {n e : Nat} (hf : f ≠ to) (he : e < m) (hp : es of far f e) (hl : ∀ j : Nat, j < e → ¬ es of far f j) : l8 of far m to (n + 1) f = (e : Int) :: l8 of far m to n (gn (aB of e) f) := by
 simp only [l8]
 rw [if_neg hf, oR he (decide_eq_true hp) (fun j hj => decide_eq_false (hl j hj))]
theorem vX {of : List Int} {F : Int} {m : Nat} (ho : hT of F m) {e : Nat} (he : e < m) (f : Int) : 0 ≤ gn (aB of e) f ∧ gn (aB of e) f < F := by
 have := ho.ends (e := e) (by omega)
 unfold gn
 split
 · exact this.1
 · exact this.2
structure dk (l : List Int) (f : Int) (m : Nat) (of : List Int) (F : Int) (far : List Int) (from_ to : Int) : Prop where
  rng : 0 ≤ f ∧ f < F
  pos : 0 ≤ gI far f ∧ gI far f ≤ gI far from_
  eq : l ++ l8 of far m to (gI far f).toNat f = l8 of far m to (gI far from_).toNat from_
  len : (l.length : Int) + gI far f = gI far from_
theorem dk.start {m : Nat} {of : List Int} {F : Int} {far : List Int} {from_ to : Int} (h0 : 0 ≤ from_) (h1 : from_ < F) (h2 : ¬ gI far from_ < 0) : dk [] from_ m of F far from_ to := ⟨⟨h0, h1⟩, ⟨by omega, Int.le_refl _⟩, by simp, by simp⟩
theorem dk.next {l : List Int} {f : Int} {m : Nat} {of : List Int} {F : Int} {far : List Int} {from_ to : Int} (h : dk l f m of F far from_ to) (ho : hT of F m) (hP : gz m of F [to] far) (hf : f ≠ to) {e : Nat} (he : (e : Int) < m) (hp : es of far f e) (hl : ∀ j : Nat, j < e → ¬ es of far f j) :
   dk (l ++ [(e : Int)]) (gn (aB of e) f) m of F far from_ to ∧ gI far (gn (aB of e) f) = gI far f - 1 := by
 have hr := vX ho (e := e) (by omega) f
 have hv := hp.2
 have hpos : 0 < gI far f := by
   have h1 := h.pos.1
   by_cases c : gI far f = 0
   · exact absurd (by simpa using hP.zero f h.rng.1 h.rng.2 c) hf
   · omega
 have h2 := h.pos
 refine ⟨⟨hr, by omega, ?_, ?_⟩, hv⟩
 · rw [← h.eq, show (gI far f).toNat = (gI far f - 1).toNat + 1 by omega, qy hf (by omega) hp hl, hv]
   simp
 · have := h.len
   simp only [List.length_append, List.length_cons, List.length_nil]; omega
theorem dk.done {l : List Int} {m : Nat} {of : List Int} {F : Int} {far : List Int} {from_ to : Int} (h : dk l to m of F far from_ to) (hP : gz m of F [to] far) : l = l8 of far m to (gI far from_).toNat from_ := by
 have h1 := h.eq
 rw [hP.src to (by simp)] at h1
 simpa [l8] using h1
def bB (g : bZ) (r : bj) (from_ to : Int) : List Int × Int :=
 if (ar g r).2 = 0 then
   if from_ < 0 ∨ ((ar g r).1.length : Int) ≤ from_ ∨ to < 0 ∨ ((ar g r).1.length : Int) ≤ to then ([], 2)
   else if gI (bT g.2.length (bU g r).1 ((ar g r).1.length : Int) [to]) from_ < 0 then ([], 14)
   else (l8 (bU g r).1 (bT g.2.length (bU g r).1 ((ar g r).1.length : Int) [to]) g.2.length to (gI (bT g.2.length (bU g r).1 ((ar g r).1.length : Int) [to]) from_).toNat from_, 0)
 else ([], (ar g r).2)
end TL
namespace TL
theorem nE {g : bZ} {r : bj} (hm : bx g) (hr : cf g r) : hT (bU g r).1 ((ar g r).1.length : Int) g.2.length := by
 rw [eN (br hm hr), bG (br hm hr)]
 exact ⟨ec g r, fun h h0 h1 => (uD hr h0 h1).1⟩
theorem gz.lt {m : Nat} {of : List Int} {F : Int} {to : List Int} {far : List Int} (h : gz m of F to far) {f : Int} (h0 : 0 ≤ f) (h1 : f < F) : gI far f < F := by
 have key : ∀ (n : Nat) (f : Int), 0 ≤ f → f < F → gI far f = n → ∃ l : List Int, l.Nodup ∧ (∀ x ∈ l, (0 ≤ x ∧ x < F) ∧ gI far x ≤ n) ∧ l.length = n + 1 := by
   intro n
   induction n with
   | zero => intro f f0 f1 e; exact ⟨[f], by simp, fun x hx => by obtain rfl := List.mem_singleton.1 hx; exact ⟨⟨f0, f1⟩, by omega⟩, rfl⟩
   | succ n ih =>
     intro f f0 f1 e
     have hn : f ∉ to := fun hm => by have := h.src f hm; omega
     obtain ⟨_, _, k, hk, _, h3⟩ := h.par f f0 f1 (by omega) hn
     obtain ⟨l, l1, l2, l3⟩ := ih k hk.1 hk.2 (by omega)
     refine ⟨f :: l, List.nodup_cons.2 ⟨fun hf => by have := (l2 f hf).2; omega, l1⟩, fun x hx => ?_, by simp [l3]⟩
     rcases List.mem_cons.1 hx with hx | hx
     · subst hx; exact ⟨⟨f0, f1⟩, by omega⟩
     · exact ⟨(l2 x hx).1, by have := (l2 x hx).2; omega⟩
 by_cases c : gI far f < 0
 · omega
 · obtain ⟨l, l1, l2, l3⟩ := key (gI far f).toNat f h0 h1 (by omega)
   have := fk (n := F) (by omega) l1 (fun x hx => (l2 x hx).1)
   omega
theorem gz.top {m : Nat} {of : List Int} {F : Int} {to : List Int} {far : List Int} (h : gz m of F to far) (hF : F ≤ 100000) {f : Int} (h0 : 0 ≤ f) (h1 : f < F) : gI far f ≤ 1000000000 := by
 have := h.lt h0 h1; omega
section
variable {g : bZ} {r : bj} {a b : Int}
theorem mS (h : ¬ (ar g r).2 = 0) : bB g r a b = ([], (ar g r).2) := if_neg h
theorem dp (h : (ar g r).2 = 0) (hb : a < 0 ∨ ((ar g r).1.length : Int) ≤ a ∨ b < 0 ∨ ((ar g r).1.length : Int) ≤ b) : bB g r a b = ([], 2) := by
 unfold bB; rw [if_pos h, if_pos hb]
theorem ir (h : (ar g r).2 = 0) (hb : ¬ (a < 0 ∨ ((ar g r).1.length : Int) ≤ a ∨ b < 0 ∨ ((ar g r).1.length : Int) ≤ b)) (hn : gI (bT g.2.length (bU g r).1 ((ar g r).1.length : Int) [b]) a < 0) : bB g r a b = ([], 14) := by
 unfold bB; rw [if_pos h, if_neg hb, if_pos hn]
theorem jv (h : (ar g r).2 = 0) (hb : ¬ (a < 0 ∨ ((ar g r).1.length : Int) ≤ a ∨ b < 0 ∨ ((ar g r).1.length : Int) ≤ b)) (hn : ¬ gI (bT g.2.length (bU g r).1 ((ar g r).1.length : Int) [b]) a < 0) : bB g r a b = (l8 (bU g r).1 (bT g.2.length (bU g r).1 ((ar g r).1.length : Int) [b]) g.2.length b (gI (bT g.2.length (bU g r).1 ((ar g r).1.length : Int) [b]) a).toNat a, 0) := by
 unfold bB; rw [if_pos h, if_neg hb, if_neg hn]
end
section
variable {l : List Int} {f : Int} {m : Nat} {of : List Int} {F : Int} {far : List Int} {from_ to : Int}
theorem vv {e : Int} (h : (aB of e).2 = f) (hv : gI far (aB of e).1 = gI far f - 1) : es of far f e ∧ gn (aB of e) f = (aB of e).1 := by
 have : gn (aB of e) f = (aB of e).1 := if_pos h
 exact ⟨⟨.inl h, by rw [this]; exact hv⟩, this⟩
theorem vo {e : Int} (hn : ¬ (aB of e).2 = f) (h : (aB of e).1 = f) (hv : gI far (aB of e).2 = gI far f - 1) : es of far f e ∧ gn (aB of e) f = (aB of e).2 := by
 have : gn (aB of e) f = (aB of e).2 := if_neg hn
 exact ⟨⟨.inr h, by rw [this]; exact hv⟩, this⟩
theorem vJ {e : Int} (h : (aB of e).2 = f) (hv : ¬ gI far (aB of e).1 = gI far f - 1) : ¬ es of far f e := fun hs => by
 have : gn (aB of e) f = (aB of e).1 := if_pos h
 have h2 := hs.2
 rw [this] at h2; exact hv h2
theorem wO {e : Int} (hn : ¬ (aB of e).2 = f) (hv : ¬ gI far (aB of e).2 = gI far f - 1) : ¬ es of far f e := fun hs => by
 have : gn (aB of e) f = (aB of e).2 := if_neg hn
 have h2 := hs.2
 rw [this] at h2; exact hv h2
theorem wg {e : Int} (hn : ¬ (aB of e).2 = f) (h : ¬ (aB of e).1 = f) : ¬ es of far f e := fun hs => hs.1.elim hn h
end
end TL
/-
  TlIns: the library's Insert into a list of numbers that the call owns.
  By an AI agent.
-/
set_option linter.all false
namespace TL
open Go Go.Proofs Go.Shelf
structure x6 (w w' : World) (b o : Nat) (vs : List Value) (c : Array Value) (e : TypeId) : Prop where
  os : w'.os = w.os
  tape : w'.tape = w.tape
  output : w'.output = w.output
  drawn : w'.drawn = w.drawn
  size : w'.heap.size = w.heap.size
  other : ∀ k, k ≠ b → w'.heap[k]? = w.heap[k]?
  at_ : ∃ c', w'.heap[b]? = some (.cells c' e (0, 0)) ∧ c'.size = c.size ∧ ∀ k, c'[k]? = if o ≤ k ∧ k < o + vs.length then vs[k - o]? else c[k]?
theorem wE (b : Nat) (e : TypeId) : ∀ (vs : List Value) (o : Nat) (w : World) (c : Array Value), w.heap[b]? = some (.cells c e (0, 0)) → o + vs.length ≤ c.size → x6 w (w.setCells b o vs) b o vs c e
 | [], o, w, c, h, _ => ⟨rfl, rfl, rfl, rfl, rfl, fun _ _ => rfl, c, h, rfl, fun k => by rw [if_neg (by rintro ⟨h1, h2⟩; simp at h2; omega)]⟩
 | v :: r, o, w, c, h, hl => by
   have hl' : o + 1 + r.length ≤ c.size := by simp at hl; omega
   simp only [List.length_cons] at hl
   have hb := eg h
   have h1 : (w.setCell ⟨b, o, none⟩ v).heap[b]? = some (.cells (c.setIfInBounds o v) e (0, 0)) := by
     simp only [World.setCell, Array.getElem?_modify, if_true, h, Option.map_some]
     simp
   have ih := wE b e r (o + 1) (w.setCell ⟨b, o, none⟩ v) (c.setIfInBounds o v) h1 (by simpa using hl')
   obtain ⟨i1, i2, i3, i4, i5, i6, c', i7, i8, i9⟩ := ih
   refine ⟨i1, i2, i3, i4, by rw [World.setCells, i5]; simp [World.setCell], fun k hk => ?_, c', i7, by rw [i8]; simp, fun k => ?_⟩
   · rw [World.setCells, i6 k hk]
     simp [World.setCell, Array.getElem?_modify, Ne.symm hk]
   · rw [i9 k]
     simp only [List.length_cons]
     by_cases k1 : o + 1 ≤ k ∧ k < o + 1 + r.length
     · rw [if_pos k1, if_pos (by omega), show k - o = (k - (o + 1)) + 1 by omega]; simp
     · rw [if_neg k1]
       by_cases k2 : k = o
       · subst k2
         have hlt : k < c.size := by omega
         rw [if_pos (by omega), Nat.sub_self]
         simp [hlt]
       · rw [if_neg (by omega), Array.getElem?_setIfInBounds_ne (Ne.symm k2)]
theorem x6.chg {γ : aE} {J : cv → Prop} {w w' : World} {b o : Nat} {vs : List Value} {c : Array Value} {e : TypeId} (h : x6 w w' b o vs c e) (hJ : J (γ b)) : bq J γ w γ w' :=
 ⟨h.os, h.tape, h.output, by rw [h.size]; exact Nat.le_refl _, fun _ _ _ => rfl, fun k _ hn => h.other k (fun e => hn (by rw [e]; exact hJ)), by rw [h.drawn]; exact Nat.le_refl _⟩
def vI (xs : List Int) : List Value := xs.map fun x => .int .i64 x
theorem nG {γ : aE} {J S : cv → Prop} {w : World} {b cap : Nat} {c : Array Value} {e : TypeId} {xs : List Int} (hb : w.heap[b]? = some (.cells c e (0, 0))) (hJ : J (γ b)) (hsz : c.size = cap) (hc : xs.length ≤ cap) (hl : xs.length ≤ 1099511627776) (hm : cap ≤ maxLen)
    (h : ∀ k, k < xs.length → c[k]? = (vI xs)[k]?) : Ow γ J S w (.slice (some ⟨b, 0, none⟩) xs.length cap) xs := by
  refine .inr ⟨b, cap, c, e, rfl, ⟨hc, hl⟩, hm, hJ, hb, by rw [hsz]; exact (Nat.mul_one cap).symm, fun k x hk => ⟨[.int .i64 x], fun j hj => ?_, rfl⟩⟩
  have hj0 : j = 0 := by have : j < 1 := hj; omega
  subst hj0
  have hk' := (List.getElem?_eq_some_iff.1 hk).1
  have := h k hk'
  rw [show k * Rp.sz Int + 0 = k from Nat.mul_one k, this]
  simp [vI, hk]
theorem m6 {γ : aE} {J S : cv → Prop} {w : World} {v : Value} {xs : List Int} (h : Ow γ J S w v xs) (h0 : xs ≠ []) : ∃ b cap c e, v = .slice (some ⟨b, 0, none⟩) xs.length cap ∧ xs.length ≤ cap ∧ cap ≤ maxLen ∧ J (γ b) ∧ w.heap[b]? = some (.cells c e (0, 0)) ∧ c.size = cap ∧ ∀ k, k < xs.length → c[k]? = (vI xs)[k]? := by
 rcases h with ⟨_, h⟩ | ⟨b, cap, c, e, rfl, hc, hm, hJ, hb, hsz, hx⟩
 · exact absurd h h0
 · refine ⟨b, cap, c, e, rfl, hc.1, hm, hJ, hb, by rw [hsz]; exact Nat.mul_one cap, fun k hk => ?_⟩
   obtain ⟨cs, h1, h2⟩ := hx k xs[k] (by simp [hk])
   have h2 : cs = [.int .i64 xs[k]] := h2
   have h1 := h1 0 Nat.zero_lt_one
   rw [show k * Rp.sz Int + 0 = k from Nat.mul_one k] at h1
   rw [h1, h2]
   simp [vI, hk]
theorem cw (xs : List Int) : (vI xs).length = xs.length := by simp [vI]
theorem gF (xs : List Int) : ∀ v ∈ vI xs, v.oneCell' = true := by
 intro v hv
 obtain ⟨x, _, rfl⟩ := List.mem_map.1 hv
 rfl
theorem sc {α : Type} (X Y : List α) (i k : Nat) (hi : i ≤ X.length) : (X.take i ++ Y ++ X.drop i)[k]? = if k < i then X[k]? else if k < i + Y.length then Y[k - i]? else X[k - Y.length]? := by
 have hm : (X.take i).length = i := by simp; omega
 by_cases h1 : k < i
 · rw [if_pos h1, List.append_assoc, List.getElem?_append_left (by omega), List.getElem?_take_of_lt h1]
 · rw [if_neg h1]
   by_cases h2 : k < i + Y.length
   · rw [if_pos h2, List.getElem?_append_left (by simp; omega), List.getElem?_append_right (by omega), hm]
   · rw [if_neg h2, List.getElem?_append_right (by simp; omega), List.getElem?_drop]
     congr 1
     simp; omega
theorem mJ (z : Array Value) (n : Nat) (hz : z.size = 1) : (Builtin.zeroCells z n).size = n := by simp [Builtin.zeroCells, hz]
set_option maxHeartbeats 1000000 in
theorem jM {P : Program} {ρ : Ren} (L : Lays2.n21 P ρ) {γ : aE} {J K S S' : cv → Prop} (cJ : cv) (hcJ : J cJ) {w : World} {v u : Value} {xs ys : List Int} {i : Int} (hx : Ow γ J S w v xs) (hy : Ow γ K S' w u ys) (hJK : ∀ c, J c → ¬ K c) (h0 : 0 ≤ i) (hi : i ≤ xs.length) (hm : ys ≠ []) (hlen : xs.length + ys.length ≤ 1000000) :
    Calls P (ρ.f 21) #[v, .int .i64 i, u] w fun e w' => ∃ x : aE × Value, e = .returned x.2 ∧ (bq J γ w x.1 w' ∧ Ow x.1 J S w' x.2 (xs.take i.toNat ++ ys ++ xs.drop i.toNat)) := by
  obtain ⟨vb, cap2, c2, e2, rfl, hc2, hm2, hK, hvb, hsz2, hat2⟩ := m6 hy hm
  obtain ⟨i, rfl⟩ : ∃ k : Nat, i = (k : Int) := ⟨i.toNat, by omega⟩
  simp only [Int.toNat_natCast]
  have hm0 : 0 < ys.length := by
    cases ys with
    | nil => exact absurd rfl hm
    | cons _ _ => simp
  have hvs : ∀ j q, (vI ys)[j]? = some q → w.cell? ⟨vb, 0 + j, none⟩ = some q := fun j q hj => by
    have hj' : j < ys.length := by have := (List.getElem?_eq_some_iff.1 hj).1; rwa [cw] at this
    simp only [World.cell?, hvb, Nat.zero_add]
    rw [← hj]; simpa using hat2 j hj'
  have hXl : (xs.take i ++ ys ++ xs.drop i).length = xs.length + ys.length := by simp; omega
  have hvX : vI (xs.take i ++ ys ++ xs.drop i) = (vI xs).take i ++ vI ys ++ (vI xs).drop i := by simp [vI, List.map_take, List.map_drop]
  have hXg : ∀ k, (vI (xs.take i ++ ys ++ xs.drop i))[k]? = if k < i then (vI xs)[k]? else if k < i + ys.length then (vI ys)[k - i]? else (vI xs)[k - ys.length]? := fun k => by
    rw [hvX, sc _ _ _ _ (by rw [cw]; omega), cw]
  have hge := fun old => grownCap_ge w (xs.length + ys.length) old (ρ.t 3)
  have hle := fun old => grownCap_le_maxLen w (xs.length + ys.length) old (ρ.t 3) (by unfold maxLen; omega)
  -- a new row: the numbers, then more
  have endgrow : ∀ (old : Nat), i = xs.length → ∀ w', w' = w.drew.alloc (.cells ((vI xs ++ vI ys).toArray ++ Builtin.zeroCells (Value.int .i64 0).cells (grownCap w (xs.length + ys.length) old (ρ.t 3) - (xs.length + ys.length))) (ρ.t 3)) →
      bq J γ w (eD γ w.heap.size cJ) w' ∧ Ow (eD γ w.heap.size cJ) J S w' (.slice (some ⟨w.heap.size, 0, none⟩) (xs.length + ys.length) (grownCap w (xs.length + ys.length) old (ρ.t 3))) (xs.take i ++ ys ++ xs.drop i) := by
    intro old hin w' hw'
    subst hw'
    have hge := hge old
    refine ⟨?_, ?_⟩
    · have h1 := (bq.refl J γ w).drew
      have h2 : bq no γ w.drew (eD γ w.drew.heap.size cJ) (w.drew.alloc _) := fA γ w.drew (.cells ((vI xs ++ vI ys).toArray ++ Builtin.zeroCells (Value.int .i64 0).cells (grownCap w (xs.length + ys.length) old (ρ.t 3) - (xs.length + ys.length))) (ρ.t 3)) cJ
      exact h1.trans h2 (fun b _ h => h.elim id (fun h => h.elim))
    · have hw : ∀ o, (w.drew.alloc o).heap[w.heap.size]? = some o := fun o => dd w.drew o
      have := nG (xs := xs.take i ++ ys ++ xs.drop i) (J := J) (S := S) (γ := eD γ w.heap.size cJ) (cap := grownCap w (xs.length + ys.length) old (ρ.t 3)) (hw (.cells ((vI xs ++ vI ys).toArray ++ Builtin.zeroCells (Value.int .i64 0).cells (grownCap w (xs.length + ys.length) old (ρ.t 3) - (xs.length + ys.length))) (ρ.t 3))) (by simpa [eD] using hcJ) ?_ (by rw [hXl]; exact hge) (by rw [hXl]; omega) (hle old) (fun k hk => ?_)
      · rw [hXl] at this; exact this
      · rw [Array.size_append, mJ _ _ rfl]
        simp only [List.size_toArray, List.length_append, cw]; omega
      · rw [hXl] at hk
        rw [hXg, Array.getElem?_append_left (by simp [cw]; omega), List.getElem?_toArray]
        subst hin
        by_cases h1 : k < xs.length
        · rw [if_pos h1, List.getElem?_append_left (by rw [cw]; exact h1)]
        · rw [if_neg h1, if_pos (by omega), List.getElem?_append_right (by rw [cw]; omega), cw]
  by_cases hxe : xs = []
  · -- nothing there
    subst hxe
    have hi0 : i = 0 := by simp at hi; omega
    subst hi0
    rcases hx with ⟨rfl, _⟩ | ⟨b, cap, c, e, rfl, hc, hmx, hJ, hb, hsz, _⟩
    · have key := Any2.slices_Insert_int_end_grow L none 0 0 vb 0 ys.length cap2 [] (vI ys) w hm0 (Nat.le_refl _) (by omega) (by simp at hlen; omega) rfl (cw ys) (fun _ => rfl) (fun a h => by cases h) hvs (gF ys)
      refine key.mono fun e w' ⟨h1, h2⟩ => ?_
      have := endgrow 0 rfl w' (by simpa [vI] using h2)
      simp only [List.length_nil, Nat.zero_add] at this h1
      exact ⟨(_, _), h1, this⟩
    · have hsz : c.size = cap := by rw [hsz]; exact Nat.mul_one cap
      by_cases hroom : 0 + ys.length ≤ cap
      · have key := Any2.slices_Insert_int_end_room L b 0 0 cap vb 0 ys.length cap2 (vI ys) w hm0 hroom (by unfold maxLen at hmx; omega) (cw ys)
          (fun j hj => by simp only [World.cell?, hb]; simp; omega) (fun j hj => by simp [World.frozen?, hb]) hvs (gF ys)
        refine key.mono fun e' w' ⟨h1, h2⟩ => ?_
        have hs := wE b e (vI ys) 0 w c hb (by rw [cw]; omega)
        simp only [Nat.add_zero, Nat.zero_add, Nat.zero_add] at h2 h1
        rw [← h2] at hs
        obtain ⟨c', q1, q2, q3⟩ := hs.at_
        refine ⟨(γ, _), h1, hs.chg hJ, ?_⟩
        have := nG (xs := ys) (J := J) (S := S) (γ := γ) (cap := cap) q1 hJ (by rw [q2, hsz]) (by omega) (by omega) hmx (fun k hk => by rw [q3, if_pos (by rw [cw]; omega)]; simp)
        simpa using this
      · have key := Any2.slices_Insert_int_end_grow L (some ⟨b, 0, none⟩) 0 cap vb 0 ys.length cap2 [] (vI ys) w hm0 (Nat.zero_le _) (by omega) (by simp at hlen; omega) rfl (cw ys) (fun h => by cases h) (fun a _ j q hq => by simp at hq) hvs (gF ys)
        refine key.mono fun e w' ⟨h1, h2⟩ => ?_
        have := endgrow cap rfl w' (by simpa [vI] using h2)
        simp only [List.length_nil, Nat.zero_add] at this h1
        exact ⟨(_, _), h1, this⟩
  · obtain ⟨b, cap, c, e, rfl, hc, hmx, hJ, hb, hsz, hat⟩ := m6 hx hxe
    have hcs : ∀ j q, (vI xs)[j]? = some q → w.cell? ⟨b, 0 + j, none⟩ = some q := fun j q hj => by
      have hj' : j < xs.length := by have := (List.getElem?_eq_some_iff.1 hj).1; rwa [cw] at this
      simp only [World.cell?, hb, Nat.zero_add]
      rw [← hj]; simpa using hat j hj'
    have hne : vb ≠ b := fun h => by subst h; exact hJK _ hJ hK
    by_cases hin : i = xs.length
    · subst hin
      by_cases hroom : xs.length + ys.length ≤ cap
      · have key := Any2.slices_Insert_int_end_room L b 0 xs.length cap vb 0 ys.length cap2 (vI ys) w hm0 hroom (by unfold maxLen at hmx; omega) (cw ys)
          (fun j hj => by simp only [World.cell?, hb]; simp; omega) (fun j hj => by simp [World.frozen?, hb]) hvs (gF ys)
        refine key.mono fun e' w' ⟨h1, h2⟩ => ?_
        have hs := wE b e (vI ys) xs.length w c hb (by rw [cw]; omega)
        simp only [Nat.zero_add] at h2
        rw [← h2] at hs
        obtain ⟨c', q1, q2, q3⟩ := hs.at_
        refine ⟨(γ, _), h1, hs.chg hJ, ?_⟩
        have := nG (xs := xs.take xs.length ++ ys ++ xs.drop xs.length) (J := J) (S := S) (γ := γ) (cap := cap) q1 hJ (by rw [q2, hsz]) (by rw [hXl]; omega) (by rw [hXl]; omega) hmx (fun k hk => by
          rw [hXl] at hk
          rw [q3, hXg, cw]
          by_cases k1 : k < xs.length
          · rw [if_neg (by omega), if_pos k1]; exact hat k k1
          · rw [if_pos (by omega), if_neg k1, if_pos (by omega)])
        rw [hXl] at this
        exact this
      · have key := Any2.slices_Insert_int_end_grow L (some ⟨b, 0, none⟩) xs.length cap vb 0 ys.length cap2 (vI xs) (vI ys) w hm0 hc (by omega) (by omega) (cw xs) (cw ys) (fun h => by cases h) (fun a ha j q hq => by
          cases ha
          rw [Addr.add_lit]; exact hcs j q hq) hvs (gF ys)
        exact key.mono fun e w' ⟨h1, h2⟩ => ⟨(_, _), h1, endgrow cap rfl w' h2⟩
    · have hlt : i < xs.length := by omega
      by_cases hroom : xs.length + ys.length ≤ cap
      · have key := Any2.slices_Insert_int_shift L b 0 xs.length cap i vb 0 ys.length cap2 (vI xs) (vI ys) w hlt hm0 hroom (by unfold maxLen at hmx; omega) hne (cw xs) (cw ys) hcs
          (fun j hj => by simp only [World.cell?, hb]; simp; omega) (fun j hj => by simp [World.frozen?, hb]) hvs (gF xs) (gF ys) e2 e c2.size c.size (by simp [World.shape?, hvb]) (by simp [World.shape?, hb]) (by omega) (by simp [World.frozen?, hvb]) (by simp [World.frozen?, hvb])
        refine key.mono fun e' w' ⟨h1, h2⟩ => ?_
        simp only [Nat.zero_add] at h2
        have hd0 : w.drew.heap[b]? = some (.cells c e (0, 0)) := hb
        have hs := wE b e ((vI xs).drop i) (i + ys.length) w.drew c hd0 (by rw [List.length_drop, cw]; omega)
        obtain ⟨c', q1, q2, q3⟩ := hs.at_
        have ht := wE b e (vI ys) i _ c' q1 (by rw [cw]; omega)
        rw [← h2] at ht
        obtain ⟨c'', p1, p2, p3⟩ := ht.at_
        refine ⟨(γ, _), h1, ?_, ?_⟩
        · have g1 := (bq.refl J γ w).drew
          exact (g1.trans (hs.chg hJ) (fun b _ h => h.elim id id)).trans (ht.chg hJ) (fun b _ h => h.elim id id)
        · have := nG (xs := xs.take i ++ ys ++ xs.drop i) (J := J) (S := S) (γ := γ) (cap := cap) p1 hJ (by rw [p2, q2, hsz]) (by rw [hXl]; omega) (by rw [hXl]; omega) hmx (fun k hk => by
            rw [hXl] at hk
            rw [p3, hXg, cw]
            by_cases k1 : k < i
            · rw [if_neg (by omega), if_pos k1, q3, if_neg (by omega)]; exact hat k (by omega)
            · by_cases k2 : k < i + ys.length
              · rw [if_pos (by omega), if_neg k1, if_pos k2]
              · rw [if_neg (by omega), if_neg k1, if_neg k2, q3, if_pos (by rw [List.length_drop, cw]; omega), List.getElem?_drop]
                congr 1; omega)
          rw [hXl] at this
          exact this
      · have key := Any2.slices_Insert_int_grow L b 0 xs.length cap i vb 0 ys.length cap2 (vI xs) (vI ys) w hlt hm0 hc (by omega) (by omega) (cw xs) (cw ys) hcs hvs (gF xs) (gF ys)
        refine key.mono fun e' w' ⟨h1, h2⟩ => ?_
        obtain ⟨G, hG⟩ : ∃ G, G = grownCap w (xs.length + ys.length) cap (ρ.t 3) := ⟨_, rfl⟩
        have hge := hge cap
        have hle := hle cap
        rw [← hG] at h1 h2 hge hle
        obtain ⟨A, hA⟩ : ∃ A, A = ((vI xs).take i).toArray ++ Builtin.zeroCells (Value.int .i64 0).cells (xs.length + ys.length - i) ++ Builtin.zeroCells (Value.int .i64 0).cells (G - (xs.length + ys.length)) := ⟨_, rfl⟩
        rw [← hA] at h2
        have hAs : A.size = G := by
          rw [hA, Array.size_append, Array.size_append, mJ _ _ rfl, mJ _ _ rfl]
          simp [cw]; omega
        have hAk : ∀ k, k < i → A[k]? = (vI xs)[k]? := fun k hk => by
          rw [hA, Array.getElem?_append_left (by rw [Array.size_append]; simp [cw]; omega), Array.getElem?_append_left (by simp [cw]; omega), List.getElem?_toArray, List.getElem?_take_of_lt hk]
        have hd0 : (w.alloc (.cells A (ρ.t 3))).drew.heap[w.heap.size]? = some (.cells A (ρ.t 3) (0, 0)) := dd w _
        have hs := wE w.heap.size (ρ.t 3) (vI ys) i (w.alloc (.cells A (ρ.t 3))).drew A hd0 (by rw [cw]; omega)
        obtain ⟨c', q1, q2, q3⟩ := hs.at_
        have q1' : (((w.alloc (.cells A (ρ.t 3))).drew.setCells w.heap.size i (vI ys)).drew).heap[w.heap.size]? = some (.cells c' (ρ.t 3) (0, 0)) := q1
        have ht := wE w.heap.size (ρ.t 3) ((vI xs).drop i) (i + ys.length) _ c' q1' (by rw [List.length_drop, cw]; omega)
        rw [← h2] at ht
        obtain ⟨c'', p1, p2, p3⟩ := ht.at_
        have hJn : J (eD γ w.heap.size cJ w.heap.size) := by simpa [eD] using hcJ
        refine ⟨(eD γ w.heap.size cJ, _), h1, ?_, ?_⟩
        · have g0 : bq J γ w (eD γ w.heap.size cJ) (w.alloc (.cells A (ρ.t 3))) := (fA γ w (.cells A (ρ.t 3)) cJ).trans (bq.refl no _ _) (fun b _ h => (h.elim (fun h => h.elim) (fun h => h.elim)))
          have g1 : bq J γ w (eD γ w.heap.size cJ) (w.alloc (.cells A (ρ.t 3))).drew := ⟨g0.os, g0.tape, g0.output, g0.size, g0.col, g0.keep, Nat.le_succ_of_le g0.drawn⟩
          have g2 := g1.trans (hs.chg (J := J) (γ := eD γ w.heap.size cJ) hJn) (J := J) (fun b hb h => by
            rcases h with h | h
            · exact h
            · simpa [eD, Nat.ne_of_lt hb] using h)
          have g3 : bq J γ w (eD γ w.heap.size cJ) (((w.alloc (.cells A (ρ.t 3))).drew.setCells w.heap.size i (vI ys)).drew) := ⟨g2.os, g2.tape, g2.output, g2.size, g2.col, g2.keep, Nat.le_succ_of_le g2.drawn⟩
          exact g3.trans (ht.chg (J := J) (γ := eD γ w.heap.size cJ) hJn) (fun b hb h => by
            rcases h with h | h
            · exact h
            · simpa [eD, Nat.ne_of_lt hb] using h)
        · have := nG (xs := xs.take i ++ ys ++ xs.drop i) (J := J) (S := S) (γ := eD γ w.heap.size cJ) (cap := G) p1 hJn (by rw [p2, q2, hAs]) (by rw [hXl]; exact hge) (by rw [hXl]; omega) hle (fun k hk => by
            rw [hXl] at hk
            rw [p3, hXg, List.length_drop, cw]
            by_cases k1 : k < i
            · rw [if_neg (by omega), if_pos k1, q3, if_neg (by omega)]; exact hAk k k1
            · by_cases k2 : k < i + ys.length
              · rw [if_neg (by omega), if_neg k1, if_pos k2, q3, if_pos (by rw [cw]; omega)]
              · rw [if_pos (by omega), if_neg k1, if_neg k2, List.getElem?_drop]
                congr 1; omega)
          rw [hXl] at this
          exact this
end TL
/-
  TlNil: a list that is none, compared.
  By an AI agent.
-/
set_option linter.all false
namespace TL
open Go
section
variable {P : Program} {w : World} {t t' : TypeId} {f : Fr} {x y : Operand} {dst : Option Tmp} {ty : TypeId} {pos : String} {after : Array Edge} {g : Option (Nat × Bool)}
theorem lq {e : TypeId} (ht : P.underlying t = some (.slice e)) : (Op.equal t (.slice none 0 0) (.slice none 0 0)).run P w = .ok true w := by
 unfold Op.equal
 rw [show Op.maxDepth = 9999 + 1 from rfl]
 unfold Op.equalIn
 simp [bF ht]
theorem iR {e : TypeId} (ht : P.underlying t = some (.slice e)) (hx : ev f x = .slice none 0 0) (hy : ev f y = .slice none 0 0) : (execOp (ev f) ⟨dst, .binOp .neq t x y t', ty, pos, after, g⟩).run P w = .ok (.value (.bool false)) w :=
 ph .neq hx hy (by simp [eqGuard]) (by simp [binOp, lq ht])
end
theorem wx {α : Type} [Rp α] {γ : aE} {J S : cv → Prop} {w : World} {v : Value} {xs : List α} {hi : Nat} (h : Ow γ J S w v xs) (h2 : hi ≤ xs.length) : Ow γ J S w (db v (Rp.sz α) 0 hi) (xs.take hi) := by
  rcases h with ⟨rfl, rfl⟩ | ⟨b, cap, c, e, rfl, hc, hm, hJ, hb, hcs, hx⟩
  · simp only [List.length_nil] at h2
    have : hi = 0 := by omega
    subst this
    exact .inl ⟨rfl, rfl⟩
  · have hl : (xs.take hi).length = hi := by simp; omega
    refine .inr ⟨b, cap, c, e, ?_, ⟨by omega, by omega⟩, hm, hJ, hb, hcs, fun i x hi' => hx i x ?_⟩
    · rw [m5]
      simp only [hl]
    · rw [List.getElem?_take] at hi'
      split at hi'
      · exact hi'
      · cases hi'
end TL
/-
  TlBack: the dual: its rounds are the faces, its faces the nodes; the dual's dual.
  By an AI agent.
-/
set_option linter.all false
namespace TL
section
variable {g : bZ} {r : bj}
theorem li (hm : bx g) (hr : cf g r) : fo g r = (((ax (aw g r) r).length : Int), (c7 g.2.length).map (aB (bX g r))) := by
 unfold fo; rw [bG (br hm hr), eN (br hm hr)]
theorem rP (g : bZ) (r : bj) : (fo g r).2.length = g.2.length := by simp [fo, cP]
theorem qW (hm : bx g) (hr : cf g r) {h : Int} (hh : In (2 * (g.2.length : Int)) h) : bp (fo g r) h = gI (bX g r) h := by
 obtain ⟨h0, h1⟩ := hh
 rw [li hm hr]
 unfold bp
 simp only
 rw [iY _ (by omega) (by rw [cP]; omega)]
 have e1 : gI (c7 g.2.length) (h / 2) = h / 2 := by
   obtain ⟨k, hk⟩ : ∃ k : Nat, h / 2 = (k : Int) := ⟨(h / 2).toNat, by omega⟩
   rw [hk]
   simp [c7, gI, show k < g.2.length by omega]
 rw [e1]
 unfold aB pI
 split
 · rw [show 2 * (h / 2) = h by omega]
 · rw [show 2 * (h / 2) + 1 = h by omega]
theorem qT (hm : bx g) (hr : cf g r) : cf (fo g r) (ax (aw g r) r) := by
 obtain ⟨h1, h2, _⟩ := mm hr
 have hl := rP g r
 refine ⟨by rw [li hm hr], fun v hv h hh => ?_, h1, by rw [hl]; exact h2⟩
 have hb := iu hr _ (bu (xs := ax (aw g r) r) (i := (v : Int)) (by omega) (by omega)) _ hh
 rw [hl]
 exact ⟨hb, by rw [qW hm hr hb]; exact vm hr (by omega) hh⟩
theorem im (hm : bx g) (hr : cf g r) (hd : bx (fo g r)) : aT g r = (fo g r, ct (ax (aw g r) r), 0) := by
 unfold aT
 rw [bG (br hm hr)]
 simp only
 rw [if_pos trivial, if_pos hd, j1 hd (qT hm hr)]
end
end TL
/-
  TlLay: what an edge laid from corner to corner does to rounds, faces and the genus.
  By an AI agent.
-/
set_option linter.all false
namespace TL
theorem oA {r : bj} {c : Int × Int} {hs : List Int} (h0 : 0 ≤ c.1) (h1 : c.1 < r.length) {v : Int} (hv : 0 ≤ v) : gI (eX r c hs) v = if v = c.1 then (gI r c.1).take (bf (gI r c.1) c.2 + 1).toNat ++ hs ++ (gI r c.1).drop (bf (gI r c.1) c.2 + 1).toNat else gI r v := cu h0 h1 hv
theorem qR {r : bj} {c : Int × Int} {hs : List Int} (h0 : 0 ≤ c.1) (h1 : c.1 < r.length) : ∃ A B u w, r = A ++ (u ++ w) :: B ∧ eX r c hs = A ++ (u ++ hs ++ w) :: B ∧ gI r c.1 = u ++ w ∧ u = (gI r c.1).take (bf (gI r c.1) c.2 + 1).toNat := by
 refine ⟨r.take c.1.toNat, r.drop (c.1.toNat + 1), (gI r c.1).take (bf (gI r c.1) c.2 + 1).toNat, (gI r c.1).drop (bf (gI r c.1) c.2 + 1).toNat, ?_, ?_, (List.take_append_drop _ _).symm, rfl⟩
 · have e := fZ (xs := r) (k := c.1.toNat) (by omega)
   rw [Int.toNat_of_nonneg h0] at e
   rw [List.take_append_drop, ← e, List.take_append_drop]
 · unfold eX
   rw [(qE h0 h1 _).1]
theorem jq {r : bj} {c : Int × Int} {hs : List Int} (h0 : 0 ≤ c.1) (h1 : c.1 < r.length) : List.Perm (eX r c hs).flatten (hs ++ r.flatten) := by
 obtain ⟨A, B, u, w, e1, e2, _⟩ := qR (hs := hs) (c := c) h0 h1
 rw [e2]
 conv => rhs; rw [e1]
 refine List.perm_iff_count.2 fun x => ?_
 simp only [List.flatten_append, List.flatten_cons, List.count_append]
 omega
theorem wP {l : List Int} {x : Int} (hx : x ∈ l) : ∃ u0, l.take (bf l x + 1).toNat = u0 ++ [x] ∧ x ∉ u0 := by
  obtain ⟨u, w, e, hu⟩ := List.eq_append_cons_of_mem hx
  have hi : l.idxOf x = u.length := by
    rw [e, List.idxOf_append, if_neg hu]; simp
  have e0 : bf l x = (l.idxOf x : Int) := by unfold bf; rw [if_pos hx]
  refine ⟨u, ?_, hu⟩
  rw [e0, hi, show ((u.length : Int) + 1).toNat = u.length + 1 by omega, e]
  simp [List.take_append, List.take_of_length_le]
section
variable {g : bZ} {r : bj} {a b : Int × Int}
theorem qU (ha : 0 ≤ a.1 ∧ a.1 < (r.length : Int)) (hb : 0 ≤ b.1 ∧ b.1 < (r.length : Int)) : List.Perm (eS g r a b).flatten ([2 * (g.2.length : Int), 2 * (g.2.length : Int) + 1] ++ r.flatten) := by
 unfold eS
 split
 · exact jq ha.1 ha.2
 · refine (jq hb.1 (by rw [ib]; exact hb.2)).trans ?_
   refine ((jq (hs := [2 * (g.2.length : Int)]) ha.1 ha.2).append_left [2 * (g.2.length : Int) + 1]).trans ?_
   exact List.Perm.swap _ _ _
theorem nk {c : Int × Int} {hs : List Int} (h0 : 0 ≤ c.1) (h1 : c.1 < (r.length : Int)) {v x : Int} (hv : 0 ≤ v) (hx : x ∈ gI (eX r c hs) v) : x ∈ gI r v ∨ (v = c.1 ∧ x ∈ hs) := by
 rw [oA h0 h1 hv] at hx
 split at hx
 · rename_i c'
   rcases List.mem_append.1 hx with hx | hx
   · rcases List.mem_append.1 hx with hx | hx
     · left; rw [c']; exact List.mem_of_mem_take hx
     · exact .inr ⟨c', hx⟩
   · left; rw [c']; exact List.mem_of_mem_drop hx
 · exact .inl hx
theorem qu {c : Int × Int} {hs : List Int} (h0 : 0 ≤ c.1) (h1 : c.1 < (r.length : Int)) {v x : Int} (hv : 0 ≤ v) (hx : x ∈ gI r v) : x ∈ gI (eX r c hs) v := by
 rw [oA h0 h1 hv]
 split
 · rename_i c'
   rw [c'] at hx
   rw [← List.take_append_drop (bf (gI r c.1) c.2 + 1).toNat (gI r c.1)] at hx
   rcases List.mem_append.1 hx with hx | hx
   · exact List.mem_append_left _ (List.mem_append_left _ hx)
   · exact List.mem_append_right _ hx
 · exact hx
theorem rB (ha : 0 ≤ a.1 ∧ a.1 < (r.length : Int)) (hb : 0 ≤ b.1 ∧ b.1 < (r.length : Int)) {v x : Int} (hv : 0 ≤ v) (hx : x ∈ gI (eS g r a b) v) : x ∈ gI r v ∨ (v = a.1 ∧ x = 2 * (g.2.length : Int)) ∨ (v = b.1 ∧ x = 2 * (g.2.length : Int) + 1) := by
 unfold eS at hx
 split at hx
 · rename_i c
   rcases nk ha.1 ha.2 hv hx with h | ⟨h1, h2⟩
   · exact .inl h
   · rcases List.mem_cons.1 h2 with h2 | h2
     · exact .inr (.inl ⟨h1, h2⟩)
     · exact .inr (.inr ⟨by rw [← c]; exact h1, by simpa using h2⟩)
 · rcases nk hb.1 (by rw [ib]; exact hb.2) hv hx with h | ⟨h1, h2⟩
   · rcases nk ha.1 ha.2 hv h with h | ⟨h1, h2⟩
     · exact .inl h
     · exact .inr (.inl ⟨h1, by simpa using h2⟩)
   · exact .inr (.inr ⟨h1, by simpa using h2⟩)
theorem qY {x : Int} (hx : In (2 * (g.2.length : Int)) x) : bp (dR g a b) x = bp g x := by
 obtain ⟨x0, x1⟩ := hx
 unfold bp dR
 simp only
 have : gI (g.2 ++ [(a.1, b.1)]) (x / 2) = gI g.2 (x / 2) := by
   obtain ⟨k, hk⟩ : ∃ k : Nat, x / 2 = (k : Int) := ⟨(x / 2).toNat, by omega⟩
   rw [hk]
   have : k < g.2.length := by omega
   unfold gI
   rw [List.getD_eq_getElem?_getD, List.getD_eq_getElem?_getD, Int.toNat_natCast, List.getElem?_append_left this]
 rw [this]
theorem qB : gI (dR g a b).2 (g.2.length : Int) = (a.1, b.1) := by simp [dR, gI]
theorem pd : bp (dR g a b) (2 * (g.2.length : Int)) = a.1 ∧ bp (dR g a b) (2 * (g.2.length : Int) + 1) = b.1 := by
 unfold bp
 rw [show 2 * (g.2.length : Int) / 2 = (g.2.length : Int) by omega, show 2 * (g.2.length : Int) % 2 = 0 by omega, show (2 * (g.2.length : Int) + 1) / 2 = (g.2.length : Int) by omega, show (2 * (g.2.length : Int) + 1) % 2 = 1 by omega, qB]
 exact ⟨rfl, rfl⟩
theorem ja : ((dR g a b).2.length : Int) = (g.2.length : Int) + 1 := by simp [dR]
theorem rZ (hr : cf g r) (ha : 0 ≤ a.1 ∧ a.1 < (r.length : Int)) (hb : 0 ≤ b.1 ∧ b.1 < (r.length : Int)) : cf (dR g a b) (eS g r a b) := by
 have hrl := hr.1
 have hp := qU (g := g) ha hb
 have hin := oU hr
 have hlen : (eS g r a b).length = r.length := by unfold eS; split <;> simp only [ib]
 have h2 := pd (g := g) (a := a) (b := b)
 refine ⟨by rw [hlen]; exact hrl, fun v hv x hx => ?_, hp.nodup_iff.2 (List.nodup_append.2 ⟨by simp; omega, hr.2.2.1, fun u hu w hw e => ?_⟩), ?_⟩
 · rw [ja]
   rcases rB ha hb (by omega) hx with h | ⟨h1, h3⟩ | ⟨h1, h3⟩
   · have h4 := hr.2.1 v (by omega) x h
     exact ⟨by omega, by rw [qY h4.1, h4.2]⟩
   · exact ⟨by omega, by rw [h3, h2.1, h1]⟩
   · exact ⟨by omega, by rw [h3, h2.2, h1]⟩
 · have := hin w hw
   obtain ⟨_, w1⟩ := this
   simp only [List.mem_cons, List.not_mem_nil, or_false] at hu
   omega
 · rw [hp.length_eq, ja]
   have := hr.2.2.2
   simp only [List.length_append, List.length_cons, List.length_nil]; omega
theorem pD (hm : bx g) (ha : lj g a.1) (hb : lj g b.1) (hl : ¬ 3072 ≤ (g.2.length : Int)) : bx (dR g a b) := by
 obtain ⟨h1, h2, h3, h4⟩ := hm
 refine ⟨h1, h2, by have := ja (g := g) (a := a) (b := b); omega, fun x hx => ?_⟩
 rcases List.mem_append.1 hx with hx | hx
 · exact h4 x hx
 · obtain rfl := List.mem_singleton.1 hx
   exact ⟨ha, hb⟩
end
end TL
/-
  TlLay2: an edge laid keeps the genus, makes one face of one more, or of two components one; taken again all is as it was.
  By an AI agent.
-/
set_option linter.all false
namespace TL
section
variable {g : bZ} {r : bj} {a b : Int × Int}
theorem nN (h : (bg g r a b).2.2 = 0) : bx g ∧ cf g r ∧ c9 g r a ∧ c9 g r b ∧ ¬ 3072 ≤ (g.2.length : Int) ∧ (gI (bC g).1 a.1 = gI (bC g).1 b.1 → cd r (bX g r) (bt (ar g r).1) a = cd r (bX g r) (bt (ar g r).1) b) ∧ bg g r a b = (dR g a b, ct (eS g r a b), 0) := by
 unfold bg at h ⊢
 by_cases c : (ar g r).2 = 0
 · rw [if_pos c] at h ⊢
   by_cases c2 : c9 g r a ∧ c9 g r b
   · rw [if_pos c2] at h ⊢
     by_cases c3 : 3072 ≤ (g.2.length : Int)
     · rw [if_pos c3] at h; cases h
     · rw [if_neg c3] at h ⊢
       obtain ⟨hm, hr⟩ := dD (fL c)
       have eo : (bU g r).1 = bX g r := by rw [eN (br hm hr)]
       rw [eo] at h ⊢
       by_cases c4 : gI (bC g).1 a.1 = gI (bC g).1 b.1 ∧ cd r (bX g r) (bt (ar g r).1) a ≠ cd r (bX g r) (bt (ar g r).1) b
       · rw [if_pos c4] at h; cases h
       · rw [if_neg c4]
         have hca := di hm hr c2.1
         have hcb := di hm hr c2.2
         rw [j1 (pD hm c2.1.1 c2.2.1 c3) (rZ hr hca.1 hcb.1)]
         exact ⟨hm, hr, c2.1, c2.2, c3, fun hw => by
           by_cases c5 : cd r (bX g r) (bt (ar g r).1) a = cd r (bX g r) (bt (ar g r).1) b
           · exact c5
           · exact absurd ⟨hw, c5⟩ c4, rfl⟩
   · rw [if_neg c2] at h; cases h
 · rw [if_neg c] at h; exact absurd h c
theorem rH (h : ¬ (bg g r a b).2.2 = 0) : (bg g r a b).1.1 = 0 ∧ (bg g r a b).2.1 = [] := by
 unfold bg at h ⊢
 by_cases c : (ar g r).2 = 0
 · rw [if_pos c] at h ⊢
   by_cases c2 : c9 g r a ∧ c9 g r b
   · rw [if_pos c2] at h ⊢
     by_cases c3 : 3072 ≤ (g.2.length : Int)
     · rw [if_pos c3]; exact ⟨rfl, rfl⟩
     · rw [if_neg c3] at h ⊢
       split
       · exact ⟨rfl, rfl⟩
       · rename_i c4
         rw [if_neg c4] at h; exact absurd rfl h
   · rw [if_neg c2]; exact ⟨rfl, rfl⟩
 · rw [if_neg c]; exact ⟨rfl, rfl⟩
end
end TL
/-
  TlSplit: what a node put on an edge does to rounds, faces and the genus.
  By an AI agent.
-/
set_option linter.all false
namespace TL
theorem nl {α : Type} [Inhabited α] {q t : List α} {a : Nat} (h : (a : Int) < q.length) : gI (q ++ t) (a : Int) = gI q (a : Int) := by
 have : a < q.length := by omega
 unfold gI
 rw [List.getD_eq_getElem?_getD, List.getD_eq_getElem?_getD, Int.toNat_natCast, List.getElem?_append_left this]
theorem pz {α : Type} [Inhabited α] (q : List α) (x : α) {i : Int} (h : i = q.length) : gI (q ++ [x]) i = x := by subst h; simp [gI]
def dx (m : Nat) (e x : Int) : Int := if x = 2 * e + 1 then 2 * (m : Int) + 1 else x
def vu (m : Nat) (e y : Int) : Int := if y = 2 * (m : Int) then 2 * e else if y = 2 * (m : Int) + 1 then 2 * e + 1 else y
theorem j8 {m : Nat} {e x : Int} (he : 0 ≤ e ∧ e < (m : Int)) (hx : In (2 * (m : Int)) x) : (0 ≤ dx m e x ∧ dx m e x < 2 * (m : Int) + 2) ∧ dx m e x ≠ 2 * e + 1 ∧ dx m e x ≠ 2 * (m : Int) ∧ vu m e (dx m e x) = x := by
 obtain ⟨h0, h1⟩ := hx
 unfold dx vu
 by_cases c : x = 2 * e + 1
 · rw [if_pos c, if_neg (by omega), if_pos rfl]; omega
 · rw [if_neg c, if_neg (by omega), if_neg (by omega)]; omega
theorem qt {m : Nat} {e x y : Int} (he : 0 ≤ e ∧ e < (m : Int)) (hx : In (2 * (m : Int)) x) (hy : In (2 * (m : Int)) y) (h : dx m e x = dx m e y) : x = y := by
 have h1 := (j8 he hx).2.2.2
 have h2 := (j8 he hy).2.2.2
 rw [← h1, ← h2, h]
section
variable {g : bZ} {r : bj} {e : Int}
theorem km (hm : bx g) (hr : cf g r) (he : 0 ≤ e ∧ e < (g.2.length : Int)) : eO g r e = r.map (List.map (dx g.2.length e)) ++ [[2 * e + 1, 2 * (g.2.length : Int)]] := by
 obtain ⟨⟨v0, v1⟩, hin, i0, i1⟩ := kd hm hr he
 obtain ⟨v, hv⟩ : ∃ v, v = (gI g.2 e).2 := ⟨_, rfl⟩
 unfold eO
 rw [← hv] at v0 v1 hin i0 i1 ⊢
 congr 1
 apply dj
 · simp
 · intro i hi
   simp only [List.length_set] at hi
   rw [cu v0 v1 (by omega), iY _ (by omega) (by omega)]
   have hrow := lY hr (v := v.toNat) (by omega)
   rw [Int.toNat_of_nonneg v0] at hrow
   have hat := (lM hin).2.2
   by_cases c : (i : Int) = v
   · rw [if_pos c, c]
     apply dj
     · simp
     · intro j hj
       simp only [List.length_set] at hj
       rw [cu i0 i1 (by omega), iY _ (by omega) (by omega)]
       unfold dx
       by_cases d : (j : Int) = bf (gI r v) (2 * e + 1)
       · rw [if_pos d, d, hat, if_pos rfl]
       · rw [if_neg d, if_neg]
         intro h
         exact d (rb hrow (by omega) (by omega) i0 i1 (by rw [h, hat]))
   · rw [if_neg c]
     have hno : ∀ x ∈ gI r (i : Int), dx g.2.length e x = x := fun x hx => by
       unfold dx
       rw [if_neg]
       intro h
       subst h
       have h1 := (hr.2.1 i hi _ hx).2
       have h2 := (hr.2.1 v.toNat (by omega) _ (by rw [Int.toNat_of_nonneg v0]; exact hin)).2
       omega
     conv => lhs; rw [← List.map_id (gI r (i : Int))]
     exact List.map_congr_left fun x hx => (hno x hx).symm
theorem oI (h : (aM g e).2 = 0) : (aM g e).1.1 = g.1 + 1 ∧ ((aM g e).1.2.length : Int) = (g.2.length : Int) + 1 ∧ (∀ i, 0 ≤ i → i < (g.2.length : Int) → i ≠ e → gI (aM g e).1.2 i = gI g.2 i) ∧ gI (aM g e).1.2 e = ((gI g.2 e).1, g.1) ∧ gI (aM g e).1.2 (g.2.length : Int) = (g.1, (gI g.2 e).2) := by
 obtain ⟨hm, he, hs, h4⟩ := eW h
 rw [h4]
 refine ⟨rfl, by simp, fun i i0 i1 hn => ?_, ?_, ?_⟩
 · obtain ⟨k, rfl⟩ : ∃ k : Nat, i = (k : Int) := ⟨i.toNat, by omega⟩
   rw [nl (by simpa using i1), cu he.1 he.2 i0, if_neg hn]
 · obtain ⟨k, rfl⟩ : ∃ k : Nat, e = (k : Int) := ⟨e.toNat, by omega⟩
   rw [nl (by simpa using he.2), cu he.1 he.2 he.1, if_pos rfl]
 · exact pz _ _ (by simp)
theorem oS (h : (aM g e).2 = 0) {x : Int} (hx : In (2 * (g.2.length : Int)) x) : bp (aM g e).1 (dx g.2.length e x) = bp g x := by
 obtain ⟨hm, he, hs, h4⟩ := eW h
 obtain ⟨_, _, h5, h6, h7⟩ := oI h
 obtain ⟨x0, x1⟩ := hx
 unfold bp dx
 by_cases c : x = 2 * e + 1
 · rw [if_pos c, c, show (2 * (g.2.length : Int) + 1) / 2 = (g.2.length : Int) by omega, show (2 * (g.2.length : Int) + 1) % 2 = 1 by omega, show (2 * e + 1) / 2 = e by omega, show (2 * e + 1) % 2 = 1 by omega, h7]
   rfl
 · rw [if_neg c]
   by_cases d : x / 2 = e
   · rw [d, show x % 2 = 0 by omega, h6]; rfl
   · rw [h5 _ (by omega) (by omega) d]
theorem nS (h : (aM g e).2 = 0) : bp (aM g e).1 (2 * e + 1) = g.1 ∧ bp (aM g e).1 (2 * (g.2.length : Int)) = g.1 := by
 obtain ⟨hm, he, hs, h4⟩ := eW h
 obtain ⟨_, _, h5, h6, h7⟩ := oI h
 unfold bp
 rw [show (2 * e + 1) / 2 = e by omega, show (2 * e + 1) % 2 = 1 by omega, h6, show 2 * (g.2.length : Int) / 2 = (g.2.length : Int) by omega, show 2 * (g.2.length : Int) % 2 = 0 by omega, h7]
 exact ⟨rfl, rfl⟩
theorem ot (h : (aM g e).2 = 0) (hr : cf g r) : cf (aM g e).1 (eO g r e) := by
 obtain ⟨hm, he, hs, h4⟩ := eW h
 obtain ⟨s1, s2, _⟩ := oI h
 obtain ⟨f1, f2⟩ := nS h
 have hrl := hr.1
 have hin := oU hr
 rw [km hm hr he]
 refine ⟨by rw [s1]; simp; omega, fun v hv x hx => ?_, ?_, ?_⟩
 · rw [s2]
   by_cases c : v < r.length
   · rw [nl (by simp; omega), iY _ (by omega) (by omega)] at hx
     obtain ⟨y, hy, rfl⟩ := List.mem_map.1 hx
     have h1 := hr.2.1 v c y hy
     have h2 := (j8 he h1.1).1
     exact ⟨by omega, by rw [oS h h1.1, h1.2]⟩
   · have hv2 : (v : Int) = (r.map (List.map (dx g.2.length e))).length := by
       simp only [List.length_append, List.length_map, List.length_cons, List.length_nil] at hv ⊢; omega
     rw [pz _ _ hv2] at hx
     simp only [List.length_map] at hv2
     rcases List.mem_cons.1 hx with rfl | hx
     · exact ⟨by omega, by rw [f1]; omega⟩
     · obtain rfl := List.mem_singleton.1 hx
       exact ⟨by omega, by rw [f2]; omega⟩
 · rw [List.flatten_append, ← List.map_flatten]
   refine List.nodup_append.2 ⟨dU hr.2.2.1 fun x hx y hy e' => qt he (hin x hx) (hin y hy) e', by simp; omega, fun a ha b hb hab => ?_⟩
   obtain ⟨x, hx, rfl⟩ := List.mem_map.1 ha
   have h2 := j8 he (hin x hx)
   simp only [List.flatten_cons, List.flatten_nil, List.append_nil, List.mem_cons, List.not_mem_nil, or_false] at hb
   rcases hb with hb | hb
   · exact h2.2.1 (hab.trans hb)
   · exact h2.2.2.1 (hab.trans hb)
 · rw [s2, List.flatten_append, ← List.map_flatten]
   have := hr.2.2.2
   rw [List.length_append, List.length_map]
   simp only [List.flatten_cons, List.flatten_nil, List.append_nil, List.length_cons, List.length_nil]
   omega
end
end TL
/-
  TlSplit2: a split edge leaves as many faces, each with one half-edge more for each side of the edge that it is on, and the genus.
  By an AI agent.
-/
set_option linter.all false
namespace TL
section
variable {g : bZ} {r : bj} {e : Int}
theorem qM (h : (aF g r e).2.2 = 0) : bx g ∧ cf g r ∧ (aM g e).2 = 0 ∧ aF g r e = ((aM g e).1, ct (eO g r e), 0) := by
 unfold aF at h ⊢
 by_cases c : aK g r = 0
 · rw [if_pos c] at h ⊢
   by_cases c2 : (aM g e).2 = 0
   · rw [if_pos c2]
     obtain ⟨hm, hr⟩ := dD c
     rw [j1 (ml c2) (ot c2 hr)]
     exact ⟨hm, hr, c2, rfl⟩
   · rw [if_neg c2] at h; exact absurd h c2
 · rw [if_neg c] at h; exact absurd h c
end
end TL
/-
  TlDocF: the document's search over faces finds what the program's does.
  By an AI agent.
-/
set_option linter.all false
namespace TL
theorem sQ {m : Nat} {of : List Int} {F : Int} {to : List Int} {A : bj} (hF : 0 ≤ F) (ho : hT of F m) (ht : ∀ x ∈ to, 0 ≤ x ∧ x < F)
   (hmem : ∀ f, 0 ≤ f → f < F → ∀ x, x ∈ gI A f ↔ ∃ e : Nat, e < m ∧ (aB of e = (f, x) ∨ aB of e = (x, f))) : gz m of F to (hZ A (F.toNat + to.length) 0 (dP F to, to)).1 := by
 have hA : ∀ f, 0 ≤ f → f < F → ∀ k ∈ gI (A) f, 0 ≤ k ∧ k < F := fun f h0 h1 k hk => by
   obtain ⟨e, he, h⟩ := (hmem f h0 h1 k).1 hk
   have := ho.ends (e := e) (by omega)
   rcases h with h | h
   · rw [h] at this; exact this.2
   · rw [h] at this; exact this.1
 have h0 : vw (A) F to (dP F to, to) 0 := by
   have hfl := ff F to
   have hz : ∀ x ∈ to, gI (dP F to) x = 0 := fun x hx => by
     have := ht x hx
     rw [f8 hF ht this.1 this.2, if_pos hx]
   refine ⟨by simp only; omega, ht, fun x x0 x1 => ?_, fun x hx => ⟨hx, hz x hx⟩, fun x hx _ => hx, fun x hx hn => absurd hx hn, fun a b hab hb => ?_, fun a b _ ha hb => ?_, fun a ha => by omega⟩
   · show 0 ≤ gI (dP F to) x ↔ x ∈ to
     rw [f8 hF ht x0 x1]
     by_cases e : x ∈ to
     · rw [if_pos e]; simp [e]
     · rw [if_neg e]; simp [e]
   · simp only at hb ⊢
     rw [hz _ (bu (by omega) (by omega)), hz _ (bu (by omega) hb)]; exact Int.le_refl _
   · simp only at ha hb ⊢
     rw [hz _ (bu (by omega) ha), hz _ (bu (by omega) hb)]; omega
 obtain ⟨j, hj, hjl⟩ := mV (to := to) hA (F.toNat + to.length) 0 _ h0 (iK.start hF ht) (by omega)
 refine ⟨hj.len, fun x x0 x1 => ?_, fun x hx => (hj.src x hx).2, fun x x0 x1 e => hj.zero x ((hj.iff x x0 x1).1 (by omega)) e, fun x x0 x1 hx hn => ?_, fun e he x y hxy hx => ?_⟩
 · have : ∀ (n i : Nat) (s : List Int × List Int), (∀ x, -1 ≤ gI s.1 x) → ∀ x, -1 ≤ gI (hZ (A) n i s).1 x := by
     intro n
     induction n with
     | zero => intro i s h x; exact h x
     | succ n ih =>
       intro i s h x
       simp only [hZ]
       split
       · refine ih _ _ ?_ x
         have : ∀ (f : Int) (l : List Int) (s : List Int × List Int), (∀ x, -1 ≤ gI s.1 x) → ∀ x, -1 ≤ gI (l.foldl (dQ f) s).1 x := by
           intro f l
           induction l with
           | nil => intro s h; exact h
           | cons k l ihl =>
             intro s h
             refine ihl _ fun x => ?_
             unfold dQ
             split
             · have hf := h f
               show -1 ≤ gI (s.1.set k.toNat (gI s.1 f + 1)) x
               unfold gI
               rw [List.getD_eq_getElem?_getD, List.getElem?_set]
               split
               · split
                 · simp only [Option.getD_some]
                   unfold gI at hf; omega
                 · simp [default]
               · exact h x
             · exact h x
         exact this _ _ s h
       · exact h x
   refine this _ _ _ (fun x => ?_) x
   show -1 ≤ gI (dP F to) x
   by_cases hx0 : 0 ≤ x ∧ x < F
   · rw [f8 hF ht hx0.1 hx0.2]; split <;> omega
   · by_cases hn : x < 0
     · by_cases hF0 : 0 < F
       · have e2 : gI (dP F to) x = gI (dP F to) 0 := by unfold gI; rw [show x.toNat = 0 by omega]; rfl
         rw [e2, f8 hF ht (by omega) hF0]; split <;> omega
       · have : dP F to = [] := List.eq_nil_of_length_eq_zero (by rw [ff]; omega)
         rw [this]; simp [gI, default]
     · have hl := ff F to
       have : gI (dP F to) x = 0 := by
         unfold gI
         rw [List.getD_eq_getElem?_getD, List.getElem?_eq_none (by omega)]; rfl
       rw [this]; omega
 · obtain ⟨k, hk, h2, h3⟩ := hj.par x ((hj.iff x x0 x1).1 hx) hn
   have hkr := hj.rng k hk
   obtain ⟨e, he, h4⟩ := (hmem k hkr.1 hkr.2 x).1 h2
   exact ⟨e, he, k, hkr, h4, h3⟩
 · have hb := ho.ends (e := e) (by omega)
   have hxr : 0 ≤ x ∧ x < F := by
     rcases hxy with h | h
     · rw [h] at hb; exact hb.1
     · rw [h] at hb; exact hb.2
   have hm := (hj.iff x hxr.1 hxr.2).1 hx
   obtain ⟨a, ha, e2⟩ := rq hm
   have := hj.done a (by omega) ha y (by
     rw [e2]
     exact (hmem x hxr.1 hxr.2 y).2 ⟨e, he, hxy⟩)
   rwa [e2] at this
theorem gz.le {m : Nat} {of : List Int} {F : Int} {to a b : List Int} (ha : gz m of F to a) (hb : gz m of F to b) : ∀ (n : Nat) (x : Int), 0 ≤ x → x < F → gI a x = n → 0 ≤ gI b x ∧ gI b x ≤ n := by
 intro n
 induction n with
 | zero =>
   intro x x0 x1 h
   have := hb.src x (ha.zero x x0 x1 (by omega))
   omega
 | succ n ih =>
   intro x x0 x1 h
   have hn : x ∉ to := fun hx => by have := ha.src x hx; omega
   obtain ⟨e, he, k, hk, h2, h3⟩ := ha.par x x0 x1 (by omega) hn
   have h4 := ih k hk.1 hk.2 (by omega)
   have h5 := hb.adj e he k x h2 h4.1
   omega
theorem gz.unique {m : Nat} {of : List Int} {F : Int} {to a b : List Int} (ha : gz m of F to a) (hb : gz m of F to b) : a = b := by
 have hl := ha.len
 have hl2 := hb.len
 refine dj (by omega) fun i hi => ?_
 have x1 : (i : Int) < F := by omega
 by_cases c : 0 ≤ gI a (i : Int)
 · have h1 := ha.le hb (gI a (i : Int)).toNat i (by omega) x1 (by omega)
   have h2 := hb.le ha (gI b (i : Int)).toNat i (by omega) x1 (by omega)
   omega
 · have h0 := ha.low i (by omega) x1
   have h3 := hb.low i (by omega) x1
   by_cases c2 : 0 ≤ gI b (i : Int)
   · have h2 := hb.le ha (gI b (i : Int)).toNat i (by omega) x1 (by omega)
     omega
   · omega
def ii (of : List Int) (n : Nat) (f : Int) : List Int := ((c7 n).filter fun h => decide (gI of h = f)).map fun h => gI of (bK h)
theorem j4 {of : List Int} {n : Nat} {f : Int} (h : gI of (n : Int) = f) : ii of (n + 1) f = ii of n f ++ [gI of (bK (n : Int))] := by
 unfold ii; rw [ew, List.filter_append]; simp [h]
theorem pW {of : List Int} {n : Nat} {f : Int} (h : ¬ gI of (n : Int) = f) : ii of (n + 1) f = ii of n f := by
 unfold ii; rw [ew, List.filter_append]; simp [h]
theorem l9 {of : List Int} {f : Int} {h : Nat} : ∀ n : Nat, h ≤ n → ∃ t, ii of n f = ii of h f ++ t
 | 0, hn => ⟨[], by rw [show h = 0 by omega]; simp⟩
 | n + 1, hn => by
   by_cases e : h = n + 1
   · subst e; exact ⟨[], by simp⟩
   · obtain ⟨t, ht⟩ := l9 (of := of) (f := f) (h := h) n (by omega)
     by_cases c : gI of (n : Int) = f
     · exact ⟨t ++ [gI of (bK (n : Int))], by rw [j4 c, ht, List.append_assoc]⟩
     · exact ⟨t, by rw [pW c, ht]⟩
theorem pX {of : List Int} {f : Int} {h n : Nat} (hn : h < n) (c : gI of (h : Int) = f) : ((ii of h f).length : Int) < (ii of n f).length ∧ gI (ii of n f) ((ii of h f).length : Int) = gI of (bK (h : Int)) := by
 obtain ⟨t, ht⟩ := l9 (of := of) (f := f) (h := h + 1) n (by omega)
 rw [j4 c] at ht
 rw [ht]
 refine ⟨by simp; omega, ?_⟩
 rw [List.append_assoc]
 simp [gI]
def kV (of : List Int) (F : Int) (m : Nat) : bj := (c7 F.toNat).map fun f => ii of (2 * m) f
theorem jn {of : List Int} {F : Int} {m : Nat} {f : Int} (h0 : 0 ≤ f) (h1 : f < F) : gI (kV of F m) f = ii of (2 * m) f := by
 unfold kV
 rw [iY _ h0 (by rw [cP]; omega), nh h0 (by omega)]
theorem su {of : List Int} {F : Int} {m : Nat} (f : Int) (h0 : 0 ≤ f) (h1 : f < F) (x : Int) : x ∈ gI (kV of F m) f ↔ ∃ e : Nat, e < m ∧ (aB of e = (f, x) ∨ aB of e = (x, f)) := by
 rw [jn h0 h1]
 unfold ii
 rw [List.mem_map]
 constructor
 · rintro ⟨h, hh, rfl⟩
   rw [List.mem_filter] at hh
   have hr := cQ.1 hh.1
   have e0 : gI of h = f := of_decide_eq_true hh.2
   refine ⟨(h / 2).toNat, by omega, ?_⟩
   unfold aB bK
   by_cases c : h % 2 = 0
   · left
     rw [if_pos c, show 2 * (((h / 2).toNat : Nat) : Int) = h by omega, e0]
   · right
     rw [if_neg c, show 2 * (((h / 2).toNat : Nat) : Int) = h - 1 by omega, show h - 1 + 1 = h by omega, e0]
 · rintro ⟨e, he, h | h⟩
   · obtain ⟨h2, h3⟩ := Prod.mk.inj h
     refine ⟨2 * (e : Int), List.mem_filter.2 ⟨cQ.2 (by omega), decide_eq_true h2⟩, ?_⟩
     unfold bK; rw [if_pos (by omega)]; exact h3
   · obtain ⟨h2, h3⟩ := Prod.mk.inj h
     refine ⟨2 * (e : Int) + 1, List.mem_filter.2 ⟨cQ.2 (by omega), decide_eq_true h3⟩, ?_⟩
     unfold bK; rw [if_neg (by omega), show 2 * (e : Int) + 1 - 1 = 2 * (e : Int) by omega]; exact h2
theorem sX {m : Nat} {of : List Int} {F : Int} {to : List Int} (hF : 0 ≤ F) (ho : hT of F m) (ht : ∀ x ∈ to, 0 ≤ x ∧ x < F) : (hZ (kV of F m) (F.toNat + to.length) 0 (dP F to, to)).1 = bT m of F to :=
  (sQ hF ho ht (fun f h0 h1 x => su f h0 h1 x)).unique (oT hF ho ht)
def lU (a q : List Int) (s0 : List Int × List Int) (of : List Int) (F : Int) (m : Nat) (B : Nat) (i : Nat) (h : Nat) : Prop :=
  eu (a, q) s0 (kV of F m) F B (gI s0.2 (i : Int)) (ii of h (gI s0.2 (i : Int))).length ∧ gI q (i : Int) = gI s0.2 (i : Int) ∧ (i : Int) < q.length
section
variable {a q : List Int} {s0 : List Int × List Int} {of : List Int} {F : Int} {m B i h : Nat}
theorem lU.start (hg : fS (a, q) s0 (kV of F m) F B i) (hi : (i : Int) < q.length) : lU a q (a, q) of F m B i 0 := ⟨hg.row hi, rfl, hi⟩
theorem lU.facts (hr : lU a q s0 of F m B i h) : (a.length : Int) = F ∧ (q.length : Int) ≤ B ∧ (0 ≤ gI q (i : Int) ∧ gI q (i : Int) < F) ∧ 0 ≤ gI a (gI q (i : Int)) ∧ gI a (gI q (i : Int)) ≤ q.length ∧ (i : Int) < q.length := by
 obtain ⟨h1, h2, h3, h4, h5⟩ := hr.1.facts
 rw [hr.2.1]
 exact ⟨h1, h2, h3, h4, h5, hr.2.2⟩
theorem lU.yes (hr : lU a q s0 of F m B i h) (ho : hT of F m) (hh : (h : Int) < 2 * (m : Int)) (e : gI of (h : Int) = gI q (i : Int)) (c : gI a (gI of (bK (h : Int))) < 0) : lU (a.set (gI of (bK (h : Int))).toNat (gI a (gI q (i : Int)) + 1)) (q ++ [gI of (bK (h : Int))]) s0 of F m B i (h + 1) := by
 obtain ⟨_, _, hf, _⟩ := hr.1.facts
 rw [hr.2.1] at e
 obtain ⟨h1, h2⟩ := pX (of := of) (n := 2 * m) (by omega) e
 rw [← jn (m := m) hf.1 hf.2] at h1 h2
 have ht := eJ (n := (m : Int)) (h := (h : Int)) (by omega) hh
 have hx := ho.2 _ ht.1 ht.2
 have h3 := hr.1.yes h1 (by rw [h2]; exact hx.1) (by rw [h2]; exact hx.2) (by rw [h2]; exact c)
 rw [h2] at h3
 refine ⟨?_, by rw [jk hr.2.2, hr.2.1], by have := hr.2.2; simp; omega⟩
 rw [j4 e, List.length_append, hr.2.1]
 exact h3
theorem lU.seen (hr : lU a q s0 of F m B i h) (ho : hT of F m) (hh : (h : Int) < 2 * (m : Int)) (e : gI of (h : Int) = gI q (i : Int)) (c : ¬ gI a (gI of (bK (h : Int))) < 0) : lU a q s0 of F m B i (h + 1) := by
 obtain ⟨_, _, hf, _⟩ := hr.1.facts
 rw [hr.2.1] at e
 obtain ⟨h1, h2⟩ := pX (of := of) (n := 2 * m) (by omega) e
 rw [← jn (m := m) hf.1 hf.2] at h1 h2
 have ht := eJ (n := (m : Int)) (h := (h : Int)) (by omega) hh
 have hx := ho.2 _ ht.1 ht.2
 have h3 := hr.1.no h1 (by rw [h2]; exact hx.1) (by rw [h2]; exact hx.2) (by rw [h2]; exact c)
 refine ⟨?_, hr.2⟩
 rw [j4 e, List.length_append]
 exact h3
theorem lU.no (hr : lU a q s0 of F m B i h) (e : ¬ gI of (h : Int) = gI q (i : Int)) : lU a q s0 of F m B i (h + 1) := by
 rw [hr.2.1] at e
 exact ⟨by rw [pW e]; exact hr.1, hr.2⟩
theorem lU.done {sa : List Int × List Int} {a0 q0 : List Int} (hg : fS (a0, q0) sa (kV of F m) F B i) (hi : (i : Int) < q0.length) (hr : lU a q (a0, q0) of F m B i h) (hh : ¬ (h : Int) < 2 * (m : Int)) : fS (a, q) sa (kV of F m) F B (i + 1) := by
 obtain ⟨_, _, hf, _⟩ := hr.1.facts
 replace hf : 0 ≤ gI q0 (i : Int) ∧ gI q0 (i : Int) < F := hf
 refine hg.next hi hr.1 ?_
 show ¬ ((ii of h (gI q0 (i : Int))).length : Int) < (gI (kV of F m) (gI q0 (i : Int))).length
 rw [jn hf.1 hf.2]
 obtain ⟨t, ht⟩ := l9 (of := of) (f := gI q0 (i : Int)) (h := 2 * m) h (by omega)
 rw [ht, List.length_append]; omega
end
def jb (of far : List Int) (f h : Int) : Prop := gI of h = f ∧ gI far (gI of (bK h)) = gI far f - 1
theorem qC {of far : List Int} {f : Int} {h : Nat} (hp : jb of far f (h : Int)) : es of far f ((h / 2 : Nat) : Int) ∧ gn (aB of ((h / 2 : Nat) : Int)) f = gI of (bK (h : Int)) := by
 obtain ⟨h1, h2⟩ := hp
 unfold bK at h2 ⊢
 by_cases c : (h : Int) % 2 = 0
 · rw [if_pos c] at h2 ⊢
   have e1 : 2 * ((h / 2 : Nat) : Int) = h := by omega
   have hne : ¬ gI of ((h : Int) + 1) = f := fun e => by rw [e] at h2; omega
   have e2 : gn (aB of ((h / 2 : Nat) : Int)) f = gI of ((h : Int) + 1) := by
     unfold gn aB; rw [e1]; exact if_neg hne
   refine ⟨⟨.inr (by unfold aB; rw [e1]; exact h1), by rw [e2]; exact h2⟩, e2⟩
 · rw [if_neg c] at h2 ⊢
   have e1 : 2 * ((h / 2 : Nat) : Int) = (h : Int) - 1 := by omega
   have e3 : (h : Int) - 1 + 1 = h := by omega
   have e2 : gn (aB of ((h / 2 : Nat) : Int)) f = gI of ((h : Int) - 1) := by
     unfold gn aB; rw [e1, e3]; exact if_pos h1
   refine ⟨⟨.inl (by unfold aB; rw [e1, e3]; exact h1), by rw [e2]; exact h2⟩, e2⟩
theorem mB {of far : List Int} {f : Int} {e : Nat} (hp : es of far f (e : Int)) : jb of far f ((2 * e : Nat) : Int) ∨ jb of far f ((2 * e + 1 : Nat) : Int) := by
 obtain ⟨h1, h2⟩ := hp
 unfold gn aB at h2
 unfold aB at h1
 simp only at h1 h2
 by_cases c : gI of (2 * (e : Int) + 1) = f
 · rw [if_pos c] at h2
   refine .inr ⟨by rw [show ((2 * e + 1 : Nat) : Int) = 2 * (e : Int) + 1 by omega]; exact c, ?_⟩
   unfold bK
   rw [if_neg (by omega), show ((2 * e + 1 : Nat) : Int) - 1 = 2 * (e : Int) by omega]; exact h2
 · rw [if_neg c] at h2
   refine .inl ⟨by rw [show ((2 * e : Nat) : Int) = 2 * (e : Int) by omega]; exact h1.resolve_left c, ?_⟩
   unfold bK
   rw [if_pos (by omega), show ((2 * e : Nat) : Int) + 1 = 2 * (e : Int) + 1 by omega]; exact h2
theorem dk.half {l : List Int} {f : Int} {m : Nat} {of : List Int} {F : Int} {far : List Int} {from_ to : Int} (h : dk l f m of F far from_ to) (ho : hT of F m) (hP : gz m of F [to] far) (hf : 0 < gI far f) {k : Nat} (hk : (k : Int) < 2 * (m : Int)) (hp : jb of far f (k : Int)) (hl : ∀ j : Nat, j < k → ¬ jb of far f (j : Int)) :
   dk (l ++ [(k : Int) / 2]) (gI of (bK (k : Int))) m of F far from_ to ∧ gI far (gI of (bK (k : Int))) = gI far f - 1 := by
 obtain ⟨h1, h2⟩ := qC hp
 have hft : f ≠ to := fun e => by have := hP.src to (by simp); rw [e] at hf; omega
 have := h.next ho hP hft (e := k / 2) (by omega) h1 fun j hj hs => by
   rcases mB hs with h | h
   · exact hl _ (by omega) h
   · exact hl _ (by omega) h
 rw [h2] at this
 rw [show (k : Int) / 2 = ((k / 2 : Nat) : Int) by omega]
 exact this
theorem t6 {m : Nat} {of : List Int} {F : Int} {to : Int} {far : List Int} (hP : gz m of F [to] far) {f : Int} (h0 : 0 ≤ f) (h1 : f < F) (hf : 0 < gI far f) : ∃ k : Nat, (k : Int) < 2 * (m : Int) ∧ jb of far f (k : Int) := by
 have hft : f ≠ to := fun e => by have := hP.src to (by simp); rw [e] at hf; omega
 obtain ⟨e, he, hs⟩ := po hP h0 h1 (by omega) hft
 rcases mB hs with h | h
 · exact ⟨_, by omega, h⟩
 · exact ⟨_, by omega, h⟩
theorem dk.end_ {l : List Int} {f : Int} {m : Nat} {of : List Int} {F : Int} {far : List Int} {from_ to : Int} (h : dk l f m of F far from_ to) (hP : gz m of F [to] far) (hf : ¬ 0 < gI far f) : l = l8 of far m to (gI far from_).toNat from_ := by
 have h1 := h.pos.1
 have h2 := hP.zero f h.rng.1 h.rng.2 (by omega)
 have e : f = to := by simpa using h2
 subst e
 exact h.done hP
end TL
/-
  TlDoc: the document's answers of layer 10 are the program's.
  By an AI agent.
-/
set_option linter.all false
namespace TL
variable {g : bZ} {r : bj} {a b c : Int × Int} {e : Int}
def aZ (g : bZ) (r : bj) (c : Int × Int) : Int :=
  if 0 ≤ c.1 ∧ c.1 < g.1 then if ((gI r c.1).length : Int) = 0 then (if c.2 = -1 then 0 else -1) else bf (gI r c.1) c.2 else -1
theorem mj (h : ¬ (0 ≤ c.1 ∧ c.1 < g.1)) : (-1 : Int) = aZ g r c := by unfold aZ; rw [if_neg h]
theorem rp (h : 0 ≤ c.1 ∧ c.1 < g.1) (h0 : ((gI r c.1).length : Int) = 0) (h1 : c.2 = -1) : (0 : Int) = aZ g r c := by unfold aZ; rw [if_pos h, if_pos h0, if_pos h1]
theorem rO (h : 0 ≤ c.1 ∧ c.1 < g.1) (h0 : ((gI r c.1).length : Int) = 0) (h1 : ¬ c.2 = -1) : (-1 : Int) = aZ g r c := by unfold aZ; rw [if_pos h, if_pos h0, if_neg h1]
theorem ly (h : 0 ≤ c.1 ∧ c.1 < g.1) (h0 : ¬ ((gI r c.1).length : Int) = 0) : aZ g r c = bf (gI r c.1) c.2 := by unfold aZ; rw [if_pos h, if_neg h0]
theorem rc : -1 ≤ aZ g r c ∧ aZ g r c ≤ ((gI r c.1).length : Int) := by
 unfold aZ
 have := mZ (gI r c.1) c.2
 split
 · split
   · split <;> omega
   · omega
 · omega
theorem iC : ¬ aZ g r c < 0 ↔ c9 g r c := by
 unfold aZ c9
 by_cases h : 0 ≤ c.1 ∧ c.1 < g.1
 · rw [if_pos h]
   by_cases h0 : ((gI r c.1).length : Int) = 0
   · rw [if_pos h0, if_pos h0]
     by_cases h1 : c.2 = -1
     · rw [if_pos h1]; simp [h, h1]
     · rw [if_neg h1]; simp [h1]
   · rw [if_neg h0, if_neg h0]
     by_cases hm : c.2 ∈ gI r c.1
     · have := (lM hm).1
       exact ⟨fun _ => ⟨h, hm⟩, fun _ => by omega⟩
     · have : bf (gI r c.1) c.2 = -1 := by unfold bf; rw [if_neg hm]
       rw [this]
       exact ⟨fun h' => absurd (by omega) h', fun h' => absurd h'.2 hm⟩
 · rw [if_neg h]; exact ⟨fun h' => absurd (by omega) h', fun h' => absurd h'.1 h⟩
def aU (g : bZ) (r : bj) (c : Int × Int) : Int × Int :=
  if (ar g r).2 = 0 then if c9 g r c then (cd r (bU g r).1 (bt (ar g r).1) c, 0) else (0, 2) else (0, (ar g r).2)
theorem l4 (h : ¬ (ar g r).2 = 0) : aU g r c = (0, (ar g r).2) := if_neg h
theorem gr (h : (ar g r).2 = 0) (hc : ¬ decide (c9 g r c) = true) : aU g r c = (0, 2) := by
 unfold aU; rw [if_pos h, if_neg (fun hp => hc (decide_eq_true hp))]
theorem fO (h : (ar g r).2 = 0) (hc : decide (c9 g r c) = true) : aU g r c = (cd r (bU g r).1 (bt (ar g r).1) c, 0) := by
 unfold aU; rw [if_pos h, if_pos (of_decide_eq_true hc)]
theorem nn (hm : bx g) (hr : cf g r) (h : aZ g r c < 0) : aU g r c = (0, 2) :=
 gr (by rw [bG (br hm hr)]) fun hd => iC.2 (of_decide_eq_true hd) h
theorem oo (hm : bx g) (hr : cf g r) (h : ¬ aZ g r c < 0) (hl : 0 < ((gI r c.1).length : Int)) : aU g r c = (gI (bX g r) (gI (gI r c.1) ((aZ g r c + 1) % ((gI r c.1).length : Int))), 0) := by
 have hc := iC.1 h
 rw [fO (by rw [bG (br hm hr)]) (decide_eq_true hc), eN (br hm hr), ly hc.1 (by omega)]
 unfold cd; rw [if_pos hl]
theorem mT (hr : cf g r) : bt (ax (aw g r) r) + en r r.length = ((ax (aw g r) r).length : Int) := by
 obtain ⟨hp, _⟩ := nb hr
 obtain ⟨f1, _⟩ := jQ hp
 unfold bt ax en
 rw [List.filter_append, List.length_append, List.length_append, List.take_length]
 have e1 : ((cm (aw g r) (c7 (aw g r).length) []).filter fun l => decide (0 < (l.length : Int))) = cm (aw g r) (c7 (aw g r).length) [] := List.filter_eq_self.2 fun f hf => by
   have := (f1 f hf).ne
   have : 0 < f.length := List.length_pos_iff.2 this
   exact decide_eq_true (by omega)
 have e2 : (((r.filter fun l => decide (l.length = 0)).map fun _ => ([] : List Int)).filter fun l => decide (0 < (l.length : Int))) = [] := List.filter_eq_nil_iff.2 fun l hl => by
   obtain ⟨_, _, rfl⟩ := List.mem_map.1 hl
   simp
 rw [e1, e2]; simp
theorem mf (hm : bx g) (hr : cf g r) (h : ¬ aZ g r c < 0) (hl : ¬ 0 < ((gI r c.1).length : Int)) {n : Int} (hn : n = ((ax (aw g r) r).length : Int) - (en r r.length - en r c.1.toNat)) : aU g r c = (n, 0) := by
 have hc := iC.1 h
 have hf := mT hr
 rw [fO (by rw [bG (br hm hr)]) (decide_eq_true hc)]
 unfold cd; rw [if_neg hl, bG (br hm hr), hn]
 simp only
 rw [show bt (ax (aw g r) r) + en r c.1.toNat = ((ax (aw g r) r).length : Int) - (en r r.length - en r c.1.toNat) by omega]
def eY (after : Int) (hs : List Int) (l : List Int) : List Int := l.flatMap fun x => if x = after then x :: hs else [x]
def ez (l : List Int) (after : Int) (hs : List Int) : List Int := if (l.length : Int) = 0 then hs else eY after hs l
theorem jp (after : Int) (hs l l' : List Int) : eY after hs (l ++ l') = eY after hs l ++ eY after hs l' := by unfold eY; simp
theorem rd {after : Int} {hs l : List Int} {k : Nat} (hk : (k : Int) < l.length) (h : gI l (k : Int) = after) : eY after hs (l.take (k + 1)) = eY after hs (l.take k) ++ [gI l (k : Int)] ++ hs := by
 rw [bh hk, jp]
 simp [eY, h]
theorem uk {after : Int} {hs l : List Int} {k : Nat} (hk : (k : Int) < l.length) (h : ¬ gI l (k : Int) = after) : eY after hs (l.take (k + 1)) = eY after hs (l.take k) ++ [gI l (k : Int)] := by
 rw [bh hk, jp]
 simp [eY, h]
theorem oy (after : Int) (hs : List Int) : ∀ l : List Int, (eY after hs l).length ≤ l.length * (hs.length + 1)
 | [] => by simp [eY]
 | x :: l => by
   have := oy after hs l
   have e : eY after hs (x :: l) = (if x = after then x :: hs else [x]) ++ eY after hs l := by simp [eY]
   rw [e, List.length_append]
   have h2 : (if x = after then x :: hs else [x]).length ≤ hs.length + 1 := by split <;> simp
   have h3 : (x :: l).length * (hs.length + 1) = l.length * (hs.length + 1) + (hs.length + 1) := by simp [Nat.succ_mul]
   omega
theorem jT {after : Int} {hs : List Int} : ∀ l : List Int, after ∉ l → eY after hs l = l
 | [], _ => rfl
 | x :: l, h => by
   have h1 : ¬ x = after := fun e => h (by simp [e])
   have h2 := jT (hs := hs) l (fun hm => h (List.mem_cons_of_mem _ hm))
   have e : eY after hs (x :: l) = (if x = after then x :: hs else [x]) ++ eY after hs l := by simp [eY]
   rw [e, if_neg h1, h2]; rfl
theorem uw {after : Int} {hs l : List Int} (hn : l.Nodup) (hm : after ∈ l) : eY after hs l = l.take (bf l after + 1).toNat ++ hs ++ l.drop (bf l after + 1).toNat := by
 obtain ⟨u0, hu, hnot⟩ := wP hm
 have hl : l = u0 ++ [after] ++ l.drop (bf l after + 1).toNat := by rw [← hu, List.take_append_drop]
 have hd : after ∉ l.drop (bf l after + 1).toNat := fun hd => by
   rw [hl, List.append_assoc, List.nodup_append] at hn
   have := (List.nodup_cons.1 hn.2.1).1
   exact this (by simpa using hd)
 generalize hD : l.drop (bf l after + 1).toNat = D at hl hd ⊢
 rw [hu]
 conv => lhs; rw [hl]
 rw [jp, jp, jT u0 hnot, jT D hd]
 simp [eY]
theorem lh {R : bj} {c : Int × Int} {hs : List Int} (h0 : 0 ≤ c.1) (h1 : c.1 < (R.length : Int)) (hn : (gI R c.1).Nodup) (hc : gI R c.1 = [] ∨ c.2 ∈ gI R c.1) : R.set c.1.toNat (ez (gI R c.1) c.2 hs) = eX R c hs := by
 unfold eX ez
 rcases hc with hc | hc
 · rw [hc]; simp [bf]
 · have : 0 < (gI R c.1).length := List.length_pos_of_mem hc
   rw [if_neg (by omega), uw hn hc]
theorem fF {R : bj} (hn : R.flatten.Nodup) {v : Int} (h0 : 0 ≤ v) (h1 : v < (R.length : Int)) : (gI R v).Nodup := by
 have hm : gI R v ∈ R := bu h0 h1
 exact (List.sublist_flatten_of_mem hm).nodup hn
theorem kS (h : c9 g r c) : gI r c.1 = [] ∨ c.2 ∈ gI r c.1 := by
 obtain ⟨_, h2⟩ := h
 by_cases h0 : ((gI r c.1).length : Int) = 0
 · exact .inl (List.eq_nil_of_length_eq_zero (by omega))
 · rw [if_neg h0] at h2; exact .inr h2
theorem qJ (hm : bx g) (hr : cf g r) (ha : c9 g r a) : r.set a.1.toNat (ez (gI r a.1) a.2 [2 * (g.2.length : Int), 2 * (g.2.length : Int) + 1]) = eX r a [2 * (g.2.length : Int), 2 * (g.2.length : Int) + 1] := by
  have hp := di hm hr ha
  exact lh hp.1.1 hp.1.2 (fF hr.2.2.1 hp.1.1 hp.1.2) (kS ha)
theorem rD (hm : bx g) (hr : cf g r) (ha : c9 g r a) : r.set a.1.toNat (ez (gI r a.1) a.2 [2 * (g.2.length : Int)]) = eX r a [2 * (g.2.length : Int)] := by
 have hp := di hm hr ha
 exact lh hp.1.1 hp.1.2 (fF hr.2.2.1 hp.1.1 hp.1.2) (kS ha)
theorem rG (hm : bx g) (hr : cf g r) (ha : c9 g r a) (hb : c9 g r b) (hab : ¬ a = b) : (eX r a [2 * (g.2.length : Int)]).set b.1.toNat (ez (gI (eX r a [2 * (g.2.length : Int)]) b.1) b.2 [2 * (g.2.length : Int) + 1]) = eX (eX r a [2 * (g.2.length : Int)]) b [2 * (g.2.length : Int) + 1] := by
 have hpa := di hm hr ha
 have hpb := di hm hr hb
 have hbl : b.1 < ((eX r a [2 * (g.2.length : Int)]).length : Int) := by rw [ib]; exact hpb.1.2
 have hfl := jq (r := r) (c := a) (hs := [2 * (g.2.length : Int)]) hpa.1.1 hpa.1.2
 have hnd : (eX r a [2 * (g.2.length : Int)]).flatten.Nodup := by
   rw [hfl.nodup_iff]
   refine List.nodup_append.2 ⟨by simp, hr.2.2.1, fun x hx y hy e => ?_⟩
   subst e
   obtain rfl : x = 2 * (g.2.length : Int) := by simpa using hx
   obtain ⟨l, hl, hxl⟩ := List.mem_flatten.1 hy
   obtain ⟨v, hv, rfl⟩ := List.mem_iff_getElem.1 hl
   have e2 : gI r (v : Int) = r[v] := by simp [gI, hv]
   have := (hr.2.1 v hv _ (by rw [e2]; exact hxl)).1
   omega
 refine lh hpb.1.1 hbl (fF hnd hpb.1.1 hbl) ?_
 rcases kS hb with h | h
 · by_cases e : b.1 = a.1
   · exfalso
     obtain ⟨_, ha2⟩ := ha
     obtain ⟨_, hb2⟩ := hb
     rw [if_pos (by rw [h]; rfl)] at hb2
     rw [← e, if_pos (by rw [h]; rfl)] at ha2
     exact hab (Prod.ext e.symm (by rw [ha2, hb2]))
   · left
     rw [oA hpa.1.1 hpa.1.2 hpb.1.1, if_neg e, h]
 · right
   exact qu hpa.1.1 hpa.1.2 hpb.1.1 h
theorem rv (hm : bx g) (h : 3072 ≤ (g.2.length : Int)) : ¬ bx (dR g a b) := fun hl => by
 have h1 := hl.2.2.1
 have h2 := ja (g := g) (a := a) (b := b)
 omega
theorem l6 (hm : bx g) (hr : cf g r) (h : ¬ (aU g r a).2 = 0) : bg g r a b = ((0, []), [], (aU g r a).2) := by
 have h0 : (ar g r).2 = 0 := by rw [bG (br hm hr)]
 have hc : ¬ decide (c9 g r a) = true := fun hc => h (by rw [fO h0 hc])
 rw [fY h0 (.inl hc), gr h0 hc]
theorem dm (hm : bx g) (hr : cf g r) (h : (aU g r c).2 = 0) : c9 g r c ∧ (aU g r c).1 = cd r (bU g r).1 (bt (ar g r).1) c := by
 have h0 : (ar g r).2 = 0 := by rw [bG (br hm hr)]
 by_cases hc : c9 g r c
 · exact ⟨hc, by rw [fO h0 (decide_eq_true hc)]⟩
 · rw [gr h0 (fun hd => hc (of_decide_eq_true hd))] at h; cases h
theorem lD (hm : bx g) (hr : cf g r) (h : ¬ (aU g r b).2 = 0) : bg g r a b = ((0, []), [], (aU g r b).2) := by
 have h0 : (ar g r).2 = 0 := by rw [bG (br hm hr)]
 have hc : ¬ decide (c9 g r b) = true := fun hc => h (by rw [fO h0 hc])
 rw [fY h0 (.inr hc), gr h0 hc]
theorem lg (hm : bx g) (hr : cf g r) (ha : (aU g r a).2 = 0) (hb : (aU g r b).2 = 0) (hl : ¬ bx (dR g a b)) : bg g r a b = ((0, []), [], 3) := by
 have h0 : (ar g r).2 = 0 := by rw [bG (br hm hr)]
 have hca := (dm hm hr ha).1
 have hcb := (dm hm hr hb).1
 refine jt h0 (decide_eq_true hca) (decide_eq_true hcb) ?_
 by_cases c : 3072 ≤ (g.2.length : Int)
 · exact c
 · exact absurd (pD hm hca.1 hcb.1 c) hl
theorem mp (hm : bx g) (hl : bx (dR g a b)) : ¬ 3072 ≤ (g.2.length : Int) := fun h => rv hm h hl
theorem lk (hm : bx g) (hr : cf g r) (ha : (aU g r a).2 = 0) (hb : (aU g r b).2 = 0) (hl : bx (dR g a b)) (hp : gI (bC g).1 a.1 = gI (bC g).1 b.1) (hf : ¬ (aU g r a).1 = (aU g r b).1) : bg g r a b = ((0, []), [], 5) := by
 have h0 : (ar g r).2 = 0 := by rw [bG (br hm hr)]
 have hca := dm hm hr ha
 have hcb := dm hm hr hb
 rw [hca.2, hcb.2] at hf
 exact jw h0 (decide_eq_true hca.1) (decide_eq_true hcb.1) (mp hm hl) hp hf
theorem iF (hm : bx g) (hr : cf g r) (ha : (aU g r a).2 = 0) (hb : (aU g r b).2 = 0) (hl : bx (dR g a b)) (hp : ¬ gI (bC g).1 a.1 = gI (bC g).1 b.1 ∨ (aU g r a).1 = (aU g r b).1) : bg g r a b = (dR g a b, ct (eS g r a b), 0) := by
 have h0 : (ar g r).2 = 0 := by rw [bG (br hm hr)]
 have hca := dm hm hr ha
 have hcb := dm hm hr hb
 rw [hca.2, hcb.2] at hp
 have h1 := gE h0 (decide_eq_true hca.1) (decide_eq_true hcb.1) (mp hm hl) hp
 have h2 := (nN (by rw [h1])).2.2.2.2.2.2
 exact h2
theorem js (hm : bx g) (hr : cf g r) (hd : ¬ bx (fo g r)) : aT g r = ((0, []), [], 3) := by
  unfold aT
  rw [if_pos (by rw [bG (br hm hr)]), if_neg hd]
theorem iE (hm : bx g) (hr : cf g r) (h : ¬ (aM g e).2 = 0) : aF g r e = ((0, []), [], (aM g e).2) := by
  unfold aF
  rw [if_pos (br hm hr), if_neg h]
theorem gO (hm : bx g) (hr : cf g r) (h : (aM g e).2 = 0) : aF g r e = ((aM g e).1, ct (eO g r e), 0) := by
 refine (qM ?_).2.2.2
 unfold aF
 rw [if_pos (br hm hr), if_pos h]
theorem gA (hm : bx g) (hr : cf g r) (h : e < 0 ∨ (g.2.length : Int) ≤ e) : aX g r e = ((0, []), [], 2) := by
  unfold aX
  rw [if_pos (br hm hr), if_pos h]
theorem jH (hm : bx g) (hr : cf g r) (h : ¬ (e < 0 ∨ (g.2.length : Int) ≤ e)) : aX g r e = bS g r (iI e g.2.length) := by
 unfold aX
 rw [if_pos (br hm hr), if_neg h]
def gg (r : bj) (m : Nat) (e : Int) (n v k : Nat) : bj := (r.take v).map (List.map (dx m e)) ++ [((gI r (v : Int)).take k).map (dx m e)] ++ List.replicate (n - v) []
theorem qN (r : bj) (m : Nat) (e : Int) (n : Nat) : List.replicate (n + 1) [] = gg r m e n 0 0 := by
 unfold gg; simp [List.replicate_succ]
theorem ic {r : bj} {m : Nat} {e : Int} {v : Nat} (hr : v ≤ r.length) : ((r.take v).map (List.map (dx m e))).length = v := by simp; omega
theorem pU {r : bj} {m : Nat} {e : Int} {n v k : Nat} (hv : v ≤ n) (hr : v ≤ r.length) : (gg r m e n v k).length = n + 1 := by
 unfold gg
 rw [List.length_append, List.length_append, ic hr, List.length_replicate]
 simp only [List.length_cons, List.length_nil]
 omega
theorem rC {r : bj} {m : Nat} {e : Int} {n v k : Nat} (hr : v ≤ r.length) : gI (gg r m e n v k) (v : Int) = ((gI r (v : Int)).take k).map (dx m e) := by
 unfold gg gI
 rw [List.getD_eq_getElem?_getD, List.append_assoc, List.getElem?_append_right (by rw [ic hr]; simp), ic hr]
 simp
theorem pK {r : bj} {m : Nat} {e : Int} {n v k : Nat} (hr : v ≤ r.length) (y : List Int) : (gg r m e n v k).set (v : Int).toNat y = (r.take v).map (List.map (dx m e)) ++ [y] ++ List.replicate (n - v) [] := by
 unfold gg
 rw [List.append_assoc, List.set_append_right _ _ (by rw [ic hr]; simp), ic hr]
 simp
theorem ou {r : bj} {m : Nat} {e : Int} {n v k : Nat} (hr : v ≤ r.length) (hk : (k : Int) < (gI r (v : Int)).length) {y : Int} (hy : y = dx m e (gI (gI r (v : Int)) (k : Int))) :
   (gg r m e n v k).set (v : Int).toNat (gI (gg r m e n v k) (v : Int) ++ [y]) = gg r m e n v (k + 1) := by
 rw [pK hr, rC hr, hy]
 unfold gg
 rw [bh hk, List.map_append]; rfl
theorem sL {r : bj} {m : Nat} {e : Int} {n v k : Nat} (hv : v < n) (hr : (v : Int) < r.length) (hk : ¬ (k : Int) < (gI r (v : Int)).length) : gg r m e n v k = gg r m e n (v + 1) 0 := by
 unfold gg
 rw [bh hr, List.take_of_length_le (show (gI r (v : Int)).length ≤ k by omega), show n - v = (n - (v + 1)) + 1 by omega, List.replicate_succ]
 simp
theorem sE {g : bZ} {r : bj} {e : Int} (hm : bx g) (hr : cf g r) (he : 0 ≤ e ∧ e < (g.2.length : Int)) {v : Nat} (hv : v = r.length) {n : Int} (hn : n = g.1) :
   (gg r g.2.length e g.1.toNat v 0).set n.toNat [2 * e + 1, 2 * (g.2.length : Int)] = eO g r e := by
 have hl := hr.1
 rw [km hm hr he, hn, show g.1.toNat = (v : Int).toNat by omega, pK (by omega), hv]
 simp
theorem sH {m : Nat} {e x : Int} (h : x = 2 * e + 1) : 2 * (m : Int) + 1 = dx m e x := by unfold dx; rw [if_pos h]
theorem uN {m : Nat} {e x : Int} (h : ¬ x = 2 * e + 1) : x = dx m e x := by unfold dx; rw [if_neg h]
theorem mY {r : bj} {n F E v : Int} (h : n = F - (E - en r (v + 1).toNat)) (h0 : 0 ≤ v) (h1 : v < r.length) (he : ((gI r v).length : Int) = 0) : n - 1 = F - (E - en r (v - 1 + 1).toNat) := by
  have h2 := nJ (r := r) (k := v.toNat) (by omega) (by rw [Int.toNat_of_nonneg h0]; exact he)
  rw [show (v + 1).toNat = v.toNat + 1 by omega, h2] at h
  rw [show (v - 1 + 1).toNat = v.toNat by omega]; omega
theorem ox {r : bj} {n F E v : Int} (h : n = F - (E - en r (v + 1).toNat)) (h0 : 0 ≤ v) (h1 : v < r.length) (he : ¬ ((gI r v).length : Int) = 0) : n = F - (E - en r (v - 1 + 1).toNat) := by
 have h2 := pH (r := r) (k := v.toNat) (by omega) (by rw [Int.toNat_of_nonneg h0]; exact he)
 rw [show (v + 1).toNat = v.toNat + 1 by omega, h2] at h
 rw [show (v - 1 + 1).toNat = v.toNat by omega]; omega
theorem te {after : Int} {hs l : List Int} (k : Nat) (hl : l.length ≤ 1000000) (hh : hs.length ≤ 10) : (eY after hs (l.take k)).length ≤ 11000000 := by
 have h1 := oy after hs (l.take k)
 have h2 := List.length_take_le k l
 have h3 : (l.take k).length ≤ 1000000 := by rw [List.length_take]; omega
 have := Nat.mul_le_mul h3 (show hs.length + 1 ≤ 11 by omega)
 omega
theorem iz {g : bZ} {r : bj} (hm : bx g) (hr : cf g r) {v : Int} (h0 : 0 ≤ v) (h1 : v < g.1) : (gI r v).length ≤ 7000 := by
 have hl := hr.1
 have := mU hr (k := v.toNat) (by omega)
 rw [Int.toNat_of_nonneg h0] at this
 have := hm.2.2.1
 omega
theorem kW {g : bZ} {r : bj} {a b : Int × Int} (hm : bx g) (hr : cf g r) (ha : c9 g r a) (hb : c9 g r b) (x : Int) : (gI (eX r a [x]) b.1).length ≤ 1000000 := by
 have h1 := di hm hr ha
 have h2 := di hm hr hb
 have h3 := kU (r := r) (c := a) (hs := [x]) h1.1.1 h1.1.2 (v := b.1) h2.1.1
 have h4 := iz hm hr h2.1.1 hb.1.2
 simp only [List.length_cons, List.length_nil] at h3
 omega
theorem uQ {F : Int} {to : List Int} (h : to.length = 1) : (List.replicate F.toNat (-1)).set (gI to 0).toNat 0 = dP F to ∧ [gI to 0] = to := by
  obtain ⟨x, rfl⟩ := List.length_eq_one_iff.1 h
  exact ⟨rfl, rfl⟩
end TL
/-
  TlKeep2: a list whose rows are some of them its own, some only read: a row of the call's own is put.
  By an AI agent.
-/
set_option linter.all false
namespace TL
open Go
section
variable {P : Program} {w : World} {t t' : TypeId} {f : Fr} {x y : Operand} {dst : Option Tmp} {ty : TypeId} {pos : String} {after : Array Edge} {g : Option (Nat × Bool)} {N : Value → World → Prop} {γ : aE} {v u : Value} {xss : List (List Int)} {l : List Int} {i k : Nat}
theorem dA {bytes : Nat} {z : Value} {r : Int} (ht : Tp P t false 1 bytes z) (hx : ev f x = .pointer (some (ba v 1 r.toNat))) (hy : ev f y = u) (hn : lR γ i w v xss) (hu : Ow γ (is k) (is k) w u l) (hi : Nat.beq 0 i = false) (hk : Nat.beq i k = false) (hk0 : Nat.beq 0 k = false) (h0 : 0 ≤ r) (h1 : r < xss.length)
    (hN : ∀ γ' w', bq (wT i k) γ w γ' w' → lR γ' i w' v (xss.set r.toNat l) → N undef w') : go P ⟨dst, .store t x y, ty, pos, after, g⟩ f w N := by
  obtain ⟨us, h2, h3, h4⟩ := hn
  have hul : Sl γ (is k) w u l := hu.flat
  have hone : u.oneCell' = true := bm hul
  have hcl := c6 hul
  have hki : ¬ i = k := dY hk
  have hi0 : ¬ 0 = i := dY hi
  have h0k : ¬ 0 = k := dY hk0
  obtain ⟨b, o, cur, e, ha, hb, hle, hc, hov⟩ := lO (u := u) (y := (⟨u, hone⟩ : Vc)) h2 (i := r.toNat) (by omega) (by rw [hcl]; rfl)
  replace ha : ba v 1 r.toNat = ⟨b, o, none⟩ := ha
  rw [ha] at hx
  have hne : ∀ q, kn i q → ¬ row i 0 q := fun q h1 h2 => by
    unfold row at h2
    subst h2
    rcases h1 with h1 | h1
    · exact hi0 h1.symm
    · exact h1.2 rfl
  have hne2 : ∀ q, is k q → ¬ row i 0 q := fun q h1 h2 => by
    unfold row at h2
    subst h2
    exact hki h1
  have hrw : ∀ b, row i 0 (γ b) → row i 0 (recol γ k (i, r.toNat + 1) b) := fun b hq => jR hk hq
  have hro : ∀ b, kn i (γ b) → kn i (recol γ k (i, r.toNat + 1) b) := fun b hq => by
    unfold recol
    split
    · exact .inr ⟨rfl, by simp⟩
    · exact hq
  have hfr : ∀ b, is k (γ b) → kn i (recol γ k (i, r.toNat + 1) b) := fun b hq => by
    have hq' : (γ b).1 = k := hq
    unfold recol
    rw [if_pos hq']
    exact .inr ⟨rfl, by simp⟩
  have tr : ∀ {S : cv → Prop} {w' : World} {u' : Value} {x' : List Int}, Sl γ S w' u' x' → (∀ b, S (γ b) → kn i (recol γ k (i, r.toNat + 1) b)) → Sl (recol γ k (i, r.toNat + 1)) (kn i) w' u' x' := fun h hS =>
    h.tr (fun b hb hs => ⟨rfl, hS b hs⟩) (Nat.le_refl _)
  refine fD (eZ ht hx hy hb (by rw [hcl]; rfl) hle (fun q hq => ?_)) (hN (recol γ k (i, r.toNat + 1)) _ ((k6 hc).mono ?_) ⟨us.set r.toNat ⟨u, hone⟩, hov.recol hrw hrw, by simp [h3], fun m u' x' hu' hx' => ?_⟩)
  · rw [hcl] at hq
    obtain rfl : q = u := by simpa using hq
    exact hone
  · rintro c (h | h)
    · exact .inl (cS c h)
    · exact .inr h
  · by_cases e : m = r.toNat
    · subst e
      rw [List.getElem?_set_self (by omega)] at hu' hx'
      obtain rfl := Option.some.inj hu'
      obtain rfl := Option.some.inj hx'
      exact tr (hul.chg hc hne2) hfr
    · rw [List.getElem?_set_ne (Ne.symm e)] at hu' hx'
      exact tr ((h4 m u' x' hu' hx').chg hc hne) hro
end
end TL
namespace TL
open Go
end TL
/-
  TlAll9: what RotAll needs of the images: errors, lengths, where they are empty.
  By an AI agent.
-/
set_option linter.all false
namespace TL
variable {g : bZ} {r : bj} {keep to : List Int}
theorem np : (ar g r).2 = aK g r := by unfold ar; split <;> simp_all
theorem wC (h : r.length + r.flatten.length ≤ 1000) : r.length ≤ 1000000 ∧ ∀ l_ ∈ r, l_.length ≤ 1000000 := by
 refine ⟨by omega, fun l hl => ?_⟩
 have := (List.sublist_flatten_of_mem hl).length_le
 omega
structure M9 (g : bZ) (r : bj) (keep to : List Int) : Prop where
  se : (bS g r keep).2.2 = aK g r
  me : (fX g r to).2.2 = aK g r
  sn : (bS g r keep).1.1 = 0
  mn : (fX g r to).1.1 = 0
  sr : (bS g r keep).2.1 = []
  mr : (fX g r to).2.1 = []
theorem M9.mk' (h : ¬ aK g r = 0) : M9 g r keep to := ⟨by simp [bS, h], by simp [fX, h], by simp [bS, h], by simp [fX, h], by simp [bS, h], by simp [fX, h]⟩
theorem wu (hl : r.length ≤ 1000) : (bS g r keep).2.1.length ≤ 8000 ∧ (fX g r to).2.1.length ≤ 8000 := by
 by_cases h : aK g r = 0
 · obtain ⟨hm, hr⟩ := dD h
   obtain ⟨hm1, hm2, hm3, hm4⟩ := id hm
   constructor
   · unfold bS; rw [if_pos h]; split
     · simp [ct]; omega
     · simp
   · unfold fX; rw [if_pos h]; split
     · simp [ct, pC, cP]; omega
     · simp
 · have hn := M9.mk' (keep := keep) (to := to) h
   rw [hn.sr, hn.mr]; simp
end TL
/-
  TlAll10: what DualAll needs of the images: errors, lengths, where they are empty.
  By an AI agent.
-/
set_option linter.all false
namespace TL
variable {g : bZ} {r : bj} {a b : Int × Int} {e from_ to : Int}
structure wY (g : bZ) (r : bj) (a b : Int × Int) (e from_ to : Int) : Prop where
  d : (aT g r).2.2 = aK g r ∧ (aT g r).1.1 = 0 ∧ (aT g r).2.1.length = 0
  f : (aU g r a).2 = aK g r ∧ (aU g r a).1 = 0
  l : (bg g r a b).2.2 = aK g r ∧ (bg g r a b).1.1 = 0 ∧ (bg g r a b).2.1.length = 0
  t : (aX g r e).2.2 = aK g r ∧ (aX g r e).1.1 = 0 ∧ (aX g r e).2.1.length = 0
  s : (aF g r e).2.2 = aK g r ∧ (aF g r e).1.1 = 0 ∧ (aF g r e).2.1.length = 0
  h : (bB g r from_ to).2 = aK g r ∧ (bB g r from_ to).1.length = 0
theorem wY.mk' (h : ¬ aK g r = 0) : wY g r a b e from_ to := by
 have hf : ¬ (ar g r).2 = 0 := by rw [np]; exact h
 refine ⟨?_, ?_, ?_, ?_, ?_, ?_⟩
 · unfold aT; rw [if_neg hf]; exact ⟨np, rfl, rfl⟩
 · rw [l4 hf]; exact ⟨np, rfl⟩
 · rw [kB hf]; exact ⟨np, rfl, rfl⟩
 · unfold aX; rw [if_neg h]; exact ⟨rfl, rfl, rfl⟩
 · unfold aF; rw [if_neg h]; exact ⟨rfl, rfl, rfl⟩
 · rw [mS hf]; exact ⟨np, rfl⟩
theorem iZ (r : bj) : (ct r).length = r.length := by simp [ct]
structure x2 (g : bZ) (r : bj) (a b : Int × Int) (e from_ to : Int) : Prop where
  d : (aT g r).2.1.length ≤ 10000
  l : (bg g r a b).2.1.length ≤ 10000
  t : (aX g r e).2.1.length ≤ 10000
  s : (aF g r e).2.1.length ≤ 10000
theorem x2.mk' (hl : r.length ≤ 1000) : x2 g r a b e from_ to := by
 by_cases h : aK g r = 0
 · obtain ⟨hm, hr⟩ := dD h
   have hfl := cT g r hm hr
   rw [bG h] at hfl
   replace hfl : (ax (aw g r) r).length ≤ 8000 := hfl
   refine ⟨?_, ?_, ?_, ?_⟩
   · by_cases hd : bx (fo g r)
     · rw [im hm hr hd]; show (ct _).length ≤ 10000; rw [iZ]; omega
     · rw [js hm hr hd]; simp
   · by_cases hy : (bg g r a b).2.2 = 0
     · rw [(nN hy).2.2.2.2.2.2]
       show (ct _).length ≤ 10000
       rw [iZ]
       unfold eS
       split <;> simp only [ib] <;> omega
     · rw [(rH hy).2]; simp
   · have := (wu (g := g) (r := r) (keep := iI e g.2.length) (to := []) hl).1
     unfold aX
     rw [if_pos h]
     split
     · simp
     · omega
   · by_cases hs : (aM g e).2 = 0
     · rw [gO hm hr hs]; show (ct _).length ≤ 10000; rw [iZ]; unfold eO; simp; omega
     · rw [iE hm hr hs]; simp
 · have hn := wY.mk' (a := a) (b := b) (e := e) (from_ := from_) (to := to) h
   exact ⟨by rw [hn.d.2.2]; omega, by rw [hn.l.2.2]; omega, by rw [hn.t.2.2]; omega, by rw [hn.s.2.2]; omega⟩
end TL
/-
  TlOpen: arguments opened: what a law's reader says of a slice is what a walk wants of it.
  By an AI agent.
-/
namespace TL
open Go Go.Proofs Go.ChangeShapes Go.WideShapes Go.Joins Go.Deep
structure kT {H : Type} (f : DataW H → Nat) : Prop where
 slice : ∀ l s : List (DataW H), l.length ≤ f (.slice l s)
 elem : ∀ l s : List (DataW H), ∀ d ∈ l, f d ≤ f (.slice l s)
 part : ∀ l : List (DataW H), ∀ d ∈ l, f d ≤ f (.agg l)
def tO (α : Type) [Rp α] (P : Program) (t : TypeId) : Prop :=
  ∀ {H : Type} (enc : TypeId × Value → H) (w : World) (fuel : Nat) (cs : List Value) (x : DataW H × List MemPlace), DataW.trod enc P w 0 (fun _ => true) true fuel t cs = some x → ∃ y : α, Rp.rep c0 any w cs y
theorem nc {P : Program} {t : TypeId} (ht : P.underlying t = some (.int .i64)) : tO Int P t := by
 intro H enc w fuel cs x h
 obtain ⟨n, rfl, _, _⟩ := DataW.trod_int ht h
 exact ⟨n, rfl⟩
theorem nY {H : Type} {enc : TypeId × Value → H} {P : Program} {w : World} {base : Nat} {spare : Nat → Bool} {held : Bool} {t e : TypeId} {fuel : Nat} {cs : List Value} {x : DataW H × List MemPlace} (ht : P.underlying t = some (.array 2 e)) (hce : P.cellsOf e = 1) (hct : P.cellsOf t = 2)
   (h : DataW.trod enc P w base spare held fuel t cs = some x) :
   ∃ v0 v1 y0 y1 n, cs = [v0, v1] ∧ x = (.agg [y0.1, y1.1], y0.2 ++ y1.2) ∧ DataW.trod enc P w base spare held n e [v0] = some y0 ∧ DataW.trod enc P w base spare held n e [v1] = some y1 := by
 cases fuel with
 | zero => simp [DataW.trod] at h
 | succ n =>
   unfold DataW.trod at h
   rw [ht] at h
   have r2 : List.range 2 = [0, 1] := rfl
   simp only [hct] at h
   by_cases hl : cs.length = 2
   · rw [if_pos hl] at h
     match cs, hl with
     | [v0, v1], _ =>
       simp [r2, hce] at h
       cases h0 : DataW.trod enc P w base spare held n e [v0] with
       | none => simp [h0] at h
       | some y0 =>
         cases h1 : DataW.trod enc P w base spare held n e [v1] with
         | none => simp [h0, h1] at h
         | some y1 =>
           simp [h0, h1] at h
           exact ⟨v0, v1, y0, y1, n, rfl, h.symm, h0, h1⟩
   · rw [if_neg hl] at h; cases h
theorem th {P : Program} {t e : TypeId} (ht : P.underlying t = some (.array 2 e)) (he : P.underlying e = some (.int .i64)) (hce : P.cellsOf e = 1) (hct : P.cellsOf t = 2) : tO (Int × Int) P t := by
 intro H enc w fuel cs x h
 obtain ⟨v0, v1, y0, y1, n, rfl, _, h0, h1⟩ := nY ht hce hct h
 obtain ⟨a, ha⟩ := nc he enc w n [v0] y0 h0
 obtain ⟨b, hb⟩ := nc he enc w n [v1] y1 h1
 exact ⟨(a, b), [v0], [v1], rfl, ha, hb⟩
theorem m8 {α : Type} [Rp α] [Inhabited α] {P : Program} {t e : TypeId} (ht : P.underlying t = some (.slice e)) (hc : P.cellsOf e = Rp.sz α) (hz : 0 < Rp.sz α) (he : tO α P e)
    {H : Type} {enc : TypeId × Value → H} {w : World} {f : DataW H → Nat} (hf : kT f) {fuel : Nat} {v : Value} {x : DataW H × List MemPlace}
    (hs : ∀ a len cap, v = .slice (some a) len cap → a.spot = none) (h : DataW.trod enc P w 0 (fun _ => true) true fuel t [v] = some x) (hb : f x.1 ≤ 1048576) : ∃ xs : List α, Ro w v xs := by
  rcases Deep.open_slice ht h with ⟨h0, _⟩ | ⟨a, len, cap, m, n, D, Pl, h0, _, hlc, _, hm, rfl, hx⟩
  · obtain rfl : v = .slice none 0 0 := by simpa using h0
    exact ⟨[], .inl ⟨⟨_, rfl⟩, rfl⟩⟩
  · obtain rfl : v = .slice (some a) len cap := by simpa using h0
    have hsp := hs a len cap rfl
    obtain ⟨b, off, spot⟩ := a
    obtain rfl : spot = none := hsp
    simp only [if_true] at hm
    subst hm
    obtain ⟨Y, hY⟩ := Deep.choose_lt (α := α) (n := len) (p := fun i y => ∃ cs, (∀ j, j < Rp.sz α → w.cell? ⟨b, off + i * Rp.sz α + j, none⟩ = cs[j]?) ∧ Rp.rep c0 any w cs y) (fun i hi => by
      obtain ⟨cs', h1, h2⟩ := hx i (by omega)
      obtain ⟨y, hy⟩ := he enc w n cs' _ h2
      refine ⟨y, cs', fun j hj => ?_, hy⟩
      obtain ⟨_, hl, hcell⟩ := World.cells?_some h1
      have := hcell j (by omega)
      rw [Deep.add_add, hc] at this
      rw [← this]
      unfold Addr.add
      by_cases hij : i * Rp.sz α + j = 0
      · rw [if_pos hij, Nat.add_assoc, hij]; rfl
      · rw [if_neg hij, Nat.add_assoc])
    have hlen : ((List.range len).map Y).length = len := by simp
    have hbound := Nat.le_trans (hf.slice _ _) hb
    refine ⟨(List.range len).map Y, .inr ⟨b, off, m, by rw [hlen], ⟨by omega, by simp at hbound; omega⟩, fun i y hi => ?_⟩⟩
    have hil : i < len := by
      have := (List.getElem?_eq_some_iff.1 hi).1
      omega
    obtain rfl : Y i = y := by simpa [hil] using hi
    obtain ⟨cs, h1, h2⟩ := hY i hil
    refine ⟨?_, trivial, cs, h1, h2⟩
    have h3 := h1 0 hz
    have h4 := Rp.len h2
    have h5 : 0 < cs.length := by omega
    rw [List.getElem?_eq_getElem h5] at h3
    by_cases hbl : b < w.heap.size
    · exact hbl
    · have : w.heap[b]? = none := Array.getElem?_eq_none (by omega)
      simp [World.cell?, this] at h3
theorem jx {P : Program} {w : World} {base : Nat} {t e : TypeId} {v : Value} (ht : P.underlying t = some (.slice e)) (h : Cell.okWide P w .any base t v) : ∀ a len cap, v = .slice (some a) len cap → a.spot = none := by
 rintro a len cap rfl
 simp only [Cell.okWide, Cell.ok, ht] at h
 exact h.2.2.2.1
theorem tU {α : Type} [Rp α] [Inhabited α] {P : Program} {t t0 t1 e : TypeId} {f0 f1 : Field} (hs : P.underlying t = some (.struct #[f0, f1])) (hone : oneCellFields P #[f0, f1] = true) (hC : P.cellsOf t = 2) (hts : P.cellTypes P.depth t = some [t0, t1])
    (h0 : f0.type = t0) (h1 : f1.type = t1) (hi : P.underlying t0 = some (.int .i64)) (ht : P.underlying t1 = some (.slice e)) (hc : P.cellsOf e = Rp.sz α) (hz : 0 < Rp.sz α) (he : tO α P e)
    {H : Type} {enc : TypeId × Value → H} {w : World} {f : DataW H → Nat} (hf : kT f) {base : Nat} {v : Value} {d : DataW H} {p : List MemPlace}
    (hval : Value.okWide P w .any base t v) (h : DataW.Trod enc P w 0 (fun _ => true) true t v d p) (hb : f d ≤ 1048576) : ∃ (n : Int) (u : Value) (xs : List α), v = .agg #[.int .i64 n, u] ∧ Ro w u xs := by
  obtain ⟨v0, v1, y0, y1, n, rfl, rfl, rfl, r0, r1⟩ := open_agg2 hs hone hC hval h
  subst h0 h1
  obtain ⟨k, hk, _, _⟩ := DataW.trod_int hi r0
  obtain rfl : v0 = .int .i64 k := by simpa using hk
  have hcell : Cell.okWide P w .any base f1.type v1 := by
    simp only [Value.okWide, hs] at hval
    obtain ⟨cs, hcs, _, ts, h3, _, h4⟩ := hval
    rw [hts] at h3
    obtain rfl := Option.some.inj h3
    obtain rfl : #[Value.int .i64 k, v1] = cs := by simpa using hcs
    obtain ⟨u, hu, hk⟩ := h4 1 v1 rfl
    simp at hu
    subst hu
    exact hk
  obtain ⟨xs, hx⟩ := m8 ht hc hz he hf (jx ht hcell) (x := y1) r1 (Nat.le_trans (hf.part _ _ (by simp)) hb)
  exact ⟨k, v1, xs, rfl, hx⟩
theorem qj {P : Program} {e q : TypeId} (he : P.underlying e = some (.slice q)) (hq : P.underlying q = some (.int .i64)) (hcq : P.cellsOf q = 1)
    {H : Type} {enc : TypeId × Value → H} {w : World} {f : DataW H → Nat} (hf : kT f) {fuel : Nat} {u : Value} {x : DataW H × List MemPlace}
    (h : DataW.trod enc P w 0 (fun _ => true) true fuel e [u] = some x) (hb : f x.1 ≤ 1048576) : ∃ xs : List Int, Ro w u xs ∧ xs.length ≤ 1048576 := by
  have h' := h
  rcases Deep.open_slice he h with ⟨h0, _⟩ | ⟨a, len, cap, m, n, D, Pl, h0, _, hlc, _, hm, rfl, hx⟩
  · obtain rfl : u = .slice none 0 0 := by simpa using h0
    exact ⟨[], .inl ⟨⟨_, rfl⟩, rfl⟩, by simp⟩
  · obtain rfl : u = .slice (some a) len cap := by simpa using h0
    simp only [if_true] at hm
    subst hm
    by_cases hc : m = 0
    · have hl : len = 0 := by omega
      subst hl hc
      exact ⟨[], .inl ⟨⟨_, rfl⟩, rfl⟩, by simp⟩
    · obtain ⟨cs', h1, h2⟩ := hx 0 (by omega)
      obtain ⟨_, hl, hcell⟩ := World.cells?_some h1
      have h3 := hcell 0 (by rw [hcq]; omega)
      have h4 : 0 < cs'.length := by rw [hl, hcq]; omega
      rw [List.getElem?_eq_getElem h4] at h3
      have hs : a.spot = none := by
        have := World.cell?_spot h3
        simpa [Addr.add] using this
      obtain ⟨xs, hxs⟩ := m8 he (α := Int) (by rw [hcq]; rfl) (by decide) (nc hq) hf (by rintro a' len' cap' e'; cases e'; exact hs) h' hb
      have hform := hxs.form
      have hlen : xs.length = len := by
        cases hform; rfl
      have hbound := Nat.le_trans (hf.slice _ _) hb
      exact ⟨xs, hxs, by simp at hbound; omega⟩
theorem tP {P : Program} {t e q : TypeId} (ht : P.underlying t = some (.slice e)) (he : P.underlying e = some (.slice q)) (hq : P.underlying q = some (.int .i64)) (hce : P.cellsOf e = 1) (hcq : P.cellsOf q = 1)
    {H : Type} {enc : TypeId × Value → H} {w : World} {f : DataW H → Nat} (hf : kT f) {base : Nat} {v : Value} {d : DataW H} {p : List MemPlace}
    (hval : Value.okWide P w .any base t v) (h : DataW.Trod enc P w 0 (fun _ => true) true t v d p) (hb : f d ≤ 1048576) : ∃ xss : List (List Int), Ro w v xss ∧ (xss.length : Int) ≤ 1048576 ∧ ∀ l ∈ xss, l.length ≤ 1048576 := by
  obtain ⟨a, len, cap, rfl⟩ := okWide_slice ht hval
  have hs := jx (w := w) (base := base) (v := .slice a len cap) ht (by simpa [Value.okWide, ht] using hval)
  obtain ⟨fuel, hfu⟩ := h
  rcases Deep.open_slice ht hfu with ⟨h0, _⟩ | ⟨a', len', cap', m, n, D, Pl, h0, _, hlc, _, hm, hd, hx⟩
  · have h0' : (Value.slice a len cap) = .slice none 0 0 := by simpa [Value.cells] using h0
    rw [h0']
    exact ⟨[], .inl ⟨⟨_, rfl⟩, rfl⟩, by simp, by simp⟩
  · have h0' : (Value.slice a len cap) = .slice (some a') len' cap' := by simpa [Value.cells] using h0
    cases h0'
    have hsp := hs a' len cap rfl
    obtain ⟨b, off, spot⟩ := a'
    obtain rfl : spot = none := hsp
    simp only [if_true] at hm
    subst hm
    obtain ⟨rfl, _⟩ : d = _ ∧ p = _ := by simpa using hd
    have hbound := Nat.le_trans (hf.slice _ _) hb
    obtain ⟨Y, hY⟩ := Deep.choose_lt (α := List Int) (n := len) (p := fun i y => (∃ cs, (∀ j, j < Rp.sz (List Int) → w.cell? ⟨b, off + i * Rp.sz (List Int) + j, none⟩ = cs[j]?) ∧ Rp.rep c0 any w cs y) ∧ y.length ≤ 1048576) (fun i hi => by
      obtain ⟨cs', h1, h2⟩ := hx i (by omega)
      obtain ⟨_, hl, hcell⟩ := World.cells?_some h1
      rw [hce] at hl
      obtain ⟨u, rfl⟩ : ∃ u, cs' = [u] := by
        match cs', hl with
        | [u], _ => exact ⟨u, rfl⟩
      obtain ⟨y, hy, hyl⟩ := qj he hq hcq hf h2 (Nat.le_trans (hf.elem _ _ _ (by simp; exact ⟨i, hi, rfl⟩)) hb)
      refine ⟨y, ⟨[u], fun j hj => ?_, u, rfl, hy⟩, hyl⟩
      have hj0 : j < 1 := hj
      have := hcell j (by rw [hce]; exact hj0)
      rw [Deep.add_add, hce] at this
      rw [← this]
      show w.cell? ⟨b, off + i * 1 + j, none⟩ = _
      unfold Addr.add
      by_cases hij : i * 1 + j = 0
      · rw [if_pos hij, Nat.add_assoc, hij]; rfl
      · rw [if_neg hij, Nat.add_assoc])
    have hlen : ((List.range len).map Y).length = len := by simp
    have hll : len ≤ 1048576 := by simp at hbound; omega
    refine ⟨(List.range len).map Y, .inr ⟨b, off, m, by rw [hlen], ⟨by omega, by omega⟩, fun i y hi => ?_⟩, by simp; omega, fun l hl => ?_⟩
    · have hil : i < len := by
        have := (List.getElem?_eq_some_iff.1 hi).1
        omega
      obtain rfl : Y i = y := by simpa [hil] using hi
      obtain ⟨⟨cs, h1, h2⟩, _⟩ := hY i hil
      refine ⟨?_, trivial, cs, h1, h2⟩
      have h3 := h1 0 (by decide)
      have h4 := Rp.len h2
      have h5 : 0 < cs.length := by rw [h4]; decide
      rw [List.getElem?_eq_getElem h5] at h3
      by_cases hbl : b < w.heap.size
      · exact hbl
      · have : w.heap[b]? = none := Array.getElem?_eq_none (by omega)
        simp [World.cell?, this] at h3
    · obtain ⟨i, hi, rfl⟩ := List.mem_map.1 hl
      exact (hY i (List.mem_range.1 hi)).2
end TL
/-
  TlPost: what is owed behind a law that returns true and writes nothing of the caller's.
  By an AI agent.
-/
namespace TL
open Go Go.Proofs Go.ChangeShapes Go.WideShapes Go.RowKit
def pn (P : Program) (ts : List TypeId) : Bool := ts.all fun t => P.readableRec t && decide (t < P.types.size)
theorem mb {H : Type} {enc : TypeId × Value → H} {P : Program} (hl : laidOutB P = true) {W W' : World} (hb : Below W.heap.size W W') (sp : Nat → Bool) :
   ∀ {ts : List TypeId} {vs : List Value} {ds : List (DataW H)} {ps : List MemPlace}, pn P ts = true → DataW.TrodAll enc P W 0 (fun _ => true) true ts vs ds ps → (∀ p ∈ ps, p.block < W.heap.size) → (∀ p ∈ ps, sp p.block = true) → DataW.TrodAll enc P W' 0 sp true ts vs ds ps
 | [], [], [], _, _, h, _, _ => h
 | [], [], _ :: _, _, _, h, _, _ => h.elim
 | [], _ :: _, _, _, _, h, _, _ => by cases ‹List (DataW H)› <;> exact h.elim
 | _ :: _, [], _, _, _, h, _, _ => by cases ‹List (DataW H)› <;> exact h.elim
 | _ :: _, _ :: _, [], _, _, h, _, _ => h.elim
 | t :: ts, v :: vs, d :: ds, ps, hr, h, hlt, hsp => by
   obtain ⟨p, q, h1, h2, rfl⟩ := h
   simp only [pn, List.all_cons, Bool.and_eq_true, decide_eq_true_eq] at hr
   exact ⟨p, q, WideElems.Trod_stays hl hr.1.1 hr.1.2 h1 (fun x hx => hb.same (hlt x (by simp [hx]))) (fun x hx => hsp x (by simp [hx])),
     mb hl hb sp hr.2 h2 (fun x hx => hlt x (by simp [hx])) (fun x hx => hsp x (by simp [hx])), rfl⟩
theorem sk {H : Type} {enc : TypeId × Value → H} {P : Program} {f : Func} {s : ChangeSpec} {W W' : World} {args : Array Value} {ds gs : List (DataW H)} {before : List MemPlace} {tb : TypeId}
   (hl : laidOutB P = true) (hr : pn P f.params.toList = true) (hv : s.vars = []) (hrt : f.resultTypes = #[tb]) (htb : P.underlying tb = some .bool)
   (hW : DataW.Whole enc P f.params.toList s.vars false W args.toList ds gs before) (hfn : s.fn H (ds ++ gs) = { results := [.lit (.bool true)], args := ds }) (hB : Below W.heap.size W W') :
   s.post enc P f false true false false W args (.bool true) W' := by
 have hlt := hW.lt
 have hW0 := hW
 obtain ⟨p, q, hA, hV, rfl, hfz, _⟩ := hW
 rw [hv] at hV
 obtain ⟨rfl, rfl⟩ := trodVars_none hV
 simp only [List.append_nil] at hlt hfz hW0 hfn
 have hres : ∀ (b : Nat) (sp : Nat → Bool) (hd : Bool), DataW.TrodAll enc P W' b sp hd f.resultTypes.toList ((Value.bool true).resultList f.resultTypes.size) (s.fn H (ds ++ [])).results [] := fun b sp hd => by
   rw [hrt, List.append_nil, hfn]
   exact trodAll_cons_mk (shut_bool htb true) trodAll_mk0
 have hargs : ∀ sp : Nat → Bool, (∀ x ∈ p, sp x.block = true) → DataW.TrodAll enc P W' 0 sp true f.params.toList args.toList (s.fn H (ds ++ [])).args p := fun sp hsp => by
   rw [List.append_nil, hfn]
   exact mb hl hB sp hr hA hlt hsp
 have hvars : ∀ sp : Nat → Bool, DataW.TrodVars enc P W' sp s.vars (s.fn H (ds ++ [])).vars [] := fun sp => by
   rw [List.append_nil, hfn, hv]
   rfl
 refine ⟨ds, [], p, [], p, [], hW0, hres _ _ _, hargs _ (fun x hx => by simpa using hlt x hx), hvars _, World.keptBut_mono (fun x hx => ⟨hx, Or.inr (by simpa using hx)⟩) (hB.frame _), fun _ => ?_⟩
 refine ⟨?_, _, _, ([] ++ p) ++ [], ⟨[] ++ p, [], trodAll_append (hargs _ (fun _ _ => rfl)) (hres _ _ _), hvars _, rfl, ?_, ?_⟩, ?_⟩
 · exact ok_one hrt rfl (okWide_bool_mk htb true)
 · intro b off hp
   have hp' : MemPlace.cell b off ∈ p := by simpa using hp
   rw [hB.frozen (p := ⟨b, off, none⟩) (hlt _ hp')]
   exact hfz b off hp'
 · intro ha; cases ha
 · intro x hx _
   simpa using hx
end TL
/-
  TlOpenP: arguments that are points, or lists of points.
  By an AI agent.
-/
set_option linter.all false
namespace TL
open Go Go.Proofs Go.ChangeShapes Go.WideShapes Go.Joins Go.Deep
theorem vA {P : Program} {t e : TypeId} {f0 f1 : Field} (hs : P.underlying t = some (.struct #[f0, f1])) (hone : oneCellFields P #[f0, f1] = true) (hC : P.cellsOf t = 2) (h0 : f0.type = e) (h1 : f1.type = e) (he : P.underlying e = some (.int .i64))
    {H : Type} {enc : TypeId × Value → H} {w : World} {base : Nat} {v : Value} {d : DataW H} {p : List MemPlace}
    (hval : Value.okWide P w .any base t v) (h : DataW.Trod enc P w 0 (fun _ => true) true t v d p) : ∃ a b : Int, v = .agg #[.int .i64 a, .int .i64 b] := by
  obtain ⟨v0, v1, y0, y1, n, rfl, rfl, rfl, r0, r1⟩ := open_agg2 hs hone hC hval h
  rw [h0] at r0
  rw [h1] at r1
  obtain ⟨a, ha, _, _⟩ := DataW.trod_int he r0
  obtain ⟨b, hb, _, _⟩ := DataW.trod_int he r1
  obtain rfl : v0 = .int .i64 a := by simpa using ha
  obtain rfl : v1 = .int .i64 b := by simpa using hb
  exact ⟨a, b, rfl⟩
end TL
