/- Plain texts of this claim, part 3. By an AI agent. -/
import Derived.Test.YtilohhkbelkmdaaTlP2
import Derived.Carry
import Derived.Deep.Slices
import Derived.Lib.SmallJoins
import Derived.RowKit
/-
  TlOf: each half-edge's face: on which list of the faces it is.
  By an AI agent.
-/
set_option linter.all false
namespace TL
theorem ofK_at {F : Rot} {n : Int} (h0 : 0 ≤ n) (hn : F.flatten.Nodup) (hin : ∀ f ∈ F, ∀ h ∈ f, 0 ≤ h ∧ h < n) : ∀ k : Nat, k ≤ F.length → ∀ h, 0 ≤ h → h < n →
    (∀ q : Nat, q < k → h ∈ gI F (q : Int) → gI (ofK F n k) h = q) ∧ ((∀ q : Nat, q < k → h ∉ gI F (q : Int)) → gI (ofK F n k) h = 0) := by
  intro k
  induction k with
  | zero =>
    intro _ h a b
    have : gI (ofK F n 0) h = 0 := gI_rep (n := n.toNat) (x := (0 : Int)) a (by omega)
    exact ⟨fun q hq => by omega, fun _ => this⟩
  | succ k ih =>
    intro hk h a b
    have ihh := ih (by omega) h a b
    have hfm : gI F (k : Int) ∈ F := gI_mem (by omega) (by omega)
    have e : gI (ofK F n (k + 1)) h = if h ∈ gI F (k : Int) then (k : Int) else gI (ofK F n k) h := by
      have hl := ofK_len F n k
      rw [← ofKi_done F n k (gI F (k : Int)).length (by omega)]
      unfold ofKi
      rw [List.take_length, gI_fold (n := (k : Int)) _ _ _ a (by omega) (fun x hx => by have := hin _ hfm x hx; omega)]
    rw [e]
    constructor
    · intro q hq hm
      by_cases c : h ∈ gI F (k : Int)
      · rw [if_pos c]
        have hqm : gI F (q : Int) ∈ F := gI_mem (by omega) (by omega)
        by_cases e2 : q = k
        · omega
        · exfalso
          have hsub : List.Sublist (gI F (q : Int) ++ gI F (k : Int)) F.flatten := by
            have e1 : F.flatten = (F.take k).flatten ++ (F.drop k).flatten := by rw [← List.flatten_append, List.take_append_drop]
            rw [e1]
            refine List.Sublist.append (sub_flat ?_) ?_
            · exact List.mem_iff_getElem.2 ⟨q, by simp; omega, by simp [gI, show q < F.length by omega]⟩
            · refine sub_flat ?_
              exact List.mem_iff_getElem.2 ⟨0, by simp; omega, by simp [gI, show k < F.length by omega]⟩
          exact (List.nodup_append.1 (hn.sublist hsub)).2.2 h hm h c rfl
      · rw [if_neg c]
        have e2 : q ≠ k := fun e => by subst e; exact c hm
        exact ihh.1 q (by omega) hm
    · intro hno
      rw [if_neg (hno k (by omega))]
      exact ihh.2 fun q hq => hno q (by omega)
section
variable {g : Net} {r : Rot}
theorem of_at (hr : RotP g r) {q : Nat} (hq : (q : Int) < (facesS (nextS g r) r).length) {h : Int} (hh : h ∈ gI (facesS (nextS g r) r) (q : Int)) : gI (ofS g r) h = q := by
  have hb := facesS_in hr _ (gI_mem (xs := facesS (nextS g r) r) (i := (q : Int)) (by omega) hq) _ hh
  exact (ofK_at (n := 2 * (g.2.length : Int)) (by omega) (faces_all hr).1 (facesS_in hr) _ (Nat.le_refl _) h hb.1 hb.2).1 q (by omega) hh
/-- each half-edge is on the face that is told -/
theorem of_face (hr : RotP g r) {h : Int} (h0 : 0 ≤ h) (h1 : h < 2 * (g.2.length : Int)) : (0 ≤ gI (ofS g r) h ∧ gI (ofS g r) h < (facesS (nextS g r) r).length) ∧ h ∈ gI (facesS (nextS g r) r) (gI (ofS g r) h) := by
  obtain ⟨hp, _⟩ := next_pm hr
  obtain ⟨_, _, h3, _⟩ := facesL_ok hp
  have hl := nextS_len g r
  have hm := h3 h ⟨h0, by omega⟩
  obtain ⟨f, hf, hxf⟩ := List.mem_flatten.1 hm
  have hf2 : f ∈ facesS (nextS g r) r := by unfold facesS; exact List.mem_append_left _ hf
  obtain ⟨q, hq, e⟩ := List.mem_iff_getElem.1 hf2
  have e2 : gI (facesS (nextS g r) r) (q : Int) = f := by simp [gI, hq, e]
  have e3 := of_at hr (q := q) (by omega) (h := h) (by rw [e2]; exact hxf)
  rw [e3]
  exact ⟨⟨by omega, by omega⟩, by rw [e2]; exact hxf⟩
theorem of_iff (hr : RotP g r) {h : Int} (h0 : 0 ≤ h) (h1 : h < 2 * (g.2.length : Int)) {q : Int} (hq0 : 0 ≤ q) (hq : q < (facesS (nextS g r) r).length) : h ∈ gI (facesS (nextS g r) r) q ↔ gI (ofS g r) h = q := by
  constructor
  · intro hm
    have := of_at hr (q := q.toNat) (h := h) (by omega) (by rw [Int.toNat_of_nonneg hq0]; exact hm)
    omega
  · intro e; rw [← e]; exact (of_face hr h0 h1).2
end
end TL
/-
  TlDualF: how far faces are from one another, and ways over them.
  By an AI agent.
-/
set_option linter.all false
namespace TL
/-- what is true of the search, i faces of the queue done -/
structure FbI (A : Rot) (F : Int) (to : List Int) (s : List Int × List Int) (i : Nat) : Prop where
  len : (s.1.length : Int) = F
  rng : ∀ x ∈ s.2, 0 ≤ x ∧ x < F
  iff : ∀ x, 0 ≤ x → x < F → (0 ≤ gI s.1 x ↔ x ∈ s.2)
  src : ∀ x ∈ to, x ∈ s.2 ∧ gI s.1 x = 0
  zero : ∀ x ∈ s.2, gI s.1 x = 0 → x ∈ to
  par : ∀ x ∈ s.2, x ∉ to → ∃ k ∈ s.2, x ∈ gI A k ∧ gI s.1 x = gI s.1 k + 1
  mono : ∀ a b : Nat, a ≤ b → (b : Int) < s.2.length → gI s.1 (gI s.2 (a : Int)) ≤ gI s.1 (gI s.2 (b : Int))
  top : ∀ a b : Nat, i ≤ a → (a : Int) < s.2.length → (b : Int) < s.2.length → gI s.1 (gI s.2 (b : Int)) ≤ gI s.1 (gI s.2 (a : Int)) + 1
  done : ∀ a : Nat, a < i → (a : Int) < s.2.length → ∀ x ∈ gI A (gI s.2 (a : Int)), 0 ≤ gI s.1 x ∧ gI s.1 x ≤ gI s.1 (gI s.2 (a : Int)) + 1
section
variable {A : Rot} {F : Int} {to : List Int}
theorem gI_app_l {q t : List Int} {a : Nat} (h : (a : Int) < q.length) : gI (q ++ t) (a : Int) = gI q (a : Int) := by
  have : a < q.length := by omega
  unfold gI
  rw [List.getD_eq_getElem?_getD, List.getD_eq_getElem?_getD, Int.toNat_natCast, List.getElem?_append_left this]
theorem gI_app_m (q : List Int) (x : Int) : gI (q ++ [x]) (q.length : Int) = x := by simp [gI]
theorem gI_at {q : List Int} {x : Int} (h : x ∈ q) : ∃ a : Nat, (a : Int) < q.length ∧ gI q (a : Int) = x := by
  obtain ⟨a, ha, e⟩ := List.mem_iff_getElem.1 h
  exact ⟨a, by omega, by simp [gI, ha, e]⟩
/-- one neighbour looked at: the face done is number i, those ahead of it are done, l is what has been looked at -/
structure FbJ (A : Rot) (F : Int) (to : List Int) (s : List Int × List Int) (i : Nat) (l : List Int) : Prop where
  ok : FbI A F to s i
  hi : (i : Int) < s.2.length
  row : ∀ x ∈ l, 0 ≤ gI s.1 x ∧ gI s.1 x ≤ gI s.1 (gI s.2 (i : Int)) + 1
theorem FbJ.one {s : List Int × List Int} {i : Nat} {l : List Int} {k : Int} (h : FbJ A F to s i l) (hk : k ∈ gI A (gI s.2 (i : Int))) (h0 : 0 ≤ k) (h1 : k < F) :
    FbJ A F to (fbOne (gI s.2 (i : Int)) s k) i (l ++ [k]) ∧ gI (fbOne (gI s.2 (i : Int)) s k).2 (i : Int) = gI s.2 (i : Int) := by
  obtain ⟨f, hf⟩ : ∃ f, f = gI s.2 (i : Int) := ⟨_, rfl⟩
  have hi := h.hi
  have o := h.ok
  have hfm : f ∈ s.2 := by rw [hf]; exact gI_mem (by omega) hi
  have hfr := o.rng f hfm
  have hfp := (o.iff f hfr.1 hfr.2).2 hfm
  have hl := o.len
  rw [← hf] at hk ⊢
  unfold fbOne
  by_cases c : gI s.1 k < 0
  · rw [if_pos c]
    have hkq : k ∉ s.2 := fun hm => by have := (o.iff k h0 h1).2 hm; omega
    obtain ⟨b, hb⟩ : ∃ b, b = gI s.1 f + 1 := ⟨_, rfl⟩
    rw [← hb]
    have hold : ∀ x, x ∈ s.2 → gI (s.1.set k.toNat b) x = gI s.1 x := fun x hx => by
      rw [gI_set h0 (by omega) (o.rng x hx).1, if_neg (fun e => hkq (by rw [← e]; exact hx))]
    have hnew : gI (s.1.set k.toNat b) k = b := by rw [gI_set h0 (by omega) h0, if_pos rfl]
    have hqi : gI (s.2 ++ [k]) (i : Int) = f := by rw [gI_app_l hi, ← hf]
    have hql : ∀ a : Nat, (a : Int) < (s.2 ++ [k]).length → ¬ (a : Int) < s.2.length → a = s.2.length := fun a h1 h2 => by simp at h1; omega
    have hqm : gI (s.2 ++ [k]) ((s.2.length : Nat) : Int) = k := gI_app_m _ _
    have hqv : ∀ a : Nat, (a : Int) < s.2.length → gI (s.1.set k.toNat b) (gI (s.2 ++ [k]) (a : Int)) = gI s.1 (gI s.2 (a : Int)) := fun a ha => by
      rw [gI_app_l ha, hold _ (gI_mem (by omega) ha)]
    refine ⟨⟨⟨by simpa using hl, fun x hx => ?_, fun x x0 x1 => ?_, fun x hx => ?_, fun x hx e => ?_, fun x hx hn => ?_, fun a c hac hc => ?_, fun a c ha hal hcl => ?_, fun a ha hal x hx => ?_⟩, by simp; omega, fun x hx => ?_⟩, hqi⟩
    · rcases List.mem_append.1 hx with hx | hx
      · exact o.rng x hx
      · obtain rfl := List.mem_singleton.1 hx; exact ⟨h0, h1⟩
    · show 0 ≤ gI (s.1.set k.toNat b) x ↔ x ∈ s.2 ++ [k]
      rw [gI_set h0 (by omega) x0]
      by_cases e : x = k
      · rw [if_pos e, e]; simp; omega
      · rw [if_neg e, o.iff x x0 x1]; simp [e]
    · have := o.src x hx
      exact ⟨List.mem_append_left _ this.1, by show gI (s.1.set k.toNat b) x = 0; rw [hold x this.1]; exact this.2⟩
    · have e : gI (s.1.set k.toNat b) x = 0 := e
      rcases List.mem_append.1 hx with hx | hx
      · rw [hold x hx] at e; exact o.zero x hx e
      · obtain rfl := List.mem_singleton.1 hx
        rw [hnew] at e; omega
    · show ∃ k' ∈ s.2 ++ [k], x ∈ gI A k' ∧ gI (s.1.set k.toNat b) x = gI (s.1.set k.toNat b) k' + 1
      rcases List.mem_append.1 hx with hx | hx
      · obtain ⟨y, hy, h2, h3⟩ := o.par x hx hn
        exact ⟨y, List.mem_append_left _ hy, h2, by rw [hold x hx, hold y hy]; exact h3⟩
      · obtain rfl := List.mem_singleton.1 hx
        exact ⟨f, List.mem_append_left _ hfm, hk, by rw [hnew, hold f hfm]; exact hb⟩
    · show gI (s.1.set k.toNat b) (gI (s.2 ++ [k]) (a : Int)) ≤ gI (s.1.set k.toNat b) (gI (s.2 ++ [k]) (c : Int))
      by_cases hc2 : (c : Int) < s.2.length
      · rw [hqv a (by omega), hqv c hc2]; exact o.mono a c hac hc2
      · have := hql c hc hc2
        subst this
        rw [hqm, hnew]
        by_cases ha2 : (a : Int) < s.2.length
        · rw [hqv a ha2, hb, hf]
          exact o.top i a (Nat.le_refl _) hi ha2
        · have : a = s.2.length := by omega
          subst this
          rw [hqm, hnew]; omega
    · show gI (s.1.set k.toNat b) (gI (s.2 ++ [k]) (c : Int)) ≤ gI (s.1.set k.toNat b) (gI (s.2 ++ [k]) (a : Int)) + 1
      by_cases ha2 : (a : Int) < s.2.length
      · rw [hqv a ha2]
        have h5 := o.mono i a ha ha2
        by_cases hc2 : (c : Int) < s.2.length
        · rw [hqv c hc2]; exact o.top a c ha ha2 hc2
        · have := hql c hcl hc2
          subst this
          rw [hqm, hnew, hb, hf]; omega
      · have := hql a hal ha2
        subst this
        rw [hqm, hnew]
        by_cases hc2 : (c : Int) < s.2.length
        · rw [hqv c hc2]
          have := o.top i c (Nat.le_refl _) hi hc2
          rw [hb, hf]; omega
        · have := hql c hcl hc2
          subst this
          rw [hqm, hnew]; omega
    · show 0 ≤ gI (s.1.set k.toNat b) x ∧ gI (s.1.set k.toNat b) x ≤ gI (s.1.set k.toNat b) (gI (s.2 ++ [k]) (a : Int)) + 1
      have ha2 : (a : Int) < s.2.length := by omega
      rw [hqv a ha2]
      have hx' : x ∈ gI A (gI s.2 (a : Int)) := by rwa [show gI (s.2 ++ [k]) (a : Int) = gI s.2 (a : Int) from gI_app_l ha2] at hx
      have h6 := o.done a ha ha2 x hx'
      by_cases e : x = k
      · rw [e] at h6; omega
      · by_cases hx0 : 0 ≤ x
        · rw [gI_set h0 (by omega) hx0, if_neg e]; exact h6
        · have e1 : gI (s.1.set k.toNat b) x = gI (s.1.set k.toNat b) 0 := by unfold gI; rw [show x.toNat = 0 by omega]; rfl
          have e2 : gI s.1 x = gI s.1 0 := by unfold gI; rw [show x.toNat = 0 by omega]; rfl
          rw [e2] at h6
          rw [e1, gI_set h0 (by omega) (by omega)]
          by_cases e3 : (0 : Int) = k
          · rw [← e3] at c; omega
          · rw [if_neg e3]; exact h6
    · show 0 ≤ gI (s.1.set k.toNat b) x ∧ gI (s.1.set k.toNat b) x ≤ gI (s.1.set k.toNat b) (gI (s.2 ++ [k]) (i : Int)) + 1
      rw [hqi, hold f hfm]
      rcases List.mem_append.1 hx with hx | hx
      · have h6 := h.row x hx
        rw [← hf] at h6
        by_cases e : x = k
        · rw [e] at h6; omega
        · by_cases hx0 : 0 ≤ x
          · rw [gI_set h0 (by omega) hx0, if_neg e]; exact h6
          · have e1 : gI (s.1.set k.toNat b) x = gI (s.1.set k.toNat b) 0 := by unfold gI; rw [show x.toNat = 0 by omega]; rfl
            have e2 : gI s.1 x = gI s.1 0 := by unfold gI; rw [show x.toNat = 0 by omega]; rfl
            rw [e2] at h6
            rw [e1, gI_set h0 (by omega) (by omega)]
            by_cases e3 : (0 : Int) = k
            · rw [← e3] at c; omega
            · rw [if_neg e3]; exact h6
      · obtain rfl := List.mem_singleton.1 hx
        rw [hnew]; omega
  · rw [if_neg c]
    refine ⟨⟨o, hi, fun x hx => ?_⟩, hf.symm⟩
    rcases List.mem_append.1 hx with hx | hx
    · exact h.row x hx
    · obtain rfl := List.mem_singleton.1 hx
      have hm := (o.iff x h0 h1).1 (by omega)
      obtain ⟨a, ha, e⟩ := gI_at hm
      refine ⟨by omega, ?_⟩
      have := o.top i a (Nat.le_refl _) hi ha
      rw [e] at this; exact this
theorem fbFold_ok {i : Nat} {f : Int} (hA : ∀ k ∈ gI A f, 0 ≤ k ∧ k < F) : ∀ (m l : List Int) (s : List Int × List Int), gI s.2 (i : Int) = f → (∀ k ∈ m, k ∈ gI A f) → FbJ A F to s i l → FbJ A F to (m.foldl (fbOne f) s) i (l ++ m) ∧ gI (m.foldl (fbOne f) s).2 (i : Int) = f
  | [], l, s, hf, _, h => ⟨by simpa using h, hf⟩
  | k :: m, l, s, hf, hm, h => by
    have hk := hm k (by simp)
    have hb := hA k hk
    subst hf
    obtain ⟨h1, h2⟩ := h.one (k := k) hk hb.1 hb.2
    have := fbFold_ok (f := gI s.2 (i : Int)) hA m (l ++ [k]) (fbOne (gI s.2 (i : Int)) s k) h2 (fun x hx => hm x (by simp [hx])) h1
    simpa using this
theorem FbI.next {s : List Int × List Int} {i : Nat} (hA : ∀ f, 0 ≤ f → f < F → ∀ k ∈ gI A f, 0 ≤ k ∧ k < F) (h : FbI A F to s i) (hi : (i : Int) < s.2.length) : FbI A F to (fbRow A (gI s.2 (i : Int)) s) (i + 1) := by
  have hr := h.rng _ (gI_mem (by omega) hi)
  obtain ⟨h1, h2⟩ := fbFold_ok (A := A) (F := F) (to := to) (i := i) (hA _ hr.1 hr.2) (gI A (gI s.2 (i : Int))) [] s rfl (fun k hk => hk) ⟨h, hi, by simp⟩
  have o := h1.ok
  unfold fbRow
  refine ⟨o.len, o.rng, o.iff, o.src, o.zero, o.par, o.mono, fun a b ha hal hbl => o.top a b (by omega) hal hbl, fun a ha hal x hx => ?_⟩
  by_cases e : a = i
  · subst e
    rw [h2] at hx ⊢
    have := h1.row x (by simpa using hx)
    rwa [h2] at this
  · exact o.done a (by omega) hal x hx
theorem fbGo_ok (hA : ∀ f, 0 ≤ f → f < F → ∀ k ∈ gI A f, 0 ≤ k ∧ k < F) {B : Nat} : ∀ (n i : Nat) (s : List Int × List Int), FbI A F to s i → FbOk F B s → B ≤ n + i → ∃ j : Nat, FbI A F to (fbGo A n i s) j ∧ ¬ (j : Int) < (fbGo A n i s).2.length
  | 0, i, s, h, ho, hb => ⟨i, h, by have := ho.cnt; simp only [fbGo]; omega⟩
  | n + 1, i, s, h, ho, hb => by
    simp only [fbGo]
    by_cases c : (i : Int) < s.2.length
    · rw [if_pos c]
      refine fbGo_ok (B := B) hA n (i + 1) _ (h.next hA c) ?_ (by omega)
      have hfm : gI s.2 (i : Int) ∈ s.2 := gI_mem (by omega) c
      have hr := h.rng _ hfm
      have key : ∀ (m : List Int) (s : List Int × List Int), gI s.2 (i : Int) = gI s.2 (i : Int) → True := fun _ _ _ => trivial
      have : ∀ (f : Int) (m : List Int) (s : List Int × List Int), (∀ k ∈ m, 0 ≤ k ∧ k < F) → f ∈ s.2 → FbOk F B s → FbOk F B (m.foldl (fbOne f) s) := by
        intro f m
        induction m with
        | nil => intro s _ _ h; exact h
        | cons k m ih =>
          intro s hm hf ho
          obtain ⟨h1, t, ht⟩ := ho.one hf (hm k (by simp)).1 (hm k (by simp)).2
          exact ih _ (fun x hx => hm x (by simp [hx])) (by rw [ht]; exact List.mem_append_left _ hf) h1
      exact this _ _ s (hA _ hr.1 hr.2) hfm ho
    · rw [if_neg c]; exact ⟨i, h, c⟩
end
/-- what the numbers say: how far from some faces -/
structure FarP (m : Nat) (of : List Int) (F : Int) (to : List Int) (far : List Int) : Prop where
  len : (far.length : Int) = F
  low : ∀ x, 0 ≤ x → x < F → -1 ≤ gI far x
  src : ∀ x ∈ to, gI far x = 0
  zero : ∀ x, 0 ≤ x → x < F → gI far x = 0 → x ∈ to
  par : ∀ x, 0 ≤ x → x < F → 0 ≤ gI far x → x ∉ to → ∃ e : Nat, e < m ∧ ∃ k, (0 ≤ k ∧ k < F) ∧ (endsS of e = (k, x) ∨ endsS of e = (x, k)) ∧ gI far x = gI far k + 1
  adj : ∀ e : Nat, e < m → ∀ x y, endsS of e = (x, y) ∨ endsS of e = (y, x) → 0 ≤ gI far x → 0 ≤ gI far y ∧ gI far y ≤ gI far x + 1
theorem far_ok {m : Nat} {of : List Int} {F : Int} {to : List Int} (hF : 0 ≤ F) (ho : OfIn of F m) (ht : ∀ x ∈ to, 0 ≤ x ∧ x < F) : FarP m of F to (farS m of F to) := by
  have hA : ∀ f, 0 ≤ f → f < F → ∀ k ∈ gI (adjK of F m) f, 0 ≤ k ∧ k < F := fun f h0 h1 k hk => by
    obtain ⟨e, he, h⟩ := ((adj_mem ho m (Nat.le_refl _) f h0 h1).2 k).1 hk
    have := ho.ends (e := e) (by omega)
    rcases h with h | h
    · rw [h] at this; exact this.2
    · rw [h] at this; exact this.1
  have h0 : FbI (adjK of F m) F to (far0 F to, to) 0 := by
    have hfl := far0_len F to
    have hz : ∀ x ∈ to, gI (far0 F to) x = 0 := fun x hx => by
      have := ht x hx
      rw [far0_at hF ht this.1 this.2, if_pos hx]
    refine ⟨by simp only; omega, ht, fun x x0 x1 => ?_, fun x hx => ⟨hx, hz x hx⟩, fun x hx _ => hx, fun x hx hn => absurd hx hn, fun a b hab hb => ?_, fun a b _ ha hb => ?_, fun a ha => by omega⟩
    · show 0 ≤ gI (far0 F to) x ↔ x ∈ to
      rw [far0_at hF ht x0 x1]
      by_cases e : x ∈ to
      · rw [if_pos e]; simp [e]
      · rw [if_neg e]; simp [e]
    · simp only at hb ⊢
      rw [hz _ (gI_mem (by omega) (by omega)), hz _ (gI_mem (by omega) hb)]; exact Int.le_refl _
    · simp only at ha hb ⊢
      rw [hz _ (gI_mem (by omega) ha), hz _ (gI_mem (by omega) hb)]; omega
  obtain ⟨j, hj, hjl⟩ := fbGo_ok (to := to) hA (F.toNat + to.length) 0 _ h0 (FbOk.start hF ht) (by omega)
  unfold farS
  refine ⟨hj.len, fun x x0 x1 => ?_, fun x hx => (hj.src x hx).2, fun x x0 x1 e => hj.zero x ((hj.iff x x0 x1).1 (by omega)) e, fun x x0 x1 hx hn => ?_, fun e he x y hxy hx => ?_⟩
  · have : ∀ (n i : Nat) (s : List Int × List Int), (∀ x, -1 ≤ gI s.1 x) → ∀ x, -1 ≤ gI (fbGo (adjK of F m) n i s).1 x := by
      intro n
      induction n with
      | zero => intro i s h x; exact h x
      | succ n ih =>
        intro i s h x
        simp only [fbGo]
        split
        · refine ih _ _ ?_ x
          have : ∀ (f : Int) (l : List Int) (s : List Int × List Int), (∀ x, -1 ≤ gI s.1 x) → ∀ x, -1 ≤ gI (l.foldl (fbOne f) s).1 x := by
            intro f l
            induction l with
            | nil => intro s h; exact h
            | cons k l ihl =>
              intro s h
              refine ihl _ fun x => ?_
              unfold fbOne
              split
              · have hf := h f
                show -1 ≤ gI (s.1.set k.toNat (gI s.1 f + 1)) x
                unfold gI
                rw [List.getD_eq_getElem?_getD, List.getElem?_set]
                split
                · split
                  · simp only [Option.getD_some]
                    unfold gI at hf; omega
                  · simp [default]
                · exact h x
              · exact h x
          exact this _ _ s h
        · exact h x
    refine this _ _ _ (fun x => ?_) x
    show -1 ≤ gI (far0 F to) x
    by_cases hx0 : 0 ≤ x ∧ x < F
    · rw [far0_at hF ht hx0.1 hx0.2]; split <;> omega
    · by_cases hn : x < 0
      · by_cases hF0 : 0 < F
        · have e2 : gI (far0 F to) x = gI (far0 F to) 0 := by unfold gI; rw [show x.toNat = 0 by omega]; rfl
          rw [e2, far0_at hF ht (by omega) hF0]; split <;> omega
        · have : far0 F to = [] := List.eq_nil_of_length_eq_zero (by rw [far0_len]; omega)
          rw [this]; simp [gI, default]
      · have hl := far0_len F to
        have : gI (far0 F to) x = 0 := by
          unfold gI
          rw [List.getD_eq_getElem?_getD, List.getElem?_eq_none (by omega)]; rfl
        rw [this]; omega
  · obtain ⟨k, hk, h2, h3⟩ := hj.par x ((hj.iff x x0 x1).1 hx) hn
    have hkr := hj.rng k hk
    obtain ⟨e, he, h4⟩ := ((adj_mem ho m (Nat.le_refl _) k hkr.1 hkr.2).2 x).1 h2
    exact ⟨e, he, k, hkr, h4, h3⟩
  · have hb := ho.ends (e := e) (by omega)
    have hxr : 0 ≤ x ∧ x < F := by
      rcases hxy with h | h
      · rw [h] at hb; exact hb.1
      · rw [h] at hb; exact hb.2
    have hm := (hj.iff x hxr.1 hxr.2).1 hx
    obtain ⟨a, ha, e2⟩ := gI_at hm
    have := hj.done a (by omega) ha y (by
      rw [e2]
      exact ((adj_mem ho m (Nat.le_refl _) x hxr.1 hxr.2).2 y).2 ⟨e, he, hxy⟩)
    rwa [e2] at this
def othF (x : Int × Int) (f : Int) : Int := if x.2 = f then x.1 else x.2
def stepP (of far : List Int) (f e : Int) : Prop := ((endsS of e).2 = f ∨ (endsS of e).1 = f) ∧ gI far (othF (endsS of e) f) = gI far f - 1
instance (of far : List Int) (f e : Int) : Decidable (stepP of far f e) := by unfold stepP; infer_instance
def hopG (of far : List Int) (m : Nat) (to : Int) : Nat → Int → List Int
  | 0, _ => []
  | n + 1, f => if f = to then [] else match (iotaI m).find? fun e => decide (stepP of far f e) with
    | some e => e :: hopG of far m to n (othF (endsS of e) f)
    | none => []
/-- the least edge that comes nearer -/
theorem step_ex {m : Nat} {of : List Int} {F : Int} {to : Int} {far : List Int} (h : FarP m of F [to] far) {f : Int} (h0 : 0 ≤ f) (h1 : f < F) (hf : 0 ≤ gI far f) (hn : f ≠ to) : ∃ e : Nat, e < m ∧ stepP of far f e := by
  obtain ⟨e, he, k, _, h2, h3⟩ := h.par f h0 h1 hf (by simpa using hn)
  have hkf : k ≠ f := fun e => by subst e; omega
  refine ⟨e, he, ?_⟩
  unfold stepP othF
  rcases h2 with h2 | h2
  · rw [h2]
    exact ⟨.inl rfl, by rw [show (if (k, f).2 = f then (k, f).1 else (k, f).2) = k from if_pos rfl]; omega⟩
  · rw [h2]
    exact ⟨.inr rfl, by rw [show (if (f, k).2 = f then (f, k).1 else (f, k).2) = k from if_neg hkf]; omega⟩
theorem find_first {m : Nat} {p : Int → Bool} {e : Nat} (he : e < m) (hp : p (e : Int) = true) (hl : ∀ j : Nat, j < e → p (j : Int) = false) : (iotaI m).find? p = some (e : Int) := by
  refine List.find?_eq_some_iff_getElem.2 ⟨hp, e, by rw [iota_len]; exact he, by simp [iotaI], fun j hj => ?_⟩
  simp [iotaI, hl j hj]
theorem hopG_step {m : Nat} {of far : List Int} {to f : Int} {n e : Nat} (hf : f ≠ to) (he : e < m) (hp : stepP of far f e) (hl : ∀ j : Nat, j < e → ¬ stepP of far f j) : hopG of far m to (n + 1) f = (e : Int) :: hopG of far m to n (othF (endsS of e) f) := by
  simp only [hopG]
  rw [if_neg hf, find_first he (decide_eq_true hp) (fun j hj => decide_eq_false (hl j hj))]
theorem oth_in {of : List Int} {F : Int} {m : Nat} (ho : OfIn of F m) {e : Nat} (he : e < m) (f : Int) : 0 ≤ othF (endsS of e) f ∧ othF (endsS of e) f < F := by
  have := ho.ends (e := e) (by omega)
  unfold othF
  split
  · exact this.1
  · exact this.2
/-- the way, as far as it is gone -/
structure HopInv (l : List Int) (f : Int) (m : Nat) (of : List Int) (F : Int) (far : List Int) (from_ to : Int) : Prop where
  rng : 0 ≤ f ∧ f < F
  pos : 0 ≤ gI far f ∧ gI far f ≤ gI far from_
  eq : l ++ hopG of far m to (gI far f).toNat f = hopG of far m to (gI far from_).toNat from_
  len : (l.length : Int) + gI far f = gI far from_
theorem HopInv.start {m : Nat} {of : List Int} {F : Int} {far : List Int} {from_ to : Int} (h0 : 0 ≤ from_) (h1 : from_ < F) (h2 : ¬ gI far from_ < 0) : HopInv [] from_ m of F far from_ to := ⟨⟨h0, h1⟩, ⟨by omega, Int.le_refl _⟩, by simp, by simp⟩
theorem HopInv.next {l : List Int} {f : Int} {m : Nat} {of : List Int} {F : Int} {far : List Int} {from_ to : Int} (h : HopInv l f m of F far from_ to) (ho : OfIn of F m) (hP : FarP m of F [to] far) (hf : f ≠ to) {e : Nat} (he : (e : Int) < m) (hp : stepP of far f e) (hl : ∀ j : Nat, j < e → ¬ stepP of far f j) :
    HopInv (l ++ [(e : Int)]) (othF (endsS of e) f) m of F far from_ to ∧ gI far (othF (endsS of e) f) = gI far f - 1 := by
  have hr := oth_in ho (e := e) (by omega) f
  have hv := hp.2
  have hpos : 0 < gI far f := by
    have h1 := h.pos.1
    by_cases c : gI far f = 0
    · exact absurd (by simpa using hP.zero f h.rng.1 h.rng.2 c) hf
    · omega
  have h2 := h.pos
  refine ⟨⟨hr, by omega, ?_, ?_⟩, hv⟩
  · rw [← h.eq, show (gI far f).toNat = (gI far f - 1).toNat + 1 by omega, hopG_step hf (by omega) hp hl, hv]
    simp
  · have := h.len
    simp only [List.length_append, List.length_cons, List.length_nil]; omega
theorem HopInv.done {l : List Int} {m : Nat} {of : List Int} {F : Int} {far : List Int} {from_ to : Int} (h : HopInv l to m of F far from_ to) (hP : FarP m of F [to] far) : l = hopG of far m to (gI far from_).toNat from_ := by
  have h1 := h.eq
  rw [hP.src to (by simp)] at h1
  simpa [hopG] using h1
def hopR (g : Net) (r : Rot) (from_ to : Int) : List Int × Int :=
  if (facesR g r).2 = 0 then
    if from_ < 0 ∨ ((facesR g r).1.length : Int) ≤ from_ ∨ to < 0 ∨ ((facesR g r).1.length : Int) ≤ to then ([], 2)
    else if gI (farS g.2.length (ofR g r).1 ((facesR g r).1.length : Int) [to]) from_ < 0 then ([], 14)
    else (hopG (ofR g r).1 (farS g.2.length (ofR g r).1 ((facesR g r).1.length : Int) [to]) g.2.length to (gI (farS g.2.length (ofR g r).1 ((facesR g r).1.length : Int) [to]) from_).toNat from_, 0)
  else ([], (facesR g r).2)
end TL
namespace TL
theorem of_in {g : Net} {r : Rot} (hm : MayP g) (hr : RotP g r) : OfIn (ofR g r).1 ((facesR g r).1.length : Int) g.2.length := by
  rw [ofR_yes (rmay_yes hm hr), facesR_yes (rmay_yes hm hr)]
  exact ⟨ofS_len g r, fun h h0 h1 => (of_face hr h0 h1).1⟩
theorem FarP.lt {m : Nat} {of : List Int} {F : Int} {to : List Int} {far : List Int} (h : FarP m of F to far) {f : Int} (h0 : 0 ≤ f) (h1 : f < F) : gI far f < F := by
  have key : ∀ (n : Nat) (f : Int), 0 ≤ f → f < F → gI far f = n → ∃ l : List Int, l.Nodup ∧ (∀ x ∈ l, (0 ≤ x ∧ x < F) ∧ gI far x ≤ n) ∧ l.length = n + 1 := by
    intro n
    induction n with
    | zero => intro f f0 f1 e; exact ⟨[f], by simp, fun x hx => by obtain rfl := List.mem_singleton.1 hx; exact ⟨⟨f0, f1⟩, by omega⟩, rfl⟩
    | succ n ih =>
      intro f f0 f1 e
      have hn : f ∉ to := fun hm => by have := h.src f hm; omega
      obtain ⟨_, _, k, hk, _, h3⟩ := h.par f f0 f1 (by omega) hn
      obtain ⟨l, l1, l2, l3⟩ := ih k hk.1 hk.2 (by omega)
      refine ⟨f :: l, List.nodup_cons.2 ⟨fun hf => by have := (l2 f hf).2; omega, l1⟩, fun x hx => ?_, by simp [l3]⟩
      rcases List.mem_cons.1 hx with hx | hx
      · subst hx; exact ⟨⟨f0, f1⟩, by omega⟩
      · exact ⟨(l2 x hx).1, by have := (l2 x hx).2; omega⟩
  by_cases c : gI far f < 0
  · omega
  · obtain ⟨l, l1, l2, l3⟩ := key (gI far f).toNat f h0 h1 (by omega)
    have := nodup_le (n := F) (by omega) l1 (fun x hx => (l2 x hx).1)
    omega
theorem FarP.top {m : Nat} {of : List Int} {F : Int} {to : List Int} {far : List Int} (h : FarP m of F to far) (hF : F ≤ 100000) {f : Int} (h0 : 0 ≤ f) (h1 : f < F) : gI far f ≤ 1000000000 := by
  have := h.lt h0 h1; omega
section
variable {g : Net} {r : Rot} {a b : Int}
theorem hopR_no (h : ¬ (facesR g r).2 = 0) : hopR g r a b = ([], (facesR g r).2) := if_neg h
theorem hopR_bd (h : (facesR g r).2 = 0) (hb : a < 0 ∨ ((facesR g r).1.length : Int) ≤ a ∨ b < 0 ∨ ((facesR g r).1.length : Int) ≤ b) : hopR g r a b = ([], 2) := by
  unfold hopR; rw [if_pos h, if_pos hb]
theorem hopR_none (h : (facesR g r).2 = 0) (hb : ¬ (a < 0 ∨ ((facesR g r).1.length : Int) ≤ a ∨ b < 0 ∨ ((facesR g r).1.length : Int) ≤ b)) (hn : gI (farS g.2.length (ofR g r).1 ((facesR g r).1.length : Int) [b]) a < 0) : hopR g r a b = ([], 14) := by
  unfold hopR; rw [if_pos h, if_neg hb, if_pos hn]
theorem hopR_yes (h : (facesR g r).2 = 0) (hb : ¬ (a < 0 ∨ ((facesR g r).1.length : Int) ≤ a ∨ b < 0 ∨ ((facesR g r).1.length : Int) ≤ b)) (hn : ¬ gI (farS g.2.length (ofR g r).1 ((facesR g r).1.length : Int) [b]) a < 0) : hopR g r a b = (hopG (ofR g r).1 (farS g.2.length (ofR g r).1 ((facesR g r).1.length : Int) [b]) g.2.length b (gI (farS g.2.length (ofR g r).1 ((facesR g r).1.length : Int) [b]) a).toNat a, 0) := by
  unfold hopR; rw [if_pos h, if_neg hb, if_neg hn]
end
section
variable {l : List Int} {f : Int} {m : Nat} {of : List Int} {F : Int} {far : List Int} {from_ to : Int}
theorem stepL {e : Int} (h : (endsS of e).2 = f) (hv : gI far (endsS of e).1 = gI far f - 1) : stepP of far f e ∧ othF (endsS of e) f = (endsS of e).1 := by
  have : othF (endsS of e) f = (endsS of e).1 := if_pos h
  exact ⟨⟨.inl h, by rw [this]; exact hv⟩, this⟩
theorem stepR {e : Int} (hn : ¬ (endsS of e).2 = f) (h : (endsS of e).1 = f) (hv : gI far (endsS of e).2 = gI far f - 1) : stepP of far f e ∧ othF (endsS of e) f = (endsS of e).2 := by
  have : othF (endsS of e) f = (endsS of e).2 := if_neg hn
  exact ⟨⟨.inr h, by rw [this]; exact hv⟩, this⟩
theorem stepNL {e : Int} (h : (endsS of e).2 = f) (hv : ¬ gI far (endsS of e).1 = gI far f - 1) : ¬ stepP of far f e := fun hs => by
  have : othF (endsS of e) f = (endsS of e).1 := if_pos h
  have h2 := hs.2
  rw [this] at h2; exact hv h2
theorem stepNR {e : Int} (hn : ¬ (endsS of e).2 = f) (hv : ¬ gI far (endsS of e).2 = gI far f - 1) : ¬ stepP of far f e := fun hs => by
  have : othF (endsS of e) f = (endsS of e).2 := if_neg hn
  have h2 := hs.2
  rw [this] at h2; exact hv h2
theorem stepNN {e : Int} (hn : ¬ (endsS of e).2 = f) (h : ¬ (endsS of e).1 = f) : ¬ stepP of far f e := fun hs => hs.1.elim hn h
end
end TL
/-
  TlNil: a list that is none, compared.
  By an AI agent.
-/
set_option linter.all false
namespace TL
open Go
section
variable {P : Program} {w : World} {t t' : TypeId} {f : Fr} {x y : Operand} {dst : Option Tmp} {ty : TypeId} {pos : String} {after : Array Edge} {g : Option (Nat × Bool)}
theorem run_equal_nils {e : TypeId} (ht : P.underlying t = some (.slice e)) : (Op.equal t (.slice none 0 0) (.slice none 0 0)).run P w = .ok true w := by
  unfold Op.equal
  rw [show Op.maxDepth = 9999 + 1 from rfl]
  unfold Op.equalIn
  simp [run_underlying' ht]
theorem e_neq_nils {e : TypeId} (ht : P.underlying t = some (.slice e)) (hx : ev f x = .slice none 0 0) (hy : ev f y = .slice none 0 0) : (execOp (ev f) ⟨dst, .binOp .neq t x y t', ty, pos, after, g⟩).run P w = .ok (.value (.bool false)) w :=
  e_bin .neq hx hy (by simp [eqGuard]) (by simp [binOp, run_equal_nils ht])
end
/-- the first part of a list that the call owns, the rest given up -/
theorem ow_pre {α : Type} [Rp α] {γ : Cmap} {J S : Col → Prop} {w : World} {v : Value} {xs : List α} {hi : Nat} (h : Ow γ J S w v xs) (h2 : hi ≤ xs.length) : Ow γ J S w (subV v (Rp.sz α) 0 hi) (xs.take hi) := by
  rcases h with ⟨rfl, rfl⟩ | ⟨b, cap, c, e, rfl, hc, hm, hJ, hb, hcs, hx⟩
  · simp only [List.length_nil] at h2
    have : hi = 0 := by omega
    subst this
    exact .inl ⟨rfl, rfl⟩
  · have hl : (xs.take hi).length = hi := by simp; omega
    refine .inr ⟨b, cap, c, e, ?_, ⟨by omega, by omega⟩, hm, hJ, hb, hcs, fun i x hi' => hx i x ?_⟩
    · rw [subV_zero]
      simp only [hl]
    · rw [List.getElem?_take] at hi'
      split at hi'
      · exact hi'
      · cases hi'
end TL
/-
  TlTake: what an edge taken away does to faces, components and the genus.
  By an AI agent.
-/
set_option linter.all false
namespace TL
theorem fv_step {n : Int} {t s : Int → Int} (ht : Tw n t) (hs : Pm n s) {x a : Int} (hx : In n x) (ha : In n a) (hne : a ≠ x) (hfix : s x = x) {V F : Nat} (hV : Num (In n) (Orb s) V) (hF : Num (In n) (Orb fun y => s (t y)) F) :
    ∃ V' F' : Nat, Num (In n) (Orb (sw s x a)) V' ∧ Num (In n) (Orb fun y => sw s x a (t y)) F' ∧ ((Orb (fun y => sw s x a (t y)) (t x) x ∧ (F : Int) - V = F' - V') ∨ (¬ Orb (fun y => sw s x a (t y)) (t x) x ∧ (F : Int) - V = F' - V' - 2)) := by
  have hab : ¬ Orb s x a := fun ho => hne (Orb.ind (S := fun z => z = x) (fun z hz => by rw [hz]; exact hfix) ho rfl)
  have hs' := hs.sw hx ha
  have hta := ht.rng x hx
  have htb := ht.rng a ha
  have htne : t x ≠ t a := fun e => hne (by have := congrArg t e; rw [ht.inv x hx, ht.inv a ha] at this; exact this.symm)
  obtain ⟨V', hV', eV⟩ := hV.join hs.eqv hx ha hab
  have hV2 : Num (In n) (Orb (TL.sw s x a)) V' := hV'.iff fun u v hu hv => (sw_orb hs hx ha hab hu hv).symm
  have hf := ht.comp hs
  have hfx : ∀ z, In n z → TL.sw (fun z => s (t z)) (t x) (t a) z = TL.sw s x a (t z) := by
    intro z hz
    unfold TL.sw tr
    by_cases e1 : z = t x
    · rw [if_pos e1, if_pos (by rw [e1, ht.inv x hx])]
      show s (t (t a)) = s a
      rw [ht.inv a ha]
    · have e1' : ¬ t z = x := fun e => e1 (by rw [← e, ht.inv z hz])
      rw [if_neg e1, if_neg e1']
      by_cases e2 : z = t a
      · rw [if_pos e2, if_pos (by rw [e2, ht.inv a ha])]
        show s (t (t x)) = s x
        rw [ht.inv x hx]
      · have e2' : ¬ t z = a := fun e => e2 (by rw [← e, ht.inv z hz])
        rw [if_neg e2, if_neg e2']
  have hsw := hf.sw hta htb
  have hf' : Pm n (fun z => TL.sw s x a (t z)) := ht.comp hs'
  -- behind the twin of a stands x
  have hax : Orb (fun z => TL.sw s x a (t z)) (t a) x := by
    have := Orb.step (fun z => TL.sw s x a (t z)) (t a)
    simp only [ht.inv a ha] at this
    rw [sw_b, hfix] at this
    exact this
  have hiff : Orb (TL.sw (fun z => s (t z)) (t x) (t a)) (t x) (t a) ↔ Orb (fun z => TL.sw s x a (t z)) (t x) x := by
    rw [Orb.iff hsw hfx hta]
    constructor
    · exact fun h => h.trans hax
    · exact fun h => h.trans (hf'.eqv.symm _ _ htb hx hax)
  by_cases c : Orb (fun z => s (t z)) (t x) (t a)
  · obtain ⟨k, hk⟩ := Num.ex hsw.eqv
    have hap := sw_apart hf hta htb htne c
    obtain ⟨k', hk', e⟩ := hk.join hsw.eqv hta htb hap
    have hk2 : Num (In n) (Orb fun z => s (t z)) k' := hk'.iff fun u v hu hv => by
      rw [← sw_orb hsw hta htb hap hu hv, sw_sw]
    have e2 := hk2.eq hf.eqv hF
    refine ⟨V', k, hV2, hk.iff fun u v hu hv => Orb.iff hsw hfx hu, .inr ⟨fun h => hap (hiff.2 h), by omega⟩⟩
  · obtain ⟨k', hk', e⟩ := hF.join hf.eqv hta htb c
    refine ⟨V', k', hV2, (hk'.iff fun u v hu hv => (sw_orb hf hta htb c hu hv).symm).iff fun u v hu hv => Orb.iff hsw hfx hu, .inl ⟨hiff.1 (sw_half hf hta htb c), by omega⟩⟩
theorem fv_rm1 {n : Int} {t : Int → Int} (ht : Tw n t) {r : Rot} {x : Int} (hxi : In n x) (hn : r.flatten.Nodup) (hin : ∀ y ∈ r.flatten, In n y) (hp : Pm n (cy (rm1 x r))) {V F : Nat} (hV : Num (In n) (Orb (cy (rm1 x r))) V) (hF : Num (In n) (Orb fun y => cy (rm1 x r) (t y)) F) :
    Pm n (cy r) ∧ ∃ V' F' : Nat, Num (In n) (Orb (cy r)) V' ∧ Num (In n) (Orb fun y => cy r (t y)) F' ∧ ((Orb (fun y => cy r (t y)) (t x) x ∧ (F : Int) - V = F' - V') ∨ (¬ Orb (fun y => cy r (t y)) (t x) x ∧ (F : Int) - V = F' - V' - 2)) := by
  by_cases hx : x ∈ r.flatten
  · obtain ⟨l, hl, hxl⟩ := List.mem_flatten.1 hx
    obtain ⟨A, B, rfl⟩ := List.append_of_mem hl
    obtain ⟨u, w, rfl⟩ := List.append_of_mem hxl
    have hn0 := hn
    rw [List.flatten_append, List.flatten_cons] at hn0
    have n1 := List.nodup_append.1 hn0
    have n2 := List.nodup_append.1 n1.2.1
    have hrow := n2.1
    have hxuw : x ∉ u ++ w := by
      have hp : List.Perm (u ++ x :: w) (x :: (u ++ w)) := List.perm_middle
      exact (List.nodup_cons.1 (hp.nodup_iff.1 hrow)).1
    have e1 : rm1 x (A ++ (u ++ x :: w) :: B) = A ++ (u ++ w) :: B := by
      have eA := rm1_no (x := x) (A := A) (fun l hl hm => n1.2.2 x (List.mem_flatten.2 ⟨l, hl, hm⟩) x (by simp) rfl)
      have eB := rm1_no (x := x) (A := B) (fun l hl hm => n2.2.2 x (by simp) x (List.mem_flatten.2 ⟨l, hl, hm⟩) rfl)
      unfold rm1 at eA eB ⊢
      rw [List.map_append, List.map_cons, eA, eB, List.filter_append, List.filter_cons, if_neg (by simp), fil_no (fun h => hxuw (by simp [h])), fil_no (fun h => hxuw (by simp [h]))]
    have hxo : cy (rm1 x (A ++ (u ++ x :: w) :: B)) x = x := cy_out (by
      unfold rm1
      intro hm
      obtain ⟨l, hl, hxl⟩ := List.mem_flatten.1 hm
      obtain ⟨l', _, rfl⟩ := List.mem_map.1 hl
      have := (List.mem_filter.1 hxl).2
      simp at this)
    rw [e1] at hp hV hF hxo
    rcases cy_rm hn with e | ⟨a, ha, hax, hxx, e⟩
    · rw [e]
      refine ⟨hp, V, F, hV, hF, .inl ⟨?_, rfl⟩⟩
      have := Orb.step (fun y => cy (A ++ (u ++ w) :: B) (t y)) (t x)
      simp only [ht.inv x hxi] at this
      rw [hxo] at this
      exact this
    · have hai : In n a := hin a (by
        rw [List.flatten_append, List.flatten_cons]
        rcases List.mem_append.1 ha with h | h <;> simp [h])
      rw [e]
      exact ⟨hp.sw hxi hai, fv_step ht hp hxi hai hax hxx hV hF⟩
  · have e1 : rm1 x r = r := rm1_no fun l hl hm => hx (List.mem_flatten.2 ⟨l, hl, hm⟩)
    rw [e1] at hp hV hF
    refine ⟨hp, V, F, hV, hF, .inl ⟨?_, rfl⟩⟩
    have := Orb.step (fun y => cy r (t y)) (t x)
    simp only [ht.inv x hxi] at this
    rw [cy_out hx] at this
    exact this
theorem Emb.fv {m K : Nat} {f s s' : Int → Int} {E : List Int} (h : Emb m K f s s' E) {V F : Nat} (hV : Num (In (2 * (K : Int))) (Orb s') V) (hF : Num (In (2 * (K : Int))) (Orb fun y => s' (twin y)) F) :
    Num (In (2 * (m : Int))) (Orb s) (V + 2 * E.length) ∧ Num (In (2 * (m : Int))) (Orb fun y => s (twin y)) (F + E.length) := by
  have ht' := twin_tw K
  have ht := twin_tw m
  have hev : ∀ e, e ∈ E.map (fun i => 2 * i) ↔ e % 2 = 0 ∧ e / 2 ∈ E := fun e => by
    rw [List.mem_map]
    constructor
    · rintro ⟨i, hi, rfl⟩
      exact ⟨by omega, by rw [show 2 * i / 2 = i by omega]; exact hi⟩
    · rintro ⟨h1, h2⟩
      exact ⟨_, h2, by omega⟩
  have hod : ∀ e, e ∈ E.map (fun i => 2 * i + 1) ↔ e % 2 = 1 ∧ e / 2 ∈ E := fun e => by
    rw [List.mem_map]
    constructor
    · rintro ⟨i, hi, rfl⟩
      exact ⟨by omega, by rw [show (2 * i + 1) / 2 = i by omega]; exact hi⟩
    · rintro ⟨h1, h2⟩
      exact ⟨_, h2, by omega⟩
  have hin : ∀ e, e / 2 ∈ E → In (2 * (m : Int)) e := fun e he => by
    have := h.inn _ he
    exact ⟨by omega, by omega⟩
  have hcomp := ht.comp h.pm
  have l1 : (E.map (fun i => 2 * i) ++ E.map (fun i => 2 * i + 1)).length = 2 * E.length := by simp; omega
  have l2 : (E.map fun i => 2 * i).length = E.length := by simp
  rw [← l1, show F + E.length = F + (E.map fun i => 2 * i).length by rw [l2]]
  constructor
  · refine Num.ext f _ hV h.pm.eqv h.dom (orb_emb h.rng' h.hs h.inj) (List.nodup_append.2 ⟨nodup_map_on h.nd (fun x _ y _ e => by omega), nodup_map_on h.nd (fun x _ y _ e => by omega), fun a ha b hb e => ?_⟩) (fun e he => ?_) (fun e he x hx ho => ?_) (fun a ha b hb ho => ?_) (fun z hz => ?_)
    · have := (hev a).1 ha
      have := (hod b).1 hb
      omega
    · rcases List.mem_append.1 he with c | c
      · exact hin e ((hev e).1 c).2
      · exact hin e ((hod e).1 c).2
    · have := h.img h.rng' h.hs hx ho
      rcases List.mem_append.1 he with c | c
      · exact this ((hev e).1 c).2
      · exact this ((hod e).1 c).2
    · have ha' : a / 2 ∈ E := by
        rcases List.mem_append.1 ha with c | c
        · exact ((hev a).1 c).2
        · exact ((hod a).1 c).2
      exact (Orb.ind (S := fun z => z = a) (fun z hz => by rw [hz]; exact h.one a (hin a ha') ha') ho rfl).symm
    · rcases h.all z hz with c | ⟨x, hx, e⟩
      · refine .inr ⟨z, ?_, Orb.refl _ _⟩
        rw [List.mem_append, hev, hod]
        rcases Int.emod_two_eq z with e | e
        · exact .inl ⟨e, c⟩
        · exact .inr ⟨e, c⟩
      · exact .inl ⟨x, hx, by rw [e]; exact Orb.refl _ _⟩
  · have hr2 : ∀ x, In (2 * (K : Int)) x → In (2 * (K : Int)) (s' (twin x)) := fun x hx => h.rng' _ (ht'.rng x hx)
    have hp2 : ∀ x, In (2 * (K : Int)) x → s (twin (f x)) = f (s' (twin x)) := fun x hx => by rw [h.ht x hx, h.hs _ (ht'.rng x hx)]
    have h1s : ∀ z, In (2 * (m : Int)) z → z / 2 ∈ E → s (twin z) = twin z := fun z hz c => h.one _ (ht.rng z hz) (by rw [twin_half hz.1]; exact c)
    refine Num.ext f _ hF hcomp.eqv h.dom (orb_emb hr2 hp2 h.inj) (nodup_map_on h.nd (fun x _ y _ e => by omega)) (fun e he => hin e ((hev e).1 he).2) (fun e he x hx ho => h.img hr2 hp2 hx ho ((hev e).1 he).2) (fun a ha b hb ho => ?_) (fun z hz => ?_)
    · have ha' := (hev a).1 ha
      have hb' := (hev b).1 hb
      have := (Orb.ind (S := fun z => In (2 * (m : Int)) z ∧ z / 2 = a / 2) (fun z hz => by
        have c : z / 2 ∈ E := by rw [hz.2]; exact ha'.2
        rw [h1s z hz.1 c]
        exact ⟨ht.rng z hz.1, by rw [twin_half hz.1.1]; exact hz.2⟩) ho ⟨hin a ha'.2, rfl⟩).2
      omega
    · rcases h.all z hz with c | ⟨x, hx, e⟩
      · refine .inr ⟨2 * (z / 2), (hev _).2 ⟨by omega, by rw [show 2 * (z / 2) / 2 = z / 2 by omega]; exact c⟩, ?_⟩
        by_cases e : z % 2 = 0
        · rw [show 2 * (z / 2) = z by omega]; exact Orb.refl _ _
        · have h1 := Orb.step (fun x => s (twin x)) z
          rw [h1s z hz c, show twin z = 2 * (z / 2) by unfold twin; rw [if_neg e]; omega] at h1
          exact h1
      · exact .inl ⟨x, hx, by rw [e]; exact Orb.refl _ _⟩
end TL
/-
  TlTake2: labels of components; components, faces and the genus of a net with one edge less.
  By an AI agent.
-/
set_option linter.all false
namespace TL
structure LabInv (g : Net) (p : List Int × Int) : Prop where
  lt : ∀ v, ndP g v → 0 ≤ gI p.1 v → gI p.1 v < p.2
  iff : ∀ u v, ndP g u → ndP g v → 0 ≤ gI p.1 u → 0 ≤ gI p.1 v → (gI p.1 u = gI p.1 v ↔ Cn g u v)
theorem partsK_lab {g : Net} (hm : MayP g) : ∀ k : Nat, (k : Int) ≤ g.1 → LabInv g (partsK g k)
  | 0, _ => by
    have e : ∀ v, ndP g v → gI (partsK g 0).1 v = -1 := fun v hv => by
      have : (partsK g 0).1 = List.replicate g.1.toNat (-1) := by simp [partsK, iotaI]
      rw [this]
      exact gI_rep hv.1 (by have := hv.2; omega)
    exact ⟨fun v hv h => by rw [e v hv] at h; omega, fun u v hu _ h => by rw [e u hu] at h; omega⟩
  | k + 1, hk => by
    have ih := partsK_lab hm k (by omega)
    obtain ⟨l, hp⟩ := partsK_inv hm k (by omega)
    have hkd : ndP g (k : Int) := ⟨by omega, by omega⟩
    obtain ⟨hb1, hb2⟩ := breadth_iff hm hkd
    rw [partsK_succ]
    unfold partOne
    by_cases c : 0 ≤ gI (partsK g k).1 (k : Int)
    · rw [if_pos c]; exact ih
    · rw [if_neg c]
      have hlen := hp.len
      have hnum := hp.num
      have hat : ∀ v, ndP g v → gI ((breadthS g (k : Int)).order.foldl (fun l w => l.set w.toNat (partsK g k).2) (partsK g k).1) v = if v ∈ (breadthS g (k : Int)).order then (partsK g k).2 else gI (partsK g k).1 v := fun v hv =>
        gI_fold _ _ v hv.1 (by have := hv.2; omega) (fun x hx => by have := hb1 x hx; exact ⟨this.1, by have := this.2; omega⟩)
      refine ⟨fun v hv h => ?_, fun u v hu hv h1 h2 => ?_⟩
      · simp only at h ⊢
        rw [hat v hv] at h ⊢
        by_cases e : v ∈ (breadthS g (k : Int)).order
        · rw [if_pos e]; omega
        · rw [if_neg e] at h ⊢
          have := ih.lt v hv h; omega
      · simp only at h1 h2 ⊢
        rw [hat u hu] at h1 ⊢
        rw [hat v hv] at h2 ⊢
        have hcu := hb2 u
        have hcv := hb2 v
        by_cases e1 : u ∈ (breadthS g (k : Int)).order
        · have d1 := hcu.1 e1
          rw [if_pos e1]
          by_cases e2 : v ∈ (breadthS g (k : Int)).order
          · rw [if_pos e2]
            exact ⟨fun _ => (Cn.eqv g).trans _ _ _ hu hkd hv ((Cn.eqv g).symm _ _ hkd hu d1) (hcv.1 e2), fun _ => rfl⟩
          · rw [if_neg e2] at h2 ⊢
            have := ih.lt v hv h2
            exact ⟨fun h => by omega, fun h => absurd (hcv.2 ((Cn.eqv g).trans _ _ _ hkd hu hv d1 h)) e2⟩
        · rw [if_neg e1] at h1 ⊢
          have := ih.lt u hu h1
          by_cases e2 : v ∈ (breadthS g (k : Int)).order
          · rw [if_pos e2]
            exact ⟨fun h => by omega, fun h => absurd (hcu.2 ((Cn.eqv g).trans _ _ _ hkd hv hu (hcv.1 e2) ((Cn.eqv g).symm _ _ hu hv h))) e1⟩
          · rw [if_neg e2] at h2 ⊢
            exact ih.iff u v hu hv h1 h2
/-- labels are alike just if nodes are joined -/
theorem parts_lab {g : Net} (hm : MayP g) {u v : Int} (hu : ndP g u) (hv : ndP g v) : gI (partsR g).1 u = gI (partsR g).1 v ↔ Cn g u v := by
  have h0 := hm.1
  have h1 := partsK_lab hm g.1.toNat (by omega)
  obtain ⟨l, h2⟩ := partsK_inv hm g.1.toNat (by omega)
  have e : (partsR g).1 = (partsK g g.1.toNat).1 := by unfold partsR; rw [if_pos hm]
  have key : ∀ x, ndP g x → 0 ≤ gI (partsK g g.1.toNat).1 x := fun x hx => (h2.iff x hx).2 (by
    have := h2.all x.toNat (by have := hx.1; have := hx.2; omega) (by have := hx.1; have := hx.2; omega)
    rwa [Int.toNat_of_nonneg hx.1] at this)
  rw [e]
  exact h1.iff u v hu hv (key u hu) (key v hv)
theorem Cn_more {g h : Net} {a b : Int} (hn : h.1 = g.1) (ha : ndP h a) (hb : ndP h b) (he : ∀ e, e ∈ g.2 ↔ e ∈ h.2 ∨ e = (a, b)) {u v : Int} (hu : ndP h u) (hv : ndP h v) : Cn g u v ↔ Jn (Cn h) a b u v := by
  have hd : ndP g = ndP h := by unfold ndP; rw [hn]
  have hle := Cn.eqv h
  have hg := Cn.eqv g
  rw [hd] at hg
  have hup : ∀ {u v : Int}, Cn h u v → Cn g u v := fun {u v} hc R hR h2 => hc R (by rw [← hd]; exact hR) fun e hh => h2 e ((he e).2 (.inl hh))
  have hab : Cn g a b := Cn.edge ((he (a, b)).2 (.inr rfl))
  constructor
  · intro hc
    refine hc (Jn (Cn h) a b) (by rw [hd]; exact Jn.eqv hle ha hb) (fun e h2 => ?_)
    rcases (he e).1 h2 with h3 | h3
    · exact .inl (Cn.edge h3)
    · subst h3; exact .inr (.inl ⟨hle.rfl _ ha, hle.rfl _ hb⟩)
  · rintro (e | ⟨e1, e2⟩ | ⟨e1, e2⟩)
    · exact hup e
    · exact hg.trans _ _ _ hu ha hv (hup e1) (hg.trans _ _ _ ha hb hv hab (hup e2))
    · exact hg.trans _ _ _ hu hb hv (hup e1) (hg.trans _ _ _ hb ha hv (hg.symm _ _ ha hb hab) (hup e2))
theorem comps_more {g h : Net} {a b : Int} (hm : MayP g) (hm' : MayP h) (hn : h.1 = g.1) (ha : ndP h a) (hb : ndP h b) (he : ∀ e, e ∈ g.2 ↔ e ∈ h.2 ∨ e = (a, b)) :
    (Cn h a b ∧ (partsR g).2.1 = (partsR h).2.1) ∨ (¬ Cn h a b ∧ (partsR g).2.1 + 1 = (partsR h).2.1) := by
  obtain ⟨k, e1, h1⟩ := parts_num hm
  obtain ⟨k', e2, h2⟩ := parts_num hm'
  have hd : ndP g = ndP h := by unfold ndP; rw [hn]
  have hle := Cn.eqv h
  have hge := Cn.eqv g
  rw [hd] at h1 hge
  by_cases c : Cn h a b
  · left
    have h3 : Num (ndP h) (Cn g) k' := h2.iff fun x y hx hy => by
      rw [Cn_more hn ha hb he hx hy]
      constructor
      · exact fun e => .inl e
      · rintro (e | ⟨f1, f2⟩ | ⟨f1, f2⟩)
        · exact e
        · exact hle.trans _ _ _ hx ha hy f1 (hle.trans _ _ _ ha hb hy c f2)
        · exact hle.trans _ _ _ hx hb hy f1 (hle.trans _ _ _ hb ha hy (hle.symm _ _ ha hb c) f2)
    have := h1.eq hge h3
    exact ⟨c, by omega⟩
  · right
    obtain ⟨k2, h3, e3⟩ := h2.join hle ha hb c
    have h4 : Num (ndP h) (Cn g) k2 := h3.iff fun x y hx hy => (Cn_more hn ha hb he hx hy).symm
    have := h1.eq hge h4
    exact ⟨c, by omega⟩
theorem butK_mem {e : Int} {m : Nat} {i : Int} : i ∈ butK e m ↔ (0 ≤ i ∧ i < (m : Int)) ∧ i ≠ e := by
  unfold butK
  rw [List.mem_filter, iota_mem]
  simp
theorem butK_nodup (e : Int) (m : Nat) : (butK e m).Nodup := (iota_nodup m).filter _
theorem rmL_nil (r : Rot) : rmL [] r = r := by
  unfold rmL
  conv => rhs; rw [← List.map_id r]
  apply List.map_congr_left
  intro l _
  exact List.filter_eq_self.2 fun y _ => by simp
theorem rmL_congr {L L' : List Int} {r : Rot} (h : ∀ x, x ∈ L ↔ x ∈ L') : rmL L r = rmL L' r := by
  unfold rmL
  apply List.map_congr_left
  intro l _
  apply List.filter_congr
  intro y _
  simp only [h y]
section
variable {g : Net} {r : Rot}
/-- half-edges of one round are on one face -/
theorem of_orb (hr : RotP g r) {x y : Int} (hx : In (2 * (g.2.length : Int)) x) (hy : In (2 * (g.2.length : Int)) y) : Orb (fun z => cy r (twin z)) x y ↔ gI (ofS g r) x = gI (ofS g r) y := by
  obtain ⟨hp, hn⟩ := next_pm hr
  have hl := nextS_len g r
  obtain ⟨f1, f2, f3, _⟩ := facesL_ok hp
  have hpm := hp
  rw [hl] at hpm
  rw [← Orb.iff hpm hn hx]
  obtain ⟨⟨b0, b1⟩, b2⟩ := of_face hr hx.1 hx.2
  have hfm := gI_mem (xs := facesS (nextS g r) r) b0 b1
  have hfo : FcOk (nextS g r) [] (gI (facesS (nextS g r) r) (gI (ofS g r) x)) := by
    have h := hfm
    unfold facesS at h
    rcases List.mem_append.1 h with h | h
    · exact f1 _ h
    · obtain ⟨l, _, e⟩ := List.mem_map.1 h
      have b3 := b2
      unfold facesS at b3
      rw [← e] at b3; cases b3
  have h0 := hfo.orb x b2
  have hxn : In (nextS g r).length x := by rw [hl]; exact hx
  constructor
  · intro ho
    have : y ∈ gI (facesS (nextS g r) r) (gI (ofS g r) x) := Orb.ind (S := fun z => z ∈ gI (facesS (nextS g r) r) (gI (ofS g r) x)) (fun z hz => hfo.cls z hz) ho b2
    exact ((of_iff hr hy.1 hy.2 b0 b1).1 this).symm
  · intro e
    have hy2 : y ∈ gI (facesS (nextS g r) r) (gI (ofS g r) x) := (of_iff hr hy.1 hy.2 b0 b1).2 e.symm
    have h1 := hfo.orb y hy2
    have hin0 : In (nextS g r).length (gI (gI (facesS (nextS g r) r) (gI (ofS g r) x)) 0) := hfo.inn _ (gI_mem (by omega) (by
      have := List.length_pos_of_mem b2
      omega))
    exact (hp.eqv.symm _ _ hin0 hxn h0).trans h1
end
end TL
/-
  TlTake3: an edge taken away lowers the genus just if it was on one face alone and its ends stay joined.
  By an AI agent.
-/
set_option linter.all false
namespace TL
/-- what is known of an edge taken away -/
structure TakeL (g : Net) (r : Rot) (e : Int) : Prop where
  may : MayP g
  rot : RotP g r
  bd : 0 ≤ e ∧ e < (g.2.length : Int)
  eq : takeR g r e = ((g.1, (butK e g.2.length).map (gI g.2)), canonS (r.map (keepRow (butK e g.2.length))), 0)
  may' : MayP (takeR g r e).1
  rot' : RotP (takeR g r e).1 (takeR g r e).2.1
  ends : ndP g (gI g.2 e).1 ∧ ndP g (gI g.2 e).2
  faces : (gI (ofS g r) (2 * e) = gI (ofS g r) (2 * e + 1) ∧ ((facesS (nextS (takeR g r e).1 (takeR g r e).2.1) (takeR g r e).2.1).length : Int) = (facesS (nextS g r) r).length + 1) ∨ (¬ gI (ofS g r) (2 * e) = gI (ofS g r) (2 * e + 1) ∧ ((facesS (nextS (takeR g r e).1 (takeR g r e).2.1) (takeR g r e).2.1).length : Int) + 1 = (facesS (nextS g r) r).length)
  comps : (gI (partsR (takeR g r e).1).1 (gI g.2 e).1 = gI (partsR (takeR g r e).1).1 (gI g.2 e).2 ∧ (partsR (takeR g r e).1).2.1 = (partsR g).2.1) ∨ (¬ gI (partsR (takeR g r e).1).1 (gI g.2 e).1 = gI (partsR (takeR g r e).1).1 (gI g.2 e).2 ∧ (partsR (takeR g r e).1).2.1 = (partsR g).2.1 + 1)
  less : gI (ofS g r) (2 * e) = gI (ofS g r) (2 * e + 1) ∧ gI (partsR (takeR g r e).1).1 (gI g.2 e).1 = gI (partsR (takeR g r e).1).1 (gI g.2 e).2 → genusS (takeR g r e).1 (takeR g r e).2.1 = genusS g r - 1
  same : ¬ (gI (ofS g r) (2 * e) = gI (ofS g r) (2 * e + 1) ∧ gI (partsR (takeR g r e).1).1 (gI g.2 e).1 = gI (partsR (takeR g r e).1).1 (gI g.2 e).2) → genusS (takeR g r e).1 (takeR g r e).2.1 = genusS g r
section
variable {g : Net} {r : Rot} {e : Int}
theorem but_gone (he : 0 ≤ e ∧ e < (g.2.length : Int)) : rmL (gone g.2.length (butK e g.2.length)) r = rm1 (2 * e) (rm1 (2 * e + 1) r) := by
  have h1 : rmL (gone g.2.length (butK e g.2.length)) r = rmL [2 * e, 2 * e + 1] r := rmL_congr fun x => by
    rw [gone_mem, butK_mem]
    simp only [List.mem_cons, List.not_mem_nil, or_false]
    constructor
    · rintro ⟨⟨a, b⟩, c⟩
      by_cases h : x / 2 = e
      · omega
      · exact absurd ⟨⟨by omega, by omega⟩, h⟩ c
    · intro h
      exact ⟨⟨by omega, by omega⟩, fun c => c.2 (by omega)⟩
  rw [h1, rmL_cons, rmL_cons, rmL_nil]
theorem rm1_sub (x : Int) (r : Rot) : List.Sublist (rm1 x r).flatten r.flatten := by
  have := rmL_sub [x] r
  rwa [rmL_cons, rmL_nil] at this
theorem rm1_out {x : Int} {r : Rot} : x ∉ (rm1 x r).flatten := by
  unfold rm1
  intro hm
  obtain ⟨l, hl, hxl⟩ := List.mem_flatten.1 hm
  obtain ⟨l', _, rfl⟩ := List.mem_map.1 hl
  have := (List.mem_filter.1 hxl).2
  simp at this
theorem take_faces (hr : RotP g r) (he : 0 ≤ e ∧ e < (g.2.length : Int)) :
    (gI (ofS g r) (2 * e) = gI (ofS g r) (2 * e + 1) ∧ ((facesS (nextS (g.1, (butK e g.2.length).map (gI g.2)) (canonS (r.map (keepRow (butK e g.2.length))))) (canonS (r.map (keepRow (butK e g.2.length))))).length : Int) = (facesS (nextS g r) r).length + 1) ∨
    (¬ gI (ofS g r) (2 * e) = gI (ofS g r) (2 * e + 1) ∧ ((facesS (nextS (g.1, (butK e g.2.length).map (gI g.2)) (canonS (r.map (keepRow (butK e g.2.length))))) (canonS (r.map (keepRow (butK e g.2.length))))).length : Int) + 1 = (facesS (nextS g r) r).length) := by
  have hn := butK_nodup e g.2.length
  have hb : ∀ i ∈ butK e g.2.length, 0 ≤ i ∧ i < (g.2.length : Int) := fun i hi => (butK_mem.1 hi).1
  have hem := part_emb hr hn hb
  have hc := (part_RotP hr hn hb).canon
  obtain ⟨V', hV', eV'⟩ := rot_V hc
  obtain ⟨F', hF', eF'⟩ := rot_F hc
  obtain ⟨V, hV, eV⟩ := rot_V hr
  obtain ⟨F, hF, eF⟩ := rot_F hr
  simp only [List.length_map] at hV' hF'
  obtain ⟨hV2, hF2⟩ := hem.fv hV' hF'
  have hE : ((iotaI g.2.length).filter fun i => decide (i ∉ butK e g.2.length)).length = 1 := by
    have : List.Perm ((iotaI g.2.length).filter fun i => decide (i ∉ butK e g.2.length)) [e] := (List.perm_ext_iff_of_nodup hem.nd (by simp)).2 fun x => by
      rw [List.mem_filter, iota_mem]
      simp only [decide_eq_true_eq, List.mem_singleton, butK_mem]
      constructor
      · rintro ⟨a, b⟩
        by_cases h : x = e
        · exact h
        · exact absurd ⟨a, h⟩ b
      · rintro rfl
        exact ⟨he, fun c => c.2 rfl⟩
    exact this.length_eq
  rw [hE] at hV2 hF2
  have hpm := hem.pm
  rw [but_gone he] at hV2 hF2 hpm
  have ht := twin_tw g.2.length
  have hsub := rm1_sub (2 * e + 1) r
  have t1 : twin (2 * e) = 2 * e + 1 := by unfold twin; rw [if_pos (by omega)]
  have t2 : twin (2 * e + 1) = 2 * e := by unfold twin; rw [if_neg (by omega)]; omega
  have i1 : In (2 * (g.2.length : Int)) (2 * e) := ⟨by omega, by omega⟩
  have i2 : In (2 * (g.2.length : Int)) (2 * e + 1) := ⟨by omega, by omega⟩
  obtain ⟨hpm1, V1, F1, hV1, hF1, h1⟩ := fv_rm1 ht i1 (hr.2.2.1.sublist hsub) (fun y hy => rot_in hr y (hsub.subset hy)) hpm hV2 hF2
  have o1 : Orb (fun y => cy (rm1 (2 * e + 1) r) (twin y)) (twin (2 * e)) (2 * e) := by
    have h2 := Orb.step (fun y => cy (rm1 (2 * e + 1) r) (twin y)) (2 * e)
    simp only [t1] at h2
    rw [cy_out rm1_out] at h2
    rw [t1]
    exact (ht.comp hpm1).eqv.symm _ _ i1 i2 h2
  have h1' := h1.resolve_right fun h => h.1 o1
  obtain ⟨hpm0, V0, F0, hV0, hF0, h2⟩ := fv_rm1 ht i2 hr.2.2.1 (rot_in hr) hpm1 hV1 hF1
  have e1 := hV0.eq hpm0.eqv hV
  have e2 := hF0.eq (ht.comp hpm0).eqv hF
  rw [t2, of_orb hr i1 i2] at h2
  rcases h2 with ⟨c, h2⟩ | ⟨c, h2⟩
  · left; exact ⟨c, by omega⟩
  · right; exact ⟨c, by omega⟩
theorem takeR_ok (h : (takeR g r e).2.2 = 0) : rmayR g r = 0 ∧ (0 ≤ e ∧ e < (g.2.length : Int)) ∧ takeR g r e = rsubR g r (butK e g.2.length) := by
  unfold takeR at h ⊢
  by_cases c : rmayR g r = 0
  · rw [if_pos c] at h ⊢
    by_cases c2 : e < 0 ∨ (g.2.length : Int) ≤ e
    · rw [if_pos c2] at h; cases h
    · rw [if_neg c2]; exact ⟨c, by omega, rfl⟩
  · rw [if_neg c] at h; exact absurd h c
theorem take_law (h : (takeR g r e).2.2 = 0) : TakeL g r e := by
  obtain ⟨h1, h2, h3⟩ := takeR_ok h
  have h4 := h
  rw [h3] at h4
  obtain ⟨hm, hr, hn, hb, h5⟩ := rsubR_ok h4
  have hE : takeR g r e = ((g.1, (butK e g.2.length).map (gI g.2)), canonS (r.map (keepRow (butK e g.2.length))), 0) := by rw [h3, h5]
  have hms := part_may hm hn hb
  have hc := (part_RotP hr hn hb).canon
  have hge := hm.2.2.2 (gI g.2 e) (gI_mem h2.1 h2.2)
  have hends : ndP g (gI g.2 e).1 ∧ ndP g (gI g.2 e).2 := ⟨hge.1, hge.2⟩
  have hf := take_faces hr h2
  have hco := comps_more (g := g) (h := (g.1, (butK e g.2.length).map (gI g.2))) (a := (gI g.2 e).1) (b := (gI g.2 e).2) hm hms rfl hends.1 hends.2 (fun x => by
    simp only [List.mem_map, butK_mem]
    constructor
    · intro hx
      obtain ⟨a, ha, e1⟩ := List.mem_iff_getElem.1 hx
      have e2 : gI g.2 (a : Int) = x := by simp [gI, ha, e1]
      by_cases c : (a : Int) = e
      · right; rw [← e2, c]
      · left; exact ⟨a, ⟨⟨by omega, by omega⟩, c⟩, e2⟩
    · rintro (⟨i, hi, rfl⟩ | rfl)
      · exact gI_mem hi.1.1 hi.1.2
      · exact gI_mem h2.1 h2.2)
  have hlab := parts_lab (g := (g.1, (butK e g.2.length).map (gI g.2))) hms (u := (gI g.2 e).1) (v := (gI g.2 e).2) hends.1 hends.2
  rw [← hlab] at hco
  have hless := less_genus h4
  rw [h5] at hless
  simp only at hless
  rw [genusR_yes (rmay_yes hms hc), genusR_yes (rmay_yes hm hr)] at hless
  have ok1 := genus_ok hm hr
  have ok2 := genus_ok hms hc
  have hbl : ((butK e g.2.length).length : Int) + 1 = g.2.length := by
    have := (part_emb hr hn hb).num
    have hE1 : ((iotaI g.2.length).filter fun i => decide (i ∉ butK e g.2.length)).length = 1 := by
      have : List.Perm ((iotaI g.2.length).filter fun i => decide (i ∉ butK e g.2.length)) [e] := (List.perm_ext_iff_of_nodup ((iota_nodup _).filter _) (by simp)).2 fun x => by
        rw [List.mem_filter, iota_mem]
        simp only [decide_eq_true_eq, List.mem_singleton, butK_mem]
        constructor
        · rintro ⟨a, b⟩
          by_cases h : x = e
          · exact h
          · exact absurd ⟨a, h⟩ b
        · rintro rfl
          exact ⟨h2, fun c => c.2 rfl⟩
      exact this.length_eq
    omega
  have g1 : genusS g r = (2 * (partsR g).2.1 - g.1 + (g.2.length : Int) - ((facesS (nextS g r) r).length : Int)) / 2 := by
    unfold genusS; exact Int.tdiv_eq_ediv_of_nonneg ok1.1
  have g2 : genusS (g.1, (butK e g.2.length).map (gI g.2)) (canonS (r.map (keepRow (butK e g.2.length)))) = (2 * (partsR (g.1, (butK e g.2.length).map (gI g.2))).2.1 - g.1 + ((butK e g.2.length).length : Int) - ((facesS (nextS (g.1, (butK e g.2.length).map (gI g.2)) (canonS (r.map (keepRow (butK e g.2.length))))) (canonS (r.map (keepRow (butK e g.2.length))))).length : Int)) / 2 := by
    have := Int.tdiv_eq_ediv_of_nonneg ok2.1 (b := 2)
    simp only [List.length_map] at this
    unfold genusS
    simp only [List.length_map]
    exact this
  simp only [List.length_map] at ok2
  have hle := hless.2.1
  simp only at hle
  rw [g1, g2] at hle
  refine ⟨hm, hr, h2, hE, by rw [hE]; exact hms, by rw [hE]; exact hc, hends, by rw [hE]; exact hf, ?_, ?_, ?_⟩
  · rw [hE]
    rcases hco with ⟨a, b⟩ | ⟨a, b⟩
    · exact .inl ⟨a, b.symm⟩
    · exact .inr ⟨a, by simp only; omega⟩
  · rw [hE]
    rintro ⟨a, b⟩
    simp only at b
    rw [g1]; simp only [g2]
    rcases hf with ⟨c1, c2⟩ | ⟨c1, _⟩
    · rcases hco with ⟨d1, d2⟩ | ⟨d1, _⟩
      · omega
      · exact absurd b d1
    · exact absurd a c1
  · rw [hE]
    intro hno
    simp only at hno
    rw [g1]; simp only [g2]
    rcases hf with ⟨c1, c2⟩ | ⟨c1, c2⟩
    · rcases hco with ⟨d1, d2⟩ | ⟨d1, d2⟩
      · exact absurd ⟨c1, d1⟩ hno
      · omega
    · rcases hco with ⟨d1, d2⟩ | ⟨d1, d2⟩
      · omega
      · omega
end
end TL
/-
  TlLay: what an edge laid from corner to corner does to rounds, faces and the genus.
  By an AI agent.
-/
set_option linter.all false
namespace TL
theorem put_gI {r : Rot} {c : Int × Int} {hs : List Int} (h0 : 0 ≤ c.1) (h1 : c.1 < r.length) {v : Int} (hv : 0 ≤ v) : gI (putS r c hs) v = if v = c.1 then (gI r c.1).take (idxS (gI r c.1) c.2 + 1).toNat ++ hs ++ (gI r c.1).drop (idxS (gI r c.1) c.2 + 1).toNat else gI r v := gI_set h0 h1 hv
theorem put_parts {r : Rot} {c : Int × Int} {hs : List Int} (h0 : 0 ≤ c.1) (h1 : c.1 < r.length) : ∃ A B u w, r = A ++ (u ++ w) :: B ∧ putS r c hs = A ++ (u ++ hs ++ w) :: B ∧ gI r c.1 = u ++ w ∧ u = (gI r c.1).take (idxS (gI r c.1) c.2 + 1).toNat := by
  refine ⟨r.take c.1.toNat, r.drop (c.1.toNat + 1), (gI r c.1).take (idxS (gI r c.1) c.2 + 1).toNat, (gI r c.1).drop (idxS (gI r c.1) c.2 + 1).toNat, ?_, ?_, (List.take_append_drop _ _).symm, rfl⟩
  · have e := drop_gI (xs := r) (k := c.1.toNat) (by omega)
    rw [Int.toNat_of_nonneg h0] at e
    rw [List.take_append_drop, ← e, List.take_append_drop]
  · unfold putS
    rw [(set_parts h0 h1 _).1]
theorem put_flat {r : Rot} {c : Int × Int} {hs : List Int} (h0 : 0 ≤ c.1) (h1 : c.1 < r.length) : List.Perm (putS r c hs).flatten (hs ++ r.flatten) := by
  obtain ⟨A, B, u, w, e1, e2, _⟩ := put_parts (hs := hs) (c := c) h0 h1
  rw [e2]
  conv => rhs; rw [e1]
  refine List.perm_iff_count.2 fun x => ?_
  simp only [List.flatten_append, List.flatten_cons, List.count_append]
  omega
theorem nxt_in {l : List Int} {x : Int} (hx : x ∈ l) : nxt l x ∈ l := by
  have := List.length_pos_of_mem hx
  unfold nxt
  exact gI_mem (Int.emod_nonneg _ (by omega)) (Int.emod_lt_of_pos _ (by omega))
theorem cy_in {r : Rot} (hn : r.flatten.Nodup) {x : Int} (hx : x ∈ r.flatten) : cy r x ∈ r.flatten := by
  obtain ⟨l, hl, hxl⟩ := List.mem_flatten.1 hx
  rw [cy_mem hn hl hxl]
  exact List.mem_flatten.2 ⟨l, hl, nxt_in hxl⟩
/-- behind whom a half-edge is put -/
theorem put_u {l : List Int} {x : Int} (hx : x ∈ l) : ∃ u0, l.take (idxS l x + 1).toNat = u0 ++ [x] ∧ x ∉ u0 := by
  obtain ⟨u, w, e, hu⟩ := List.eq_append_cons_of_mem hx
  have hi : l.idxOf x = u.length := by
    rw [e, List.idxOf_append, if_neg hu]; simp
  have e0 : idxS l x = (l.idxOf x : Int) := by unfold idxS; rw [if_pos hx]
  refine ⟨u, ?_, hu⟩
  rw [e0, hi, show ((u.length : Int) + 1).toNat = u.length + 1 by omega, e]
  simp [List.take_append, List.take_of_length_le]
theorem put_cy {r : Rot} {c : Int × Int} {x : Int} (h0 : 0 ≤ c.1) (h1 : c.1 < r.length) (hA : c.2 ∈ gI r c.1) (hr : r.flatten.Nodup) (hx : x ∉ r.flatten) : cy (putS r c [x]) = sw (cy r) x c.2 := by
  obtain ⟨A, B, u, w, e1, e2, e3, e4⟩ := put_parts (hs := [x]) (c := c) h0 h1
  have hn : (putS r c [x]).flatten.Nodup := (put_flat h0 h1).nodup_iff.2 (List.nodup_append.2 ⟨by simp, hr, fun a ha b hb e => by
    obtain rfl := List.mem_singleton.1 ha
    subst e; exact hx hb⟩)
  have hAr : c.2 ∈ r.flatten := List.mem_flatten.2 ⟨_, gI_mem h0 h1, hA⟩
  have hcx : c.2 ≠ x := fun e => hx (by rw [← e]; exact hAr)
  obtain ⟨u0, e5, e6⟩ := put_u hA
  rw [← e4] at e5
  have hrow : u ++ [x] ++ w = u0 ++ c.2 :: (x :: w) := by rw [e5]; simp
  have hv : cy (putS r c [x]) c.2 = x := by
    have hl : u ++ [x] ++ w ∈ putS r c [x] := by rw [e2]; simp
    rw [cy_mem hn hl (by rw [hrow]; simp), hrow, nxt_split e6]
    simp [gI]
  have e2' : putS r c [x] = A ++ (u ++ x :: w) :: B := by rw [e2]; simp
  have hn' := hn
  rw [e2'] at hn'
  have hc := cy_in hr hAr
  rcases cy_rm hn' with e | ⟨a, ha, hax, hxx, e⟩
  · rw [← e2', ← e1] at e
    rw [e] at hv
    exact absurd (hv ▸ hc) hx
  · rw [← e2', ← e1] at e
    by_cases d : a = c.2
    · rw [e, d]
    · rw [e, sw_o _ hcx (fun h => d h.symm)] at hv
      exact absurd (hv ▸ hc) hx
theorem sw_twin {n : Int} {t s : Int → Int} (ht : Tw n t) {a b : Int} (ha : In n a) (hb : In n b) {z : Int} (hz : In n z) : sw (fun y => s (t y)) (t a) (t b) z = sw s a b (t z) := by
  unfold TL.sw tr
  by_cases e1 : z = t a
  · rw [if_pos e1, if_pos (by rw [e1, ht.inv a ha])]
    show s (t (t b)) = s b
    rw [ht.inv b hb]
  · have e1' : ¬ t z = a := fun e => e1 (by rw [← e, ht.inv z hz])
    rw [if_neg e1, if_neg e1']
    by_cases e2 : z = t b
    · rw [if_pos e2, if_pos (by rw [e2, ht.inv b hb])]
      show s (t (t a)) = s a
      rw [ht.inv a ha]
    · have e2' : ¬ t z = b := fun e => e2 (by rw [← e, ht.inv z hz])
      rw [if_neg e2, if_neg e2']
section
variable {g : Net} {r : Rot} {a b : Int × Int}
theorem laid_flat (ha : 0 ≤ a.1 ∧ a.1 < (r.length : Int)) (hb : 0 ≤ b.1 ∧ b.1 < (r.length : Int)) : List.Perm (laidS g r a b).flatten ([2 * (g.2.length : Int), 2 * (g.2.length : Int) + 1] ++ r.flatten) := by
  unfold laidS
  split
  · exact put_flat ha.1 ha.2
  · refine (put_flat hb.1 (by rw [putS_len]; exact hb.2)).trans ?_
    refine ((put_flat (hs := [2 * (g.2.length : Int)]) ha.1 ha.2).append_left [2 * (g.2.length : Int) + 1]).trans ?_
    exact List.Perm.swap _ _ _
theorem put_mem {c : Int × Int} {hs : List Int} (h0 : 0 ≤ c.1) (h1 : c.1 < (r.length : Int)) {v x : Int} (hv : 0 ≤ v) (hx : x ∈ gI (putS r c hs) v) : x ∈ gI r v ∨ (v = c.1 ∧ x ∈ hs) := by
  rw [put_gI h0 h1 hv] at hx
  split at hx
  · rename_i c'
    rcases List.mem_append.1 hx with hx | hx
    · rcases List.mem_append.1 hx with hx | hx
      · left; rw [c']; exact List.mem_of_mem_take hx
      · exact .inr ⟨c', hx⟩
    · left; rw [c']; exact List.mem_of_mem_drop hx
  · exact .inl hx
theorem put_keeps {c : Int × Int} {hs : List Int} (h0 : 0 ≤ c.1) (h1 : c.1 < (r.length : Int)) {v x : Int} (hv : 0 ≤ v) (hx : x ∈ gI r v) : x ∈ gI (putS r c hs) v := by
  rw [put_gI h0 h1 hv]
  split
  · rename_i c'
    rw [c'] at hx
    rw [← List.take_append_drop (idxS (gI r c.1) c.2 + 1).toNat (gI r c.1)] at hx
    rcases List.mem_append.1 hx with hx | hx
    · exact List.mem_append_left _ (List.mem_append_left _ hx)
    · exact List.mem_append_right _ hx
  · exact hx
theorem laid_mem (ha : 0 ≤ a.1 ∧ a.1 < (r.length : Int)) (hb : 0 ≤ b.1 ∧ b.1 < (r.length : Int)) {v x : Int} (hv : 0 ≤ v) (hx : x ∈ gI (laidS g r a b) v) : x ∈ gI r v ∨ (v = a.1 ∧ x = 2 * (g.2.length : Int)) ∨ (v = b.1 ∧ x = 2 * (g.2.length : Int) + 1) := by
  unfold laidS at hx
  split at hx
  · rename_i c
    rcases put_mem ha.1 ha.2 hv hx with h | ⟨h1, h2⟩
    · exact .inl h
    · rcases List.mem_cons.1 h2 with h2 | h2
      · exact .inr (.inl ⟨h1, h2⟩)
      · exact .inr (.inr ⟨by rw [← c]; exact h1, by simpa using h2⟩)
  · rcases put_mem hb.1 (by rw [putS_len]; exact hb.2) hv hx with h | ⟨h1, h2⟩
    · rcases put_mem ha.1 ha.2 hv h with h | ⟨h1, h2⟩
      · exact .inl h
      · exact .inr (.inl ⟨h1, by simpa using h2⟩)
    · exact .inr (.inr ⟨h1, by simpa using h2⟩)
theorem laid_from {x : Int} (hx : In (2 * (g.2.length : Int)) x) : fromS (laidN g a b) x = fromS g x := by
  obtain ⟨x0, x1⟩ := hx
  unfold fromS laidN
  simp only
  have : gI (g.2 ++ [(a.1, b.1)]) (x / 2) = gI g.2 (x / 2) := by
    obtain ⟨k, hk⟩ : ∃ k : Nat, x / 2 = (k : Int) := ⟨(x / 2).toNat, by omega⟩
    rw [hk]
    have : k < g.2.length := by omega
    unfold gI
    rw [List.getD_eq_getElem?_getD, List.getD_eq_getElem?_getD, Int.toNat_natCast, List.getElem?_append_left this]
  rw [this]
theorem laid_last : gI (laidN g a b).2 (g.2.length : Int) = (a.1, b.1) := by simp [laidN, gI]
theorem laid_from2 : fromS (laidN g a b) (2 * (g.2.length : Int)) = a.1 ∧ fromS (laidN g a b) (2 * (g.2.length : Int) + 1) = b.1 := by
  unfold fromS
  rw [show 2 * (g.2.length : Int) / 2 = (g.2.length : Int) by omega, show 2 * (g.2.length : Int) % 2 = 0 by omega, show (2 * (g.2.length : Int) + 1) / 2 = (g.2.length : Int) by omega, show (2 * (g.2.length : Int) + 1) % 2 = 1 by omega, laid_last]
  exact ⟨rfl, rfl⟩
theorem laid_len : ((laidN g a b).2.length : Int) = (g.2.length : Int) + 1 := by simp [laidN]
theorem lay_RotP (hr : RotP g r) (ha : 0 ≤ a.1 ∧ a.1 < (r.length : Int)) (hb : 0 ≤ b.1 ∧ b.1 < (r.length : Int)) : RotP (laidN g a b) (laidS g r a b) := by
  have hrl := hr.1
  have hp := laid_flat (g := g) ha hb
  have hin := rot_in hr
  have hlen : (laidS g r a b).length = r.length := by unfold laidS; split <;> simp only [putS_len]
  have h2 := laid_from2 (g := g) (a := a) (b := b)
  refine ⟨by rw [hlen]; exact hrl, fun v hv x hx => ?_, hp.nodup_iff.2 (List.nodup_append.2 ⟨by simp; omega, hr.2.2.1, fun u hu w hw e => ?_⟩), ?_⟩
  · rw [laid_len]
    rcases laid_mem ha hb (by omega) hx with h | ⟨h1, h3⟩ | ⟨h1, h3⟩
    · have h4 := hr.2.1 v (by omega) x h
      exact ⟨by omega, by rw [laid_from h4.1, h4.2]⟩
    · exact ⟨by omega, by rw [h3, h2.1, h1]⟩
    · exact ⟨by omega, by rw [h3, h2.2, h1]⟩
  · have := hin w hw
    obtain ⟨_, w1⟩ := this
    simp only [List.mem_cons, List.not_mem_nil, or_false] at hu
    omega
  · rw [hp.length_eq, laid_len]
    have := hr.2.2.2
    simp only [List.length_append, List.length_cons, List.length_nil]; omega
theorem lay_may (hm : MayP g) (ha : ndP g a.1) (hb : ndP g b.1) (hl : ¬ 3072 ≤ (g.2.length : Int)) : MayP (laidN g a b) := by
  obtain ⟨h1, h2, h3, h4⟩ := hm
  refine ⟨h1, h2, by have := laid_len (g := g) (a := a) (b := b); omega, fun x hx => ?_⟩
  rcases List.mem_append.1 hx with hx | hx
  · exact h4 x hx
  · obtain rfl := List.mem_singleton.1 hx
    exact ⟨ha, hb⟩
/-- a node without half-edges is joined to none -/
theorem alone_Cn (hr : RotP g r) {u v : Int} (hu : ndP g u) (hv : ndP g v) (he : gI r u = []) (hc : Cn g u v) : v = u := by
  have hno : ∀ x ∈ g.2, x.1 ≠ u ∧ x.2 ≠ u := fun x hx => by
    obtain ⟨i, hi, ei⟩ := List.mem_iff_getElem.1 hx
    have ei : gI g.2 (i : Int) = x := by simp [gI, hi, ei]
    have key : ∀ h, In (2 * (g.2.length : Int)) h → fromS g h ≠ u := fun h hh e => by
      obtain ⟨w, hw, hm⟩ := rot_at hr hh.1 hh.2
      have := (hr.2.1 w (by omega) h hm).2
      rw [e] at this
      rw [← this, he] at hm
      cases hm
    have k1 := key (2 * (i : Int)) ⟨by omega, by omega⟩
    have k2 := key (2 * (i : Int) + 1) ⟨by omega, by omega⟩
    unfold fromS at k1 k2
    rw [show 2 * (i : Int) / 2 = (i : Int) by omega, show 2 * (i : Int) % 2 = 0 by omega, ei] at k1
    rw [show (2 * (i : Int) + 1) / 2 = (i : Int) by omega, show (2 * (i : Int) + 1) % 2 = 1 by omega, ei] at k2
    exact ⟨k1, k2⟩
  have := hc (fun x y => x = y ∨ (x ≠ u ∧ y ≠ u)) ⟨fun _ _ => .inl rfl, fun x y _ _ h => h.elim (fun e => .inl e.symm) (fun e => .inr ⟨e.2, e.1⟩), fun x y z _ _ _ h1 h2 => by
    rcases h1 with h1 | h1
    · rw [h1]; exact h2
    · rcases h2 with h2 | h2
      · rw [← h2]; exact .inr h1
      · exact .inr ⟨h1.1, h2.2⟩⟩ (fun x hx => .inr (hno x hx))
  rcases this with h | h
  · exact h.symm
  · exact absurd rfl h.1
/-- an edge laid within a face parts it -/
theorem lay_apart (hm : MayP g) (hr : RotP g r) (ha : cornP g r a) (hb : cornP g r b) (hl : ¬ 3072 ≤ (g.2.length : Int)) (hw : gI (partsR g).1 a.1 = gI (partsR g).1 b.1) {N : Int} (hf : cfaceS r (ofS g r) N a = cfaceS r (ofS g r) N b) :
    ¬ gI (ofS (laidN g a b) (canonS (laidS g r a b))) (2 * (g.2.length : Int)) = gI (ofS (laidN g a b) (canonS (laidS g r a b))) (2 * (g.2.length : Int) + 1) := by
  obtain ⟨hca1, hca2, hca3, hca4⟩ := corn_pre hm hr ha
  obtain ⟨hcb1, hcb2, hcb3, hcb4⟩ := corn_pre hm hr hb
  have hL := lay_RotP (g := g) hr hca1 hcb1
  have hq := hL.canon
  have hlen := laid_len (g := g) (a := a) (b := b)
  have i1 : In (2 * ((laidN g a b).2.length : Int)) (2 * (g.2.length : Int)) := ⟨by omega, by omega⟩
  have i2 : In (2 * ((laidN g a b).2.length : Int)) (2 * (g.2.length : Int) + 1) := ⟨by omega, by omega⟩
  have ht := twin_tw (laidN g a b).2.length
  have t1 : twin (2 * (g.2.length : Int)) = 2 * (g.2.length : Int) + 1 := by unfold twin; rw [if_pos (by omega)]
  have t2 : twin (2 * (g.2.length : Int) + 1) = 2 * (g.2.length : Int) := by unfold twin; rw [if_neg (by omega)]; omega
  have hcan : ∀ z, In (2 * ((laidN g a b).2.length : Int)) z → cy (canonS (laidS g r a b)) z = cy (laidS g r a b) z := fun z hz => by
    rw [cy_succ hq hz, succS_canon hL hz.1 hz.2, ← cy_succ hL hz]
  have hin := rot_in hr
  have hpm := ht.comp (rot_pm hq)
  rw [← of_orb hq i1 i2]
  have hout : ∀ x, 2 * (g.2.length : Int) ≤ x → x ∉ r.flatten := fun x hx hm => by have := (hin x hm).2; omega
  by_cases c : a = b
  · subst c
    intro ho
    have ho' := hpm.eqv.symm _ _ i1 i2 ho
    have hfix : cy (canonS (laidS g r a a)) (2 * (g.2.length : Int)) = 2 * (g.2.length : Int) + 1 := by
      rw [hcan _ i1]
      have eL : laidS g r a a = putS r a [2 * (g.2.length : Int), 2 * (g.2.length : Int) + 1] := by unfold laidS; rw [if_pos rfl]
      obtain ⟨A, B, u, w, e1, e2, e3, e4⟩ := put_parts (hs := [2 * (g.2.length : Int), 2 * (g.2.length : Int) + 1]) (c := a) hca1.1 hca1.2
      have hrow : u ++ [2 * (g.2.length : Int), 2 * (g.2.length : Int) + 1] ++ w = u ++ 2 * (g.2.length : Int) :: ((2 * (g.2.length : Int) + 1) :: w) := by simp
      have hl' : u ++ [2 * (g.2.length : Int), 2 * (g.2.length : Int) + 1] ++ w ∈ laidS g r a a := by rw [eL, e2]; simp
      rw [cy_mem hL.2.2.1 hl' (by simp), hrow, nxt_split (fun hm => ?_)]
      · simp [gI]
      · rw [e4] at hm
        have := hca3 _ (List.mem_of_mem_take hm)
        omega
    have := Orb.ind (S := fun z => z = 2 * (g.2.length : Int) + 1) (fun z hz => by subst hz; rw [t2]; exact hfix) ho' rfl
    omega
  · -- two corners
    have da : ndP g a.1 := ha.1
    have db : ndP g b.1 := hb.1
    have hCn := (parts_lab hm da db).1 hw
    have hea : ¬ ((gI r a.1).length : Int) = 0 := fun h => by
      have hn : gI r a.1 = [] := List.eq_nil_of_length_eq_zero (by omega)
      have e1 := alone_Cn hr da db hn hCn
      have h1 := ha.2
      rw [if_pos h] at h1
      have h2 := hb.2
      rw [e1, if_pos h] at h2
      exact c (Prod.ext e1.symm (by rw [h1, h2]))
    have heb : ¬ ((gI r b.1).length : Int) = 0 := fun h => by
      have hn : gI r b.1 = [] := List.eq_nil_of_length_eq_zero (by omega)
      have e1 := alone_Cn hr db da hn ((Cn.eqv g).symm _ _ da db hCn)
      have h1 := hb.2
      rw [if_pos h] at h1
      have h2 := ha.2
      rw [e1, if_pos h] at h2
      exact c (Prod.ext e1 (by rw [h1, h2]))
    have hA := hca2 (by omega)
    have hB := hcb2 (by omega)
    obtain ⟨A, eA⟩ : ∃ A, A = a.2 := ⟨_, rfl⟩
    obtain ⟨B, eB⟩ : ∃ B, B = b.2 := ⟨_, rfl⟩
    rw [← eA] at hA
    rw [← eB] at hB
    have iA : In (2 * (g.2.length : Int)) A := hca3 A hA
    have iB : In (2 * (g.2.length : Int)) B := hcb3 B hB
    have iA' : In (2 * ((laidN g a b).2.length : Int)) A := ⟨iA.1, by have := iA.2; omega⟩
    have iB' : In (2 * ((laidN g a b).2.length : Int)) B := ⟨iB.1, by have := iB.2; omega⟩
    have fA := (hr.2.1 a.1.toNat (by omega) A (by rw [Int.toNat_of_nonneg hca1.1]; exact hA)).2
    have fB := (hr.2.1 b.1.toNat (by omega) B (by rw [Int.toNat_of_nonneg hcb1.1]; exact hB)).2
    have hAB : A ≠ B := fun e => c (Prod.ext (by rw [e] at fA; omega) (by rw [← eA, ← eB, e]))
    have hA1 := iA.2
    have hB1 := iB.2
    -- rounds
    have n1 : (putS r a [2 * (g.2.length : Int)]).flatten.Nodup := (put_flat hca1.1 hca1.2).nodup_iff.2 (List.nodup_append.2 ⟨by simp, hr.2.2.1, fun u hu w hw e => by
      obtain rfl := List.mem_singleton.1 hu
      subst e; exact hout _ (Int.le_refl _) hw⟩)
    have o1 : 2 * (g.2.length : Int) + 1 ∉ (putS r a [2 * (g.2.length : Int)]).flatten := fun hm => by
      rcases List.mem_append.1 ((put_flat hca1.1 hca1.2).mem_iff.1 hm) with h | h
      · have := List.mem_singleton.1 h; omega
      · exact hout _ (by omega) h
    have c1 : cy (putS r a [2 * (g.2.length : Int)]) = sw (cy r) (2 * (g.2.length : Int)) A := by
      rw [eA]
      exact put_cy hca1.1 hca1.2 (by rw [← eA]; exact hA) hr.2.2.1 (hout _ (Int.le_refl _))
    have c2 : cy (laidS g r a b) = sw (sw (cy r) (2 * (g.2.length : Int)) A) (2 * (g.2.length : Int) + 1) B := by
      have : laidS g r a b = putS (putS r a [2 * (g.2.length : Int)]) b [2 * (g.2.length : Int) + 1] := by unfold laidS; rw [if_neg c]
      rw [this, ← c1, eB]
      exact put_cy hcb1.1 (by rw [putS_len]; exact hcb1.2) (put_keeps hca1.1 hca1.2 hcb1.1 (by rw [← eB]; exact hB)) n1 o1
    have hs : Pm (2 * ((laidN g a b).2.length : Int)) (cy r) := (eul_ex (m := (laidN g a b).2.length) hr.2.2.1 (fun y hy => ⟨(hin y hy).1, by have := (hin y hy).2; omega⟩)).1
    have hs1 := hs.sw i1 iA'
    have hp := ht.comp hs
    have hp1 := ht.comp hs1
    have tA := ht.rng A iA'
    have tB := ht.rng B iB'
    have tb0 := twin_in (n := (g.2.length : Int)) iB.1 iB.2
    have ta0 := twin_in (n := (g.2.length : Int)) iA.1 iA.2
    have s2m : cy r (2 * (g.2.length : Int)) = 2 * (g.2.length : Int) := cy_out (hout _ (Int.le_refl _))
    have s2m1 : cy r (2 * (g.2.length : Int) + 1) = 2 * (g.2.length : Int) + 1 := cy_out (hout _ (by omega))
    -- the two new ones are a round of their own, as long as nothing is put in
    have hno : ¬ Orb (fun z => cy r (twin z)) (2 * (g.2.length : Int) + 1) (twin A) := fun ho => by
      have := Orb.ind (S := fun z => z = 2 * (g.2.length : Int) ∨ z = 2 * (g.2.length : Int) + 1) (fun z hz => by
        rcases hz with rfl | rfl
        · right; rw [t1, s2m1]
        · left; rw [t2, s2m]) ho (.inr rfl)
      omega
    have st : ∀ z, In (2 * ((laidN g a b).2.length : Int)) z → Orb (fun z => cy r (twin z)) (twin z) (cy r z) := fun z hz => by
      have := Orb.step (fun z => cy r (twin z)) (twin z)
      simp only [ht.inv z hz] at this
      exact this
    have hface : Orb (fun z => cy r (twin z)) (cy r A) (cy r B) := by
      rw [of_orb hr ((rot_pm hr).rng A iA) ((rot_pm hr).rng B iB)]
      have hrowA := gI_mem (xs := r) hca1.1 hca1.2
      have hrowB := gI_mem (xs := r) hcb1.1 hcb1.2
      rw [cy_mem hr.2.2.1 hrowA hA, cy_mem hr.2.2.1 hrowB hB]
      unfold cfaceS at hf
      rw [if_pos (by omega), if_pos (by omega), ← eA, ← eB] at hf
      unfold idxS at hf
      rw [if_pos hA, if_pos hB] at hf
      exact hf
    have hAB' : Orb (fun z => cy r (twin z)) (twin A) (twin B) := (st A iA').trans (hface.trans (hp.eqv.symm _ _ tB (hs.rng B iB') (st B iB')))
    have hpsi : Orb (fun z => sw (cy r) (2 * (g.2.length : Int)) A (twin z)) (2 * (g.2.length : Int)) (twin B) := by
      have h1 : Orb (sw (fun z => cy r (twin z)) (twin (2 * (g.2.length : Int))) (twin A)) (2 * (g.2.length : Int)) (twin B) := by
        rw [t1, sw_orb hp i2 tA hno i1 tB]
        refine .inr (.inl ⟨?_, hAB'⟩)
        have := Orb.step (fun z => cy r (twin z)) (2 * (g.2.length : Int))
        simp only [t1, s2m1] at this
        exact this
      exact (Orb.iff (hp.sw (ht.rng _ i1) tA) (fun z hz => sw_twin ht i1 iA' hz) i1).1 h1
    have hap := sw_apart hp1 i1 tB (by omega) hpsi
    intro ho
    apply hap
    have hfx : ∀ z, In (2 * ((laidN g a b).2.length : Int)) z → cy (canonS (laidS g r a b)) (twin z) = sw (fun z => sw (cy r) (2 * (g.2.length : Int)) A (twin z)) (2 * (g.2.length : Int)) (twin B) z := fun z hz => by
      rw [hcan _ (ht.rng z hz), c2]
      have := sw_twin (s := sw (cy r) (2 * (g.2.length : Int)) A) ht i2 iB' hz
      rw [t2] at this
      exact this.symm
    have hO : Orb (fun z => cy (canonS (laidS g r a b)) (twin z)) (2 * (g.2.length : Int)) (twin B) := by
      refine ho.trans (hpm.eqv.symm _ _ tB i2 ?_)
      have h2 := Orb.step (fun z => cy (canonS (laidS g r a b)) (twin z)) (twin B)
      simp only [ht.inv B iB'] at h2
      rw [hcan B iB', c2, sw_b, sw_o _ (by omega) (by omega), s2m1] at h2
      exact h2
    exact (Orb.iff hpm hfx i1).1 hO
end
end TL
/-
  TlLay2: an edge laid keeps the genus, makes one face of one more, or of two components one; taken again all is as it was.
  By an AI agent.
-/
set_option linter.all false
namespace TL
theorem turn_turn {l : List Int} (hn : l.Nodup) : turnS (turnS l) = turnS l := by
  by_cases h : l = []
  · subst h; rfl
  · have e : turnS l = l.drop (l.idxOf (minL l)) ++ l.take (l.idxOf (minL l)) := by unfold turnS; rw [if_neg h]
    have h2 := turnS_swap (A := l.take (l.idxOf (minL l))) (B := l.drop (l.idxOf (minL l))) (by rw [List.take_append_drop]; exact hn)
    rw [List.take_append_drop] at h2
    rw [← h2]
    conv => lhs; rw [h2, e]
theorem keepRow_app (K A B : List Int) : keepRow K (A ++ B) = keepRow K A ++ keepRow K B := by
  unfold keepRow
  rw [List.filter_append, List.map_append]
/-- turned ahead or behind: the same list, turned -/
theorem keep_turn {K l : List Int} (hn : (keepRow K l).Nodup) : turnS (keepRow K (turnS l)) = turnS (keepRow K l) := by
  by_cases h : l = []
  · subst h; rfl
  · have e : turnS l = l.drop (l.idxOf (minL l)) ++ l.take (l.idxOf (minL l)) := by unfold turnS; rw [if_neg h]
    have e2 : keepRow K l = keepRow K (l.take (l.idxOf (minL l))) ++ keepRow K (l.drop (l.idxOf (minL l))) := by rw [← keepRow_app, List.take_append_drop]
    rw [e, keepRow_app, e2]
    rw [e2] at hn
    exact turnS_swap hn
theorem but_last (m : Nat) : butK (m : Int) (m + 1) = iotaI m := by
  rw [butK_no rfl]
  unfold butK
  exact List.filter_eq_self.2 fun i hi => by
    have := iota_mem.1 hi
    simp; omega
theorem keepRow_new {m : Nat} {hs : List Int} (h : ∀ x ∈ hs, 2 * (m : Int) ≤ x) : keepRow (iotaI m) hs = [] := by
  unfold keepRow
  rw [List.filter_eq_nil_iff.2]
  · rfl
  · intro x hx
    have := h x hx
    have hno : x / 2 ∉ iotaI m := fun hm => by have := iota_mem.1 hm; omega
    unfold posS
    rw [if_neg hno]; simp
section
variable {g : Net} {r : Rot} {a b : Int × Int}
theorem put_keep {c : Int × Int} {hs : List Int} {R : Rot} {m : Nat} (h0 : 0 ≤ c.1) (h1 : c.1 < (R.length : Int)) (hh : ∀ x ∈ hs, 2 * (m : Int) ≤ x) {v : Int} (hv : 0 ≤ v) : keepRow (iotaI m) (gI (putS R c hs) v) = keepRow (iotaI m) (gI R v) := by
  rw [put_gI h0 h1 hv]
  split
  · rename_i e
    rw [keepRow_app, keepRow_app, keepRow_new hh, List.append_nil, ← keepRow_app, List.take_append_drop, e]
  · rfl
theorem laid_keep (hr : RotP g r) (ha : 0 ≤ a.1 ∧ a.1 < (r.length : Int)) (hb : 0 ≤ b.1 ∧ b.1 < (r.length : Int)) {v : Nat} (hv : v < r.length) : keepRow (iotaI g.2.length) (gI (laidS g r a b) (v : Int)) = gI r (v : Int) := by
  have hall : keepRow (iotaI g.2.length) (gI r (v : Int)) = gI r (v : Int) := keepRow_all fun h hh => (hr.2.1 v hv h hh).1
  unfold laidS
  split
  · rw [put_keep ha.1 ha.2 (by simp; omega) (by omega), hall]
  · rw [put_keep hb.1 (by rw [putS_len]; exact hb.2) (by simp; omega) (by omega), put_keep ha.1 ha.2 (by simp) (by omega), hall]
/-- the laid edge taken again -/
theorem laid_take (hr : RotP g r) (ha : 0 ≤ a.1 ∧ a.1 < (r.length : Int)) (hb : 0 ≤ b.1 ∧ b.1 < (r.length : Int)) : canonS (canonS ((canonS (laidS g r a b)).map (keepRow (iotaI g.2.length)))) = canonS r := by
  have hlen : (laidS g r a b).length = r.length := by unfold laidS; split <;> simp only [putS_len]
  apply list_ext_gI
  · simp [canonS, hlen]
  · intro v hv
    simp only [canonS, List.length_map, hlen] at hv
    have hrow := row_nodup hr (v := v) (by omega)
    have hk := laid_keep hr ha hb hv
    rw [canon_gI (by simp [canonS, hlen]; omega), canon_gI (by simp [canonS, hlen]; omega), gI_map _ (by omega) (by simp [canonS, hlen]; omega), canon_gI (by omega), canon_gI (by omega), keep_turn (by rw [hk]; exact hrow), hk, turn_turn hrow]
theorem faces_same {y : Rot} (hy : RotP g y) (hr : RotP g r) (h : canonS y = canonS r) : facesS (nextS g y) y = facesS (nextS g r) r := by
  have e1 : nextS g y = nextS g r := next_congr rfl fun x x0 x1 => by rw [← succS_canon hy x0 x1, ← succS_canon hr x0 x1, h]
  rw [e1]
  exact faces_congr (by rw [← canon_empty y, ← canon_empty r, h])
/-- what is known of a laid edge -/
structure LayL (g : Net) (r : Rot) (a b : Int × Int) : Prop where
  may : MayP g
  rot : RotP g r
  nd : (0 ≤ a.1 ∧ a.1 < g.1) ∧ 0 ≤ b.1 ∧ b.1 < g.1
  may' : MayP (layR g r a b).1
  rot' : RotP (layR g r a b).1 (layR g r a b).2.1
  gen : genusS (layR g r a b).1 (layR g r a b).2.1 = genusS g r
  win : gI (partsR g).1 a.1 = gI (partsR g).1 b.1 → ((facesS (nextS (layR g r a b).1 (layR g r a b).2.1) (layR g r a b).2.1).length : Int) = ((facesS (nextS g r) r).length : Int) + 1 ∧ (partsR (layR g r a b).1).2.1 = (partsR g).2.1
  nwin : ¬ gI (partsR g).1 a.1 = gI (partsR g).1 b.1 → ((facesS (nextS (layR g r a b).1 (layR g r a b).2.1) (layR g r a b).2.1).length : Int) = ((facesS (nextS g r) r).length : Int) - 1 ∧ (partsR (layR g r a b).1).2.1 = (partsR g).2.1 - 1
  tk : (takeR (layR g r a b).1 (layR g r a b).2.1 (g.2.length : Int)).2.2 = 0
  tk1 : (takeR (layR g r a b).1 (layR g r a b).2.1 (g.2.length : Int)).1 = g
  tk2 : canonS (takeR (layR g r a b).1 (layR g r a b).2.1 (g.2.length : Int)).2.1 = canonS r
theorem layR_yes (h : (layR g r a b).2.2 = 0) : MayP g ∧ RotP g r ∧ cornP g r a ∧ cornP g r b ∧ ¬ 3072 ≤ (g.2.length : Int) ∧ (gI (partsR g).1 a.1 = gI (partsR g).1 b.1 → cfaceS r (ofS g r) (filledS (facesR g r).1) a = cfaceS r (ofS g r) (filledS (facesR g r).1) b) ∧ layR g r a b = (laidN g a b, canonS (laidS g r a b), 0) := by
  unfold layR at h ⊢
  by_cases c : (facesR g r).2 = 0
  · rw [if_pos c] at h ⊢
    by_cases c2 : cornP g r a ∧ cornP g r b
    · rw [if_pos c2] at h ⊢
      by_cases c3 : 3072 ≤ (g.2.length : Int)
      · rw [if_pos c3] at h; cases h
      · rw [if_neg c3] at h ⊢
        obtain ⟨hm, hr⟩ := rmay_ok (facesR_may c)
        have eo : (ofR g r).1 = ofS g r := by rw [ofR_yes (rmay_yes hm hr)]
        rw [eo] at h ⊢
        by_cases c4 : gI (partsR g).1 a.1 = gI (partsR g).1 b.1 ∧ cfaceS r (ofS g r) (filledS (facesR g r).1) a ≠ cfaceS r (ofS g r) (filledS (facesR g r).1) b
        · rw [if_pos c4] at h; cases h
        · rw [if_neg c4]
          have hca := corn_pre hm hr c2.1
          have hcb := corn_pre hm hr c2.2
          rw [canonR_yes (lay_may hm c2.1.1 c2.2.1 c3) (lay_RotP hr hca.1 hcb.1)]
          exact ⟨hm, hr, c2.1, c2.2, c3, fun hw => by
            by_cases c5 : cfaceS r (ofS g r) (filledS (facesR g r).1) a = cfaceS r (ofS g r) (filledS (facesR g r).1) b
            · exact c5
            · exact absurd ⟨hw, c5⟩ c4, rfl⟩
    · rw [if_neg c2] at h; cases h
  · rw [if_neg c] at h; exact absurd h c
theorem layR_bad (h : ¬ (layR g r a b).2.2 = 0) : (layR g r a b).1.1 = 0 ∧ (layR g r a b).2.1 = [] := by
  unfold layR at h ⊢
  by_cases c : (facesR g r).2 = 0
  · rw [if_pos c] at h ⊢
    by_cases c2 : cornP g r a ∧ cornP g r b
    · rw [if_pos c2] at h ⊢
      by_cases c3 : 3072 ≤ (g.2.length : Int)
      · rw [if_pos c3]; exact ⟨rfl, rfl⟩
      · rw [if_neg c3] at h ⊢
        split
        · exact ⟨rfl, rfl⟩
        · rename_i c4
          rw [if_neg c4] at h; exact absurd rfl h
    · rw [if_neg c2]; exact ⟨rfl, rfl⟩
  · rw [if_neg c]; exact ⟨rfl, rfl⟩
theorem lay_law (h : (layR g r a b).2.2 = 0) : LayL g r a b := by
  obtain ⟨hm, hr, ha, hb, hl, hf, hE⟩ := layR_yes h
  have hca := corn_pre hm hr ha
  have hcb := corn_pre hm hr hb
  have hm' := lay_may hm ha.1 hb.1 hl
  have hq := (lay_RotP (g := g) hr hca.1 hcb.1).canon
  have hlen := laid_len (g := g) (a := a) (b := b)
  have hlen' : (laidN g a b).2.length = g.2.length + 1 := by omega
  have hlast := laid_last (g := g) (a := a) (b := b)
  have hbut : butK (g.2.length : Int) (laidN g a b).2.length = iotaI g.2.length := by rw [hlen', but_last]
  have hin : ∀ i ∈ iotaI g.2.length, 0 ≤ i ∧ i < ((laidN g a b).2.length : Int) := fun i hi => by
    have := iota_mem.1 hi; omega
  have htk : (takeR (laidN g a b) (canonS (laidS g r a b)) (g.2.length : Int)).2.2 = 0 := by
    unfold takeR
    rw [if_pos (rmay_yes hm' hq), if_neg (by omega), hbut]
    unfold rsubR
    rw [if_pos (rmay_yes hm' hq)]
    have : (subR (laidN g a b) (iotaI g.2.length)).2 = 0 := by
      unfold subR
      rw [if_pos hm', if_pos (chosenS_zero hin (iota_nodup _))]
    rw [if_pos this]
  have hT := take_law htk
  have heq := hT.eq
  rw [hbut] at heq
  have hg1 : (takeR (laidN g a b) (canonS (laidS g r a b)) (g.2.length : Int)).1 = g := by
    rw [heq]
    have : (iotaI g.2.length).map (gI (laidN g a b).2) = g.2 := by
      apply list_ext_gI
      · simp [iota_len]
      · intro i hi
        simp only [List.length_map, iota_len] at hi
        rw [gI_map _ (by omega) (by rw [iota_len]; omega)]
        have e1 : gI (iotaI g.2.length) (i : Int) = (i : Int) := by simp [iotaI, gI, hi]
        rw [e1]
        unfold laidN
        simp only
        unfold gI
        rw [List.getD_eq_getElem?_getD, List.getD_eq_getElem?_getD, Int.toNat_natCast, List.getElem?_append_left hi]
    rw [this]; rfl
  have hg2 : canonS (takeR (laidN g a b) (canonS (laidS g r a b)) (g.2.length : Int)).2.1 = canonS r := by
    rw [heq]; exact laid_take hr hca.1 hcb.1
  have hyr := hT.rot'
  rw [hg1] at hyr
  have hfs := faces_same hyr hr hg2
  have hgs : genusS g (takeR (laidN g a b) (canonS (laidS g r a b)) (g.2.length : Int)).2.1 = genusS g r := by unfold genusS; rw [hfs]
  have hfaces := hT.faces
  have hcomps := hT.comps
  have hless := hT.less
  have hsame := hT.same
  rw [hg1] at hfaces hcomps hless hsame
  rw [hfs] at hfaces
  rw [hgs] at hless hsame
  rw [hlast] at hcomps hless hsame
  simp only at hcomps hless hsame
  have ok1 := genus_ok hm hr
  have ok2 := genus_ok hm' hq
  have g1 : genusS g r = (2 * (partsR g).2.1 - g.1 + (g.2.length : Int) - ((facesS (nextS g r) r).length : Int)) / 2 := by
    unfold genusS; exact Int.tdiv_eq_ediv_of_nonneg ok1.1
  have g2 : genusS (laidN g a b) (canonS (laidS g r a b)) = (2 * (partsR (laidN g a b)).2.1 - (laidN g a b).1 + ((laidN g a b).2.length : Int) - ((facesS (nextS (laidN g a b) (canonS (laidS g r a b))) (canonS (laidS g r a b))).length : Int)) / 2 := by
    unfold genusS; exact Int.tdiv_eq_ediv_of_nonneg ok2.1
  have hn1 : (laidN g a b).1 = g.1 := rfl
  refine ⟨hm, hr, ⟨ha.1, hb.1⟩, by rw [hE]; exact hm', by rw [hE]; exact hq, ?_, ?_, ?_, by rw [hE]; exact htk, by rw [hE]; exact hg1, by rw [hE]; exact hg2⟩
  · rw [hE]
    simp only
    by_cases hw : gI (partsR g).1 a.1 = gI (partsR g).1 b.1
    · have hap := lay_apart hm hr ha hb hl hw (hf hw)
      exact (hsame fun c => hap c.1).symm
    · exact (hsame fun c => hw c.2).symm
  · intro hw
    rw [hE]
    simp only
    have hap := lay_apart hm hr ha hb hl hw (hf hw)
    rcases hfaces with ⟨c1, _⟩ | ⟨_, c2⟩
    · exact absurd c1 hap
    · rcases hcomps with ⟨_, d2⟩ | ⟨d1, _⟩
      · exact ⟨by omega, d2.symm⟩
      · exact absurd hw d1
  · intro hw
    rw [hE]
    simp only
    rcases hcomps with ⟨d1, _⟩ | ⟨_, d2⟩
    · exact absurd d1 hw
    · have h5 := hsame fun c => hw c.2
      rw [g1, g2] at h5
      rcases hfaces with ⟨_, c2⟩ | ⟨_, c2⟩
      · exact ⟨by omega, by omega⟩
      · exfalso; omega
end
end TL
/-
  TlOpen: arguments opened: what a law's reader says of a slice is what a walk wants of it.
  By an AI agent.
-/
namespace TL
open Go Go.Proofs Go.ChangeShapes Go.WideShapes Go.Joins Go.Deep
structure BulkOk {H : Type} (f : DataW H → Nat) : Prop where
  slice : ∀ l s : List (DataW H), l.length ≤ f (.slice l s)
  elem : ∀ l s : List (DataW H), ∀ d ∈ l, f d ≤ f (.slice l s)
  part : ∀ l : List (DataW H), ∀ d ∈ l, f d ≤ f (.agg l)
/-- cells that hold no pointer -/
def OpnF (α : Type) [Rp α] (P : Program) (t : TypeId) : Prop :=
  ∀ {H : Type} (enc : TypeId × Value → H) (w : World) (fuel : Nat) (cs : List Value) (x : DataW H × List MemPlace), DataW.trod enc P w 0 (fun _ => true) true fuel t cs = some x → ∃ y : α, Rp.rep c0 any w cs y
theorem opn_int {P : Program} {t : TypeId} (ht : P.underlying t = some (.int .i64)) : OpnF Int P t := by
  intro H enc w fuel cs x h
  obtain ⟨n, rfl, _, _⟩ := DataW.trod_int ht h
  exact ⟨n, rfl⟩
theorem trod_array2 {H : Type} {enc : TypeId × Value → H} {P : Program} {w : World} {base : Nat} {spare : Nat → Bool} {held : Bool} {t e : TypeId} {fuel : Nat} {cs : List Value} {x : DataW H × List MemPlace} (ht : P.underlying t = some (.array 2 e)) (hce : P.cellsOf e = 1) (hct : P.cellsOf t = 2)
    (h : DataW.trod enc P w base spare held fuel t cs = some x) :
    ∃ v0 v1 y0 y1 n, cs = [v0, v1] ∧ x = (.agg [y0.1, y1.1], y0.2 ++ y1.2) ∧ DataW.trod enc P w base spare held n e [v0] = some y0 ∧ DataW.trod enc P w base spare held n e [v1] = some y1 := by
  cases fuel with
  | zero => simp [DataW.trod] at h
  | succ n =>
    unfold DataW.trod at h
    rw [ht] at h
    have r2 : List.range 2 = [0, 1] := rfl
    simp only [hct] at h
    by_cases hl : cs.length = 2
    · rw [if_pos hl] at h
      match cs, hl with
      | [v0, v1], _ =>
        simp [r2, hce] at h
        cases h0 : DataW.trod enc P w base spare held n e [v0] with
        | none => simp [h0] at h
        | some y0 =>
          cases h1 : DataW.trod enc P w base spare held n e [v1] with
          | none => simp [h0, h1] at h
          | some y1 =>
            simp [h0, h1] at h
            exact ⟨v0, v1, y0, y1, n, rfl, h.symm, h0, h1⟩
    · rw [if_neg hl] at h; cases h
theorem opn_two {P : Program} {t e : TypeId} (ht : P.underlying t = some (.array 2 e)) (he : P.underlying e = some (.int .i64)) (hce : P.cellsOf e = 1) (hct : P.cellsOf t = 2) : OpnF (Int × Int) P t := by
  intro H enc w fuel cs x h
  obtain ⟨v0, v1, y0, y1, n, rfl, _, h0, h1⟩ := trod_array2 ht hce hct h
  obtain ⟨a, ha⟩ := opn_int he enc w n [v0] y0 h0
  obtain ⟨b, hb⟩ := opn_int he enc w n [v1] y1 h1
  exact ⟨(a, b), [v0], [v1], rfl, ha, hb⟩
/-- a slice of such cells -/
theorem opn_slice {α : Type} [Rp α] [Inhabited α] {P : Program} {t e : TypeId} (ht : P.underlying t = some (.slice e)) (hc : P.cellsOf e = Rp.sz α) (hz : 0 < Rp.sz α) (he : OpnF α P e)
    {H : Type} {enc : TypeId × Value → H} {w : World} {f : DataW H → Nat} (hf : BulkOk f) {fuel : Nat} {v : Value} {x : DataW H × List MemPlace}
    (hs : ∀ a len cap, v = .slice (some a) len cap → a.spot = none) (h : DataW.trod enc P w 0 (fun _ => true) true fuel t [v] = some x) (hb : f x.1 ≤ 1048576) : ∃ xs : List α, Ro w v xs := by
  rcases Deep.open_slice ht h with ⟨h0, _⟩ | ⟨a, len, cap, m, n, D, Pl, h0, _, hlc, _, hm, rfl, hx⟩
  · obtain rfl : v = .slice none 0 0 := by simpa using h0
    exact ⟨[], .inl ⟨⟨_, rfl⟩, rfl⟩⟩
  · obtain rfl : v = .slice (some a) len cap := by simpa using h0
    have hsp := hs a len cap rfl
    obtain ⟨b, off, spot⟩ := a
    obtain rfl : spot = none := hsp
    simp only [if_true] at hm
    subst hm
    obtain ⟨Y, hY⟩ := Deep.choose_lt (α := α) (n := len) (p := fun i y => ∃ cs, (∀ j, j < Rp.sz α → w.cell? ⟨b, off + i * Rp.sz α + j, none⟩ = cs[j]?) ∧ Rp.rep c0 any w cs y) (fun i hi => by
      obtain ⟨cs', h1, h2⟩ := hx i (by omega)
      obtain ⟨y, hy⟩ := he enc w n cs' _ h2
      refine ⟨y, cs', fun j hj => ?_, hy⟩
      obtain ⟨_, hl, hcell⟩ := World.cells?_some h1
      have := hcell j (by omega)
      rw [Deep.add_add, hc] at this
      rw [← this]
      unfold Addr.add
      by_cases hij : i * Rp.sz α + j = 0
      · rw [if_pos hij, Nat.add_assoc, hij]; rfl
      · rw [if_neg hij, Nat.add_assoc])
    have hlen : ((List.range len).map Y).length = len := by simp
    have hbound := Nat.le_trans (hf.slice _ _) hb
    refine ⟨(List.range len).map Y, .inr ⟨b, off, m, by rw [hlen], ⟨by omega, by simp at hbound; omega⟩, fun i y hi => ?_⟩⟩
    have hil : i < len := by
      have := (List.getElem?_eq_some_iff.1 hi).1
      omega
    obtain rfl : Y i = y := by simpa [hil] using hi
    obtain ⟨cs, h1, h2⟩ := hY i hil
    refine ⟨?_, trivial, cs, h1, h2⟩
    have h3 := h1 0 hz
    have h4 := Rp.len h2
    have h5 : 0 < cs.length := by omega
    rw [List.getElem?_eq_getElem h5] at h3
    by_cases hbl : b < w.heap.size
    · exact hbl
    · have : w.heap[b]? = none := Array.getElem?_eq_none (by omega)
      simp [World.cell?, this] at h3
theorem spot_of_cell {P : Program} {w : World} {base : Nat} {t e : TypeId} {v : Value} (ht : P.underlying t = some (.slice e)) (h : Cell.okWide P w .any base t v) : ∀ a len cap, v = .slice (some a) len cap → a.spot = none := by
  rintro a len cap rfl
  simp only [Cell.okWide, Cell.ok, ht] at h
  exact h.2.2.2.1
/-- an argument that is an int and a slice -/
theorem top_net {α : Type} [Rp α] [Inhabited α] {P : Program} {t t0 t1 e : TypeId} {f0 f1 : Field} (hs : P.underlying t = some (.struct #[f0, f1])) (hone : oneCellFields P #[f0, f1] = true) (hC : P.cellsOf t = 2) (hts : P.cellTypes P.depth t = some [t0, t1])
    (h0 : f0.type = t0) (h1 : f1.type = t1) (hi : P.underlying t0 = some (.int .i64)) (ht : P.underlying t1 = some (.slice e)) (hc : P.cellsOf e = Rp.sz α) (hz : 0 < Rp.sz α) (he : OpnF α P e)
    {H : Type} {enc : TypeId × Value → H} {w : World} {f : DataW H → Nat} (hf : BulkOk f) {base : Nat} {v : Value} {d : DataW H} {p : List MemPlace}
    (hval : Value.okWide P w .any base t v) (h : DataW.Trod enc P w 0 (fun _ => true) true t v d p) (hb : f d ≤ 1048576) : ∃ (n : Int) (u : Value) (xs : List α), v = .agg #[.int .i64 n, u] ∧ Ro w u xs := by
  obtain ⟨v0, v1, y0, y1, n, rfl, rfl, rfl, r0, r1⟩ := open_agg2 hs hone hC hval h
  subst h0 h1
  obtain ⟨k, hk, _, _⟩ := DataW.trod_int hi r0
  obtain rfl : v0 = .int .i64 k := by simpa using hk
  have hcell : Cell.okWide P w .any base f1.type v1 := by
    simp only [Value.okWide, hs] at hval
    obtain ⟨cs, hcs, _, ts, h3, _, h4⟩ := hval
    rw [hts] at h3
    obtain rfl := Option.some.inj h3
    obtain rfl : #[Value.int .i64 k, v1] = cs := by simpa using hcs
    obtain ⟨u, hu, hk⟩ := h4 1 v1 rfl
    simp at hu
    subst hu
    exact hk
  obtain ⟨xs, hx⟩ := opn_slice ht hc hz he hf (spot_of_cell ht hcell) (x := y1) r1 (Nat.le_trans (hf.part _ _ (by simp)) hb)
  exact ⟨k, v1, xs, rfl, hx⟩
/-- a slice of ints within another slice -/
theorem opn_inner {P : Program} {e q : TypeId} (he : P.underlying e = some (.slice q)) (hq : P.underlying q = some (.int .i64)) (hcq : P.cellsOf q = 1)
    {H : Type} {enc : TypeId × Value → H} {w : World} {f : DataW H → Nat} (hf : BulkOk f) {fuel : Nat} {u : Value} {x : DataW H × List MemPlace}
    (h : DataW.trod enc P w 0 (fun _ => true) true fuel e [u] = some x) (hb : f x.1 ≤ 1048576) : ∃ xs : List Int, Ro w u xs ∧ xs.length ≤ 1048576 := by
  have h' := h
  rcases Deep.open_slice he h with ⟨h0, _⟩ | ⟨a, len, cap, m, n, D, Pl, h0, _, hlc, _, hm, rfl, hx⟩
  · obtain rfl : u = .slice none 0 0 := by simpa using h0
    exact ⟨[], .inl ⟨⟨_, rfl⟩, rfl⟩, by simp⟩
  · obtain rfl : u = .slice (some a) len cap := by simpa using h0
    simp only [if_true] at hm
    subst hm
    by_cases hc : m = 0
    · have hl : len = 0 := by omega
      subst hl hc
      exact ⟨[], .inl ⟨⟨_, rfl⟩, rfl⟩, by simp⟩
    · obtain ⟨cs', h1, h2⟩ := hx 0 (by omega)
      obtain ⟨_, hl, hcell⟩ := World.cells?_some h1
      have h3 := hcell 0 (by rw [hcq]; omega)
      have h4 : 0 < cs'.length := by rw [hl, hcq]; omega
      rw [List.getElem?_eq_getElem h4] at h3
      have hs : a.spot = none := by
        have := World.cell?_spot h3
        simpa [Addr.add] using this
      obtain ⟨xs, hxs⟩ := opn_slice he (α := Int) (by rw [hcq]; rfl) (by decide) (opn_int hq) hf (by rintro a' len' cap' e'; cases e'; exact hs) h' hb
      have hform := hxs.form
      have hlen : xs.length = len := by
        cases hform; rfl
      have hbound := Nat.le_trans (hf.slice _ _) hb
      exact ⟨xs, hxs, by simp at hbound; omega⟩
/-- an argument that is a slice of slices of ints -/
theorem top_rot {P : Program} {t e q : TypeId} (ht : P.underlying t = some (.slice e)) (he : P.underlying e = some (.slice q)) (hq : P.underlying q = some (.int .i64)) (hce : P.cellsOf e = 1) (hcq : P.cellsOf q = 1)
    {H : Type} {enc : TypeId × Value → H} {w : World} {f : DataW H → Nat} (hf : BulkOk f) {base : Nat} {v : Value} {d : DataW H} {p : List MemPlace}
    (hval : Value.okWide P w .any base t v) (h : DataW.Trod enc P w 0 (fun _ => true) true t v d p) (hb : f d ≤ 1048576) : ∃ xss : List (List Int), Ro w v xss ∧ (xss.length : Int) ≤ 1048576 ∧ ∀ l ∈ xss, l.length ≤ 1048576 := by
  obtain ⟨a, len, cap, rfl⟩ := okWide_slice ht hval
  have hs := spot_of_cell (w := w) (base := base) (v := .slice a len cap) ht (by simpa [Value.okWide, ht] using hval)
  obtain ⟨fuel, hfu⟩ := h
  rcases Deep.open_slice ht hfu with ⟨h0, _⟩ | ⟨a', len', cap', m, n, D, Pl, h0, _, hlc, _, hm, hd, hx⟩
  · have h0' : (Value.slice a len cap) = .slice none 0 0 := by simpa [Value.cells] using h0
    rw [h0']
    exact ⟨[], .inl ⟨⟨_, rfl⟩, rfl⟩, by simp, by simp⟩
  · have h0' : (Value.slice a len cap) = .slice (some a') len' cap' := by simpa [Value.cells] using h0
    cases h0'
    have hsp := hs a' len cap rfl
    obtain ⟨b, off, spot⟩ := a'
    obtain rfl : spot = none := hsp
    simp only [if_true] at hm
    subst hm
    obtain ⟨rfl, _⟩ : d = _ ∧ p = _ := by simpa using hd
    have hbound := Nat.le_trans (hf.slice _ _) hb
    obtain ⟨Y, hY⟩ := Deep.choose_lt (α := List Int) (n := len) (p := fun i y => (∃ cs, (∀ j, j < Rp.sz (List Int) → w.cell? ⟨b, off + i * Rp.sz (List Int) + j, none⟩ = cs[j]?) ∧ Rp.rep c0 any w cs y) ∧ y.length ≤ 1048576) (fun i hi => by
      obtain ⟨cs', h1, h2⟩ := hx i (by omega)
      obtain ⟨_, hl, hcell⟩ := World.cells?_some h1
      rw [hce] at hl
      obtain ⟨u, rfl⟩ : ∃ u, cs' = [u] := by
        match cs', hl with
        | [u], _ => exact ⟨u, rfl⟩
      obtain ⟨y, hy, hyl⟩ := opn_inner he hq hcq hf h2 (Nat.le_trans (hf.elem _ _ _ (by simp; exact ⟨i, hi, rfl⟩)) hb)
      refine ⟨y, ⟨[u], fun j hj => ?_, u, rfl, hy⟩, hyl⟩
      have hj0 : j < 1 := hj
      have := hcell j (by rw [hce]; exact hj0)
      rw [Deep.add_add, hce] at this
      rw [← this]
      show w.cell? ⟨b, off + i * 1 + j, none⟩ = _
      unfold Addr.add
      by_cases hij : i * 1 + j = 0
      · rw [if_pos hij, Nat.add_assoc, hij]; rfl
      · rw [if_neg hij, Nat.add_assoc])
    have hlen : ((List.range len).map Y).length = len := by simp
    have hll : len ≤ 1048576 := by simp at hbound; omega
    refine ⟨(List.range len).map Y, .inr ⟨b, off, m, by rw [hlen], ⟨by omega, by omega⟩, fun i y hi => ?_⟩, by simp; omega, fun l hl => ?_⟩
    · have hil : i < len := by
        have := (List.getElem?_eq_some_iff.1 hi).1
        omega
      obtain rfl : Y i = y := by simpa [hil] using hi
      obtain ⟨⟨cs, h1, h2⟩, _⟩ := hY i hil
      refine ⟨?_, trivial, cs, h1, h2⟩
      have h3 := h1 0 (by decide)
      have h4 := Rp.len h2
      have h5 : 0 < cs.length := by rw [h4]; decide
      rw [List.getElem?_eq_getElem h5] at h3
      by_cases hbl : b < w.heap.size
      · exact hbl
      · have : w.heap[b]? = none := Array.getElem?_eq_none (by omega)
        simp [World.cell?, this] at h3
    · obtain ⟨i, hi, rfl⟩ := List.mem_map.1 hl
      exact (hY i (List.mem_range.1 hi)).2
end TL
/-
  TlPost: what is owed behind a law that returns true and writes nothing of the caller's.
  By an AI agent.
-/
namespace TL
open Go Go.Proofs Go.ChangeShapes Go.WideShapes Go.RowKit
def rowed (P : Program) (ts : List TypeId) : Bool := ts.all fun t => P.readableRec t && decide (t < P.types.size)
theorem all_stays {H : Type} {enc : TypeId × Value → H} {P : Program} (hl : laidOutB P = true) {W W' : World} (hb : Below W.heap.size W W') (sp : Nat → Bool) :
    ∀ {ts : List TypeId} {vs : List Value} {ds : List (DataW H)} {ps : List MemPlace}, rowed P ts = true → DataW.TrodAll enc P W 0 (fun _ => true) true ts vs ds ps → (∀ p ∈ ps, p.block < W.heap.size) → (∀ p ∈ ps, sp p.block = true) → DataW.TrodAll enc P W' 0 sp true ts vs ds ps
  | [], [], [], _, _, h, _, _ => h
  | [], [], _ :: _, _, _, h, _, _ => h.elim
  | [], _ :: _, _, _, _, h, _, _ => by cases ‹List (DataW H)› <;> exact h.elim
  | _ :: _, [], _, _, _, h, _, _ => by cases ‹List (DataW H)› <;> exact h.elim
  | _ :: _, _ :: _, [], _, _, h, _, _ => h.elim
  | t :: ts, v :: vs, d :: ds, ps, hr, h, hlt, hsp => by
    obtain ⟨p, q, h1, h2, rfl⟩ := h
    simp only [rowed, List.all_cons, Bool.and_eq_true, decide_eq_true_eq] at hr
    exact ⟨p, q, WideElems.Trod_stays hl hr.1.1 hr.1.2 h1 (fun x hx => hb.same (hlt x (by simp [hx]))) (fun x hx => hsp x (by simp [hx])),
      all_stays hl hb sp hr.2 h2 (fun x hx => hlt x (by simp [hx])) (fun x hx => hsp x (by simp [hx])), rfl⟩
theorem law_post {H : Type} {enc : TypeId × Value → H} {P : Program} {f : Func} {s : ChangeSpec} {W W' : World} {args : Array Value} {ds gs : List (DataW H)} {before : List MemPlace} {tb : TypeId}
    (hl : laidOutB P = true) (hr : rowed P f.params.toList = true) (hv : s.vars = []) (hrt : f.resultTypes = #[tb]) (htb : P.underlying tb = some .bool)
    (hW : DataW.Whole enc P f.params.toList s.vars false W args.toList ds gs before) (hfn : s.fn H (ds ++ gs) = { results := [.lit (.bool true)], args := ds }) (hB : Below W.heap.size W W') :
    s.post enc P f false true false false W args (.bool true) W' := by
  have hlt := hW.lt
  have hW0 := hW
  obtain ⟨p, q, hA, hV, rfl, hfz, _⟩ := hW
  rw [hv] at hV
  obtain ⟨rfl, rfl⟩ := trodVars_none hV
  simp only [List.append_nil] at hlt hfz hW0 hfn
  have hres : ∀ (b : Nat) (sp : Nat → Bool) (hd : Bool), DataW.TrodAll enc P W' b sp hd f.resultTypes.toList ((Value.bool true).resultList f.resultTypes.size) (s.fn H (ds ++ [])).results [] := fun b sp hd => by
    rw [hrt, List.append_nil, hfn]
    exact trodAll_cons_mk (shut_bool htb true) trodAll_mk0
  have hargs : ∀ sp : Nat → Bool, (∀ x ∈ p, sp x.block = true) → DataW.TrodAll enc P W' 0 sp true f.params.toList args.toList (s.fn H (ds ++ [])).args p := fun sp hsp => by
    rw [List.append_nil, hfn]
    exact all_stays hl hB sp hr hA hlt hsp
  have hvars : ∀ sp : Nat → Bool, DataW.TrodVars enc P W' sp s.vars (s.fn H (ds ++ [])).vars [] := fun sp => by
    rw [List.append_nil, hfn, hv]
    rfl
  refine ⟨ds, [], p, [], p, [], hW0, hres _ _ _, hargs _ (fun x hx => by simpa using hlt x hx), hvars _, World.keptBut_mono (fun x hx => ⟨hx, Or.inr (by simpa using hx)⟩) (hB.frame _), fun _ => ?_⟩
  refine ⟨?_, _, _, ([] ++ p) ++ [], ⟨[] ++ p, [], trodAll_append (hargs _ (fun _ _ => rfl)) (hres _ _ _), hvars _, rfl, ?_, ?_⟩, ?_⟩
  · exact ok_one hrt rfl (okWide_bool_mk htb true)
  · intro b off hp
    have hp' : MemPlace.cell b off ∈ p := by simpa using hp
    rw [hB.frozen (p := ⟨b, off, none⟩) (hlt _ hp')]
    exact hfz b off hp'
  · intro ha; cases ha
  · intro x hx _
    simpa using hx
end TL
/-
  TlOpenP: arguments that are points, or lists of points.
  By an AI agent.
-/
set_option linter.all false
namespace TL
open Go Go.Proofs Go.ChangeShapes Go.WideShapes Go.Joins Go.Deep
/-- an argument that is a point -/
theorem top_pt {P : Program} {t e : TypeId} {f0 f1 : Field} (hs : P.underlying t = some (.struct #[f0, f1])) (hone : oneCellFields P #[f0, f1] = true) (hC : P.cellsOf t = 2) (h0 : f0.type = e) (h1 : f1.type = e) (he : P.underlying e = some (.int .i64))
    {H : Type} {enc : TypeId × Value → H} {w : World} {base : Nat} {v : Value} {d : DataW H} {p : List MemPlace}
    (hval : Value.okWide P w .any base t v) (h : DataW.Trod enc P w 0 (fun _ => true) true t v d p) : ∃ a b : Int, v = .agg #[.int .i64 a, .int .i64 b] := by
  obtain ⟨v0, v1, y0, y1, n, rfl, rfl, rfl, r0, r1⟩ := open_agg2 hs hone hC hval h
  rw [h0] at r0
  rw [h1] at r1
  obtain ⟨a, ha, _, _⟩ := DataW.trod_int he r0
  obtain ⟨b, hb, _, _⟩ := DataW.trod_int he r1
  obtain rfl : v0 = .int .i64 a := by simpa using ha
  obtain rfl : v1 = .int .i64 b := by simpa using hb
  exact ⟨a, b, rfl⟩
end TL
