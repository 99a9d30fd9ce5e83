/-
  TlRotSame: lists that begin elsewhere are the same rotation.
  By an AI agent.
-/
import Derived.Test.YtgaefcjhggdkcaaTlWalk
set_option linter.all false
namespace TL
theorem minL_unique {l : List Int} {x : Int} (hx : x ∈ l) (h : ∀ y ∈ l, x ≤ y) : minL l = x := by
  have hl : l ≠ [] := fun e => by subst e; cases hx
  have h1 := h _ (minL_mem hl)
  have h2 := minL_le hl hx
  omega
theorem drop1 {A B : List Int} {p : Nat} (h : p ≤ A.length) : (A ++ B).drop p = A.drop p ++ B := List.drop_append_of_le_length h
theorem take1 {A B : List Int} {p : Nat} (h : p ≤ A.length) : (A ++ B).take p = A.take p := List.take_append_of_le_length h
theorem drop2 {A B : List Int} {p : Nat} : (A ++ B).drop (A.length + p) = B.drop p := by
  rw [List.drop_append, List.drop_eq_nil_of_le (by omega), List.nil_append, show A.length + p - A.length = p by omega]
theorem take2 {A B : List Int} {p : Nat} : (A ++ B).take (A.length + p) = A ++ B.take p := by
  rw [List.take_append, List.take_of_length_le (by omega), show A.length + p - A.length = p by omega]
theorem turnS_swap {A B : List Int} (hn : (A ++ B).Nodup) : turnS (B ++ A) = turnS (A ++ B) := by
  by_cases he : A ++ B = []
  · have h1 : A = [] := List.append_eq_nil_iff.1 he |>.1
    have h2 : B = [] := List.append_eq_nil_iff.1 he |>.2
    subst h1 h2; rfl
  · have he2 : B ++ A ≠ [] := fun e => he (by
      have h1 : B = [] := List.append_eq_nil_iff.1 e |>.1
      have h2 : A = [] := List.append_eq_nil_iff.1 e |>.2
      subst h1 h2; rfl)
    have hm := minL_mem he
    have hmin : minL (B ++ A) = minL (A ++ B) := minL_unique (by
      rcases List.mem_append.1 hm with h | h
      · exact List.mem_append.2 (.inr h)
      · exact List.mem_append.2 (.inl h)) (fun y hy => minL_le he (by
      rcases List.mem_append.1 hy with h | h
      · exact List.mem_append.2 (.inr h)
      · exact List.mem_append.2 (.inl h)))
    have hd := (List.nodup_append.1 hn).2.2
    unfold turnS
    rw [if_neg he, if_neg he2, hmin]
    generalize minL (A ++ B) = x at hm
    rw [List.idxOf_append, List.idxOf_append]
    by_cases ha : x ∈ A
    · have hb : x ∉ B := fun hb => hd x ha x hb rfl
      have hp := List.idxOf_lt_length_iff.2 ha
      rw [if_pos ha, if_neg hb]
      generalize A.idxOf x = p at hp
      rw [show p + B.length = B.length + p by omega]
      rw [drop2, take2, drop1 (by omega), take1 (by omega)]
      simp
    · have hb : x ∈ B := (List.mem_append.1 hm).resolve_left ha
      have hp := List.idxOf_lt_length_iff.2 hb
      rw [if_neg ha, if_pos hb]
      generalize B.idxOf x = p at hp
      rw [show p + A.length = A.length + p by omega]
      rw [drop2, take2, drop1 (by omega), take1 (by omega)]
      simp
/-- c's lists are a's, begun elsewhere; v of them, the others empty -/
structure TurnsInv (c a : Rot) (v : Nat) : Prop where
  len : c.length = a.length
  at_ : ∀ q : Nat, q < v → q < a.length → ∃ A B, gI a (q : Int) = A ++ B ∧ gI c (q : Int) = B ++ A
theorem TurnsInv.start (a : Rot) : TurnsInv (List.replicate a.length []) a 0 := ⟨by simp, fun q hq => by omega⟩
theorem TurnsInv.next {c a : Rot} {v : Nat} (h : TurnsInv c a v) (hv : (v : Int) < a.length) {k : Int} {l : List Int} (hl : l = (gI a (v : Int)).drop k.toNat ++ (gI a (v : Int)).take k.toNat) : TurnsInv (c.set (v : Int).toNat l) a (v + 1) := by
  have hc := h.len
  refine ⟨by simpa using hc, fun q hq hqa => ?_⟩
  simp only [Int.toNat_natCast]
  by_cases e : q = v
  · subst e
    refine ⟨(gI a (q : Int)).take k.toNat, (gI a (q : Int)).drop k.toNat, (List.take_append_drop _ _).symm, ?_⟩
    have : q < c.length := by omega
    simp [gI, this, hl]
  · obtain ⟨A, B, h1, h2⟩ := h.at_ q (by omega) hqa
    refine ⟨A, B, h1, ?_⟩
    rw [← h2]
    simp [gI, List.getElem?_set_ne (Ne.symm e)]
theorem flat_perm : ∀ (c a : Rot), c.length = a.length → (∀ q : Nat, q < a.length → List.Perm (gI c (q : Int)) (gI a (q : Int))) → List.Perm c.flatten a.flatten
  | [], [], _, _ => by simp
  | x :: c, y :: a, hl, h => by
    have h0 := h 0 (by simp)
    have e0 : gI (x :: c) ((0 : Nat) : Int) = x := rfl
    have e1 : gI (y :: a) ((0 : Nat) : Int) = y := rfl
    rw [e0, e1] at h0
    rw [List.flatten_cons, List.flatten_cons]
    refine h0.append (flat_perm c a (by simpa using hl) fun q hq => ?_)
    have := h (q + 1) (by simp; omega)
    have e2 : gI (x :: c) ((q + 1 : Nat) : Int) = gI c (q : Int) := by simp [gI]
    have e3 : gI (y :: a) ((q + 1 : Nat) : Int) = gI a (q : Int) := by simp [gI]
    rw [e2, e3] at this
    exact this
  | [], _ :: _, hl, _ => by simp at hl
  | _ :: _, [], hl, _ => by simp at hl
theorem turns_same {g : Net} {c a : Rot} {v : Nat} (h : TurnsInv c a v) (hv : v = a.length) (hm : MayP g) (ha : RotP g a) : sameR g a c = (true, 0) := by
  subst hv
  have hc := h.len
  have hp : List.Perm c.flatten a.flatten := flat_perm c a hc fun q hq => by
    obtain ⟨A, B, h1, h2⟩ := h.at_ q hq hq
    rw [h1, h2]; exact List.perm_append_comm
  have hrc : RotP g c := by
    obtain ⟨r1, r2, r3, r4⟩ := ha
    refine ⟨by omega, fun q hq x hx => ?_, (hp.nodup_iff).2 r3, by rw [hp.length_eq]; exact r4⟩
    obtain ⟨A, B, h1, h2⟩ := h.at_ q (by omega) (by omega)
    refine r2 q (by omega) x ?_
    rw [h1]; rw [h2] at hx
    rcases List.mem_append.1 hx with hx | hx
    · exact List.mem_append.2 (.inr hx)
    · exact List.mem_append.2 (.inl hx)
  have hcan : canonS a = canonS c := by
    unfold canonS
    apply list_ext_gI
    · simp [hc]
    · intro q hq
      have hq' : q < a.length := by simpa using hq
      rw [gI_map _ (by omega) (by omega), gI_map _ (by omega) (by omega)]
      obtain ⟨A, B, h1, h2⟩ := h.at_ q hq' hq'
      have hn := row_nodup ha (v := q) (by omega)
      rw [h1] at hn
      rw [h1, h2, turnS_swap hn]
  unfold sameR
  rw [if_pos (rmay_yes hm ha), if_pos (rmay_yes hm hrc), hcan]
  simp
end TL
namespace TL
theorem sameR_a {g : Net} {a b : Rot} (h : rmayR g a = 0) : (sameR g a b).2 = rmayR g b := by
  unfold sameR
  rw [if_pos h]
  by_cases h2 : rmayR g b = 0
  · rw [if_pos h2, h2]
  · rw [if_neg h2]
theorem sameR_na {g : Net} {a b : Rot} (h : ¬ rmayR g a = 0) : sameR g a b = (false, rmayR g a) := by
  unfold sameR
  rw [if_neg h]
theorem sameR_x {g : Net} {a b : Rot} (h : rmayR g a = 0) (hx : (sameR g a b).1 = true) : rmayR g b = 0 := by
  unfold sameR at hx
  rw [if_pos h] at hx
  by_cases h2 : rmayR g b = 0
  · exact h2
  · rw [if_neg h2] at hx; cases hx
theorem sameR_b {g : Net} {a b : Rot} (h : rmayR g a = 0) (h2 : rmayR g b = 0) : (sameR g a b).1 = decide (canonS a = canonS b) := by
  unfold sameR
  rw [if_pos h, if_pos h2]
end TL
namespace TL
theorem TurnsInv.nextk {c a : Rot} {v : Nat} (h : TurnsInv c a v) (hv : (v : Int) < a.length) {k : Int} : TurnsInv (c.set (Int.toNat (v : Int)) ((List.drop (Int.toNat k) (List.take (Int.toNat ((gI a (v : Int)).length)) (gI a (v : Int)))) ++ (List.drop (Int.toNat 0) (List.take (Int.toNat k) (gI a (v : Int)))))) a (v + 1) :=
  h.next hv (k := k) (by simp)
end TL
