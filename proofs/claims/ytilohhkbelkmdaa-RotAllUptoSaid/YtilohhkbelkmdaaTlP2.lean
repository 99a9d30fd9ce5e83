/- Plain texts of this claim, part 2. By an AI agent. -/
import Derived.Test.YtilohhkbelkmdaaTlP1
import Derived.Carry
import Derived.Deep.Slices
import Derived.Lib.SmallJoins
import Derived.RowKit
/-
  TlKeep: rows of an own list given away one by one while the list stays readable; rows with a mark behind each.
  By an AI agent.
-/
set_option linter.all false
namespace TL
open Go
def gv (i k j : Nat) : Col → Prop := fun c => (c.1 = i ∧ c.2 ≠ 0) ∨ (c.1 = k ∧ 1 ≤ c.2 ∧ c.2 ≤ j)
def j3 (q i k : Nat) : Col → Prop := fun c => c.1 = q ∨ (c.1 = i ∧ c.2 = 0) ∨ c.1 = k
def jr (q i k r : Nat) : Col → Prop := fun c => c.1 = q ∨ (c.1 = i ∧ c.2 = 0) ∨ (c.1 = k ∧ c.2 = r)
theorem jr_j3 {q i k r : Nat} : ∀ c, jr q i k r c → j3 q i k c := fun c h => h.elim .inl fun h => h.elim (fun h => .inr (.inl h)) fun h => .inr (.inr h.1)
theorem is_j3 {j q i k : Nat} (h1 : Nat.beq j q = false) (h2 : Nat.beq j i = false) (h3 : Nat.beq j k = false) : ∀ c, is j c → ¬ j3 q i k c := fun c h h' => by
  have e : c.1 = j := h
  rcases h' with h' | h' | h'
  · exact beq_ne h1 (e.symm.trans h')
  · exact beq_ne h2 (e.symm.trans h'.1)
  · exact beq_ne h3 (e.symm.trans h')
theorem isr_j3 {m q i k : Nat} (h1 : Nat.beq m q = false) (h2 : Nat.beq m i = false) (h3 : Nat.beq m k = false) (h4 : Nat.beq i q = false) (h5 : Nat.beq i k = false) : ∀ c, isr m i c → ¬ j3 q i k c := fun c h h' => by
  rcases h with h | ⟨h, hn⟩
  · exact is_j3 h1 h2 h3 c h h'
  · have e : c.1 = i := h
    rcases h' with h' | h' | h'
    · exact beq_ne h4 (e.symm.trans h')
    · exact hn h'.2
    · exact beq_ne h5 (e.symm.trans h')
theorem Chg.l3 {L : List Nat} {q i k : Nat} {γ γ' : Cmap} {w w' : World} (h : Chg (j3 q i k) γ w γ' w') (h1 : L.contains q = true) (h2 : L.contains i = true) (h3 : L.contains k = true) : Chg (inl L) γ w γ' w' := h.mono fun c hc => by
  unfold inl
  rcases hc with hc | hc | hc
  · rw [hc]; exact h1
  · rw [hc.1]; exact h2
  · rw [hc]; exact h3
def recolR (γ : Cmap) (k r : Nat) (c : Col) : Cmap := fun b => if γ b = (k, r) then c else γ b
section
variable {P : Program} {w : World} {t t' : TypeId} {f : Fr} {x y : Operand} {dst : Option Tmp} {ty : TypeId} {pos : String} {after : Array Edge} {g : Option (Nat × Bool)} {N : Value → World → Prop} {α : Type} [Rp α] {γ : Cmap} {v u : Value} {xss : List (List α)} {l : List α} {i k j : Nat}
theorem o_append_row [Fl α] {S' : Col → Prop} {tv : Value} {c : Vc} (hcv : c.v = u) {e bytes : Nat} {z : Value} (ht : P.underlying t = some (.slice e)) (he : Tp P e false 1 bytes z) (hzc : z.cells.size = 1) (hx : ev f x = v) (hy : ev f y = tv)
    (hn : Nst γ i w v xss) (htv : Sl γ S' w tv [c]) (hu : Ow γ (row k (j + 1)) (row k (j + 1)) w u l) (hk : Nat.beq k i = false) (hby : bytes ≤ 128) (hlen : xss.length + 1 ≤ 1099511627776)
    (hN : ∀ γ' w' v', Chg (fun c => row i 0 c ∨ row k (j + 1) c) γ w γ' w' → Nst γ' i w' v' (xss ++ [l]) → Sl γ' (gv i k (j + 1)) w' u l → N v' w') : opT P ⟨dst, .call { callee := .builtin .append, args := #[x, y], argTypes := #[t, t] }, ty, pos, after, g⟩ f w N := by
  obtain ⟨us, h2, h3, h4⟩ := hn
  have hki := beq_ne hk
  refine o_append γ (J := row i 0) (S := row i 0) (i, 0) rfl ht he (Nat.zero_lt_one) hzc hx hy h2 htv hby (by simpa [h3] using hlen) fun γ1 w1 v1 hc ho => ?_
  have hrw : ∀ q b, row i q (γ1 b) → row i q (recolR γ1 k (j + 1) (i, xss.length + 1) b) := fun q b hq => by
    unfold row at hq
    unfold recolR
    rw [if_neg (by rw [hq]; intro h; exact hki (congrArg Prod.fst h).symm)]
    exact hq
  have hch := hu.chg hc (row_row hk) (row_row hk)
  have hto : ∀ b, row k (j + 1) (γ1 b) → row i (xss.length + 1) (recolR γ1 k (j + 1) (i, xss.length + 1) b) := fun b hb => by
    unfold row at hb
    unfold recolR row
    rw [if_pos hb]
  have hrow := hch.recol hto hto
  refine hN (recolR γ1 k (j + 1) (i, xss.length + 1)) w1 v1 ?_ ⟨us ++ [c], ho.recol (hrw 0) (hrw 0), by simp [h3], fun r u' x hu' hx' => ?_⟩ (hrow.flat.mono fun c h => .inl ⟨row_is c h, by unfold row at h; rw [h]; simp⟩)
  · refine ⟨hc.os, hc.tape, hc.output, hc.size, fun b hb hn => ?_, fun b hb hn => hc.keep b hb fun hj => hn (.inl hj), hc.drawn⟩
    have h5 := hc.col b hb fun hj => hn (.inl hj)
    unfold recolR
    rw [h5]
    rw [if_neg (show ¬ γ b = (k, j + 1) from fun h => hn (.inr h))]
  · by_cases hr : r < us.length
    · rw [List.getElem?_append_left hr] at hu'
      rw [List.getElem?_append_left (by omega)] at hx'
      exact ((h4 r u' x hu' hx').chg hc (rows_ne (by omega)) (rows_ne (by omega))).recol (hrw _) (hrw _)
    · rw [List.getElem?_append_right (by omega)] at hu' hx'
      have e0 : r - us.length = 0 := by
        have := (List.getElem?_eq_some_iff.1 hu').1
        simp at this; omega
      have er : r = xss.length := by omega
      rw [e0] at hu'
      rw [← h3, e0] at hx'
      obtain rfl : c = u' := by simpa using hu'
      obtain rfl : l = x := by simpa using hx'
      subst er
      rw [hcv]; exact hrow
end
section
variable {α : Type} [Rp α] [Fl α] {γ γ' : Cmap} {w w' : World} {v : Value} {us : List Vc} {xss : List (List α)} {i k j q : Nat}
structure GvInv (γ : Cmap) (i k j : Nat) (w : World) (v : Value) (us : List Vc) (xss : List (List α)) : Prop where
  heads : Ow γ (row k 0) (row k 0) w v us
  len : us.length = xss.length
  rows : ∀ (r : Nat) (u : Vc) (x : List α), us[r]? = some u → xss[r]? = some x → (r < j → Sl γ (gv i k j) w u.v x) ∧ (¬ r < j → Ow γ (row k (r + 1)) (row k (r + 1)) w u.v x)
theorem GvInv.start (h : Nst γ k w v xss) : ∃ us, GvInv γ i k 0 w v us xss := by
  obtain ⟨us, h1, h2, h3⟩ := h
  exact ⟨us, h1, h2, fun r u x hu hx => ⟨fun h => by omega, fun _ => h3 r u x hu hx⟩⟩
theorem GvInv.next (h : GvInv γ i k j w v us xss) (hc : Chg (jr q i k (j + 1)) γ w γ' w') (hqk : Nat.beq k q = false) (hik : Nat.beq k i = false) (hqi : Nat.beq i q = false) {u : Vc} {x : List α} (hu : us[j]? = some u) (hx : xss[j]? = some x) (hs : Sl γ' (gv i k (j + 1)) w' u.v x) : GvInv γ' i k (j + 1) w' v us xss := by
  have a1 := beq_ne hqk
  have a2 := beq_ne hik
  have a3 := beq_ne hqi
  have rowk : ∀ r, r ≠ j + 1 → ∀ c, row k r c → ¬ jr q i k (j + 1) c := fun r hr c h1 h2 => by
    unfold row at h1
    subst h1
    rcases h2 with h2 | h2 | h2
    · exact a1 h2
    · exact a2 h2.1
    · exact hr h2.2
  refine ⟨h.heads.chg hc (rowk 0 (by omega)) (rowk 0 (by omega)), h.len, fun r u' x' hu' hx' => ⟨fun hr => ?_, fun hr => ?_⟩⟩
  · by_cases e : r = j
    · subst e
      rw [hu] at hu'
      rw [hx] at hx'
      obtain rfl := Option.some.inj hu'
      obtain rfl := Option.some.inj hx'
      exact hs
    · have h1 := (h.rows r u' x' hu' hx').1 (by omega)
      refine (h1.chg hc fun c h2 h3 => ?_).mono fun c h2 => ?_
      · rcases h2 with ⟨h4, h5⟩ | ⟨h4, h5, h6⟩
        · rcases h3 with h3 | h3 | h3
          · exact a3 (h4.symm.trans h3)
          · exact h5 h3.2
          · exact a2 (h3.1.symm.trans h4)
        · rcases h3 with h3 | h3 | h3
          · exact a1 (h4.symm.trans h3)
          · exact a2 (h4.symm.trans h3.1)
          · have := h3.2; omega
      · rcases h2 with h2 | ⟨h4, h5, h6⟩
        · exact .inl h2
        · exact .inr ⟨h4, h5, by omega⟩
  · have h1 := (h.rows r u' x' hu' hx').2 (by omega)
    exact h1.chg hc (rowk _ (by omega)) (rowk _ (by omega))
theorem sl_of {S : Col → Prop} (h : Sl γ S w v us) (hl : us.length = xss.length) (hr : ∀ (r : Nat) (u : Vc) (x : List α), us[r]? = some u → xss[r]? = some x → Sl γ S w u.v x) : Sl γ S w v xss := by
  rcases h with ⟨h0, rfl⟩ | ⟨b, off, cap, rfl, hc, hx⟩
  · have : xss = [] := List.eq_nil_of_length_eq_zero (by simpa using hl.symm)
    subst this
    exact .inl ⟨h0, rfl⟩
  · refine .inr ⟨b, off, cap, by rw [hl], by rw [← hl]; exact hc, fun r x hrx => ?_⟩
    have hlt : r < us.length := by rw [hl]; exact (List.getElem?_eq_some_iff.1 hrx).1
    have hu : us[r]? = some us[r] := List.getElem?_eq_getElem hlt
    obtain ⟨h1, h2, cs, hcs, hrep⟩ := hx r _ hu
    have hrep' : cs = [us[r].v] := hrep
    exact ⟨h1, h2, cs, hcs, us[r].v, hrep', hr r _ x hu hrx⟩
theorem GvInv.done (h : GvInv γ i k j w v us xss) (hj : xss.length ≤ j) : Sl γ (isr k i) w v xss := by
  refine sl_of ((h.heads.flat).mono fun c hc => ?_) h.len fun r u x hu hx => ?_
  · exact .inl (row_is c hc)
  · have hlt := (List.getElem?_eq_some_iff.1 hx).1
    refine ((h.rows r u x hu hx).1 (by omega)).mono fun c hc => ?_
    rcases hc with hc | hc
    · exact .inr hc
    · exact .inl hc.1
end
inductive Rw where
  | mk (l : List Int) (m : Int)
  | pl (l : List Int)
instance : Inhabited Rw := ⟨.pl []⟩
theorem upV_slice {α : Type} [Rp α] {γ : Cmap} {S : Col → Prop} {w : World} {v : Value} {xs : List α} {m : α} (h : Sl γ S w (upV v) (xs ++ [m])) : ∃ a l c, v = .slice a l c := by
  rcases h with ⟨_, h0⟩ | ⟨b, off, cap, hv, _⟩
  · simp at h0
  · cases v <;> simp [upV] at hv
    exact ⟨_, _, _, rfl⟩
def rwP (γ : Cmap) (S : Col → Prop) (w : World) (v : Value) : Rw → Prop
  | .mk l m => Sl γ S w (upV v) (l ++ [m])
  | .pl l => Sl γ S w v l
theorem rwP.one {γ : Cmap} {S : Col → Prop} {w : World} {v : Value} {x : Rw} (h : rwP γ S w v x) : v.oneCell' = true := by
  cases x with
  | mk l m =>
    obtain ⟨a, b, c, rfl⟩ := upV_slice h
    rfl
  | pl l =>
    rcases h with ⟨⟨_, rfl⟩, _⟩ | ⟨b, off, cap, rfl, _⟩ <;> rfl
theorem rwP.tr {γ γ' : Cmap} {S S' : Col → Prop} {w w' : World} {v : Value} {x : Rw} (hsz : w.heap.size ≤ w'.heap.size) (h : ∀ b, b < w.heap.size → S (γ b) → w'.heap[b]? = w.heap[b]? ∧ S' (γ' b)) (hx : rwP γ S w v x) : rwP γ' S' w' v x := by
  cases x with
  | mk l m => exact Sl.tr h hx hsz
  | pl l => exact Sl.tr h hx hsz
instance : Rp Rw where
  sz := 1
  rep γ S w cs x := ∃ v, cs = [v] ∧ rwP γ S w v x
  len := by rintro _ _ _ _ _ ⟨v, rfl, _⟩; rfl
  one := by
    rintro _ _ _ _ _ ⟨v, rfl, h⟩ u hu
    obtain rfl : u = v := by simpa using hu
    exact h.one
  tr := by
    rintro _ _ _ _ _ _ _ _ hs h ⟨v, rfl, hv⟩
    exact ⟨v, rfl, hv.tr hs h⟩
def TWL (r : List (List Int)) : List Rw := r.map (fun l => Rw.mk l (-77)) ++ [Rw.pl [-78]]
def RwR (γ : Cmap) (S : Col → Prop) (w : World) (us : List Vc) (rs : List Rw) : Prop := us.length = rs.length ∧ ∀ (k : Nat) (u : Vc) (x : Rw), us[k]? = some u → rs[k]? = some x → rwP γ S w u.v x
theorem RwR.nil {γ : Cmap} {S : Col → Prop} {w : World} : RwR γ S w [] [] := ⟨rfl, fun k u x h => by simp at h⟩
theorem RwR.chg {γ γ' : Cmap} {S K : Col → Prop} {w w' : World} {us : List Vc} {rs : List Rw} (h : RwR γ S w us rs) (hc : Chg K γ w γ' w') (hK : ∀ c, S c → ¬ K c) : RwR γ' S w' us rs :=
  ⟨h.1, fun k u x hu hx => (h.2 k u x hu hx).tr hc.size fun b hb hS => ⟨hc.keep b hb (hK _ hS), by rw [hc.col b hb (hK _ hS)]; exact hS⟩⟩
theorem RwR.recol {γ γ' : Cmap} {S S' : Col → Prop} {w : World} {us : List Vc} {rs : List Rw} (h : RwR γ S w us rs) (hc : ∀ b, S (γ b) → S' (γ' b)) : RwR γ' S' w us rs :=
  ⟨h.1, fun k u x hu hx => (h.2 k u x hu hx).tr (Nat.le_refl _) fun b _ hS => ⟨rfl, hc b hS⟩⟩
theorem RwR.snoc {γ : Cmap} {S : Col → Prop} {w : World} {us : List Vc} {rs : List Rw} {c : Vc} {x : Rw} (h : RwR γ S w us rs) (hx : rwP γ S w c.v x) : RwR γ S w (us ++ [c]) (rs ++ [x]) := by
  have hl := h.1
  refine ⟨by simp [hl], fun k u y hu hy => ?_⟩
  by_cases hk : k < us.length
  · rw [List.getElem?_append_left hk] at hu
    rw [List.getElem?_append_left (by omega)] at hy
    exact h.2 k u y hu hy
  · rw [List.getElem?_append_right (by omega)] at hu hy
    have e0 : k - us.length = 0 := by
      have := (List.getElem?_eq_some_iff.1 hu).1
      simp at this; omega
    rw [e0] at hu
    rw [← hl, e0] at hy
    obtain rfl : c = u := by simpa using hu
    obtain rfl : x = y := by simpa using hy
    exact hx
theorem ow_rw {γ : Cmap} {J S0 S : Col → Prop} {w : World} {v : Value} {us : List Vc} {rs : List Rw} (h : Ow γ J S0 w v us) (hr : RwR γ S w us rs) : Ow γ J S w v rs := by
  rcases h with ⟨rfl, rfl⟩ | ⟨b, cap, c, e, rfl, hc, hm, hJ, hb, hcs, hx⟩
  · have : rs = [] := List.eq_nil_of_length_eq_zero (by simpa using hr.1.symm)
    subst this; exact Ow.nil
  · refine .inr ⟨b, cap, c, e, by rw [hr.1], by rw [← hr.1]; exact hc, hm, hJ, hb, hcs, fun i x hi => ?_⟩
    have hlt : i < us.length := by rw [hr.1]; exact (List.getElem?_eq_some_iff.1 hi).1
    have hu : us[i]? = some us[i] := List.getElem?_eq_getElem hlt
    obtain ⟨cs, hcs', hrep⟩ := hx i _ hu
    have hrep' : cs = [us[i].v] := hrep
    exact ⟨cs, hcs', us[i].v, hrep', hr.2 i _ x hu hi⟩
theorem sl_row_keep {α : Type} [Rp α] {γ : Cmap} {S : Col → Prop} {w : World} {v : Value} {xss : List (List α)} {r : Int} (hs : Sl γ S w v xss) (h0 : 0 ≤ r) (h1 : r < xss.length) :
    ∃ u, (∀ {K : Col → Prop} {γ' : Cmap} {w' : World}, Chg K γ w γ' w' → (∀ c, S c → ¬ K c) → w'.cell? (eAddr v 1 r.toNat) = some u) ∧ Sl γ S w u (gI xss r) := by
  rcases hs with ⟨_, rfl⟩ | ⟨b, off, cap, rfl, hc, hx⟩
  · simp at h1; omega
  · obtain ⟨hb, hS, cs, hcs, u, rfl, hu⟩ := hx r.toNat _ (gI_get h0 h1)
    refine ⟨u, fun {K γ' w'} h hK => ?_, hu⟩
    have h2 := hcs 0 (Nat.zero_lt_one)
    have h3 := h.keep b hb (hK _ hS)
    simp only [Rp.sz, Nat.mul_one, Nat.add_zero] at h2
    have e : eAddr (Value.slice (some ⟨b, off, none⟩) xss.length cap) 1 r.toNat = ⟨b, off + r.toNat, none⟩ := by simp [eAddr, Addr.add]
    rw [e]
    simp only [World.cell?] at h2 ⊢
    rw [h3]
    simpa using h2
theorem eAddr_up (v : Value) (n k : Nat) : eAddr (upV v) n k = eAddr v n k := by
  cases v with
  | slice a l c => cases a <;> rfl
  | _ => rfl
theorem Ow.sl_same {α : Type} [Rp α] {γ : Cmap} {S : Col → Prop} {w : World} {v : Value} {xs : List α} (hs : Ow γ S S w v xs) : Sl γ S w v xs := by
  rcases hs with hs | ⟨b, cap, c, e, rfl, hc, hm, hJb, hb, hcs, hx⟩
  · exact .inl ⟨⟨_, hs.1⟩, hs.2⟩
  · refine .inr ⟨b, 0, cap, rfl, hc, fun i x hi => ?_⟩
    obtain ⟨cs, hcs', hr⟩ := hx i x hi
    refine ⟨heap_lt hb, hJb, cs, fun j hj => ?_, hr⟩
    rw [← hcs' j hj]
    simp [World.cell?, hb]
theorem twl_sl {γ : Cmap} {S : Col → Prop} {w : World} {v : Value} {r : List (List Int)} (h : Sl γ S w (upV v) (TWL r)) : Sl γ S w v r := by
  have hlen : (TWL r).length = r.length + 1 := by simp [TWL]
  rcases h with ⟨_, h0⟩ | ⟨b, off, cap, hv, hc, hx⟩
  · rw [h0] at hlen; simp at hlen
  · cases v <;> simp [upV] at hv
    rename_i a l c
    obtain ⟨rfl, hl, rfl⟩ := hv
    rw [hlen] at hl hc
    obtain rfl : l = r.length := by omega
    refine .inr ⟨b, off, c, rfl, by omega, fun i x hi => ?_⟩
    have hlt := (List.getElem?_eq_some_iff.1 hi).1
    have hi2 : (TWL r)[i]? = some (Rw.mk x (-77)) := by
      unfold TWL
      rw [List.getElem?_append_left (by simpa using hlt), List.getElem?_map, hi]; rfl
    obtain ⟨h1, h2, cs, hcs, u, rfl, hu⟩ := hx i _ hi2
    exact ⟨h1, h2, _, hcs, u, rfl, mark_sl hu⟩
theorem tw_row {γ : Cmap} {S : Col → Prop} {w : World} {v : Value} {rs : List Rw} {k : Nat} {x : Rw} (h : Sl γ S w (upV v) rs) (hk : rs[k]? = some x) : ∃ u, w.cell? (eAddr v 1 k) = some u ∧ rwP γ S w u x := by
  obtain ⟨cs, hcs, u, rfl, hu⟩ := h.elem hk
  have := hcs 0 (Nat.zero_lt_one)
  rw [eAddr_add] at this
  simp only [Nat.add_zero, ← eAddr_eta] at this
  rw [show Rp.sz Rw = 1 from rfl, eAddr_up] at this
  exact ⟨u, by simpa using this, hu⟩
def rowsS (c : Nat) : Col → Prop := fun q => q.1 = 0 ∨ (q.1 = c ∧ q.2 ≠ 0)
def OwR (γ : Cmap) (c : Nat) (w : World) (v : Value) (xss : List (List Int)) : Prop :=
  ∃ us : List Vc, Ow γ (row c 0) (row c 0) w v us ∧ us.length = xss.length ∧ ∀ (r : Nat) (u : Vc) (x : List Int), us[r]? = some u → xss[r]? = some x → Sl γ (rowsS c) w u.v x
theorem OwR.chg {γ γ' : Cmap} {c : Nat} {w w' : World} {v : Value} {xss : List (List Int)} {K : Col → Prop} (h : OwR γ c w v xss) (hc : Chg K γ w γ' w') (hK : ∀ q, is c q → ¬ K q) (h0 : ∀ q, is 0 q → ¬ K q) : OwR γ' c w' v xss := by
  obtain ⟨us, h1, h2, h3⟩ := h
  exact ⟨us, h1.chg hc (fun q hq => hK q (row_is q hq)) (fun q hq => hK q (row_is q hq)), h2, fun r u x hu hx => (h3 r u x hu hx).chg hc fun q hq => hq.elim (h0 q) fun hq => hK q hq.1⟩
theorem OwR.sl {γ : Cmap} {c : Nat} {w : World} {v : Value} {xss : List (List Int)} (h : OwR γ c w v xss) : Sl γ any w v xss := by
  obtain ⟨us, h1, h2, h3⟩ := h
  exact sl_of (h1.flat.mono fun _ _ => trivial) h2 fun r u x hu hx => (h3 r u x hu hx).mono fun _ _ => trivial
section
variable {P : Program} {w : World} {t t' : TypeId} {f : Fr} {x y : Operand} {dst : Option Tmp} {ty : TypeId} {pos : String} {after : Array Edge} {g : Option (Nat × Bool)} {N : Value → World → Prop} {γ : Cmap} {v u : Value} {xss : List (List Int)} {l : List Int} {i : Nat}
theorem o_make_ro (γ : Cmap) (i : Nat) {e bytes : Nat} {z : Value} {kl kc : IntKind} {n cp : Int} (ht : P.underlying t = some (.slice e)) (he : Tp P e false 1 bytes z) (hz : z = .slice none 0 0)
    (hx : ev f x = .int kl n) (hy : ev f y = .int kc cp) (h0 : 0 ≤ n) (hlc : n ≤ cp) (hc : cp * bytes ≤ 281474976710656) (hc2 : cp ≤ 1099511627776)
    (hk : ∀ γ' w' v, Chg no γ w γ' w' → OwR γ' i w' v (List.replicate n.toNat []) → N v w') : opT P ⟨dst, .makeSlice t x y, ty, pos, after, g⟩ f w N := by
  subst hz
  refine o_make γ (row i 0) (row i 0) (i, 0) rfl nilVc ht he rfl hx hy h0 hlc hc hc2 fun γ' w' v hch ho _ => hk γ' w' v hch ⟨_, ho, by simp, fun r u x hu hx => ?_⟩
  have hu' := List.getElem?_eq_some_iff.1 hu
  have hx' := List.getElem?_eq_some_iff.1 hx
  obtain ⟨_, rfl⟩ := hu'
  obtain ⟨_, rfl⟩ := hx'
  simp only [List.getElem_replicate]
  exact Sl.nil
theorem o_store_ro {bytes : Nat} {z : Value} {r : Int} (ht : Tp P t false 1 bytes z) (hx : ev f x = .pointer (some (eAddr v 1 r.toNat))) (hy : ev f y = u) (hn : OwR γ i w v xss) (hu : Sl γ (is 0) w u l) (hi : Nat.beq 0 i = false) (h0 : 0 ≤ r) (h1 : r < xss.length)
    (hN : ∀ w', Chg (is i) γ w γ w' → OwR γ i w' v (xss.set r.toNat l) → N undef w') : opT P ⟨dst, .store t x y, ty, pos, after, g⟩ f w N := by
  obtain ⟨us, h2, h3, h4⟩ := hn
  have hone : u.oneCell' = true := sl_one hu
  have hcl := sl_cells1 hu
  obtain ⟨b, o, cur, e, ha, hb, hle, hc, hov⟩ := ow_set (u := u) (y := (⟨u, hone⟩ : Vc)) h2 (i := r.toNat) (by omega) (by rw [hcl]; rfl)
  replace ha : eAddr v 1 r.toNat = ⟨b, o, none⟩ := ha
  rw [ha] at hx
  have hne : ∀ q, rowsS i q → ¬ row i 0 q := fun q h1 h2 => by
    unfold row at h2
    subst h2
    rcases h1 with h1 | h1
    · exact beq_ne hi h1.symm
    · exact h1.2 rfl
  refine o_of_eff (run_store ht hx hy hb (by rw [hcl]; rfl) hle (fun q hq => ?_)) (hN _ (hc.mono row_is) ⟨us.set r.toNat ⟨u, hone⟩, hov, by simp [h3], fun k u' x' hu' hx' => ?_⟩)
  · rw [hcl] at hq
    obtain rfl : q = u := by simpa using hq
    exact hone
  · by_cases e : k = r.toNat
    · subst e
      rw [List.getElem?_set_self (by omega)] at hu' hx'
      obtain rfl := Option.some.inj hu'
      obtain rfl := Option.some.inj hx'
      exact (hu.mono fun q hq => .inl hq).chg hc hne
    · rw [List.getElem?_set_ne (Ne.symm e)] at hu' hx'
      exact (h4 k u' x' hu' hx').chg hc hne
end
end TL
/-
  TlDual: faces as nodes: the dual, corners' faces, edges laid, taken and split, ways over faces, as plain functions.
  By an AI agent.
-/
set_option linter.all false
namespace TL
theorem facesR_yes {g : Net} {r : Rot} (h : rmayR g r = 0) : facesR g r = (facesS (nextS g r) r, 0) := if_pos h
theorem facesR_len (g : Net) (r : Rot) (hm : MayP g) (hr : RotP g r) : (facesR g r).1.length ≤ 8000 := by
  rw [facesR_yes (rmay_yes hm hr)]
  have h1 := facesS_len (nextS g r) r
  have h2 := nextS_len g r
  obtain ⟨h3, h4, h5, _⟩ := hm
  have h6 := hr.1
  show (facesS (nextS g r) r).length ≤ 8000
  omega
def cornP (g : Net) (r : Rot) (c : Int × Int) : Prop := (0 ≤ c.1 ∧ c.1 < g.1) ∧ if ((gI r c.1).length : Int) = 0 then c.2 = -1 else c.2 ∈ gI r c.1
instance (g : Net) (r : Rot) (c : Int × Int) : Decidable (cornP g r c) := by unfold cornP; infer_instance
end TL
namespace TL
end TL
namespace TL
end TL
namespace TL
section
variable {g : Net} {r : Rot} {a b : Int × Int}
end
end TL
/-
  TlAll9: what RotAll needs of the images: errors, lengths, where they are empty.
  By an AI agent.
-/
set_option linter.all false
namespace TL
variable {g : Net} {r : Rot} {keep to : List Int}
theorem a9_fe : (facesR g r).2 = rmayR g r := by unfold facesR; split <;> simp_all
theorem a9_oe : (ofR g r).2 = rmayR g r := by unfold ofR; split <;> simp_all
theorem a9_ge : (genusR g r).2 = rmayR g r := by unfold genusR; split <;> simp_all
theorem a9_me : (mirrorR g r).2 = rmayR g r := by unfold mirrorR; split <;> simp_all
theorem a9_ce : (canonR g r).2 = rmayR g r := by unfold canonR; split <;> simp_all
theorem a9_xe : decide ((firstR g).2 = 0) = mayB g := by
  unfold firstR mayB
  by_cases h : MayP g
  · rw [if_pos h]; exact (decide_eq_true rfl).trans (decide_eq_true h).symm
  · rw [if_neg h]; exact (decide_eq_false (by show ¬ (1 : Int) = 0; omega)).trans (decide_eq_false h).symm
theorem a9_x1 (h : ¬ (firstR g).2 = 0) : (firstR g).2 = 1 := by
  unfold firstR at *
  by_cases h1 : MayP g
  · rw [if_pos h1] at h; exact absurd rfl h
  · rw [if_neg h1]
theorem a9_xm (h : (firstR g).2 = 0) : MayP g := by
  unfold firstR at h
  by_cases h1 : MayP g
  · exact h1
  · rw [if_neg h1] at h; exact absurd h (by show ¬ (1 : Int) = 0; omega)
theorem a9_x (h : (firstR g).2 = 0) : (firstR g).1 = firstS g := by
  unfold firstR; rw [if_pos (a9_xm h)]
theorem a9_x0 (h : ¬ (firstR g).2 = 0) : (firstR g).1 = [] := by
  unfold firstR at *
  by_cases h1 : MayP g
  · rw [if_pos h1] at h; exact absurd rfl h
  · rw [if_neg h1]
structure Y9 (g : Net) (r : Rot) : Prop where
  f : (facesR g r).1 = facesS (nextS g r) r
  o : (ofR g r).1 = ofS g r
  n : (genusR g r).1 = genusS g r
  m : (mirrorR g r).1 = mirrorS r
  c : (canonR g r).1 = canonS r
theorem Y9.mk' (h : rmayR g r = 0) : Y9 g r := ⟨by simp [facesR, h], by simp [ofR, h], by simp [genusR_yes h], by simp [mirrorR, h], by simp [canonR, h]⟩
structure N9 (g : Net) (r : Rot) : Prop where
  f : (facesR g r).1 = []
  o : (ofR g r).1 = []
  n : (genusR g r).1 = 0
  m : (mirrorR g r).1 = []
  c : (canonR g r).1 = []
theorem N9.mk' (h : ¬ rmayR g r = 0) : N9 g r := ⟨by simp [facesR, h], by simp [ofR, h], by simp [genusR, h], by simp [mirrorR, h], by simp [canonR, h]⟩
theorem N9.sum (h : N9 g r) : ((((facesR g r).1.length : Int) + ((ofR g r).1.length : Int) + (genusR g r).1 + ((mirrorR g r).1.length : Int)) + ((canonR g r).1.length : Int)) = 0 := by
  rw [h.f, h.o, h.n, h.m, h.c]; rfl
structure L9 (g : Net) (r : Rot) : Prop where
  f : (facesR g r).1.length ≤ 8000
  o : (ofR g r).1.length ≤ 8000
  m : (mirrorR g r).1.length ≤ 8000
  c : (canonR g r).1.length ≤ 8000
  x : (firstR g).1.length ≤ 8000
theorem L9.mk' (hl : r.length ≤ 1000) : L9 g r := by
  by_cases h : rmayR g r = 0
  · obtain ⟨hm, hr⟩ := rmay_ok h
    have hm0 := hm
    obtain ⟨hm1, hm2, hm3, hm4⟩ := hm0
    have hy := Y9.mk' h
    refine ⟨facesR_len g r hm hr, ?_, ?_, ?_, ?_⟩
    · rw [hy.o]; unfold ofS; rw [ofK_len]; omega
    · rw [hy.m]; simp [mirrorS, canonS]; omega
    · rw [hy.c]; simp [canonS]; omega
    · have := first_len g hm1
      unfold firstR; rw [if_pos hm]; show (firstS g).length ≤ 8000; omega
  · have hn := N9.mk' h
    refine ⟨by rw [hn.f]; simp, by rw [hn.o]; simp, by rw [hn.m]; simp, by rw [hn.c]; simp, ?_⟩
    unfold firstR
    by_cases hm : MayP g
    · obtain ⟨hm1, hm2, hm3, hm4⟩ := id hm
      have := first_len g hm1
      rw [if_pos hm]; show (firstS g).length ≤ 8000; omega
    · rw [if_neg hm]; simp
theorem a9_big (h : r.length + r.flatten.length ≤ 1000) : r.length ≤ 1000000 ∧ ∀ l_ ∈ r, l_.length ≤ 1000000 := by
  refine ⟨by omega, fun l hl => ?_⟩
  have := (List.sublist_flatten_of_mem hl).length_le
  omega
structure M9 (g : Net) (r : Rot) (keep to : List Int) : Prop where
  se : (rsubR g r keep).2.2 = rmayR g r
  me : (rmovedR g r to).2.2 = rmayR g r
  sn : (rsubR g r keep).1.1 = 0
  mn : (rmovedR g r to).1.1 = 0
  sr : (rsubR g r keep).2.1 = []
  mr : (rmovedR g r to).2.1 = []
theorem M9.mk' (h : ¬ rmayR g r = 0) : M9 g r keep to := ⟨by simp [rsubR, h], by simp [rmovedR, h], by simp [rsubR, h], by simp [rmovedR, h], by simp [rsubR, h], by simp [rmovedR, h]⟩
theorem M9.sum (h : M9 g r keep to) : (((rsubR g r keep).1.1 + (rmovedR g r to).1.1 + ((rsubR g r keep).2.1.length : Int)) + ((rmovedR g r to).2.1.length : Int)) = 0 := by
  rw [h.sn, h.mn, h.sr, h.mr]; rfl
theorem m9_len (hl : r.length ≤ 1000) : (rsubR g r keep).2.1.length ≤ 8000 ∧ (rmovedR g r to).2.1.length ≤ 8000 := by
  by_cases h : rmayR g r = 0
  · obtain ⟨hm, hr⟩ := rmay_ok h
    obtain ⟨hm1, hm2, hm3, hm4⟩ := id hm
    constructor
    · unfold rsubR; rw [if_pos h]; split
      · simp [canonS]; omega
      · simp
    · unfold rmovedR; rw [if_pos h]; split
      · simp [canonS, rmovedS, iota_len]; omega
      · simp
  · have hn := M9.mk' (keep := keep) (to := to) h
    rw [hn.sr, hn.mr]; simp
end TL
/-
  TlOpen: arguments opened: what a law's reader says of a slice is what a walk wants of it.
  By an AI agent.
-/
namespace TL
open Go Go.Proofs Go.ChangeShapes Go.WideShapes Go.Joins Go.Deep
structure BulkOk {H : Type} (f : DataW H → Nat) : Prop where
  slice : ∀ l s : List (DataW H), l.length ≤ f (.slice l s)
  elem : ∀ l s : List (DataW H), ∀ d ∈ l, f d ≤ f (.slice l s)
  part : ∀ l : List (DataW H), ∀ d ∈ l, f d ≤ f (.agg l)
def OpnF (α : Type) [Rp α] (P : Program) (t : TypeId) : Prop :=
  ∀ {H : Type} (enc : TypeId × Value → H) (w : World) (fuel : Nat) (cs : List Value) (x : DataW H × List MemPlace), DataW.trod enc P w 0 (fun _ => true) true fuel t cs = some x → ∃ y : α, Rp.rep c0 any w cs y
theorem opn_int {P : Program} {t : TypeId} (ht : P.underlying t = some (.int .i64)) : OpnF Int P t := by
  intro H enc w fuel cs x h
  obtain ⟨n, rfl, _, _⟩ := DataW.trod_int ht h
  exact ⟨n, rfl⟩
theorem trod_array2 {H : Type} {enc : TypeId × Value → H} {P : Program} {w : World} {base : Nat} {spare : Nat → Bool} {held : Bool} {t e : TypeId} {fuel : Nat} {cs : List Value} {x : DataW H × List MemPlace} (ht : P.underlying t = some (.array 2 e)) (hce : P.cellsOf e = 1) (hct : P.cellsOf t = 2)
    (h : DataW.trod enc P w base spare held fuel t cs = some x) :
    ∃ v0 v1 y0 y1 n, cs = [v0, v1] ∧ x = (.agg [y0.1, y1.1], y0.2 ++ y1.2) ∧ DataW.trod enc P w base spare held n e [v0] = some y0 ∧ DataW.trod enc P w base spare held n e [v1] = some y1 := by
  cases fuel with
  | zero => simp [DataW.trod] at h
  | succ n =>
    unfold DataW.trod at h
    rw [ht] at h
    have r2 : List.range 2 = [0, 1] := rfl
    simp only [hct] at h
    by_cases hl : cs.length = 2
    · rw [if_pos hl] at h
      match cs, hl with
      | [v0, v1], _ =>
        simp [r2, hce] at h
        cases h0 : DataW.trod enc P w base spare held n e [v0] with
        | none => simp [h0] at h
        | some y0 =>
          cases h1 : DataW.trod enc P w base spare held n e [v1] with
          | none => simp [h0, h1] at h
          | some y1 =>
            simp [h0, h1] at h
            exact ⟨v0, v1, y0, y1, n, rfl, h.symm, h0, h1⟩
    · rw [if_neg hl] at h; cases h
theorem opn_two {P : Program} {t e : TypeId} (ht : P.underlying t = some (.array 2 e)) (he : P.underlying e = some (.int .i64)) (hce : P.cellsOf e = 1) (hct : P.cellsOf t = 2) : OpnF (Int × Int) P t := by
  intro H enc w fuel cs x h
  obtain ⟨v0, v1, y0, y1, n, rfl, _, h0, h1⟩ := trod_array2 ht hce hct h
  obtain ⟨a, ha⟩ := opn_int he enc w n [v0] y0 h0
  obtain ⟨b, hb⟩ := opn_int he enc w n [v1] y1 h1
  exact ⟨(a, b), [v0], [v1], rfl, ha, hb⟩
theorem opn_slice {α : Type} [Rp α] [Inhabited α] {P : Program} {t e : TypeId} (ht : P.underlying t = some (.slice e)) (hc : P.cellsOf e = Rp.sz α) (hz : 0 < Rp.sz α) (he : OpnF α P e)
    {H : Type} {enc : TypeId × Value → H} {w : World} {f : DataW H → Nat} (hf : BulkOk f) {fuel : Nat} {v : Value} {x : DataW H × List MemPlace}
    (hs : ∀ a len cap, v = .slice (some a) len cap → a.spot = none) (h : DataW.trod enc P w 0 (fun _ => true) true fuel t [v] = some x) (hb : f x.1 ≤ 1048576) : ∃ xs : List α, Ro w v xs := by
  rcases Deep.open_slice ht h with ⟨h0, _⟩ | ⟨a, len, cap, m, n, D, Pl, h0, _, hlc, _, hm, rfl, hx⟩
  · obtain rfl : v = .slice none 0 0 := by simpa using h0
    exact ⟨[], .inl ⟨⟨_, rfl⟩, rfl⟩⟩
  · obtain rfl : v = .slice (some a) len cap := by simpa using h0
    have hsp := hs a len cap rfl
    obtain ⟨b, off, spot⟩ := a
    obtain rfl : spot = none := hsp
    simp only [if_true] at hm
    subst hm
    obtain ⟨Y, hY⟩ := Deep.choose_lt (α := α) (n := len) (p := fun i y => ∃ cs, (∀ j, j < Rp.sz α → w.cell? ⟨b, off + i * Rp.sz α + j, none⟩ = cs[j]?) ∧ Rp.rep c0 any w cs y) (fun i hi => by
      obtain ⟨cs', h1, h2⟩ := hx i (by omega)
      obtain ⟨y, hy⟩ := he enc w n cs' _ h2
      refine ⟨y, cs', fun j hj => ?_, hy⟩
      obtain ⟨_, hl, hcell⟩ := World.cells?_some h1
      have := hcell j (by omega)
      rw [Deep.add_add, hc] at this
      rw [← this]
      unfold Addr.add
      by_cases hij : i * Rp.sz α + j = 0
      · rw [if_pos hij, Nat.add_assoc, hij]; rfl
      · rw [if_neg hij, Nat.add_assoc])
    have hlen : ((List.range len).map Y).length = len := by simp
    have hbound := Nat.le_trans (hf.slice _ _) hb
    refine ⟨(List.range len).map Y, .inr ⟨b, off, m, by rw [hlen], ⟨by omega, by simp at hbound; omega⟩, fun i y hi => ?_⟩⟩
    have hil : i < len := by
      have := (List.getElem?_eq_some_iff.1 hi).1
      omega
    obtain rfl : Y i = y := by simpa [hil] using hi
    obtain ⟨cs, h1, h2⟩ := hY i hil
    refine ⟨?_, trivial, cs, h1, h2⟩
    have h3 := h1 0 hz
    have h4 := Rp.len h2
    have h5 : 0 < cs.length := by omega
    rw [List.getElem?_eq_getElem h5] at h3
    by_cases hbl : b < w.heap.size
    · exact hbl
    · have : w.heap[b]? = none := Array.getElem?_eq_none (by omega)
      simp [World.cell?, this] at h3
theorem spot_of_cell {P : Program} {w : World} {base : Nat} {t e : TypeId} {v : Value} (ht : P.underlying t = some (.slice e)) (h : Cell.okWide P w .any base t v) : ∀ a len cap, v = .slice (some a) len cap → a.spot = none := by
  rintro a len cap rfl
  simp only [Cell.okWide, Cell.ok, ht] at h
  exact h.2.2.2.1
theorem top_slice {α : Type} [Rp α] [Inhabited α] {P : Program} {t e : TypeId} (ht : P.underlying t = some (.slice e)) (hc : P.cellsOf e = Rp.sz α) (hz : 0 < Rp.sz α) (he : OpnF α P e)
    {H : Type} {enc : TypeId × Value → H} {w : World} {f : DataW H → Nat} (hf : BulkOk f) {base : Nat} {v : Value} {d : DataW H} {p : List MemPlace}
    (hval : Value.okWide P w .any base t v) (h : DataW.Trod enc P w 0 (fun _ => true) true t v d p) (hb : f d ≤ 1048576) : ∃ xs : List α, Ro w v xs := by
  obtain ⟨a, len, cap, rfl⟩ := okWide_slice ht hval
  obtain ⟨fuel, hfu⟩ := h
  refine opn_slice ht hc hz he hf (spot_of_cell (w := w) (base := base) ht ?_) (x := (d, p)) hfu hb
  simpa [Value.okWide, ht] using hval
theorem top_net {α : Type} [Rp α] [Inhabited α] {P : Program} {t t0 t1 e : TypeId} {f0 f1 : Field} (hs : P.underlying t = some (.struct #[f0, f1])) (hone : oneCellFields P #[f0, f1] = true) (hC : P.cellsOf t = 2) (hts : P.cellTypes P.depth t = some [t0, t1])
    (h0 : f0.type = t0) (h1 : f1.type = t1) (hi : P.underlying t0 = some (.int .i64)) (ht : P.underlying t1 = some (.slice e)) (hc : P.cellsOf e = Rp.sz α) (hz : 0 < Rp.sz α) (he : OpnF α P e)
    {H : Type} {enc : TypeId × Value → H} {w : World} {f : DataW H → Nat} (hf : BulkOk f) {base : Nat} {v : Value} {d : DataW H} {p : List MemPlace}
    (hval : Value.okWide P w .any base t v) (h : DataW.Trod enc P w 0 (fun _ => true) true t v d p) (hb : f d ≤ 1048576) : ∃ (n : Int) (u : Value) (xs : List α), v = .agg #[.int .i64 n, u] ∧ Ro w u xs := by
  obtain ⟨v0, v1, y0, y1, n, rfl, rfl, rfl, r0, r1⟩ := open_agg2 hs hone hC hval h
  subst h0 h1
  obtain ⟨k, hk, _, _⟩ := DataW.trod_int hi r0
  obtain rfl : v0 = .int .i64 k := by simpa using hk
  have hcell : Cell.okWide P w .any base f1.type v1 := by
    simp only [Value.okWide, hs] at hval
    obtain ⟨cs, hcs, _, ts, h3, _, h4⟩ := hval
    rw [hts] at h3
    obtain rfl := Option.some.inj h3
    obtain rfl : #[Value.int .i64 k, v1] = cs := by simpa using hcs
    obtain ⟨u, hu, hk⟩ := h4 1 v1 rfl
    simp at hu
    subst hu
    exact hk
  obtain ⟨xs, hx⟩ := opn_slice ht hc hz he hf (spot_of_cell ht hcell) (x := y1) r1 (Nat.le_trans (hf.part _ _ (by simp)) hb)
  exact ⟨k, v1, xs, rfl, hx⟩
theorem opn_inner {P : Program} {e q : TypeId} (he : P.underlying e = some (.slice q)) (hq : P.underlying q = some (.int .i64)) (hcq : P.cellsOf q = 1)
    {H : Type} {enc : TypeId × Value → H} {w : World} {f : DataW H → Nat} (hf : BulkOk f) {fuel : Nat} {u : Value} {x : DataW H × List MemPlace}
    (h : DataW.trod enc P w 0 (fun _ => true) true fuel e [u] = some x) (hb : f x.1 ≤ 1048576) : ∃ xs : List Int, Ro w u xs ∧ xs.length ≤ 1048576 := by
  have h' := h
  rcases Deep.open_slice he h with ⟨h0, _⟩ | ⟨a, len, cap, m, n, D, Pl, h0, _, hlc, _, hm, rfl, hx⟩
  · obtain rfl : u = .slice none 0 0 := by simpa using h0
    exact ⟨[], .inl ⟨⟨_, rfl⟩, rfl⟩, by simp⟩
  · obtain rfl : u = .slice (some a) len cap := by simpa using h0
    simp only [if_true] at hm
    subst hm
    by_cases hc : m = 0
    · have hl : len = 0 := by omega
      subst hl hc
      exact ⟨[], .inl ⟨⟨_, rfl⟩, rfl⟩, by simp⟩
    · obtain ⟨cs', h1, h2⟩ := hx 0 (by omega)
      obtain ⟨_, hl, hcell⟩ := World.cells?_some h1
      have h3 := hcell 0 (by rw [hcq]; omega)
      have h4 : 0 < cs'.length := by rw [hl, hcq]; omega
      rw [List.getElem?_eq_getElem h4] at h3
      have hs : a.spot = none := by
        have := World.cell?_spot h3
        simpa [Addr.add] using this
      obtain ⟨xs, hxs⟩ := opn_slice he (α := Int) (by rw [hcq]; rfl) (by decide) (opn_int hq) hf (by rintro a' len' cap' e'; cases e'; exact hs) h' hb
      have hform := hxs.form
      have hlen : xs.length = len := by
        cases hform; rfl
      have hbound := Nat.le_trans (hf.slice _ _) hb
      exact ⟨xs, hxs, by simp at hbound; omega⟩
theorem top_rot {P : Program} {t e q : TypeId} (ht : P.underlying t = some (.slice e)) (he : P.underlying e = some (.slice q)) (hq : P.underlying q = some (.int .i64)) (hce : P.cellsOf e = 1) (hcq : P.cellsOf q = 1)
    {H : Type} {enc : TypeId × Value → H} {w : World} {f : DataW H → Nat} (hf : BulkOk f) {base : Nat} {v : Value} {d : DataW H} {p : List MemPlace}
    (hval : Value.okWide P w .any base t v) (h : DataW.Trod enc P w 0 (fun _ => true) true t v d p) (hb : f d ≤ 1048576) : ∃ xss : List (List Int), Ro w v xss ∧ (xss.length : Int) ≤ 1048576 ∧ ∀ l ∈ xss, l.length ≤ 1048576 := by
  obtain ⟨a, len, cap, rfl⟩ := okWide_slice ht hval
  have hs := spot_of_cell (w := w) (base := base) (v := .slice a len cap) ht (by simpa [Value.okWide, ht] using hval)
  obtain ⟨fuel, hfu⟩ := h
  rcases Deep.open_slice ht hfu with ⟨h0, _⟩ | ⟨a', len', cap', m, n, D, Pl, h0, _, hlc, _, hm, hd, hx⟩
  · have h0' : (Value.slice a len cap) = .slice none 0 0 := by simpa [Value.cells] using h0
    rw [h0']
    exact ⟨[], .inl ⟨⟨_, rfl⟩, rfl⟩, by simp, by simp⟩
  · have h0' : (Value.slice a len cap) = .slice (some a') len' cap' := by simpa [Value.cells] using h0
    cases h0'
    have hsp := hs a' len cap rfl
    obtain ⟨b, off, spot⟩ := a'
    obtain rfl : spot = none := hsp
    simp only [if_true] at hm
    subst hm
    obtain ⟨rfl, _⟩ : d = _ ∧ p = _ := by simpa using hd
    have hbound := Nat.le_trans (hf.slice _ _) hb
    obtain ⟨Y, hY⟩ := Deep.choose_lt (α := List Int) (n := len) (p := fun i y => (∃ cs, (∀ j, j < Rp.sz (List Int) → w.cell? ⟨b, off + i * Rp.sz (List Int) + j, none⟩ = cs[j]?) ∧ Rp.rep c0 any w cs y) ∧ y.length ≤ 1048576) (fun i hi => by
      obtain ⟨cs', h1, h2⟩ := hx i (by omega)
      obtain ⟨_, hl, hcell⟩ := World.cells?_some h1
      rw [hce] at hl
      obtain ⟨u, rfl⟩ : ∃ u, cs' = [u] := by
        match cs', hl with
        | [u], _ => exact ⟨u, rfl⟩
      obtain ⟨y, hy, hyl⟩ := opn_inner he hq hcq hf h2 (Nat.le_trans (hf.elem _ _ _ (by simp; exact ⟨i, hi, rfl⟩)) hb)
      refine ⟨y, ⟨[u], fun j hj => ?_, u, rfl, hy⟩, hyl⟩
      have hj0 : j < 1 := hj
      have := hcell j (by rw [hce]; exact hj0)
      rw [Deep.add_add, hce] at this
      rw [← this]
      show w.cell? ⟨b, off + i * 1 + j, none⟩ = _
      unfold Addr.add
      by_cases hij : i * 1 + j = 0
      · rw [if_pos hij, Nat.add_assoc, hij]; rfl
      · rw [if_neg hij, Nat.add_assoc])
    have hlen : ((List.range len).map Y).length = len := by simp
    have hll : len ≤ 1048576 := by simp at hbound; omega
    refine ⟨(List.range len).map Y, .inr ⟨b, off, m, by rw [hlen], ⟨by omega, by omega⟩, fun i y hi => ?_⟩, by simp; omega, fun l hl => ?_⟩
    · have hil : i < len := by
        have := (List.getElem?_eq_some_iff.1 hi).1
        omega
      obtain rfl : Y i = y := by simpa [hil] using hi
      obtain ⟨⟨cs, h1, h2⟩, _⟩ := hY i hil
      refine ⟨?_, trivial, cs, h1, h2⟩
      have h3 := h1 0 (by decide)
      have h4 := Rp.len h2
      have h5 : 0 < cs.length := by rw [h4]; decide
      rw [List.getElem?_eq_getElem h5] at h3
      by_cases hbl : b < w.heap.size
      · exact hbl
      · have : w.heap[b]? = none := Array.getElem?_eq_none (by omega)
        simp [World.cell?, this] at h3
    · obtain ⟨i, hi, rfl⟩ := List.mem_map.1 hl
      exact (hY i (List.mem_range.1 hi)).2
end TL
/-
  TlPost: what is owed behind a law that returns true and writes nothing of the caller's.
  By an AI agent.
-/
namespace TL
open Go Go.Proofs Go.ChangeShapes Go.WideShapes Go.RowKit
def rowed (P : Program) (ts : List TypeId) : Bool := ts.all fun t => P.readableRec t && decide (t < P.types.size)
theorem all_stays {H : Type} {enc : TypeId × Value → H} {P : Program} (hl : laidOutB P = true) {W W' : World} (hb : Below W.heap.size W W') (sp : Nat → Bool) :
    ∀ {ts : List TypeId} {vs : List Value} {ds : List (DataW H)} {ps : List MemPlace}, rowed P ts = true → DataW.TrodAll enc P W 0 (fun _ => true) true ts vs ds ps → (∀ p ∈ ps, p.block < W.heap.size) → (∀ p ∈ ps, sp p.block = true) → DataW.TrodAll enc P W' 0 sp true ts vs ds ps
  | [], [], [], _, _, h, _, _ => h
  | [], [], _ :: _, _, _, h, _, _ => h.elim
  | [], _ :: _, _, _, _, h, _, _ => by cases ‹List (DataW H)› <;> exact h.elim
  | _ :: _, [], _, _, _, h, _, _ => by cases ‹List (DataW H)› <;> exact h.elim
  | _ :: _, _ :: _, [], _, _, h, _, _ => h.elim
  | t :: ts, v :: vs, d :: ds, ps, hr, h, hlt, hsp => by
    obtain ⟨p, q, h1, h2, rfl⟩ := h
    simp only [rowed, List.all_cons, Bool.and_eq_true, decide_eq_true_eq] at hr
    exact ⟨p, q, WideElems.Trod_stays hl hr.1.1 hr.1.2 h1 (fun x hx => hb.same (hlt x (by simp [hx]))) (fun x hx => hsp x (by simp [hx])),
      all_stays hl hb sp hr.2 h2 (fun x hx => hlt x (by simp [hx])) (fun x hx => hsp x (by simp [hx])), rfl⟩
theorem law_post {H : Type} {enc : TypeId × Value → H} {P : Program} {f : Func} {s : ChangeSpec} {W W' : World} {args : Array Value} {ds gs : List (DataW H)} {before : List MemPlace} {tb : TypeId}
    (hl : laidOutB P = true) (hr : rowed P f.params.toList = true) (hv : s.vars = []) (hrt : f.resultTypes = #[tb]) (htb : P.underlying tb = some .bool)
    (hW : DataW.Whole enc P f.params.toList s.vars false W args.toList ds gs before) (hfn : s.fn H (ds ++ gs) = { results := [.lit (.bool true)], args := ds }) (hB : Below W.heap.size W W') :
    s.post enc P f false true false false W args (.bool true) W' := by
  have hlt := hW.lt
  have hW0 := hW
  obtain ⟨p, q, hA, hV, rfl, hfz, _⟩ := hW
  rw [hv] at hV
  obtain ⟨rfl, rfl⟩ := trodVars_none hV
  simp only [List.append_nil] at hlt hfz hW0 hfn
  have hres : ∀ (b : Nat) (sp : Nat → Bool) (hd : Bool), DataW.TrodAll enc P W' b sp hd f.resultTypes.toList ((Value.bool true).resultList f.resultTypes.size) (s.fn H (ds ++ [])).results [] := fun b sp hd => by
    rw [hrt, List.append_nil, hfn]
    exact trodAll_cons_mk (shut_bool htb true) trodAll_mk0
  have hargs : ∀ sp : Nat → Bool, (∀ x ∈ p, sp x.block = true) → DataW.TrodAll enc P W' 0 sp true f.params.toList args.toList (s.fn H (ds ++ [])).args p := fun sp hsp => by
    rw [List.append_nil, hfn]
    exact all_stays hl hB sp hr hA hlt hsp
  have hvars : ∀ sp : Nat → Bool, DataW.TrodVars enc P W' sp s.vars (s.fn H (ds ++ [])).vars [] := fun sp => by
    rw [List.append_nil, hfn, hv]
    rfl
  refine ⟨ds, [], p, [], p, [], hW0, hres _ _ _, hargs _ (fun x hx => by simpa using hlt x hx), hvars _, World.keptBut_mono (fun x hx => ⟨hx, Or.inr (by simpa using hx)⟩) (hB.frame _), fun _ => ?_⟩
  refine ⟨?_, _, _, ([] ++ p) ++ [], ⟨[] ++ p, [], trodAll_append (hargs _ (fun _ _ => rfl)) (hres _ _ _), hvars _, rfl, ?_, ?_⟩, ?_⟩
  · exact ok_one hrt rfl (okWide_bool_mk htb true)
  · intro b off hp
    have hp' : MemPlace.cell b off ∈ p := by simpa using hp
    rw [hB.frozen (p := ⟨b, off, none⟩) (hlt _ hp')]
    exact hfz b off hp'
  · intro ha; cases ha
  · intro x hx _
    simpa using hx
end TL
