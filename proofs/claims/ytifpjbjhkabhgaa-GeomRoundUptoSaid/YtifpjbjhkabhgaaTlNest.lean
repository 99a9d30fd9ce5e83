/-
  TlNest: lists of lists that the call owns: the outer block has colour (i, 0), row r's block colour (i, r + 1).
  By an AI agent.
-/
import Derived.Test.YtifpjbjhkabhgaaTlMark
set_option linter.all false
namespace TL
open Go
/-- any value of one cell -/
structure Vc where
  v : Value
  one : v.oneCell' = true
instance : Inhabited Vc := ⟨⟨.int .i64 0, rfl⟩⟩
instance : Rp Vc where
  sz := 1
  rep _ _ _ cs x := cs = [x.v]
  len h := by subst h; rfl
  one := by
    rintro _ _ _ cs x rfl v hv
    obtain rfl : v = x.v := by simpa using hv
    exact x.one
  tr _ _ h := h
instance : Fl Vc where
  cells x := [x.v]
  rep_iff := Iff.rfl
def nilVc : Vc := ⟨.slice none 0 0, rfl⟩

/-- two objects -/
def is2 (i k : Nat) : Col → Prop := fun c => c.1 = i ∨ c.1 = k
theorem is_ne2 {j i k : Nat} (h1 : Nat.beq j i = false) (h2 : Nat.beq j k = false) : ∀ c, is j c → ¬ is2 i k c := fun c h h' => by
  rcases h' with h' | h'
  · exact is_ne h1 c h h'
  · exact is_ne h2 c h h'
theorem row_is {i r : Nat} : ∀ c, row i r c → is i c := fun c h => by unfold row at h; subst h; rfl
theorem row_ne {j r k : Nat} (h : Nat.beq j k = false) : ∀ c, row j r c → ¬ is k c := fun c h1 => is_ne h c (row_is c h1)
theorem row_ne2 {j r i k : Nat} (h1 : Nat.beq j i = false) (h2 : Nat.beq j k = false) : ∀ c, row j r c → ¬ is2 i k c := fun c h => is_ne2 h1 h2 c (row_is c h)
theorem is_row {j i r : Nat} (h : Nat.beq j i = false) : ∀ c, is j c → ¬ row i r c := fun c h1 h2 => is_ne h c h1 (row_is c h2)
theorem row_row {j i r q : Nat} (h : Nat.beq j i = false) : ∀ c, row j q c → ¬ row i r c := fun c h1 h2 => is_ne h c (row_is c h1) (row_is c h2)
theorem rows_ne {i r q : Nat} (h : r ≠ q) : ∀ c, row i r c → ¬ row i q c := fun c h1 h2 => by
  unfold row at h1 h2
  rw [h1] at h2
  exact h (by simpa using h2)
theorem Chg.mono {J K : Col → Prop} {γ γ' : Cmap} {w w' : World} (h : Chg J γ w γ' w') (hK : ∀ c, J c → K c) : Chg K γ w γ' w' :=
  ⟨h.os, h.tape, h.output, h.size, fun b hb hn => h.col b hb fun hj => hn (hK _ hj), fun b hb hn => h.keep b hb fun hj => hn (hK _ hj), h.drawn⟩
theorem Sl.mono {α : Type} [Rp α] {γ : Cmap} {S T : Col → Prop} {w : World} {v : Value} {xs : List α} (h : Sl γ S w v xs) (hs : ∀ c, S c → T c) : Sl γ T w v xs := h.tr (fun _ _ hS => ⟨rfl, hs _ hS⟩) (Nat.le_refl _)
theorem Ow.recol {α : Type} [Rp α] {γ γ' : Cmap} {J J' S S' : Col → Prop} {w : World} {v : Value} {xs : List α} (h : Ow γ J S w v xs) (hS : ∀ b, S (γ b) → S' (γ' b)) (hJ : ∀ b, J (γ b) → J' (γ' b)) : Ow γ' J' S' w v xs :=
  h.tr (Nat.le_refl _) (fun b _ h => ⟨rfl, hS b h⟩) (fun b _ h => ⟨rfl, hJ b h⟩)
/-- the outer block of object i, and object k -/
def ix (i k : Nat) : Col → Prop := fun c => row i 0 c ∨ is k c
/-- object k, or a row of object i -/
def isr (k i : Nat) : Col → Prop := fun c => is k c ∨ (is i c ∧ c.2 ≠ 0)
theorem beq_ne {i j : Nat} (h : Nat.beq i j = false) : i ≠ j := fun e => by subst e; simp at h
theorem is_neix {j i k : Nat} (h1 : Nat.beq j i = false) (h2 : Nat.beq j k = false) : ∀ c, is j c → ¬ ix i k c := fun c h h' => by
  rcases h' with h' | h'
  · exact is_row h1 c h h'
  · exact is_ne h2 c h h'
theorem row_neix {j r i k : Nat} (h1 : Nat.beq j i = false) (h2 : Nat.beq j k = false) : ∀ c, row j r c → ¬ ix i k c := fun c h => is_neix h1 h2 c (row_is c h)
theorem isr_is {k i j : Nat} (h1 : Nat.beq k j = false) (h2 : Nat.beq i j = false) : ∀ c, isr k i c → ¬ is j c := fun c h h' => by
  rcases h with h | h
  · exact is_ne h1 c h h'
  · exact is_ne h2 c h.1 h'
theorem isr_is2 {k i j q : Nat} (h1 : Nat.beq k j = false) (h2 : Nat.beq i j = false) (h3 : Nat.beq k q = false) (h4 : Nat.beq i q = false) : ∀ c, isr k i c → ¬ is2 j q c := fun c h h' => by
  rcases h' with h' | h'
  · exact isr_is h1 h2 c h h'
  · exact isr_is h3 h4 c h h'
theorem isr_row {k i j r : Nat} (h1 : Nat.beq k j = false) (h2 : Nat.beq i j = false) : ∀ c, isr k i c → ¬ row j r c := fun c h h' => isr_is h1 h2 c h (row_is c h')
theorem isr_ix {k i j q : Nat} (h1 : Nat.beq k j = false) (h2 : Nat.beq i j = false) (h3 : Nat.beq k q = false) (h4 : Nat.beq i q = false) : ∀ c, isr k i c → ¬ ix j q c := fun c h h' => by
  rcases h' with h' | h'
  · exact isr_is h1 h2 c h (row_is c h')
  · exact isr_is h3 h4 c h h'
theorem isr_ixs {k i q : Nat} (h1 : Nat.beq k i = false) (h3 : Nat.beq k q = false) (h4 : Nat.beq i q = false) : ∀ c, isr k i c → ¬ ix i q c := fun c h h' => by
  rcases h' with h' | h'
  · rcases h with h | h
    · exact is_row h1 c h h'
    · unfold row at h'
      exact h.2 (by rw [h'])
  · exact isr_is h3 h4 c h h'
/-- object k becomes colour c -/
def recol (γ : Cmap) (k : Nat) (c : Col) : Cmap := fun b => if (γ b).1 = k then c else γ b
theorem recol_row {γ : Cmap} {k i r b : Nat} {c : Col} (h : Nat.beq i k = false) (hr : row i r (γ b)) : row i r (recol γ k c b) := by
  unfold recol
  have h0 : ¬ (γ b).1 = k := row_ne h _ hr
  rw [if_neg h0]; exact hr
theorem chg_recol {J : Col → Prop} {γ : Cmap} {w w' : World} {k : Nat} {c : Col} (h : Chg J γ w γ w') : Chg (fun c => J c ∨ is k c) γ w (recol γ k c) w' :=
  ⟨h.os, h.tape, h.output, h.size, fun b hb hn => by
    have h0 : ¬ (γ b).1 = k := fun h => hn (.inr h)
    unfold recol; rw [if_neg h0], fun b hb hn => h.keep b hb fun hj => hn (.inl hj), h.drawn⟩

/-- an owned list of owned flat lists; row h is not asked for -/
def NstX {α : Type} [Rp α] (γ : Cmap) (i h : Nat) (w : World) (v : Value) (xss : List (List α)) : Prop :=
  ∃ us : List Vc, Ow γ (row i 0) (row i 0) w v us ∧ us.length = xss.length ∧ ∀ r u x, r ≠ h → us[r]? = some u → xss[r]? = some x → Ow γ (row i (r + 1)) (row i (r + 1)) w u.v x
/-- an owned list of owned flat lists -/
def Nst {α : Type} [Rp α] (γ : Cmap) (i : Nat) (w : World) (v : Value) (xss : List (List α)) : Prop :=
  ∃ us : List Vc, Ow γ (row i 0) (row i 0) w v us ∧ us.length = xss.length ∧ ∀ r u x, us[r]? = some u → xss[r]? = some x → Ow γ (row i (r + 1)) (row i (r + 1)) w u.v x
section
variable {α : Type} [Rp α] {γ γ' δ : Cmap} {i h : Nat} {w w' : World} {v : Value} {xss : List (List α)}
theorem Nst.x (hn : Nst γ i w v xss) (h : Nat) : NstX γ i h w v xss := by
  obtain ⟨us, h1, h2, h3⟩ := hn
  exact ⟨us, h1, h2, fun r u x _ => h3 r u x⟩
theorem Nst.chg {K : Col → Prop} (hn : Nst γ i w v xss) (hc : Chg K γ w γ' w') (hK : ∀ c, is i c → ¬ K c) : Nst γ' i w' v xss := by
  obtain ⟨us, h1, h2, h3⟩ := hn
  have hr : ∀ r c, row i r c → ¬ K c := fun r c h => hK c (row_is c h)
  exact ⟨us, h1.chg hc (hr 0) (hr 0), h2, fun r u x hu hx => (h3 r u x hu hx).chg hc (hr _) (hr _)⟩
theorem NstX.chg {K : Col → Prop} (hn : NstX γ i h w v xss) (hc : Chg K γ w γ' w') (hK : ∀ c, is i c → ¬ K c) : NstX γ' i h w' v xss := by
  obtain ⟨us, h1, h2, h3⟩ := hn
  have hr : ∀ r c, row i r c → ¬ K c := fun r c h => hK c (row_is c h)
  exact ⟨us, h1.chg hc (hr 0) (hr 0), h2, fun r u x hne hu hx => (h3 r u x hne hu hx).chg hc (hr _) (hr _)⟩
theorem Nst.rowchg {r : Nat} (hn : Nst γ i w v xss) (hc : Chg (row i (r + 1)) γ w γ' w') : NstX γ' i r w' v xss := by
  obtain ⟨us, h1, h2, h3⟩ := hn
  have hr : ∀ q, q ≠ r + 1 → ∀ c, row i q c → ¬ row i (r + 1) c := fun q hq => rows_ne hq
  exact ⟨us, h1.chg hc (hr 0 (by omega)) (hr 0 (by omega)), h2, fun q u x hne hu hx => (h3 q u x hu hx).chg hc (hr _ (by omega)) (hr _ (by omega))⟩
theorem NstX.rowchg (hn : NstX γ i h w v xss) (hc : Chg (row i (h + 1)) γ w γ' w') : NstX γ' i h w' v xss := by
  obtain ⟨us, h1, h2, h3⟩ := hn
  have hr : ∀ q, q ≠ h + 1 → ∀ c, row i q c → ¬ row i (h + 1) c := fun q hq => rows_ne hq
  exact ⟨us, h1.chg hc (hr 0 (by omega)) (hr 0 (by omega)), h2, fun q u x hne hu hx => (h3 q u x hne hu hx).chg hc (hr _ (by omega)) (hr _ (by omega))⟩
theorem Nst.bel (hn : Nst γ i w v xss) (hb : Bel w.heap.size w w') : Nst γ i w' v xss := by
  obtain ⟨us, h1, h2, h3⟩ := hn
  exact ⟨us, h1.bel hb, h2, fun r u x hu hx => (h3 r u x hu hx).bel hb⟩
theorem glue_row {B : Nat} {γ δ : Cmap} {ren : Nat → Nat} {i k r : Nat} (hδ : ∀ b, b < B → (δ b).1 = 0) (hi : Nat.beq i 0 = false) (hr : ren i = k) : ∀ b, row i r (δ b) → row k r (TL.glue B γ δ ren b) := by
  intro b hb
  have hb0 : δ b = (i, r) := hb
  have h0 : ¬ b < B := fun h => by
    have h1 := hδ b h
    rw [hb0] at h1
    have h1 : i = 0 := h1
    subst h1
    simp at hi
  unfold TL.glue row
  rw [if_neg h0, hb0, hr]
theorem Nst.glue {B k : Nat} {ren : Nat → Nat} (hn : Nst δ i w v xss) (hδ : ∀ b, b < B → (δ b).1 = 0) (hi : Nat.beq i 0 = false) (hr : ren i = k) : Nst (TL.glue B γ δ ren) k w v xss := by
  obtain ⟨us, h1, h2, h3⟩ := hn
  exact ⟨us, h1.recol (glue_row hδ hi hr) (glue_row hδ hi hr), h2, fun r u x hu hx => (h3 r u x hu hx).recol (glue_row hδ hi hr) (glue_row hδ hi hr)⟩
theorem Nst.nil : Nst (α := α) γ i w (.slice none 0 0) [] := ⟨[], Ow.nil, rfl, fun r u x hu => by simp at hu⟩
theorem Nst.sl [Fl α] (hn : Nst γ i w v xss) : Sl γ (is i) w v xss := by
  obtain ⟨us, h1, h2, h3⟩ := hn
  rcases h1 with ⟨rfl, rfl⟩ | ⟨b, cap, c, e, rfl, hc, hm, hJ, hb, hcs, hx⟩
  · have : xss = [] := List.eq_nil_of_length_eq_zero (by simpa using h2.symm)
    subst this
    exact Sl.nil
  · refine .inr ⟨b, 0, cap, by rw [h2], by rw [← h2]; exact hc, fun r x hr => ?_⟩
    have hlt : r < us.length := by rw [h2]; exact (List.getElem?_eq_some_iff.1 hr).1
    have hu : us[r]? = some us[r] := List.getElem?_eq_getElem hlt
    obtain ⟨cs, hcs', hrep⟩ := hx r _ hu
    have hrep' : cs = [us[r].v] := hrep
    refine ⟨heap_lt hb, row_is _ hJ, cs, fun j hj => ?_, us[r].v, hrep', (h3 r _ x hu hr).flat.mono row_is⟩
    rw [← hcs' j hj]
    simp [World.cell?, hb]
    rfl
theorem Nst.len (hn : Nst γ i w v xss) : ∃ a cap, v = .slice a xss.length cap := by
  obtain ⟨us, h1, h2, h3⟩ := hn
  rcases h1 with ⟨rfl, rfl⟩ | ⟨b, cap, c, e, rfl, _⟩
  · rw [← h2]; exact ⟨none, 0, rfl⟩
  · rw [← h2]; exact ⟨_, _, rfl⟩
/-- what lies at an element -/
theorem ow_at {J S : Col → Prop} {us : List Vc} {r : Nat} {u : Vc} (h1 : Ow γ J S w v us) (hu : us[r]? = some u) : w.cell? (eAddr v 1 r) = some u.v := by
  rcases h1 with ⟨rfl, rfl⟩ | ⟨b, cap, c, e, rfl, hc, hm, hJ, hb, hcs, hx⟩
  · simp at hu
  · obtain ⟨cs, hcs', hrep⟩ := hx r u hu
    have hrep' : cs = [u.v] := hrep
    have := hcs' 0 (Nat.zero_lt_one)
    rw [hrep'] at this
    simp only [eAddr, World.cell?, hb]
    simpa [Rp.sz] using this
/-- a row of it -/
theorem nst_row {r : Int} (hn : Nst γ i w v xss) (h0 : 0 ≤ r) (h1 : r < xss.length) : ∃ u, w.cell? (eAddr v 1 r.toNat) = some u ∧ Ow γ (row i (r.toNat + 1)) (row i (r.toNat + 1)) w u (gI xss r) := by
  obtain ⟨us, h2, h3, h4⟩ := hn
  have hlt : r.toNat < us.length := by omega
  have hu : us[r.toNat]? = some us[r.toNat] := List.getElem?_eq_getElem hlt
  exact ⟨us[r.toNat].v, ow_at h2 hu, h4 _ _ _ hu (gI_get h0 h1)⟩
/-- an element of a list of lists -/
theorem sl_row {S : Col → Prop} {r : Int} (hs : Sl γ S w v xss) (h0 : 0 ≤ r) (h1 : r < xss.length) : ∃ u, w.cell? (eAddr v 1 r.toNat) = some u ∧ Sl γ S w u (gI xss r) := by
  obtain ⟨cs, hcs, u, rfl, hu⟩ := hs.elem (gI_get h0 h1)
  have := hcs 0 (Nat.zero_lt_one)
  rw [eAddr_add] at this
  simp only [Nat.add_zero, ← eAddr_eta] at this
  exact ⟨u, by simpa [Rp.sz] using this, hu⟩
end
theorem cel_bel {w w' : World} {a : Addr} {u : Value} (h : w.cell? a = some u) (hb : Bel w.heap.size w w') : w'.cell? a = some u := by
  rw [cell_of_heap (w := w) (hb.block _ (cell_lt h))]; exact h
theorem Ow.row_sl {α : Type} [Rp α] [Fl α] {γ : Cmap} {i r : Nat} {w : World} {v : Value} {xs : List α} (h : Ow γ (row i r) (row i r) w v xs) : Sl γ (is i) w v xs := h.flat.mono row_is
theorem ow_one {α : Type} [Rp α] {γ : Cmap} {J S : Col → Prop} {w : World} {v : Value} {xs : List α} (h : Ow γ J S w v xs) : v.oneCell' = true := by
  rcases h with ⟨rfl, _⟩ | ⟨b, cap, c, e, rfl, _⟩ <;> rfl
theorem ow_cells1 {α : Type} [Rp α] {γ : Cmap} {J S : Col → Prop} {w : World} {v : Value} {xs : List α} (h : Ow γ J S w v xs) : v.cells = #[v] := by
  rcases h with ⟨rfl, _⟩ | ⟨b, cap, c, e, rfl, _⟩ <;> rfl

/-! ### putting a row -/
section
variable {α : Type} [Rp α] {γ : Cmap} {i k : Nat} {w : World} {v u : Value} {xss : List (List α)} {l : List α}
variable {P : Program} {dst : Option Tmp} {ty : TypeId} {pos : String} {after : Array Edge} {g : Option (Nat × Bool)} {f : Fr} {t : TypeId} {x y : Operand} {N : Value → World → Prop}
/-- the outer block is written: row r is u now -/
theorem nst_put {r : Nat} (hn : NstX γ i r w v xss) (hr : r < xss.length) (h1 : u.oneCell' = true) (hc1 : u.cells = #[u]) : ∃ b o cur e, eAddr v 1 r = ⟨b, o, none⟩ ∧ w.heap[b]? = some (.cells cur e (0, 0)) ∧ o + 1 ≤ cur.size ∧
    Chg (row i 0) γ w γ (w.setRow b (cur.toList.take o ++ u.cells.toList ++ cur.toList.drop (o + 1)).toArray) ∧
    (∀ (c : Col → Prop), (∀ q, c q → ¬ row i 0 q) → ∀ l : List α, Ow γ c c w u l → Ow γ c c (w.setRow b (cur.toList.take o ++ u.cells.toList ++ cur.toList.drop (o + 1)).toArray) u l) ∧
    ∀ (γ' : Cmap) (l : List α), (∀ b q, row i q (γ b) → row i q (γ' b)) → Ow γ' (row i (r + 1)) (row i (r + 1)) (w.setRow b (cur.toList.take o ++ u.cells.toList ++ cur.toList.drop (o + 1)).toArray) u l →
      Nst γ' i (w.setRow b (cur.toList.take o ++ u.cells.toList ++ cur.toList.drop (o + 1)).toArray) v (xss.set r l) := by
  obtain ⟨us, h2, h3, h4⟩ := hn
  obtain ⟨b, o, cur, e, ha, hb, hle, hc, hov⟩ := ow_set (u := u) (y := (⟨u, h1⟩ : Vc)) h2 (i := r) (by omega) (by rw [hc1]; rfl)
  refine ⟨b, o, cur, e, ha, hb, hle, hc, fun c hcc l ho => ho.chg hc hcc hcc, fun γ' l hγ hl => ⟨us.set r ⟨u, h1⟩, hov.recol (fun b => hγ b 0) (fun b => hγ b 0), by simp [h3], fun q u' x hu hx => ?_⟩⟩
  by_cases hq : q = r
  · subst hq
    rw [List.getElem?_set_self (by omega)] at hu hx
    obtain rfl := Option.some.inj hu
    obtain rfl := Option.some.inj hx
    exact hl
  · rw [List.getElem?_set_ne (Ne.symm hq)] at hu hx
    exact ((h4 q u' x hq hu hx).chg hc (rows_ne (by omega)) (rows_ne (by omega))).recol (fun b => hγ b _) (fun b => hγ b _)
theorem Nst.of_x {r : Nat} {a : List α} (hn : NstX γ i r w v xss) (ha : xss[r]? = some a) (hu : w.cell? (eAddr v 1 r) = some u) (ho : Ow γ (row i (r + 1)) (row i (r + 1)) w u l) : Nst γ i w v (xss.set r l) := by
  obtain ⟨us, h2, h3, h4⟩ := hn
  have hlt : r < us.length := by rw [h3]; exact (List.getElem?_eq_some_iff.1 ha).1
  refine ⟨us, h2, by simp [h3], fun q u' x hq hx => ?_⟩
  by_cases e : q = r
  · subst e
    rw [List.getElem?_set_self (by omega)] at hx
    obtain rfl := Option.some.inj hx
    have := ow_at h2 hq
    rw [hu] at this
    obtain rfl := Option.some.inj this
    exact ho
  · rw [List.getElem?_set_ne (Ne.symm e)] at hx
    exact h4 q u' x e hq hx
/-- a row is put that the call has just made (object k) -/
theorem o_store_fresh {bytes : Nat} {z : Value} {r : Int} (ht : Tp P t false 1 bytes z) (hx : ev f x = .pointer (some (eAddr v 1 r.toNat))) (hy : ev f y = u) (hn : Nst γ i w v xss) (hu : Ow γ (is k) (is k) w u l) (hk : Nat.beq i k = false) (h0 : 0 ≤ r) (h1 : r < xss.length)
    (hN : ∀ γ' w', Chg (is2 i k) γ w γ' w' → Nst γ' i w' v (xss.set r.toNat l) → N undef w') : opT P ⟨dst, .store t x y, ty, pos, after, g⟩ f w N := by
  obtain ⟨b, o, cur, e, ha, hb, hle, hc, hm, hp⟩ := nst_put (hn.x r.toNat) (r := r.toNat) (by omega) (ow_one hu) (ow_cells1 hu)
  rw [ha] at hx
  have hk' : Nat.beq k i = false := by
    cases hb : Nat.beq k i with
    | false => rfl
    | true => have := Nat.eq_of_beq_eq_true hb; subst this; simp at hk
  refine o_of_eff (run_store ht hx hy hb (by rw [ow_cells1 hu]; rfl) hle (fun q hq => ?_)) (hN (recol γ k (i, r.toNat + 1)) _ ((chg_recol hc).mono ?_) (hp _ l (fun b q hq => recol_row hk hq) ((hm (is k) (is_row hk') l hu).recol ?_ ?_)))
  · rw [ow_cells1 hu] at hq
    obtain rfl : q = u := by simpa using hq
    exact ow_one hu
  · rintro c (h | h)
    · exact .inl (row_is c h)
    · exact .inr h
  · intro b hb
    have hb' : (γ b).1 = k := hb
    unfold recol row
    rw [if_pos hb']
  · intro b hb
    have hb' : (γ b).1 = k := hb
    unfold recol row
    rw [if_pos hb']
/-- nil is put -/
theorem o_store_nilrow {bytes : Nat} {z : Value} {r : Int} (ht : Tp P t false 1 bytes z) (hx : ev f x = .pointer (some (eAddr v 1 r.toNat))) (hy : ev f y = .slice none 0 0) (hn : Nst γ i w v xss) (h0 : 0 ≤ r) (h1 : r < xss.length)
    (hN : ∀ w', Chg (is i) γ w γ w' → Nst γ i w' v (xss.set r.toNat []) → N undef w') : opT P ⟨dst, .store t x y, ty, pos, after, g⟩ f w N := by
  obtain ⟨b, o, cur, e, ha, hb, hle, hc, hm, hp⟩ := nst_put (u := .slice none 0 0) (hn.x r.toNat) (r := r.toNat) (by omega) rfl rfl
  rw [ha] at hx
  refine o_of_eff (run_store ht hx hy hb rfl hle (fun q hq => ?_)) (hN _ (hc.mono row_is) (hp _ [] (fun b q hq => hq) Ow.nil))
  obtain rfl : q = .slice none 0 0 := by simpa [Value.cells] using hq
  rfl
/-- a row is put back that grew out of it -/
theorem o_store_row {bytes : Nat} {z : Value} {r : Int} (ht : Tp P t false 1 bytes z) (hx : ev f x = .pointer (some (eAddr v 1 r.toNat))) (hy : ev f y = u) (hn : NstX γ i r.toNat w v xss) (hu : Ow γ (row i (r.toNat + 1)) (row i (r.toNat + 1)) w u l) (h0 : 0 ≤ r) (h1 : r < xss.length)
    (hN : ∀ w', Chg (is i) γ w γ w' → Nst γ i w' v (xss.set r.toNat l) → N undef w') : opT P ⟨dst, .store t x y, ty, pos, after, g⟩ f w N := by
  obtain ⟨b, o, cur, e, ha, hb, hle, hc, hm, hp⟩ := nst_put hn (r := r.toNat) (by omega) (ow_one hu) (ow_cells1 hu)
  rw [ha] at hx
  refine o_of_eff (run_store ht hx hy hb (by rw [ow_cells1 hu]; rfl) hle (fun q hq => ?_)) (hN _ (hc.mono row_is) (hp _ l (fun b q hq => hq) (hm _ (rows_ne (by omega)) l hu)))
  rw [ow_cells1 hu] at hq
  obtain rfl : q = u := by simpa using hq
  exact ow_one hu
/-- a new list of nil lists -/
theorem o_make_nst (γ : Cmap) (i : Nat) {e bytes : Nat} {z : Value} {kl kc : IntKind} {n cp : Int} (ht : P.underlying t = some (.slice e)) (he : Tp P e false 1 bytes z) (hz : z = .slice none 0 0)
    (hx : ev f x = .int kl n) (hy : ev f y = .int kc cp) (h0 : 0 ≤ n) (hlc : n ≤ cp) (hc : cp * bytes ≤ 281474976710656) (hc2 : cp ≤ 1099511627776)
    (hk : ∀ γ' w' v, Chg no γ w γ' w' → Nst (α := α) γ' i w' v (List.replicate n.toNat []) → N v w') : opT P ⟨dst, .makeSlice t x y, ty, pos, after, g⟩ f w N := by
  subst hz
  refine o_make γ (row i 0) (row i 0) (i, 0) rfl nilVc ht he rfl hx hy h0 hlc hc hc2 fun γ' w' v hch ho _ => hk γ' w' v hch ⟨_, ho, by simp, fun r u x hu hx => ?_⟩
  have hu' := List.getElem?_eq_some_iff.1 hu
  have hx' := List.getElem?_eq_some_iff.1 hx
  obtain ⟨_, rfl⟩ := hu'
  obtain ⟨_, rfl⟩ := hx'
  simp only [List.getElem_replicate]
  exact Ow.nil
/-- a list that the call has just made (object k) is added -/
theorem o_append_nst [Fl α] {S' : Col → Prop} {tv : Value} {c : Vc} (hcv : c.v = u) {e bytes : Nat} {z : Value} (ht : P.underlying t = some (.slice e)) (he : Tp P e false 1 bytes z) (hzc : z.cells.size = 1) (hx : ev f x = v) (hy : ev f y = tv)
    (hn : Nst γ i w v xss) (htv : Sl γ S' w tv [c]) (hu : Ow γ (is k) (is k) w u l) (hk : Nat.beq i k = false) (hby : bytes ≤ 128) (hlen : xss.length + 1 ≤ 1099511627776)
    (hN : ∀ γ' w' v', Chg (ix i k) γ w γ' w' → Nst γ' i w' v' (xss ++ [l]) → Sl γ' (isr k i) w' u l → N v' w') : opT P ⟨dst, .call { callee := .builtin .append, args := #[x, y], argTypes := #[t, t] }, ty, pos, after, g⟩ f w N := by
  obtain ⟨us, h2, h3, h4⟩ := hn
  have hk' : Nat.beq k i = false := by
    cases hb : Nat.beq k i with
    | false => rfl
    | true => have := Nat.eq_of_beq_eq_true hb; subst this; simp at hk
  refine o_append γ (J := row i 0) (S := row i 0) (i, 0) rfl ht he (Nat.zero_lt_one) hzc hx hy h2 htv hby (by simpa [h3] using hlen) fun γ1 w1 v1 hc ho => ?_
  have hrw : ∀ q b, row i q (γ1 b) → row i q (recol γ1 k (i, xss.length + 1) b) := fun q b hq => recol_row hk hq
  have hch := hu.chg hc (is_row hk') (is_row hk')
  have hto : ∀ b, is k (γ1 b) → row i (xss.length + 1) (recol γ1 k (i, xss.length + 1) b) := fun b hb => by
    have hb' : (γ1 b).1 = k := hb
    unfold recol row
    rw [if_pos hb']
  have hrow := hch.recol hto hto
  refine hN (recol γ1 k (i, xss.length + 1)) w1 v1 ?_ ⟨us ++ [c], ho.recol (hrw 0) (hrw 0), by simp [h3], fun r u' x hu' hx' => ?_⟩ (hrow.flat.mono fun c h => .inr ⟨row_is c h, by unfold row at h; rw [h]; simp⟩)
  · refine ⟨hc.os, hc.tape, hc.output, hc.size, fun b hb hn => ?_, fun b hb hn => hc.keep b hb fun hj => hn (.inl hj), hc.drawn⟩
    have h5 := hc.col b hb fun hj => hn (.inl hj)
    unfold recol
    rw [h5]
    have h0 : ¬ (γ b).1 = k := fun h => hn (.inr h)
    rw [if_neg h0]
  · by_cases hr : r < us.length
    · rw [List.getElem?_append_left hr] at hu'
      rw [List.getElem?_append_left (by omega)] at hx'
      exact ((h4 r u' x hu' hx').chg hc (rows_ne (by omega)) (rows_ne (by omega))).recol (hrw _) (hrw _)
    · rw [List.getElem?_append_right (by omega)] at hu' hx'
      have e0 : r - us.length = 0 := by
        have := (List.getElem?_eq_some_iff.1 hu').1
        simp at this; omega
      have er : r = xss.length := by omega
      rw [e0] at hu'
      rw [← h3, e0] at hx'
      obtain rfl : c = u' := by simpa using hu'
      obtain rfl : l = x := by simpa using hx'
      subst er
      rw [hcv]; exact hrow
/-- nil is added -/
theorem o_append_nilrow {S' : Col → Prop} {tv : Value} {c : Vc} (hcv : c.v = .slice none 0 0) {e bytes : Nat} {z : Value} (ht : P.underlying t = some (.slice e)) (he : Tp P e false 1 bytes z) (hzc : z.cells.size = 1) (hx : ev f x = v) (hy : ev f y = tv)
    (hn : Nst γ i w v xss) (htv : Sl γ S' w tv [c]) (hby : bytes ≤ 128) (hlen : xss.length + 1 ≤ 1099511627776)
    (hN : ∀ γ' w' v', Chg (is i) γ w γ' w' → Nst γ' i w' v' (xss ++ [[]]) → N v' w') : opT P ⟨dst, .call { callee := .builtin .append, args := #[x, y], argTypes := #[t, t] }, ty, pos, after, g⟩ f w N := by
  obtain ⟨us, h2, h3, h4⟩ := hn
  refine o_append γ (J := row i 0) (S := row i 0) (i, 0) rfl ht he (Nat.zero_lt_one) hzc hx hy h2 htv hby (by simpa [h3] using hlen) fun γ1 w1 v1 hc ho => ?_
  refine hN γ1 w1 v1 (hc.mono row_is) ⟨us ++ [c], ho, by simp [h3], fun r u' x hu' hx' => ?_⟩
  by_cases hr : r < us.length
  · rw [List.getElem?_append_left hr] at hu'
    rw [List.getElem?_append_left (by omega)] at hx'
    exact (h4 r u' x hu' hx').chg hc (rows_ne (by omega)) (rows_ne (by omega))
  · rw [List.getElem?_append_right (by omega)] at hu' hx'
    have e0 : r - us.length = 0 := by
      have := (List.getElem?_eq_some_iff.1 hu').1
      simp at this; omega
    rw [e0] at hu'
    rw [← h3, e0] at hx'
    obtain rfl : c = u' := by simpa using hu'
    obtain rfl : ([] : List α) = x := by simpa using hx'
    rw [hcv]; exact Ow.nil
end
end TL
namespace TL
open Go
/-- values and the lists that they stand for -/
inductive VcR {α : Type} [Rp α] (w : World) : List Vc → List (List α) → Prop
  | nil : VcR w [] []
  | cons {u : Vc} {x : List α} {us : List Vc} {xss : List (List α)} (h : Ro w u.v x) (r : VcR w us xss) : VcR w (u :: us) (x :: xss)
theorem VcR.len {α : Type} [Rp α] {w : World} {us : List Vc} {xss : List (List α)} (h : VcR w us xss) : us.length = xss.length := by
  induction h with
  | nil => rfl
  | cons _ _ ih => simp [ih]
theorem VcR.get {α : Type} [Rp α] {w : World} {us : List Vc} {xss : List (List α)} (h : VcR w us xss) : ∀ (r : Nat) (u : Vc) (x : List α), us[r]? = some u → xss[r]? = some x → Ro w u.v x := by
  induction h with
  | nil => intro r u x hu; simp at hu
  | cons h _ ih =>
    intro r u x hu hx
    cases r with
    | zero =>
      simp at hu hx
      subst hu hx
      exact h
    | succ r =>
      simp at hu hx
      exact ih r u x hu hx
theorem vc_sl {α : Type} [Rp α] {γ : Cmap} {J S : Col → Prop} {w : World} {v : Value} {us : List Vc} {xss : List (List α)} (h : Ow γ J S w v us) (hr : VcR w us xss) : Sl c0 any w v xss := by
  have hl := hr.len
  rcases h with ⟨rfl, rfl⟩ | ⟨b, cap, c, e, rfl, hc, hm, hJ, hb, hcs, hx⟩
  · have : xss = [] := List.eq_nil_of_length_eq_zero (by simpa using hl.symm)
    subst this; exact Sl.nil
  · refine .inr ⟨b, 0, cap, by rw [hl], by rw [← hl]; exact hc, fun r x hrx => ?_⟩
    have hlt : r < us.length := by rw [hl]; exact (List.getElem?_eq_some_iff.1 hrx).1
    have hu : us[r]? = some us[r] := List.getElem?_eq_getElem hlt
    obtain ⟨cs, hcs', hrep⟩ := hx r _ hu
    have hrep' : cs = [us[r].v] := hrep
    refine ⟨heap_lt hb, trivial, cs, fun j hj => ?_, us[r].v, hrep', hr.get r _ x hu hrx⟩
    rw [← hcs' j hj]
    simp [World.cell?, hb]
    rfl
theorem vc_els {u : Value} {c : Vc} (hc : c.v = u) (h : u.cells = #[u]) : u.cells.toList = Fl.cells c := by rw [h, ← hc]; rfl
theorem vc_of {u : Value} (h : u.oneCell' = true) : ∃ c : Vc, c.v = u := ⟨⟨u, h⟩, rfl⟩
theorem ow_atv {γ : Cmap} {J S : Col → Prop} {w : World} {v u : Value} {us : List Vc} {r : Nat} {c : Vc} (hc : c.v = u) (h1 : Ow γ J S w v us) (hu : us[r]? = some c) : w.cell? (eAddr v 1 r) = some u := by
  rw [← hc]; exact ow_at h1 hu
theorem VcR.consv {α : Type} [Rp α] {w : World} {u : Value} {c : Vc} {x : List α} {us : List Vc} {xss : List (List α)} (hc : c.v = u) (h : Ro w u x) (r : VcR w us xss) : VcR w (c :: us) (x :: xss) := .cons (by rw [hc]; exact h) r
theorem o_inline {P : Program} {f : Fr} {w w' : World} {dst : Option Tmp} {op : Op} {ty : TypeId} {pos : String} {after : Array Edge} {g : Option (Nat × Bool)} {N : Value → World → Prop} {fid : Nat} {args : Array Value}
    (h : (execOp (ev f) ⟨dst, op, ty, pos, after, g⟩).run P w = .ok (.enter fid args) w') (hc : Calls P fid args w' fun e w'' => ∃ v, e = .returned v ∧ N v w'') : opT P ⟨dst, op, ty, pos, after, g⟩ f w N := by
  unfold opT
  rw [h]
  refine hc.mono fun e w'' he => ?_
  obtain ⟨v, rfl, hs⟩ := he
  exact hs
/-- an element of a row is written -/
theorem nst_el {α : Type} [Rp α] {γ : Cmap} {i : Nat} {w w' : World} {v u : Value} {xss : List (List α)} {r : Int} {l : List α} (hn : Nst γ i w v xss) (h0 : 0 ≤ r) (h1 : r < xss.length) (hc : Chg (row i (r.toNat + 1)) γ w γ w') (hu : w.cell? (eAddr v 1 r.toNat) = some u) (ho : Ow γ (row i (r.toNat + 1)) (row i (r.toNat + 1)) w' u l) :
    Nst γ i w' v (xss.set r.toNat l) ∧ w'.cell? (eAddr v 1 r.toNat) = some u := by
  have hx := hn.rowchg hc
  obtain ⟨us, h2, h3, h4⟩ := hx
  have hlt : r.toNat < us.length := by omega
  have hus : us[r.toNat]? = some us[r.toNat] := List.getElem?_eq_getElem hlt
  have hat := ow_at h2 hus
  have hu' : w'.cell? (eAddr v 1 r.toNat) = some u := by
    obtain ⟨us0, h20, h30, h40⟩ := hn
    have hlt0 : r.toNat < us0.length := by omega
    have hat0 := ow_at h20 (List.getElem?_eq_getElem hlt0)
    rw [hu] at hat0
    have h20' := h20.chg hc (rows_ne (by omega)) (rows_ne (by omega))
    have := ow_at h20' (List.getElem?_eq_getElem hlt0)
    rw [this, ← hat0]
  exact ⟨Nst.of_x ⟨us, h2, h3, h4⟩ (gI_get h0 h1) hu' ho, hu'⟩
end TL
namespace TL
open Go
theorem Ow.slk {α : Type} [Rp α] [Fl α] {γ : Cmap} {k i : Nat} {w : World} {v : Value} {xs : List α} (h : Ow γ (is k) (is k) w v xs) : Sl γ (isr k i) w v xs := h.flat.mono fun c h => .inl h
theorem cel_chg {γ γ' : Cmap} {w w' : World} {a : Addr} {u : Value} (h : w.cell? a = some u) (hc : Chg no γ w γ' w') : w'.cell? a = some u := by
  rw [cell_of_heap (w := w) (hc.keep _ (cell_lt h) (fun h => h))]; exact h
end TL
namespace TL
open Go
section
variable {P : Program} {w : World} {f : Fr} {dst : Option Tmp} {ty : TypeId} {pos : String} {after : Array Edge} {g : Option (Nat × Bool)}
theorem e_callv {fid : Nat} {fn : Func} {c : Operand} {args : List Operand} {at_ : Array TypeId} {vals : List Value} (hc : ev f c = .func (.func fid) #[] #[]) (hf : P.funcs[fid]? = some fn) (hb : fn.body.isNone = false) (hn : (fn.name == "runtime.NumGoroutine") = false) (ha : args.map (ev f) = vals) :
    (execOp (ev f) ⟨dst, .call { callee := .value c, args := args.toArray, argTypes := at_ }, ty, pos, after, g⟩).run P w = .ok (.enter fid vals.toArray) w := by
  have ha : args.toArray.map (ev f) = vals.toArray := by rw [← ha]; simp
  simp only [execOp, resolve, hc, Deferred.ofValue, invoke, callFunc, ha, Sem.run_bind, Sem.run_pure, Result.andThen_ok, run_program, hf, hn, hb, Bool.false_eq_true, if_false, Array.append_empty, Array.empty_append]
end
end TL
namespace TL
open Go
/-- further on in what is left to do -/
def adv : List Bool → List Item → List Item
  | [], k => k
  | true :: c, .code (.seq x y) :: k => adv c (.code x :: .code y :: k)
  | false :: c, _ :: k => adv c k
  | _, k => k
/-- several ways meet -/
theorem run_mid (c : List Bool) {P : Program} {fid n : Nat} {R : Ending → World → Prop} {k : List Item} {f : Fr} {w : World} {σ : Type} (Mid : σ → Fr → World → Prop)
    (h : (∀ s f w, Mid s f w → Run P fid n R (adv c k) f w) → Run P fid n R k f w) (hk : ∀ s f w, Mid s f w → Run P fid n R (adv c k) f w) : Run P fid n R k f w := h hk
end TL
namespace TL
open Go
/-- the objects of a list -/
def inl (L : List Nat) : Col → Prop := fun c => L.contains c.1 = true
section
variable {L : List Nat} {γ γ' γ1 γ2 : Cmap} {w w' w1 w2 : World} {i k r : Nat}
theorem Chg.n (h : Chg no γ w γ' w') : Chg (inl L) γ w γ' w' := h.mono fun _ h => h.elim
theorem Chg.l (h : Chg (is i) γ w γ' w') (hi : L.contains i = true) : Chg (inl L) γ w γ' w' := h.mono fun c h => by
  have h : c.1 = i := h
  unfold inl
  rw [h]; exact hi
theorem Chg.l2 (h : Chg (is2 i k) γ w γ' w') (hi : L.contains i = true) (hk : L.contains k = true) : Chg (inl L) γ w γ' w' := h.mono fun c h => by
  unfold inl
  rcases h with h | h
  · rw [h]; exact hi
  · rw [h]; exact hk
theorem Chg.lr (h : Chg (row i r) γ w γ' w') (hi : L.contains i = true) : Chg (inl L) γ w γ' w' := h.mono fun c h => by
  have h : c.1 = i := row_is c h
  unfold inl
  rw [h]; exact hi
theorem Chg.lx (h : Chg (ix i k) γ w γ' w') (hi : L.contains i = true) (hk : L.contains k = true) : Chg (inl L) γ w γ' w' := h.mono fun c h => by
  unfold inl
  rcases h with h | h
  · have h : c.1 = i := row_is c h
    rw [h]; exact hi
  · have h : c.1 = k := h
    rw [h]; exact hk
theorem Chg.seq (h : Chg (inl L) γ w γ1 w1) (h' : Chg (inl L) γ1 w1 γ2 w2) : Chg (inl L) γ w γ2 w2 := h.trans h' fun _ _ h => h.elim id id
theorem is_nl {j : Nat} (h : L.contains j = false) : ∀ c, is j c → ¬ inl L c := fun c h1 h2 => by
  have h1 : c.1 = j := h1
  unfold inl at h2
  rw [h1, h] at h2
  cases h2
theorem row_nl {j r : Nat} (h : L.contains j = false) : ∀ c, row j r c → ¬ inl L c := fun c h1 => is_nl h c (row_is c h1)
end
end TL
namespace TL
open Go
theorem NstX.vc {α : Type} [Rp α] {γ : Cmap} {i h : Nat} {w : World} {v : Value} {xss : List (List α)} (hn : NstX γ i h w v xss) : ∃ us : List Vc, us.length = xss.length ∧ Sl γ (is i) w v us := by
  obtain ⟨us, h1, h2, _⟩ := hn
  exact ⟨us, h2, h1.flat.mono row_is⟩
end TL
