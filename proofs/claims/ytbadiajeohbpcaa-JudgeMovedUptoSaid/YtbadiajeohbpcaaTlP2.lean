/- Plain texts of this claim, part 2. By an AI agent. -/
import Derived.Test.YtbadiajeohbpcaaTlP1
import Derived.Carry
import Derived.Deep.Slices
import Derived.Lib.SmallJoins
import Derived.RowKit
import Derived.Shelf.SlSortCmp.Whole1
/-
  TlJudge2: what is told of a plot; its rotation.
  By an AI agent.
-/
set_option linter.all false
namespace TL
def az (p : du) : List Pt := p.1 ++ p.2.flatten
theorem kz {p : du} {l : List Pt} {k : Nat} (h : l = p.1 ++ (p.2.take k).flatten ∧ (l.length : Int) ≤ 1024 + 4096 * (k : Int)) (hk : (k : Int) < p.2.length) (hl : (gI p.2 (k : Int)).length ≤ 4096) : l ++ gI p.2 (k : Int) = p.1 ++ (p.2.take (k + 1)).flatten ∧ ((l ++ gI p.2 (k : Int)).length : Int) ≤ 1024 + 4096 * ((k + 1 : Nat) : Int) := by
 refine ⟨by rw [bD hk, h.1]; simp, ?_⟩
 rw [List.length_append]; have := h.2; omega
theorem n9 {p : du} {l : List Pt} {k : Nat} (h : l = p.1 ++ (p.2.take k).flatten) (hk : ¬ (k : Int) < p.2.length) : l = az p := by
 rw [List.take_of_length_le (by omega)] at h; exact h
def eX (p : du) : Nat → Int
 | 0 => 0
 | k + 1 => eX p k + (((gI p.2 (k : Int)).length : Int) - 2)
theorem lm {p : du} (h : ∀ e : Int, 0 ≤ e → e < p.2.length → 2 ≤ ((gI p.2 e).length : Int) ∧ dl (gI p.2 e)) : ∀ k : Nat, (k : Int) ≤ p.2.length → 0 ≤ eX p k ∧ eX p k ≤ 4096 * (k : Int)
 | 0, _ => by simp [eX]
 | k + 1, hk => by
   have h1 := lm h k (by omega)
   obtain ⟨h2, h3, _⟩ := h (k : Int) (by omega) (by omega)
   unfold eX; omega
def eW (f : Nat → Bool) : Nat → Bool
 | 0 => true
 | k + 1 => eW f k && f k
theorem jk {f h : Nat → Bool} : ∀ {k : Nat}, (∀ j, j < k → f j = h j) → eW f k = eW h k
 | 0, _ => rfl
 | k + 1, e => by rw [eW, eW, jk fun j hj => e j (by omega), e k (by omega)]
def lI (l : List Pt) (j : Nat) : Bool := decide ((gI l (j : Int)).1 = (gI l ((j : Int) + 1)).1 ∨ (gI l (j : Int)).2 = (gI l ((j : Int) + 1)).2)
def ug (p : du) (e : Nat) : Bool := eW (lI (gI p.2 (e : Int))) ((gI p.2 (e : Int)).length - 1)
def jq (p : du) (k : Nat) : Bool := eW (ug p) k
section
variable {p : du} {l : List Pt} {a b : Bool} {i k : Nat}
theorem s8 (h : a = jq p k) : 1 ≤ (1 : Nat) ∧ a = (jq p k && eW (lI l) (1 - 1)) := ⟨Nat.le_refl _, by rw [h]; simp [eW]⟩
theorem uw (h : 1 ≤ i ∧ a = (jq p k && eW (lI l) (i - 1))) (ha : a = true) (hx : (gI l ((i : Int) - 1)).1 = (gI l (i : Int)).1) : 1 ≤ i + 1 ∧ true = (jq p k && eW (lI l) (i + 1 - 1)) := by
 obtain ⟨h1, h2⟩ := h
 refine ⟨by omega, ?_⟩
 obtain ⟨j, rfl⟩ : ∃ j, i = j + 1 := ⟨i - 1, by omega⟩
 have e : (((j + 1 : Nat) : Int) - 1) = (j : Int) := by omega
 have e2 : ((j + 1 : Nat) : Int) = (j : Int) + 1 := by omega
 rw [e, e2] at hx
 rw [Nat.add_sub_cancel, eW, ← Bool.and_assoc]
 rw [Nat.add_sub_cancel] at h2
 rw [← h2, ha]
 unfold lI
 rw [decide_eq_true (.inl hx)]; rfl
theorem uv (h : 1 ≤ i ∧ a = (jq p k && eW (lI l) (i - 1))) (ha : a = true) (hx : ¬ (gI l ((i : Int) - 1)).1 = (gI l (i : Int)).1) : 1 ≤ i + 1 ∧ decide ((gI l ((i : Int) - 1)).2 = (gI l (i : Int)).2) = (jq p k && eW (lI l) (i + 1 - 1)) := by
 obtain ⟨h1, h2⟩ := h
 refine ⟨by omega, ?_⟩
 obtain ⟨j, rfl⟩ : ∃ j, i = j + 1 := ⟨i - 1, by omega⟩
 have e : (((j + 1 : Nat) : Int) - 1) = (j : Int) := by omega
 have e2 : ((j + 1 : Nat) : Int) = (j : Int) + 1 := by omega
 rw [e, e2] at hx ⊢
 rw [Nat.add_sub_cancel, eW, ← Bool.and_assoc]
 rw [Nat.add_sub_cancel] at h2
 rw [← h2, ha]
 unfold lI
 rw [Bool.true_and, decide_eq_decide]
 exact ⟨.inr, fun h => h.resolve_left hx⟩
theorem ur (h : 1 ≤ i ∧ a = (jq p k && eW (lI l) (i - 1))) (ha : ¬ a = true) : 1 ≤ i + 1 ∧ false = (jq p k && eW (lI l) (i + 1 - 1)) := by
 obtain ⟨h1, h2⟩ := h
 refine ⟨by omega, ?_⟩
 obtain ⟨j, rfl⟩ : ∃ j, i = j + 1 := ⟨i - 1, by omega⟩
 rw [Nat.add_sub_cancel, eW, ← Bool.and_assoc]
 rw [Nat.add_sub_cancel] at h2
 rw [← h2, Bool.eq_false_iff.2 ha]; rfl
theorem tI (hb : b = jq p k) (h : 1 ≤ i ∧ a = (jq p k && eW (lI (gI p.2 (k : Int))) (i - 1))) (hi : ¬ (i : Int) < (gI p.2 (k : Int)).length) (hi2 : (i : Int) ≤ (gI p.2 (k : Int)).length) : a = jq p (k + 1) := by
 have : i = (gI p.2 (k : Int)).length := by omega
 rw [h.2, this]; rfl
end
def jo (p : du) : Int × Int :=
 if 0 < ((az p).length : Int) then ((fO (az p) (az p).length).1 - (fN (az p) (az p).length).1, (fO (az p) (az p).length).2 - (fN (az p) (az p).length).2) else (0, 0)
def ji (p : du) : Int × Int × Int × Bool × Bool := (eX p p.2.length, (jo p).1, (jo p).2, decide (eX p p.2.length = 0), jq p p.2.length)
def aw (g : cU) (p : du) : (Int × Int × Int × Bool × Bool) × Int :=
 if c9 g then if bN g p = [] then (ji p, 0) else ((0, 0, 0, false, false), 24) else ((0, 0, 0, false, false), 1)
section
variable {g : cU} {p : du}
theorem tn (h : tZ g p) : ∀ q ∈ az p, cd q := by
 intro q hq
 unfold az at hq
 rcases List.mem_append.1 hq with hq | hq
 · obtain ⟨i, hi, rfl⟩ := List.mem_iff_getElem.1 hq
   have := h.pt (i : Int) (by omega) (by omega)
   rwa [show gI p.1 (i : Int) = p.1[i] by simp [gI, hi]] at this
 · obtain ⟨l, hl, hq⟩ := List.mem_flatten.1 hq
   obtain ⟨i, hi, rfl⟩ := List.mem_iff_getElem.1 hl
   have := (h.ln (i : Int) (by omega) (by omega)).2.2
   rw [show gI p.2 (i : Int) = p.2[i] by simp [gI, hi]] at this
   exact this q hq
theorem sH {l : List Pt} (h : ∀ q ∈ l, cd q) (h0 : 0 < l.length) : ∀ k : Nat, k ≤ l.length → cd (fN l k) ∧ cd (fO l k)
 | 0, _ => ⟨h _ (aV (by omega) (by omega)), h _ (aV (by omega) (by omega))⟩
 | k + 1, hk => by
   obtain ⟨h1, h2⟩ := sH h h0 k (by omega)
   have h3 := h _ (aV (xs := l) (i := (k : Int)) (by omega) (by omega))
   unfold fN fO
   unfold cd at *
   simp only
   omega
theorem oL (h : ¬ c9 g) : aw g p = ((0, 0, 0, false, false), 1) := by unfold aw; rw [if_neg h]
theorem mZ (h : c9 g) {F : List fB} (hF : F = bN g p) (h1 : 0 < (F.length : Int)) : aw g p = ((0, 0, 0, false, false), 24) := by
 unfold aw
 rw [if_pos h, if_neg]
 intro e
 rw [hF, e] at h1
 simp at h1
theorem jU (h : c9 g) (h1 : bN g p = []) : aw g p = (ji p, 0) := by unfold aw; rw [if_pos h, if_pos h1]
theorem tB {n : Int} {a : Bool} {k q : Nat} {x1 x2 y1 y2 : Int} (hn : n = eX p k) (ha : a = jq p k) (hk : k = p.2.length) (h0 : 0 < ((az p).length : Int)) (hb : (x1 = (fN (az p) q).1 ∧ x2 = (fN (az p) q).2) ∧ y1 = (fO (az p) q).1 ∧ y2 = (fO (az p) q).2) (hq : q = (az p).length) :
   (n, y1 - x1, y2 - x2, decide (n = 0), a) = ji p := by
 obtain ⟨⟨e1, e2⟩, e3, e4⟩ := hb
 subst hk hq
 unfold ji jo
 rw [if_pos h0, hn, ha, e1, e2, e3, e4]
theorem tt {n : Int} {a : Bool} {k : Nat} (hn : n = eX p k) (ha : a = jq p k) (hk : k = p.2.length) (h0 : ¬ 0 < ((az p).length : Int)) : (n, 0, 0, decide (n = 0), a) = ji p := by
 subst hk
 unfold ji jo
 rw [if_neg h0, hn, ha]
end
def eB (p : du) (l : List Int) : List Pt := l.map (eE p)
noncomputable def tuL (p : du) (o : Pt) (l : List Int) : List Int := (arL o (eB p l)).map (gI l)
def lK (p : du) (o : Pt) (l : List Int) : Prop := ∃ j : Nat, j < l.length ∧ 0 < j ∧ ec (aU (gI (eB p l) (gI (arL o (eB p l)) ((j : Int) - 1))) o) (aU (gI (eB p l) (gI (arL o (eB p l)) (j : Int))) o)
noncomputable instance (p : du) (o : Pt) (l : List Int) : Decidable (lK p o l) := by unfold lK; infer_instance
noncomputable def tuS (g : cU) (p : du) : em := (List.range g.1.toNat).map fun (v : Nat) => tuL p (gI p.1 (v : Int)) (dh g (v : Int))
def ky (g : cU) (p : du) : Prop := ∃ v : Nat, v < g.1.toNat ∧ lK p (gI p.1 (v : Int)) (dh g (v : Int))
noncomputable instance (g : cU) (p : du) : Decidable (ky g p) := by unfold ky; infer_instance
noncomputable def turnsR (g : cU) (p : du) : em × Int :=
 if c9 g then if bX g p = [] then if ky g p then ([], 24) else (eV (tuS g p), 0) else ([], 24) else ([], 1)
end TL
/-
  TlSort: the library's sort by a function, met in this frame.
  By an AI agent.
-/
set_option linter.all false
namespace TL
open Go Go.Proofs Go.Shelf Go.Sort Go.Lib
theorem dE.grown {w w' : World} (h : dE w.heap.size w w') : ∃ q os, w' = grow (w.drewN q) os := by
 obtain ⟨h1, h2, h3, h4, h5, h6⟩ := h
 refine ⟨w'.drawn - w.drawn, w'.heap.extract w.heap.size w'.heap.size, ?_⟩
 have hh : w'.heap = w.heap ++ w'.heap.extract w.heap.size w'.heap.size := by
   apply Array.ext_getElem?
   intro k
   rw [Array.getElem?_append]
   by_cases hk : k < w.heap.size
   · rw [if_pos hk]; exact h5 k hk
   · rw [if_neg hk, Array.getElem?_extract]
     split
     · rw [show w.heap.size + (k - w.heap.size) = k by omega]
     · exact Array.getElem?_eq_none (by omega)
 have hd : w'.drawn = w.drawn + (w'.drawn - w.drawn) := by omega
 cases w with
 | mk a b c d e =>
   cases w' with
   | mk a' b' c' d' e' =>
     simp only [grow, World.drewN] at *
     subst h1 h2 h3
     simp only [World.mk.injEq, true_and, and_true]
     exact ⟨hh, hd⟩
section
variable {α : Type} [Inhabited α] {γ : aM} {w : World} {j b : Nat}
theorem ld (enc : α → Value) (hb : is j (γ b)) (m : Nat) (d : Array α) (os : Array Obj) : aL (is j) γ w γ (sortWorld enc w b 0 m d os) := by
 refine ⟨rfl, rfl, rfl, ?_, fun _ _ _ => rfl, fun k hk hn => ?_, ?_⟩
 · unfold sortWorld; rw [size_grow, Go.Sort.size_putRow]; simp only [heap_ahead]; omega
 · unfold sortWorld
   rw [heap_grow_old _ _ (by rw [Go.Sort.size_putRow]; exact hk)]
   have : b ≠ k := fun e => hn (by subst e; exact hb)
   simp [putRow, mapBlock, Array.getElem?_modify, this]
 · show w.drawn ≤ w.drawn + m
   omega
theorem og (enc : α → Value) {c : Array Value} {e : TypeId} {fr : Nat × Nat} (h : w.heap[b]? = some (.cells c e fr)) (m : Nat) (d : Array α) (os : Array Obj) : (sortWorld enc w b 0 m d os).heap[b]? = some (.cells (putCells enc 0 d c) e fr) := by
 unfold sortWorld
 rw [heap_grow_old _ _ (by rw [Go.Sort.size_putRow]; exact cL h)]
 simp [putRow, mapBlock, Array.getElem?_modify, h, onCells]
theorem lu (enc : α → Value) {d : Array α} {c : Array Value} {k : Nat} (h : k < d.size) (hc : k < c.size) : (putCells enc 0 d c)[k]? = some (enc d[k]!) := by
 simp [putCells, h, hc]
end
theorem o7 {P : Program} {ρ : Ren} (L : SlLaysF.n6 P ρ) {α : Type} [Inhabited α] (fe : α → Int) (cf : α → α → Int) (hO : SWO (ltOf cf)) (g : Nat) (cb : Array Value) (eg : ∀ args w, (callFunc g args).run P w = .ok (.enter g args) w)
   {γ : aM} {w : World} {j : Nat} {v : Value} {ds : List α} (hne : ds ≠ []) (hl : Ow γ (is j) (is j) w v (ds.map fe))
   (hc : ∀ W, aL (is j) γ w γ W → ∀ x y, Calls P g (#[.int .i64 (fe x), .int .i64 (fe y)] ++ cb) W fun e w' => e = .returned (.int .i64 (cf x y)) ∧ dE W.heap.size W w') :
   Calls P (ρ.f 6) #[v, .func (.func g) #[] cb] w fun e w' => e = .returned (.tuple #[]) ∧ ∃ ds' : List α, ds'.Perm ds ∧ ds'.Pairwise (fun x y => ltOf cf y x = false) ∧ aL (is j) γ w γ w' ∧ Ow γ (is j) (is j) w' v (ds'.map fe) := by
 rcases hl with ⟨_, h⟩ | ⟨b, cap, c, e, rfl, hcap, hm, hJ, hb, hcs, hx⟩
 · simp at h; exact absurd h hne
 · simp only [List.length_map] at hcap
   have hsz1 : Rp.sz Int = 1 := rfl
   rw [hsz1, Nat.mul_one] at hcs
   have hbs := cL hb
   have hlen : (ds.map fe).length = ds.toArray.size := by simp
   have hget : ∀ i, i < ds.length → c[i]? = some (Value.int .i64 (fe ds.toArray[i]!)) := fun i hi => by
     obtain ⟨cs, h1, h2⟩ := hx i (fe ds[i]) (by simp [hi])
     have h2 : cs = [Value.int .i64 (fe ds[i])] := h2
     have h1 := h1 0 (by decide)
     rw [h2] at h1
     simp only [hsz1, Nat.mul_one, Nat.add_zero] at h1
     rw [h1]
     simp [hi]
   have hH : Holds (fun x : α => Value.int .i64 (fe x)) w b 0 ds.toArray := fun i hi => by
     have hi : i < ds.length := by simpa using hi
     constructor
     · have := hget i hi
       simp only [World.cell?, hb, Nat.zero_add]
       exact this
     · simp [World.frozen?, hb]
   have hcmp : CmpLays1 P g cb (fun x : α => Value.int .i64 (fe x)) cf b 0 ds.toArray.size w := fun m os dk hs x y =>
     (hc _ (ld _ hJ m dk os) x y).mono fun e w' ⟨h1, h2⟩ => ⟨h1, h2.grown⟩
   have key := Any.slices_SortFunc L (fun x : α => Value.int .i64 (fe x)) (fun _ => rfl) cf hO g cb b 0 cap ds.toArray w eg hcmp hH hbs (by simp; omega)
   rw [hlen]
   refine key.mono fun e' w' ⟨h1, d', n, os, hp, hs, hw⟩ => ⟨h1, d'.toList, ?_, ?_, ?_, ?_⟩
   · obtain ⟨q1, _, q3⟩ := hp
     rw [← q1] at q3
     have e1 : (d'.extract 0 d'.size) = d' := by simp
     rw [e1, q1] at q3
     have e2 : (ds.toArray.extract 0 ds.toArray.size) = ds.toArray := Array.extract_size
     rw [e2] at q3
     simpa using q3
   · rw [List.pairwise_iff_getElem]
     intro i k hi hk hik
     have hi : i < d'.size := by simpa using hi
     have hk : k < d'.size := by simpa using hk
     have := hs i k (Nat.zero_le _) hik (by rw [← hp.1]; exact hk)
     rw [getElem!_pos d' k hk, getElem!_pos d' i hi] at this
     simpa using this
   · rw [hw]; exact ld _ hJ n d' os
   · have hs' : d'.size = ds.length := by rw [hp.1]; simp
     have hd : d'.toList.length = ds.length := by simpa using hs'
     refine .inr ⟨b, cap, _, e, by rw [List.length_map, hd]; simp, by rw [List.length_map, hd]; exact hcap, hm, hJ, by rw [hw]; exact og _ hb n d' os, by rw [hsz1, Nat.mul_one]; simpa [putCells] using hcs, fun i x hi => ?_⟩
     have hi' : i < d'.size := by
       have := (List.getElem?_eq_some_iff.1 hi).1
       simpa using this
     refine ⟨[Value.int .i64 x], fun q hq => ?_, rfl⟩
     have : q = 0 := by have : q < 1 := hq; omega
     subst this
     rw [hsz1, Nat.mul_one, Nat.add_zero, lu _ hi' (by rw [hcs]; omega), getElem!_pos d' _ hi']
     simp [hi'] at hi
     simp [hi]
end TL
/-
  TlJudge3: a plot's rotation: the half-edges of each node, turned.
  By an AI agent.
-/
set_option linter.all false
namespace TL
theorem cH {α β : Type} [Inhabited α] [Inhabited β] {f : α → β} {l : List α} {i : Int} (h0 : 0 ≤ i) (h1 : i < l.length) : gI (l.map f) i = f (gI l i) := by
 have h : i.toNat < l.length := by omega
 unfold gI
 rw [List.getD_eq_getElem?_getD, List.getD_eq_getElem?_getD, List.getElem?_map, List.getElem?_eq_getElem h]; rfl
theorem fF {α : Type} [Inhabited α] {l : List α} {x : α} (h : x ∈ l) : ∃ j : Nat, j < l.length ∧ gI l (j : Int) = x := by
 obtain ⟨j, hj, rfl⟩ := List.mem_iff_getElem.1 h
 exact ⟨j, hj, by simp [gI, hj]⟩
section
variable {g : cU} {p : du}
theorem mY {v h : Int} : h ∈ dh g v ↔ (0 ≤ h ∧ h < 2 * (g.2.length : Int)) ∧ dX g h = v := by
 unfold dh gy
 rw [List.mem_filter, List.mem_map]
 constructor
 · rintro ⟨⟨i, hi, rfl⟩, hf⟩
   have := List.mem_range.1 hi
   exact ⟨by omega, of_decide_eq_true hf⟩
 · rintro ⟨h1, h2⟩
   exact ⟨⟨h.toNat, List.mem_range.2 (by omega), by omega⟩, decide_eq_true h2⟩
theorem nF {v : Int} : (dh g v).Nodup := by
 unfold dh gy
 refine List.Nodup.sublist List.filter_sublist ?_
 unfold List.Nodup
 rw [List.pairwise_map]
 refine List.Pairwise.imp ?_ List.nodup_range
 intro a b h e
 exact h (by omega)
theorem nk {v : Int} : ((dh g v).length : Int) ≤ 2 * (g.2.length : Int) := by
 have := jC g v g.2.length
 unfold dh; omega
theorem nC {r : em} (hm : c9 g) (hl : (r.length : Int) = g.1) (hrow : ∀ v : Nat, v < r.length → (gI r (v : Int)).Nodup ∧ ∀ h, h ∈ gI r (v : Int) ↔ (0 ≤ h ∧ h < 2 * (g.2.length : Int)) ∧ dX g h = v) : iz g r := by
 have hn : r.flatten.Nodup := by
   unfold List.Nodup
   rw [List.pairwise_flatten]
   refine ⟨fun l hl => ?_, ?_⟩
   · obtain ⟨v, hv, rfl⟩ := fF hl
     exact (hrow v hv).1
   · rw [List.pairwise_iff_getElem]
     intro i j hi hj hij x hx y hy e
     subst e
     have e1 : gI r (i : Int) = r[i] := by simp [gI, hi]
     have e2 : gI r (j : Int) = r[j] := by simp [gI, hj]
     have h1 := ((hrow i hi).2 x).1 (by rw [e1]; exact hx)
     have h2 := ((hrow j hj).2 x).1 (by rw [e2]; exact hy)
     have := h1.2.symm.trans h2.2
     omega
 refine ⟨hl, fun v hv h hh => ((hrow v hv).2 h).1 hh, hn, ?_⟩
 have hp : r.flatten.Perm (gB (2 * g.2.length)) := by
   rw [List.perm_ext_iff_of_nodup hn (m8 _)]
   intro h
   rw [List.mem_flatten, kT]
   constructor
   · rintro ⟨l, hl, hh⟩
     obtain ⟨v, hv, rfl⟩ := fF hl
     have := (((hrow v hv).2 h).1 hh).1
     omega
   · intro hh
     have hf := pe hm (h := h) (by omega) (by omega)
     have hv : (dX g h).toNat < r.length := by omega
     refine ⟨gI r (((dX g h).toNat : Nat) : Int), aV (by omega) (by omega), ((hrow _ hv).2 h).2 ⟨by omega, by omega⟩⟩
 have := hp.length_eq
 rw [oF] at this
 omega
structure un (g : cU) (p : du) : Prop where
  sh : tZ g p
  pl : ∀ v w : Nat, v < w → w < p.1.length → gI p.1 (v : Int) ≠ gI p.1 (w : Int)
  en : ∀ e : Int, 0 ≤ e → e < p.2.length → ft g p e
  si : ∀ e : Int, 0 ≤ e → e < p.2.length → gP (gI p.2 e)
  nd : ∀ e v : Nat, e < p.2.length → v < p.1.length → (v : Int) ≠ (gI g.2 (e : Int)).1 → (v : Int) ≠ (gI g.2 (e : Int)).2 → ¬ e9 (gI p.2 (e : Int)) (gI p.1 (v : Int))
  ap : ∀ e f : Nat, e < f → f < p.2.length → gO (gI p.2 (e : Int)) (gI p.2 (f : Int)) (gR g p (e : Int) (f : Int))
theorem lT : bX g p = [] ↔ un g p := by
 unfold bX
 by_cases hs : bN g p = []
 · rw [if_pos hs]
   have hsh := ef.1 hs
   rw [List.append_eq_nil_iff, List.append_eq_nil_iff]
   constructor
   · rintro ⟨⟨h1, h2⟩, h3⟩
     rw [if_pos h2, List.append_eq_nil_iff] at h3
     unfold cV at h2
     rw [List.append_eq_nil_iff, cl, cl] at h2
     refine ⟨hsh, fun v w hvw hw e => ?_, fun e h0 h4 => ?_, fun e h0 h4 => ?_, fun e v he hv hn1 hn2 ho => ?_, fun e f hef hf => ?_⟩
     · have k1 := cl.1 h1 v (by omega)
       have k2 := cl.1 k1 w hw
       exact fE.1 k2 ⟨hvw, e⟩
     · have k1 := h2.1 e.toNat (by omega)
       have k2 := fE.1 k1
       rw [Int.toNat_of_nonneg h0] at k2
       exact Classical.not_not.1 k2
     · have k1 := h2.2 e.toNat (by omega)
       have k2 := fE.1 k1
       rw [Int.toNat_of_nonneg h0] at k2
       exact Classical.not_not.1 k2
     · have k1 := cl.1 h3.1 e he
       have k2 := cl.1 k1 v hv
       exact fE.1 k2 ⟨⟨hn1, hn2⟩, ho⟩
     · have k1 := cl.1 h3.2 e (by omega)
       have k2 := cl.1 k1 f hf
       exact Classical.not_not.1 fun c => fE.1 k2 ⟨hef, c⟩
   · intro h
     have hL : cV g p = [] := by
       unfold cV
       rw [List.append_eq_nil_iff]
       exact ⟨dW fun e he => cZ (Classical.not_not.2 (h.en _ (by omega) (by omega))), dW fun e he => cZ (Classical.not_not.2 (h.si _ (by omega) (by omega)))⟩
     refine ⟨⟨dW fun v hv => dW fun w hw => cZ fun c => h.pl v w c.1 hw c.2, hL⟩, ?_⟩
     rw [if_pos hL, List.append_eq_nil_iff]
     exact ⟨dW fun e he => dW fun v hv => cZ fun c => h.nd e v he hv c.1.1 c.1.2 c.2, dW fun e he => dW fun f hf => cZ fun c => c.2 (h.ap e f c.1 hf)⟩
 · rw [if_neg hs]
   exact ⟨fun h => absurd h hs, fun h => absurd (ef.2 h.sh) hs⟩
theorem kk (hm : c9 g) (hc : un g p) {v h : Int} (hh : h ∈ dh g v) : ((0 ≤ h ∧ h < 2 * (p.2.length : Int)) ∧ 2 ≤ ((gI p.2 (h / 2)).length : Int)) ∧ cd (eE p h) ∧ eE p h ≠ gI p.1 v := by
  obtain ⟨⟨h0, h1⟩, hf⟩ := mY.1 hh
  have hs := hc.sh
  have hm2 := hs.m
  have e0 : 0 ≤ h / 2 := by omega
  have e1 : h / 2 < p.2.length := by omega
  obtain ⟨l1, l2, l3⟩ := hs.ln _ e0 e1
  have hen := hc.en _ e0 e1
  have hsi := hc.si _ e0 e1
  refine ⟨⟨⟨h0, by omega⟩, l1⟩, ?_⟩
  unfold eE
  unfold ft at hen
  unfold dX pI at hf
  rcases (by omega : h % 2 = 0 ∨ h % 2 = 1) with c | c
  · rw [if_pos c]
    rw [c] at hf
    refine ⟨l3 _ (aV (by omega) (by omega)), fun e => ?_⟩
    have k1 := (hsi 0 (by omega) (by omega)).1
    have hf' : (gI g.2 (h / 2)).1 = v := by simpa using hf
    rw [← hf', ← hen.1] at e
    exact k1 e.symm
  · rw [if_neg (by omega)]
    rw [c] at hf
    refine ⟨l3 _ (aV (by omega) (by omega)), fun e => ?_⟩
    have k1 := (hsi ((gI p.2 (h / 2)).length - 2) (by omega) (by omega)).1
    have hf' : (gI g.2 (h / 2)).2 = v := by simpa using hf
    rw [← hf', ← hen.2] at e
    rw [show (((gI p.2 (h / 2)).length - 2 : Nat) : Int) = ((gI p.2 (h / 2)).length : Int) - 2 by omega, show ((gI p.2 (h / 2)).length : Int) - 2 + 1 = ((gI p.2 (h / 2)).length : Int) - 1 by omega] at k1
    exact k1 e
theorem lS (hm : c9 g) (hc : un g p) (hfew : (g.2.length : Int) ≤ 2000) (v : Int) : dl (eB p (dh g v)) ∧ im (gI p.1 v) (eB p (dh g v)) := by
 have hl := nk (g := g) (v := v)
 refine ⟨⟨by unfold eB; rw [List.length_map]; omega, fun q hq => ?_⟩, fun i hi => ?_⟩
 · obtain ⟨h, hh, rfl⟩ := List.mem_map.1 hq
   exact (kk hm hc hh).2.1
 · unfold eB at hi ⊢
   rw [List.length_map] at hi
   rw [cH (by omega) (by omega)]
   exact (kk hm hc (aV (by omega) (by omega))).2.2
theorem rz {o : Pt} {ps : List Pt} (hz : im o ps) : (arL o ps).Perm (eZ ps.length) := by
 obtain ⟨h1, h2⟩ := iF hz
 have n1 : (arL o ps).Nodup := List.Pairwise.imp (fun {a b} h e => by subst e; exact fH _ _ h) h1
 have n2 : (eZ ps.length).Nodup := by
   unfold eZ List.Nodup
   rw [List.pairwise_map]
   refine List.Pairwise.imp ?_ List.nodup_range
   intro a b h e
   exact h (by omega)
 rw [List.perm_ext_iff_of_nodup n1 n2]
 intro x
 rw [h2 x]
 unfold eZ
 rw [List.mem_map]
 constructor
 · intro h
   exact ⟨x.toNat, List.mem_range.2 (by omega), by omega⟩
 · rintro ⟨i, hi, rfl⟩
   have := List.mem_range.1 hi
   omega
theorem rW (l : List Int) : (eZ l.length).map (gI l) = l := by
 apply List.ext_getElem
 · simp [eZ]
 · intro i h1 h2
   simp [eZ, gI, h2]
theorem rp {o : Pt} {l : List Int} (hz : im o (eB p l)) : (tuL p o l).Perm l := by
 have h := (rz hz).map (gI l)
 have e : (eB p l).length = l.length := by simp [eB]
 rw [e, rW] at h
 exact h
theorem ul (hm : c9 g) {v : Nat} (hv : (v : Int) < g.1) : gI (tuS g p) (v : Int) = tuL p (gI p.1 (v : Int)) (dh g (v : Int)) := by
 unfold tuS
 have : v < g.1.toNat := by omega
 simp [gI, this]
theorem iV : (tuS g p).length = g.1.toNat := by simp [tuS]
theorem rh (hm : c9 g) (hc : un g p) (hfew : (g.2.length : Int) ≤ 2000) : iz g (tuS g p) := by
 have h0 := hm.1
 refine nC hm (by rw [iV]; omega) fun v hv => ?_
 rw [iV] at hv
 have hp := rp (p := p) (lS hm hc hfew (v : Int)).2
 rw [ul hm (by omega)]
 exact ⟨hp.nodup_iff.2 nF, fun h => by rw [hp.mem_iff]; exact mY⟩
structure gv (g : cU) (p : du) (first : em) (v : Nat) : Prop where
 len : first.length = g.1.toNat
 row : ∀ j : Nat, j < g.1.toNat → gI first (j : Int) = if j < v then tuL p (gI p.1 (j : Int)) (dh g (j : Int)) else dh g (j : Int)
 ok : ∀ j : Nat, j < v → ¬ lK p (gI p.1 (j : Int)) (dh g (j : Int))
theorem gv.start (hm : c9 g) : gv g p (fo g) 0 := by
 have h0 := hm.1
 refine ⟨by simp [fo], fun j hj => ?_, fun j hj => by omega⟩
 rw [if_neg (by omega)]
 unfold fo
 simp [gI, hj]
theorem gv.start' (hm : c9 g) {r : em} (h : r = fo g) : gv g p r 0 := h ▸ gv.start hm
theorem gv.now {first : em} {v : Nat} (h : gv g p first v) (hv : v < g.1.toNat) : gI first (v : Int) = dh g (v : Int) := by
 rw [h.row v hv, if_neg (by omega)]
theorem gv.next {first : em} {v : Nat} {X : List Int} (h : gv g p first v) (hv : v < g.1.toNat) (hX : X = tuL p (gI p.1 (v : Int)) (dh g (v : Int))) (hn : ¬ lK p (gI p.1 (v : Int)) (dh g (v : Int))) : gv g p (first.set (Int.toNat (v : Int)) X) (v + 1) := by
 have hl := h.len
 refine ⟨by simpa using hl, fun j hj => ?_, fun j hj => ?_⟩
 · rw [fK (by omega) (by omega) (by omega)]
   by_cases e : (j : Int) = (v : Int)
   · have : j = v := by omega
     subst this
     rw [if_pos rfl, if_pos (by omega), hX]
   · rw [if_neg e, h.row j hj]
     by_cases c : j < v
     · rw [if_pos c, if_pos (by omega)]
     · rw [if_neg c, if_neg (by omega)]
 · by_cases e : j = v
   · subst e; exact hn
   · exact h.ok j (by omega)
theorem gv.fin {first : em} {v : Nat} (h : gv g p first v) (hv : v = g.1.toNat) : first = tuS g p ∧ ¬ ky g p := by
 subst hv
 refine ⟨?_, fun ⟨v, hv, hb⟩ => h.ok v hv hb⟩
 apply List.ext_getElem
 · rw [h.len, iV]
 · intro i h1 h2
   have hi : i < g.1.toNat := by rw [← h.len]; exact h1
   have := h.row i hi
   rw [if_pos hi] at this
   have e1 : gI first (i : Int) = first[i] := by simp [gI, h1]
   rw [← e1, this]
   simp [tuS]
theorem qG {to_ : List Pt} {l : List Int} {k : Nat} (h : to_ = (l.take k).map (eE p)) (hk : (k : Int) < l.length) : to_ ++ [eE p (gI l (k : Int))] = (l.take (k + 1)).map (eE p) := by
 rw [bD hk, List.map_append, h]; rfl
theorem tp {to_ : List Pt} {l : List Int} {k : Nat} (h : to_ = (l.take k).map (eE p)) (hk : ¬ (k : Int) < l.length) : to_ = eB p l := by
 rw [h, List.take_of_length_le (by omega)]; rfl
def m5 (p : du) (o : Pt) (l T : List Int) (i : Nat) : Prop := T = ((arL o (eB p l)).take i).map (gI l) ∧ ∀ j : Nat, j < i → 0 < j → ¬ ec (aU (gI (eB p l) (gI (arL o (eB p l)) ((j : Int) - 1))) o) (aU (gI (eB p l) (gI (arL o (eB p l)) (j : Int))) o)
theorem m5.start {o : Pt} {l : List Int} : m5 p o l [] 0 := ⟨rfl, fun j hj => by omega⟩
theorem m5.next {o : Pt} {l T : List Int} {i : Nat} (h : m5 p o l T i) (hi : (i : Int) < (arL o (eB p l)).length) (hs : ¬ 0 < (i : Int) ∨ ¬ decide (ec (aU (gI (eB p l) (gI (arL o (eB p l)) ((i : Int) - 1))) o) (aU (gI (eB p l) (gI (arL o (eB p l)) (i : Int))) o)) = true) :
   m5 p o l (T ++ [gI l (gI (arL o (eB p l)) (i : Int))]) (i + 1) := by
 refine ⟨by rw [bD hi, List.map_append, h.1]; rfl, fun j hj h0 hb => ?_⟩
 by_cases e : j = i
 · subst e
   rcases hs with hs | hs
   · omega
   · exact hs (decide_eq_true hb)
 · exact h.2 j (by omega) h0 hb
theorem m5.fin {o : Pt} {l T : List Int} {i : Nat} (hz : im o (eB p l)) (h : m5 p o l T i) (hi : ¬ (i : Int) < (arL o (eB p l)).length) : T = tuL p o l ∧ ¬ lK p o l := by
 have hl := i8 hz
 have e : (eB p l).length = l.length := by simp [eB]
 refine ⟨by rw [h.1, List.take_of_length_le (by omega)]; rfl, fun ⟨j, hj, h0, hb⟩ => h.2 j (by omega) h0 hb⟩
theorem m5.bad {v : Nat} {i : Nat} (hv : v < g.1.toNat) (hz : im (gI p.1 (v : Int)) (eB p (dh g (v : Int)))) (hi : (i : Int) < (arL (gI p.1 (v : Int)) (eB p (dh g (v : Int)))).length) (h0 : 0 < (i : Int))
   (hs : decide (ec (aU (gI (eB p (dh g (v : Int))) (gI (arL (gI p.1 (v : Int)) (eB p (dh g (v : Int)))) ((i : Int) - 1))) (gI p.1 (v : Int))) (aU (gI (eB p (dh g (v : Int))) (gI (arL (gI p.1 (v : Int)) (eB p (dh g (v : Int)))) (i : Int))) (gI p.1 (v : Int)))) = true) : ky g p := by
 have hl := i8 hz
 have e : (eB p (dh g (v : Int))).length = (dh g (v : Int)).length := by simp [eB]
 exact ⟨v, hv, i, by omega, by omega, of_decide_eq_true hs⟩
theorem mL (h : ¬ c9 g) : turnsR g p = ([], 1) := by unfold turnsR; rw [if_neg h]
theorem lh (h : c9 g) (h1 : ¬ bX g p = []) : turnsR g p = ([], 24) := by unfold turnsR; rw [if_pos h, if_neg h1]
theorem jJ (h : c9 g) (h1 : bX g p = []) (h2 : ky g p) : turnsR g p = ([], 24) := by unfold turnsR; rw [if_pos h, if_pos h1, if_pos h2]
theorem l9 (h : c9 g) (h1 : bX g p = []) (h2 : ¬ ky g p) : turnsR g p = (eV (tuS g p), 0) := by unfold turnsR; rw [if_pos h, if_pos h1, if_neg h2]
theorem iI (h : c9 g) (h1 : bX g p = []) (hfew : (g.2.length : Int) ≤ 2000) {first : em} {v : Nat} (ht : gv g p first v) (hv : v = g.1.toNat) : dp g first = turnsR g p := by
 obtain ⟨e, hb⟩ := ht.fin hv
 rw [e, l9 h h1 hb, mo h (rh h (lT.1 h1) hfew)]
end
end TL
/-
  TlJudge4: directions around a point; a plot turned by a quarter; the example's rotation.
  By an AI agent.
-/
set_option linter.all false
namespace TL
section
variable {u v w : Pt}
end
section
variable {p : du} {o : Pt} {l : List Int}
theorem pv (hz : im o (eB p l)) (h : lK p o l) : ∃ i k : Int, ((0 ≤ i ∧ i < ((eB p l).length : Int)) ∧ 0 ≤ k ∧ k < ((eB p l).length : Int)) ∧ i ≠ k ∧ ec (vA o (eB p l) i) (vA o (eB p l) k) := by
 obtain ⟨j, hj, h0, hs⟩ := h
 have e : (eB p l).length = l.length := by simp [eB]
 exact ⟨_, _, ⟨m7 hz (i := (j : Int) - 1) (by omega) (by omega), m7 hz (i := (j : Int)) (by omega) (by omega)⟩, sM hz (by omega) (by omega) (by omega), hs⟩
end
def ol : cU := (3, [(0, 1), (1, 2)])
def rc : du := ([(0, 0), (2, 0), (1, 0)], [[(0, 0), (1, 1), (2, 0)], [(2, 0), (1, 0)]])
theorem oW : c9 ol := by decide
theorem lF : bX ol rc = [] := by decide +kernel
def oB (p : du) (o : Pt) (l : List Int) : Bool := (List.range l.length).all fun i => (List.range l.length).all fun k => i == k || !decide (ec (vA o (eB p l) (i : Int)) (vA o (eB p l) (k : Int)))
theorem oT : (List.range 3).all (fun v => oB rc (gI rc.1 ((v : Nat) : Int)) (dh ol ((v : Nat) : Int))) = true := by decide +kernel
theorem r6 : ¬ ky ol rc := by
 rintro ⟨v, hv, hb⟩
 have hv3 : v < 3 := hv
 have hz := (lS oW (lT.1 lF) (by decide) (v : Int)).2
 obtain ⟨i, k, ⟨hi, hk⟩, hne, hs⟩ := pv hz hb
 have e : (eB rc (dh ol (v : Int))).length = (dh ol (v : Int)).length := by simp [eB]
 have h1 := List.all_eq_true.1 oT v (List.mem_range.2 hv3)
 unfold oB at h1
 have i1 : i.toNat ∈ List.range (dh ol (v : Int)).length := List.mem_range.2 (by omega)
 have k1 : k.toNat ∈ List.range (dh ol (v : Int)).length := List.mem_range.2 (by omega)
 have h2 := List.all_eq_true.1 (List.all_eq_true.1 h1 _ i1) _ k1
 rw [Int.toNat_of_nonneg hi.1, Int.toNat_of_nonneg hk.1, decide_eq_true hs] at h2
 simp at h2
 omega
theorem kE : turnsR ol rc = (eV (tuS ol rc), 0) := l9 oW lF r6
theorem pg : (List.length (turnsR ol rc).1 : Int) = 3 := by
 rw [kE]
 simp [eV, iV]; rfl
theorem ph : (turnsR ol rc).2 = 0 := by rw [kE]
section
variable {u v : Pt} {i k : Int}
def uh (u : Pt) : Prop := 0 ≤ u.1 ∧ 0 < u.2
instance (u : Pt) : Decidable (uh u) := by unfold uh; infer_instance
end
section
variable {o : Pt} {ps : List Pt}
end
end TL
/-
  TlJTr: plots moved as a whole: their flaws.
  By an AI agent.
-/
set_option linter.all false
namespace TL
structure jR (T : Pt → Pt) (D : Pt → Prop) : Prop where
  inj : ∀ a b, T a = T b → a = b
  ok : ∀ a, D a → (cd (T a) ↔ cd a)
  on : ∀ a b q, bG (T a) (T b) (T q) ↔ bG a b q
  meet : ∀ a b c d, cd a → cd b → cd c → cd d → cd (T a) → cd (T b) → cd (T c) → cd (T d) → aT (T a) (T b) (T c) (T d) = aT a b c d
def dg (a : Pt) : Prop := (-524288 ≤ a.1 ∧ a.1 ≤ 524288) ∧ -524288 ≤ a.2 ∧ a.2 ≤ 524288
theorem oK {q : Pt} (hq : (-1000 ≤ q.1 ∧ q.1 ≤ 1000) ∧ -1000 ≤ q.2 ∧ q.2 ≤ 1000) : jR (fun a => cr a q) dg :=
 ⟨fun a b h => by
     have h1 := congrArg Prod.fst h
     have h2 := congrArg Prod.snd h
     simp only [cr] at h1 h2
     exact Prod.ext (by omega) (by omega),
  fun a h => by unfold dg at h; unfold cd cr; simp only; omega, fun _ _ _ => na, fun a b c d h1 h2 h3 h4 k1 k2 k3 k4 => oH h1.bd h2.bd h3.bd h4.bd k1.bd k2.bd k3.bd k4.bd⟩
def gi (T : Pt → Pt) (p : du) : du := (p.1.map T, p.2.map (List.map T))
section
variable {T : Pt → Pt} {D : Pt → Prop} {g : cU} {p : du} {l a b but : List Pt} {q : Pt} {i k : Nat}
theorem jR.eq (hT : jR T D) {x y : Pt} : T x = T y ↔ x = y := ⟨hT.inj x y, fun h => by rw [h]⟩
theorem jR.okl (hT : jR T D) (hD : ∀ q ∈ l, D q) : dl (l.map T) ↔ dl l := by
 unfold dl
 rw [List.length_map]
 refine and_congr Iff.rfl ⟨fun h q hq => (hT.ok q (hD q hq)).1 (h _ (List.mem_map_of_mem hq)), fun h q hq => ?_⟩
 obtain ⟨x, hx, rfl⟩ := List.mem_map.1 hq
 exact (hT.ok x (hD x hx)).2 (h x hx)
theorem jR.lnp (hT : jR T D) (hD : ∀ q ∈ l, D q) : tU (l.map T) ↔ tU l := by
 unfold tU
 rw [hT.okl hD, List.length_map]
theorem jR.both (hT : jR T D) {x y u v z : Pt} : eb (T x) (T y) (T u) (T v) (T z) ↔ eb x y u v z := by unfold eb; rw [hT.on, hT.on]
theorem jR.over (hT : jR T D) : e9 (l.map T) (T q) ↔ e9 l q := by
 rw [i5, i5, List.length_map]
 constructor
 · rintro ⟨j, hj, h⟩
   rw [cH (by omega) (by omega), cH (by omega) (by omega), hT.on] at h
   exact ⟨j, hj, h⟩
 · rintro ⟨j, hj, h⟩
   refine ⟨j, hj, ?_⟩
   rw [cH (by omega) (by omega), cH (by omega) (by omega), hT.on]
   exact h
theorem jR.only (hT : jR T D) {s t : Sg} (h1 : cd s.1) (h2 : cd s.2) (h3 : cd t.1) (h4 : cd t.2) (k1 : cd (T s.1)) (k2 : cd (T s.2)) (k3 : cd (T t.1)) (k4 : cd (T t.2)) : cA (T s.1, T s.2) (T t.1, T t.2) (but.map T) ↔ cA s t but := by
 unfold cA
 simp only
 rw [hT.meet _ _ _ _ h1 h2 h3 h4 k1 k2 k3 k4]
 have : (∃ x ∈ but.map T, eb (T s.1) (T s.2) (T t.1) (T t.2) x) ↔ ∃ x ∈ but, eb s.1 s.2 t.1 t.2 x := by
   constructor
   · rintro ⟨x, hx, h⟩
     obtain ⟨y, hy, rfl⟩ := List.mem_map.1 hx
     exact ⟨y, hy, hT.both.1 h⟩
   · rintro ⟨x, hx, h⟩
     exact ⟨T x, List.mem_map_of_mem hx, hT.both.2 h⟩
 rw [this]
theorem jR.apa (hT : jR T D) (ha : dl a) (hb : dl b) (ha' : dl (a.map T)) (hb' : dl (b.map T)) : gO (a.map T) (b.map T) (but.map T) ↔ gO a b but := by
 have key : ∀ j : Nat, j + 1 < a.length → ∀ q : Nat, q + 1 < b.length → (cA (gI (a.map T) (j : Int), gI (a.map T) ((j : Int) + 1)) (gI (b.map T) (q : Int), gI (b.map T) ((q : Int) + 1)) (but.map T) ↔ cA (gI a (j : Int), gI a ((j : Int) + 1)) (gI b (q : Int), gI b ((q : Int) + 1)) but) := by
   intro j hj q hq
   rw [cH (by omega) (by omega), cH (by omega) (by omega), cH (by omega) (by omega), cH (by omega) (by omega)]
   have o1 : ∀ i : Int, 0 ≤ i → i < a.length → cd (gI a i) ∧ cd (T (gI a i)) := fun i h0 h1 => ⟨ha.2 _ (aV h0 h1), ha'.2 _ (List.mem_map_of_mem (aV h0 h1))⟩
   have o2 : ∀ i : Int, 0 ≤ i → i < b.length → cd (gI b i) ∧ cd (T (gI b i)) := fun i h0 h1 => ⟨hb.2 _ (aV h0 h1), hb'.2 _ (List.mem_map_of_mem (aV h0 h1))⟩
   have x1 := o1 (j : Int) (by omega) (by omega)
   have x2 := o1 ((j : Int) + 1) (by omega) (by omega)
   have y1 := o2 (q : Int) (by omega) (by omega)
   have y2 := o2 ((q : Int) + 1) (by omega) (by omega)
   exact hT.only (s := (gI a (j : Int), gI a ((j : Int) + 1))) (t := (gI b (q : Int), gI b ((q : Int) + 1))) x1.1 x2.1 y1.1 y2.1 x1.2 x2.2 y1.2 y2.2
 rw [j5, j5, List.length_map, List.length_map]
 exact ⟨fun h j hj q hq => (key j hj q hq).1 (h j hj q hq), fun h j hj q hq => (key j hj q hq).2 (h j hj q hq)⟩
theorem jR.sim (hT : jR T D) (hl : dl l) (hl' : dl (l.map T)) : gP (l.map T) ↔ gP l := by
 have hg : ∀ i : Int, 0 ≤ i → i < l.length → gI (l.map T) i = T (gI l i) := fun i h0 h1 => cH h0 h1
 have ho : ∀ i : Int, 0 ≤ i → i < l.length → cd (gI l i) ∧ cd (T (gI l i)) := fun i h0 h1 => ⟨hl.2 _ (aV h0 h1), hl'.2 _ (List.mem_map_of_mem (aV h0 h1))⟩
 have hcl : bY (l.map T) ↔ bY l := by
   unfold bY
   rw [List.length_map]
   refine and_congr_right fun h => ?_
   rw [hg 0 (by omega) (by omega), hg _ (by omega) (by omega), hT.eq]
 have hbad : ∀ i k : Nat, (i : Int) ≤ (l.length : Int) - 2 → (k : Int) ≤ (l.length : Int) - 2 → (fV (l.map T) i k ↔ fV l i k) := by
   intro i k hi hk
   unfold fV fc uz
   rw [hcl, List.length_map, hg _ (by omega) (by omega), hg _ (by omega) (by omega), hg _ (by omega) (by omega), hg _ (by omega) (by omega)]
   have x1 := ho (i : Int) (by omega) (by omega)
   have x2 := ho ((i : Int) + 1) (by omega) (by omega)
   have y1 := ho (k : Int) (by omega) (by omega)
   have y2 := ho ((k : Int) + 1) (by omega) (by omega)
   rw [hT.meet _ _ _ _ x1.1 x2.1 y1.1 y2.1 x1.2 x2.2 y1.2 y2.2]
 unfold gP m9
 rw [List.length_map]
 constructor
 · intro h i hi hi2
   obtain ⟨h1, h2⟩ := h i hi hi2
   rw [hg _ (by omega) (by omega), hg _ (by omega) (by omega), Ne, hT.eq] at h1
   exact ⟨h1, fun k hk hik hk2 hb => h2 k hk hik hk2 ((hbad i k hi2 hk2).2 hb)⟩
 · intro h i hi hi2
   obtain ⟨h1, h2⟩ := h i hi hi2
   refine ⟨?_, fun k hk hik hk2 hb => h2 k hk hik hk2 ((hbad i k hi2 hk2).1 hb)⟩
   rw [hg _ (by omega) (by omega), hg _ (by omega) (by omega), Ne, hT.eq]
   exact h1
theorem fp {v : Int} (h0 : 0 ≤ v) (h1 : v < p.1.length) : gI (gi T p).1 v = T (gI p.1 v) := cH h0 h1
theorem gL {e : Int} (h0 : 0 ≤ e) (h1 : e < p.2.length) : gI (gi T p).2 e = (gI p.2 e).map T := cH h0 h1
theorem ic : (gi T p).1.length = p.1.length ∧ (gi T p).2.length = p.2.length := ⟨List.length_map _, List.length_map _⟩
theorem gz {β : Type} {P Q : Prop} [Decidable P] [Decidable Q] {x : β} (h : P ↔ Q) : fl P x = fl Q x := by
 by_cases c : Q
 · rw [dx c, dx (h.2 c)]
 · rw [cZ c, cZ (fun h' => c (h.1 h'))]
theorem jR.shape (hT : jR T D) (hD1 : ∀ q ∈ p.1, D q) (hD2 : ∀ l ∈ p.2, ∀ q ∈ l, D q) : bN g (gi T p) = bN g p := by
 unfold bN
 rw [ic.1, ic.2]
 have e1 : bi (gW (gi T p)) p.1.length = bi (gW p) p.1.length := d5 fun v hv => by
   unfold gW
   rw [fp (by omega) (by omega)]
   exact gz (not_congr (hT.ok _ (hD1 _ (aV (by omega) (by omega)))))
 have e2 : bi (iS (gi T p)) p.2.length = bi (iS p) p.2.length := d5 fun v hv => by
   unfold iS
   rw [gL (by omega) (by omega)]
   exact gz (not_congr (hT.lnp (hD2 _ (aV (by omega) (by omega)))))
 rw [e1, e2]
theorem pk (hT : jR T D) (hm : c9 g) (hD1 : ∀ q ∈ p.1, D q) (hD2 : ∀ l ∈ p.2, ∀ q ∈ l, D q) : bX g (gi T p) = bX g p := by
 have hsh := hT.shape (g := g) hD1 hD2
 unfold bX
 rw [hsh]
 by_cases c : bN g p = []
 · rw [if_pos c, if_pos c]
   have hs := ef.1 c
   have hs' := ef.1 (hsh.trans c)
   have hn := hs.n
   have hmm := hs.m
   have l1 : (gi T p).1.length = p.1.length := ic.1
   have l2 : (gi T p).2.length = p.2.length := ic.2
   have okln : ∀ e : Nat, e < p.2.length → dl (gI p.2 (e : Int)) ∧ dl ((gI p.2 (e : Int)).map T) ∧ 2 ≤ (gI p.2 (e : Int)).length := fun e he => by
     have a := hs.ln (e : Int) (by omega) (by omega)
     have b := hs'.ln (e : Int) (by omega) (by rw [l2]; omega)
     rw [gL (by omega) (by omega)] at b
     exact ⟨a.2, b.2, by omega⟩
   have ed : ∀ e : Nat, e < p.2.length → ((0 ≤ (gI g.2 (e : Int)).1 ∧ (gI g.2 (e : Int)).1 < p.1.length) ∧ 0 ≤ (gI g.2 (e : Int)).2 ∧ (gI g.2 (e : Int)).2 < p.1.length) := fun e he => by
     obtain ⟨⟨a, b⟩, c, d⟩ := ii hm (e := (e : Int)) (by omega) (by omega)
     exact ⟨⟨a, by omega⟩, c, by omega⟩
   have e1 : bU (gi T p) = bU p := by
     unfold bU
     rw [l1]
     refine d5 fun v hv => d5 fun w hw => ?_
     unfold lJ
     rw [fp (by omega) (by omega), fp (by omega) (by omega)]
     exact gz (and_congr Iff.rfl hT.eq)
   have e2 : cV g (gi T p) = cV g p := by
     unfold cV
     rw [l2]
     congr 1
     · refine d5 fun e he => ?_
       obtain ⟨o1, o2, o3⟩ := okln e he
       obtain ⟨⟨x1, x2⟩, x3, x4⟩ := ed e he
       have : ft g (gi T p) (e : Int) ↔ ft g p (e : Int) := by
         unfold ft
         rw [gL (by omega) (by omega), fp x1 x2, fp x3 x4, List.length_map, cH (by omega) (by omega), cH (by omega) (by omega)]
         exact and_congr hT.eq hT.eq
       exact gz (not_congr this)
     · refine d5 fun e he => ?_
       unfold eu
       obtain ⟨o1, o2, o3⟩ := okln e he
       rw [gL (by omega) (by omega)]
       exact gz (not_congr (hT.sim o1 o2))
   have e3 : cR g (gi T p) = cR g p := by
     unfold cR
     rw [l2, l1]
     refine d5 fun e he => d5 fun v hv => ?_
     unfold ew
     rw [gL (by omega) (by omega), fp (by omega) (by omega)]
     exact gz (and_congr Iff.rfl hT.over)
   have e4 : gN g (gi T p) = gN g p := by
     unfold gN
     rw [l2]
     refine d5 fun e he => d5 fun f hf => ?_
     unfold dQ
     have es : gR g (gi T p) (e : Int) (f : Int) = (gR g p (e : Int) (f : Int)).map T := by
       unfold gR fl
       obtain ⟨⟨x1, x2⟩, x3, x4⟩ := ed e he
       rw [fp x1 x2, fp x3 x4, List.map_append]
       split <;> split <;> rfl
     rw [gL (by omega) (by omega), gL (by omega) (by omega), es]
     exact gz (and_congr Iff.rfl (not_congr (hT.apa (okln e he).1 (okln f hf).1 (okln e he).2.1 (okln f hf).2.1)))
   rw [e1, e2, e3, e4]
 · rw [if_neg c, if_neg c]
end
section
variable {g : cU} {p : du}
end
def gh (p : du) : Nat → Int
 | 0 => (p.1.length : Int)
 | k + 1 => gh p k + ((gI p.2 (k : Int)).length : Int) + 1
theorem n8 {p : du} (h1 : (p.1.length : Int) ≤ 1048576) (h : ∀ l ∈ p.2, l.length ≤ 1048576) : ∀ k : Nat, (k : Int) ≤ p.2.length → 0 ≤ gh p k ∧ gh p k ≤ 1048576 + 1048577 * (k : Int)
 | 0, _ => by unfold gh; omega
 | k + 1, hk => by
   have h2 := n8 h1 h k (by omega)
   have h3 := h _ (aV (xs := p.2) (i := (k : Int)) (by omega) (by omega))
   unfold gh; omega
def dG (g : cU) (p : du) : Prop := gh p p.2.length ≤ 400 ∧ (¬ c9 g ∨ g.1 ≤ 30 ∧ (g.2.length : Int) ≤ 40)
instance (g : cU) (p : du) : Decidable (dG g p) := by unfold dG; infer_instance
theorem nr {p : du} : ∀ k : Nat, (p.1.length : Int) + k ≤ gh p k ∧ ∀ e : Nat, e < k → ((gI p.2 (e : Int)).length : Int) ≤ gh p k
 | 0 => ⟨by unfold gh; omega, fun e he => by omega⟩
 | k + 1 => by
   obtain ⟨h1, h2⟩ := nr (p := p) k
   refine ⟨by unfold gh; omega, fun e he => ?_⟩
   unfold gh
   by_cases c : e = k
   · subst c; omega
   · have := h2 e (by omega); omega
theorem ob {g : cU} {p : du} (h : dG g p) : (c9 g → (g.2.length : Int) ≤ 2000) ∧ ((p.1.length : Int) ≤ 400 ∧ (p.2.length : Int) ≤ 400) ∧ ∀ e : Int, 0 ≤ e → e < p.2.length → ((gI p.2 e).length : Int) ≤ 400 := by
 obtain ⟨h1, h2⟩ := nr (p := p) p.2.length
 obtain ⟨h3, h4⟩ := h
 refine ⟨fun hm => ?_, ⟨by omega, by omega⟩, fun e h0 he => ?_⟩
 · rcases h4 with h4 | h4
   · exact absurd hm h4
   · omega
 · have := h2 e.toNat (by omega)
   rw [Int.toNat_of_nonneg h0] at this
   omega
end TL
namespace TL
def rQ (q : Pt) : Prop := (-9223372036854775808 ≤ q.1 ∧ q.1 ≤ 9223372036854775807) ∧ -9223372036854775808 ≤ q.2 ∧ q.2 ≤ 9223372036854775807
def sN (p : du) : Prop := ((p.1.length : Int) ≤ 1048576 ∧ (p.2.length : Int) ≤ 1048576 ∧ ∀ l ∈ p.2, l.length ≤ 1048576) ∧ (∀ q ∈ p.1, rQ q) ∧ ∀ l ∈ p.2, ∀ q ∈ l, rQ q
section
variable {g : cU} {p : du} {l r : List Pt} {L : List (List Pt)} {k e : Nat}
end
end TL
namespace TL
section
variable {α : Type} [Inhabited α] [DecidableEq α] {a b : List α} {k : Nat}
end
section
variable {g : cU} {p : du} {n : Int} {e : Nat}
theorem u3 (h : n = gh p e) (he : e = p.2.length) (h1 : ¬ n ≤ 400) : false = decide (dG g p) := by
 subst he; exact (decide_eq_false fun c => h1 (by rw [h]; exact c.1)).symm
theorem ud (h : n = gh p e) (he : e = p.2.length) (h1 : n ≤ 400) (h2 : ¬ cP g = true) : true = decide (dG g p) := by
 subst he; exact (decide_eq_true ⟨by rw [← h]; exact h1, .inl fun c => h2 (decide_eq_true c)⟩).symm
theorem um (h : n = gh p e) (he : e = p.2.length) (h1 : n ≤ 400) (h2 : cP g = true) (h3 : g.1 ≤ 30) : decide ((g.2.length : Int) ≤ 40) = decide (dG g p) := by
 subst he
 rw [decide_eq_decide]
 exact ⟨fun c => ⟨by rw [← h]; exact h1, .inr ⟨h3, c⟩⟩, fun c => (c.2.resolve_left fun q => q (of_decide_eq_true h2)).2⟩
theorem uk (h : n = gh p e) (he : e = p.2.length) (h1 : n ≤ 400) (h2 : cP g = true) (h3 : ¬ g.1 ≤ 30) : false = decide (dG g p) := by
 subst he
 exact (decide_eq_false fun c => h3 (c.2.resolve_left fun q => q (of_decide_eq_true h2)).1).symm
end
end TL
/-
  TlJMov: a plot moved, its nodes named anew: as many flaws of each kind, and the same told of it.
  By an AI agent.
-/
set_option linter.all false
namespace TL
def cB (f : Nat → Nat) : Nat → Nat
 | 0 => 0
 | k + 1 => cB f k + f k
section
variable {f h : Nat → Nat} {F : Nat → Nat → Nat} {n m : Nat}
theorem d8 : ∀ {n : Nat}, (∀ j, j < n → f j = h j) → cB f n = cB h n
 | 0, _ => rfl
 | k + 1, e => by rw [cB, cB, d8 fun j hj => e j (by omega), e k (by omega)]
theorem i7 : ∀ n : Nat, cB (fun j => f j + h j) n = cB f n + cB h n
 | 0 => rfl
 | k + 1 => by rw [cB, cB, cB, i7 k]; omega
theorem jz : ∀ n : Nat, cB (fun _ => 0) n = 0
 | 0 => rfl
 | k + 1 => by rw [cB, jz k]
theorem jK : ∀ n m : Nat, cB (fun v => cB (fun w => F v w) m) n = cB (fun w => cB (fun v => F v w) n) m
 | 0, m => by
   have : cB (fun w => cB (fun v => F v w) 0) m = cB (fun _ => 0) m := d8 fun _ _ => rfl
   rw [this, jz]; rfl
 | k + 1, m => by
   rw [cB, jK k m, ← i7]
   exact d8 fun _ _ => rfl
theorem iu (f : Nat → Nat) : ∀ n : Nat, cB f n = ((List.range n).map f).sum
 | 0 => rfl
 | k + 1 => by rw [cB, iu f k, List.range_succ, List.map_append, List.sum_append]; simp
structure l8 (s : Nat → Nat) (n : Nat) : Prop where
  rng : ∀ j, j < n → s j < n
  inj : ∀ i j, i < n → j < n → s i = s j → i = j
theorem l8.perm {s : Nat → Nat} (h : l8 s n) : ((List.range n).map s).Perm (List.range n) := by
 have hnd : ((List.range n).map s).Nodup := by
   unfold List.Nodup
   rw [List.pairwise_map, List.pairwise_iff_getElem]
   intro i j hi hj hij e
   simp only [List.length_range] at hi hj
   rw [List.getElem_range, List.getElem_range] at e
   have := h.inj i j hi hj e
   omega
 have hsub : ∀ x ∈ (List.range n).map s, x ∈ List.range n := by
   intro x hx
   obtain ⟨j, hj, rfl⟩ := List.mem_map.1 hx
   exact List.mem_range.2 (h.rng j (List.mem_range.1 hj))
 refine (List.perm_ext_iff_of_nodup hnd List.nodup_range).2 fun x => ⟨hsub x, fun hx => ?_⟩
 refine Classical.byContradiction fun hno => ?_
 have h1 : (x :: (List.range n).map s).Nodup := List.nodup_cons.2 ⟨hno, hnd⟩
 have h2 : (((x :: (List.range n).map s).map fun (i : Nat) => (i : Int)).length : Int) ≤ n := by
   refine kI (by omega) ?_ fun y hy => ?_
   · unfold List.Nodup
     rw [List.pairwise_map]
     exact List.Pairwise.imp (fun {a b} hab e => hab (by omega)) h1
   · obtain ⟨z, hz, rfl⟩ := List.mem_map.1 hy
     have : z < n := by
       rcases List.mem_cons.1 hz with rfl | hz
       · exact List.mem_range.1 hx
       · exact List.mem_range.1 (hsub z hz)
     omega
 simp at h2
 omega
theorem iB {s : Nat → Nat} (hs : l8 s n) (f : Nat → Nat) : cB (fun j => f (s j)) n = cB f n := by
 rw [iu, iu]
 have := (hs.perm.map f).sum_nat
 rw [List.map_map] at this
 exact this
end
def jI (P : Prop) [Decidable P] : Nat := if P then 1 else 0
theorem iD {P Q : Prop} [Decidable P] [Decidable Q] (h : P ↔ Q) : jI P = jI Q := by
 unfold jI
 by_cases c : Q
 · rw [if_pos c, if_pos (h.2 c)]
 · rw [if_neg c, if_neg fun h' => c (h.1 h')]
theorem mq {β : Type} {P : Prop} [Decidable P] {x : β} : (fl P x).length = jI P := by unfold fl jI; split <;> rfl
theorem ff {β : Type} {f : Nat → List β} : ∀ n : Nat, (bi f n).length = cB (fun j => (f j).length) n
 | 0 => rfl
 | k + 1 => by rw [bi, List.length_append, ff k]; rfl
section
variable {n : Nat} {s : Nat → Nat} {E E' : Nat → Nat → Prop} [∀ v w, Decidable (E v w)] [∀ v w, Decidable (E' v w)]
theorem iN (hE : ∀ v w, E v w → E w v) : 2 * cB (fun v => cB (fun w => jI (v < w ∧ E v w)) n) n = cB (fun v => cB (fun w => jI (v ≠ w ∧ E v w)) n) n := by
 have h1 : cB (fun v => cB (fun w => jI (v < w ∧ E v w)) n) n = cB (fun v => cB (fun w => jI (w < v ∧ E v w)) n) n := by
   rw [jK]
   exact d8 fun v _ => d8 fun w _ => iD ⟨fun h => ⟨h.1, hE _ _ h.2⟩, fun h => ⟨h.1, hE _ _ h.2⟩⟩
 have h2 : cB (fun v => cB (fun w => jI (v ≠ w ∧ E v w)) n) n = cB (fun v => cB (fun w => jI (v < w ∧ E v w)) n) n + cB (fun v => cB (fun w => jI (w < v ∧ E v w)) n) n := by
   rw [← i7]
   refine d8 fun v _ => ?_
   rw [← i7]
   refine d8 fun w _ => ?_
   unfold jI
   by_cases e : E v w
   · rcases Nat.lt_trichotomy v w with c | c | c
     · rw [if_pos ⟨by omega, e⟩, if_pos ⟨c, e⟩, if_neg (fun h => by omega)]
     · rw [if_neg (fun h => h.1 c), if_neg (fun h => by omega), if_neg (fun h => by omega)]
     · rw [if_pos ⟨by omega, e⟩, if_neg (fun h => by omega), if_pos ⟨c, e⟩]
   · rw [if_neg (fun h => e h.2), if_neg (fun h => e h.2), if_neg (fun h => e h.2)]
 omega
theorem lQ (hs : l8 s n) (hE : ∀ v w, E v w → E w v) (hE' : ∀ v w, E' v w → E' w v) (h : ∀ v w, v < n → w < n → (E' (s v) (s w) ↔ E v w)) :
   cB (fun v => cB (fun w => jI (v < w ∧ E' v w)) n) n = cB (fun v => cB (fun w => jI (v < w ∧ E v w)) n) n := by
 have a := iN (n := n) hE
 have b := iN (n := n) hE'
 have c : cB (fun v => cB (fun w => jI (v ≠ w ∧ E' v w)) n) n = cB (fun v => cB (fun w => jI (v ≠ w ∧ E v w)) n) n := by
   rw [← iB hs fun v => cB (fun w => jI (v ≠ w ∧ E' v w)) n]
   refine d8 fun v hv => ?_
   rw [← iB hs fun w => jI (s v ≠ w ∧ E' (s v) w)]
   refine d8 fun w hw => iD ?_
   rw [h v w hv hw]
   exact and_congr_left fun _ => ⟨fun k e => k (by rw [e]), fun k e => k (hs.inj _ _ hv hw e)⟩
 omega
end
def dv (l : List fB) : List Int := l.map fun x => x.1
theorem gm {l : List fB} {c : Int} (h : ∀ x ∈ l, x.1 = c) : dv l = List.replicate l.length c := by
 unfold dv
 rw [List.eq_replicate_iff]
 exact ⟨by simp, fun b hb => by
   obtain ⟨x, hx, rfl⟩ := List.mem_map.1 hb
   exact h x hx⟩
theorem eI {a b : List fB} : dv (a ++ b) = dv a ++ dv b := List.map_append ..
theorem jB {a b : List fB} (h : dv a = dv b) : a.length = b.length := by
 have := congrArg List.length h
 simpa [dv] using this
def ju (l : List fB) (k : Nat) (c : Int) : Int := (((dv l).take k).filter fun x => decide (x = c)).length
theorem jj (l : List fB) (c : Int) : ju l 0 c = 0 := rfl
theorem lb {l : List fB} {k : Nat} {c : Int} (hk : (k : Int) < l.length) : ju l (k + 1) c = ju l k c + if (gI l (k : Int)).1 = c then 1 else 0 := by
 unfold ju dv
 rw [bD (by simpa using hk), List.filter_append, List.length_append, cH (by omega) hk]
 by_cases e : (gI l (k : Int)).1 = c
 · rw [if_pos e]; simp [e]
 · rw [if_neg e]; simp [e]
theorem mc (l : List fB) (k : Nat) (c : Int) : 0 ≤ ju l k c ∧ ju l k c ≤ l.length := by
 unfold ju
 have h1 := List.length_filter_le (fun x => decide (x = c)) ((dv l).take k)
 have h2 : ((dv l).take k).length ≤ l.length := by rw [List.length_take]; simp [dv]; omega
 omega
def gF (many : List Int) (a b : List fB) (i k : Nat) : Prop := many.length = 10 ∧ ∀ c : Int, 0 ≤ c → c < 10 → gI many c = ju a i c - ju b k c
theorem gF.start {a b : List fB} : gF (List.replicate (Int.toNat 10) 0) a b 0 0 := by
 refine ⟨by rw [List.length_replicate]; decide, fun c h0 h1 => ?_⟩
 rw [lX h0 (by omega), jj, jj]; rfl
theorem gF.up {many : List Int} {a b : List fB} {i k : Nat} (h : gF many a b i k) (hi : (i : Int) < a.length) (hc : 0 ≤ (gI a (i : Int)).1 ∧ (gI a (i : Int)).1 < 10) : gF (many.set (Int.toNat (gI a (i : Int)).1) (gI many (gI a (i : Int)).1 + 1)) a b (i + 1) k := by
 have hl := h.1
 refine ⟨by simpa using hl, fun c h0 h1 => ?_⟩
 rw [fK hc.1 (by omega) h0, lb hi]
 by_cases e : c = (gI a (i : Int)).1
 · subst e; rw [if_pos rfl, if_pos rfl, h.2 _ h0 h1]; omega
 · rw [if_neg e, if_neg (fun h' => e h'.symm), h.2 c h0 h1]; omega
theorem gF.dn {many : List Int} {a b : List fB} {i k : Nat} (h : gF many a b i k) (hi : (k : Int) < b.length) (hc : 0 ≤ (gI b (k : Int)).1 ∧ (gI b (k : Int)).1 < 10) : gF (many.set (Int.toNat (gI b (k : Int)).1) (gI many (gI b (k : Int)).1 - 1)) a b i (k + 1) := by
 have hl := h.1
 refine ⟨by simpa using hl, fun c h0 h1 => ?_⟩
 rw [fK hc.1 (by omega) h0, lb hi]
 by_cases e : c = (gI b (k : Int)).1
 · subst e; rw [if_pos rfl, if_pos rfl, h.2 _ h0 h1]; omega
 · rw [if_neg e, if_neg (fun h' => e h'.symm), h.2 c h0 h1]; omega
theorem gF.fin {many : List Int} {a b : List fB} {i k : Nat} (h : gF many a b i k) (hc : dv b = dv a) (hi : ¬ (i : Int) < a.length) (hk : ¬ (k : Int) < b.length) {c : Int} (h0 : 0 ≤ c) (h1 : c < 10) : gI many c = 0 := by
 have hl := jB hc
 have la : (dv a).length = a.length := by simp [dv]
 rw [h.2 c h0 h1]
 unfold ju
 rw [hc, List.take_of_length_le (by omega), List.take_of_length_le (by omega)]
 omega
theorem rg {g : cU} {p : du} {x : fB} (h : x ∈ bX g p) : 0 ≤ x.1 ∧ x.1 < 10 := by
 unfold bX at h
 have two : ∀ {f : Nat → Nat → List fB} {n m : Nat} {c : Int}, (∀ v w, ∀ y ∈ f v w, y.1 = c) → x ∈ bi (fun v => bi (f v) m) n → x.1 = c := fun {f n m c} hf hx => by
   obtain ⟨v, _, hv⟩ := fh.1 hx
   obtain ⟨w, _, hw⟩ := fh.1 hv
   exact hf v w x hw
 have one : ∀ {f : Nat → List fB} {n : Nat} {c : Int}, (∀ v, ∀ y ∈ f v, y.1 = c) → x ∈ bi f n → x.1 = c := fun {f n c} hf hx => by
   obtain ⟨v, _, hv⟩ := fh.1 hx
   exact hf v x hv
 have q : ∀ {P : Prop} [Decidable P] {z y : fB}, y ∈ fl P z → y.1 = z.1 := fun {P _ z y} hy => by rw [(ku.1 hy).2]
 split at h
 · rcases List.mem_append.1 h with h | h
   · rcases List.mem_append.1 h with h | h
     · rw [two (c := 4) (fun v w y hy => q hy) h]; decide
     · unfold cV at h
       rcases List.mem_append.1 h with h | h
       · rw [one (c := 5) (fun v y hy => q hy) h]; decide
       · rw [one (c := 6) (fun v y hy => q hy) h]; decide
   · split at h
     · rcases List.mem_append.1 h with h | h
       · rw [two (c := 7) (fun v w y hy => q hy) h]; decide
       · rw [two (c := 8) (fun v w y hy => q hy) h]; decide
     · cases h
 · unfold bN at h
   split at h
   · rcases List.mem_append.1 h with h | h
     · rw [one (c := 2) (fun v y hy => q hy) h]; decide
     · rw [one (c := 3) (fun v y hy => q hy) h]; decide
   · obtain rfl := List.mem_singleton.1 h; decide
section
variable {g : cU} {p q : du} {to : List Int}
structure iq (g : cU) (p q : du) (to : List Int) : Prop where
  hm : c9 g
  tl : (to.length : Int) = g.1
  tr : ∀ v : Int, 0 ≤ v → v < g.1 → 0 ≤ gI to v ∧ gI to v < g.1
  ti : ∀ v w : Int, 0 ≤ v → v < g.1 → 0 ≤ w → w < g.1 → gI to v = gI to w → v = w
  pl : (p.1.length : Int) = g.1
  ql : (q.1.length : Int) = g.1
  at_ : ∀ v : Int, 0 ≤ v → v < g.1 → gI q.1 (gI to v) = gI p.1 v
  ln : q.2 = p.2
  ok : ∀ v : Int, 0 ≤ v → v < g.1 → cd (gI p.1 v)
theorem iq.edge (h : iq g p q to) {e : Int} (h0 : 0 ≤ e) (h1 : e < g.2.length) : gI (ek g to g.1).2 e = (gI to (gI g.2 e).1, gI to (gI g.2 e).2) := by
 show gI (g.2.map (jY to)) e = _
 rw [cH h0 h1]; rfl
theorem iq.perm (h : iq g p q to) : l8 (fun v => (gI to (v : Int)).toNat) g.1.toNat := by
 have h0 := h.hm.1
 refine ⟨fun j hj => ?_, fun i j hi hj e => ?_⟩
 · have := h.tr (j : Int) (by omega) (by omega)
   show (gI to (j : Int)).toNat < _
   omega
 · have a := h.tr (i : Int) (by omega) (by omega)
   have b := h.tr (j : Int) (by omega) (by omega)
   have e' : (gI to (i : Int)).toNat = (gI to (j : Int)).toNat := e
   have := h.ti (i : Int) (j : Int) (by omega) (by omega) (by omega) (by omega) (by omega)
   omega
theorem iq.to_nat (h : iq g p q to) {v : Nat} (hv : v < g.1.toNat) : (((gI to (v : Int)).toNat : Nat) : Int) = gI to (v : Int) := by
 have h0 := h.hm.1
 have := h.tr (v : Int) (by omega) (by omega); omega
theorem iq.surj (h : iq g p q to) {x : Int} (h0 : 0 ≤ x) (h1 : x < g.1) : ∃ v : Int, (0 ≤ v ∧ v < g.1) ∧ gI to v = x := by
 have hp := h.perm.perm
 have hx : x.toNat ∈ List.range g.1.toNat := List.mem_range.2 (by omega)
 obtain ⟨v, hv, e⟩ := List.mem_map.1 (hp.mem_iff.2 hx)
 have hv' := List.mem_range.1 hv
 have e2 := h.to_nat hv'
 exact ⟨(v : Int), ⟨by omega, by omega⟩, by omega⟩
theorem iq.shape (h : iq g p q to) : bN (ek g to g.1) q = bN g p := by
 have h0 := h.hm.1
 have hp := h.pl
 have hq := h.ql
 have e1 : (ek g to g.1).1 = g.1 := rfl
 have e2 : (ek g to g.1).2.length = g.2.length := List.length_map _
 unfold bN
 rw [e1, e2, h.ln]
 have c1 : bi (gW q) q.1.length = [] := dW fun v hv => cZ (Classical.not_not.2 (by
   obtain ⟨u, hu, e⟩ := h.surj (x := (v : Int)) (by omega) (by omega)
   rw [← e, h.at_ u hu.1 hu.2]; exact h.ok u hu.1 hu.2))
 have c2 : bi (gW p) p.1.length = [] := dW fun v hv => cZ (Classical.not_not.2 (h.ok _ (by omega) (by omega)))
 have c3 : bi (iS q) p.2.length = bi (iS p) p.2.length := d5 fun e he => by unfold iS; rw [h.ln]
 rw [c1, c2, c3]
 by_cases c : (p.2.length : Int) = g.2.length
 · rw [if_pos ⟨hq, c⟩, if_pos ⟨hp, c⟩]
 · rw [if_neg fun h' => c h'.2, if_neg fun h' => c h'.2]
theorem iq.codes_eq (h : iq g p q to) : dv (bX (ek g to g.1) q) = dv (bX g p) := by
 have hsh := h.shape
 have h0 := h.hm.1
 have hp := h.pl
 have hq := h.ql
 unfold bX
 rw [hsh]
 by_cases c : bN g p = []
 · rw [if_pos c, if_pos c]
   have hs := ef.1 c
   have hmm := hs.m
   have npl : p.1.length = g.1.toNat := by omega
   have nql : q.1.length = g.1.toNat := by omega
   have ed : ∀ e : Nat, e < p.2.length → ((0 ≤ (gI g.2 (e : Int)).1 ∧ (gI g.2 (e : Int)).1 < g.1) ∧ 0 ≤ (gI g.2 (e : Int)).2 ∧ (gI g.2 (e : Int)).2 < g.1) ∧ gI (ek g to g.1).2 (e : Int) = (gI to (gI g.2 (e : Int)).1, gI to (gI g.2 (e : Int)).2) := fun e he =>
     ⟨ii h.hm (by omega) (by omega), h.edge (by omega) (by omega)⟩
   have q4 : ∀ {P : Prop} [Decidable P] {z y : fB}, y ∈ fl P z → y.1 = z.1 := fun {P _ z y} hy => by rw [(ku.1 hy).2]
   have e1 : dv (bU q) = dv (bU p) := by
     have k : ∀ r : du, ∀ x ∈ bU r, x.1 = 4 := fun r x hx => by
       obtain ⟨v, _, hv⟩ := fh.1 hx
       obtain ⟨w, _, hw⟩ := fh.1 hv
       exact q4 hw
     rw [gm (k q), gm (k p)]
     congr 1
     unfold bU
     rw [ff, ff, npl, nql]
     have f1 : ∀ r : du, cB (fun j => (bi (lJ r j) g.1.toNat).length) g.1.toNat = cB (fun v => cB (fun w => jI (v < w ∧ gI r.1 (v : Int) = gI r.1 (w : Int))) g.1.toNat) g.1.toNat := fun r => d8 fun v _ => by
       rw [ff]; exact d8 fun w _ => mq
     rw [f1, f1]
     refine lQ (E := fun v w => gI p.1 (v : Int) = gI p.1 (w : Int)) (E' := fun v w => gI q.1 (v : Int) = gI q.1 (w : Int)) h.perm (fun _ _ e => e.symm) (fun _ _ e => e.symm) fun v w hv hw => ?_
     rw [h.to_nat hv, h.to_nat hw, h.at_ _ (by omega) (by omega), h.at_ _ (by omega) (by omega)]
   have e2 : cV (ek g to g.1) q = cV g p := by
     unfold cV
     rw [h.ln]
     congr 1
     · refine d5 fun e he => ?_
       obtain ⟨⟨⟨x1, x2⟩, x3, x4⟩, x5⟩ := ed e he
       have : ft (ek g to g.1) q (e : Int) ↔ ft g p (e : Int) := by
         unfold ft
         rw [x5, h.ln]
         simp only
         rw [h.at_ _ x1 x2, h.at_ _ x3 x4]
       exact gz (not_congr this)
     · exact d5 fun e he => by unfold eu; rw [h.ln]
   have e3 : dv (cR (ek g to g.1) q) = dv (cR g p) := by
     have k : ∀ (g : cU) (r : du), ∀ x ∈ cR g r, x.1 = 7 := fun g r x hx => by
       obtain ⟨v, _, hv⟩ := fh.1 hx
       obtain ⟨w, _, hw⟩ := fh.1 hv
       exact q4 hw
     rw [gm (k _ q), gm (k _ p)]
     congr 1
     unfold cR
     rw [ff, ff, h.ln]
     refine d8 fun e he => ?_
     obtain ⟨⟨⟨x1, x2⟩, x3, x4⟩, x5⟩ := ed e he
     rw [ff, ff, npl, nql, ← iB h.perm]
     refine d8 fun v hv => ?_
     unfold ew
     rw [mq, mq]
     refine iD ?_
     rw [h.to_nat hv, x5, h.at_ _ (by omega) (by omega), h.ln]
     simp only
     have i1 : gI to (v : Int) ≠ gI to (gI g.2 (e : Int)).1 ↔ (v : Int) ≠ (gI g.2 (e : Int)).1 := ⟨fun k e => k (by rw [e]), fun k e => k (h.ti _ _ (by omega) (by omega) x1 x2 e)⟩
     have i2 : gI to (v : Int) ≠ gI to (gI g.2 (e : Int)).2 ↔ (v : Int) ≠ (gI g.2 (e : Int)).2 := ⟨fun k e => k (by rw [e]), fun k e => k (h.ti _ _ (by omega) (by omega) x3 x4 e)⟩
     rw [i1, i2]
   have e4 : gN (ek g to g.1) q = gN g p := by
     unfold gN
     rw [h.ln]
     refine d5 fun e he => d5 fun f hf => ?_
     obtain ⟨⟨⟨x1, x2⟩, x3, x4⟩, x5⟩ := ed e he
     obtain ⟨⟨⟨y1, y2⟩, y3, y4⟩, y5⟩ := ed f hf
     have es : gR (ek g to g.1) q (e : Int) (f : Int) = gR g p (e : Int) (f : Int) := by
       have j1 : ∀ x : Int, 0 ≤ x → x < g.1 → (gI to x ∈ [gI to (gI g.2 (f : Int)).1, gI to (gI g.2 (f : Int)).2] ↔ x ∈ [(gI g.2 (f : Int)).1, (gI g.2 (f : Int)).2]) := fun x z1 z2 => by
         simp only [List.mem_cons, List.not_mem_nil, or_false]
         exact or_congr ⟨fun k => h.ti _ _ z1 z2 y1 y2 k, fun k => by rw [k]⟩ ⟨fun k => h.ti _ _ z1 z2 y3 y4 k, fun k => by rw [k]⟩
       unfold gR
       rw [x5, y5]
       simp only
       rw [h.at_ _ x1 x2, h.at_ _ x3 x4]
       rw [gz (j1 _ x1 x2), gz (j1 _ x3 x4)]
     unfold dQ
     rw [es, h.ln]
   rw [e2, e4, eI, eI, eI, eI, e1]
   congr 1
   split
   · rw [eI, eI, e3]
   · rfl
 · rw [if_neg c, if_neg c]
theorem oS {l : List Pt} (h0 : 0 < l.length) {m : Int} : (fN l l.length).1 = m ↔ (∀ x ∈ l, m ≤ x.1) ∧ ∃ x ∈ l, x.1 = m := by
 have key : (∀ x ∈ l, (fN l l.length).1 ≤ x.1) ∧ ∃ x ∈ l, x.1 = (fN l l.length).1 := by
   refine ⟨fun x hx => ?_, ?_⟩
   · obtain ⟨j, hj, rfl⟩ := fF hx; exact (me hj).1
   · obtain ⟨⟨j, hj, e⟩, _⟩ := ml (ps := l) l.length
     exact ⟨_, aV (by omega) (by omega), e⟩
 constructor
 · rintro rfl; exact key
 · rintro ⟨h1, x, hx, rfl⟩
   obtain ⟨k1, y, hy, k2⟩ := key
   have := k1 x hx
   have := h1 y hy
   omega
theorem mu {l : List Pt} (h0 : 0 < l.length) {m : Int} : (fN l l.length).2 = m ↔ (∀ x ∈ l, m ≤ x.2) ∧ ∃ x ∈ l, x.2 = m := by
 have key : (∀ x ∈ l, (fN l l.length).2 ≤ x.2) ∧ ∃ x ∈ l, x.2 = (fN l l.length).2 := by
   refine ⟨fun x hx => ?_, ?_⟩
   · obtain ⟨j, hj, rfl⟩ := fF hx; exact (me hj).2
   · obtain ⟨_, ⟨j, hj, e⟩⟩ := ml (ps := l) l.length
     exact ⟨_, aV (by omega) (by omega), e⟩
 constructor
 · rintro rfl; exact key
 · rintro ⟨h1, x, hx, rfl⟩
   obtain ⟨k1, y, hy, k2⟩ := key
   have := k1 x hx
   have := h1 y hy
   omega
theorem ot {l : List Pt} (h0 : 0 < l.length) {m : Int} : (fO l l.length).1 = m ↔ (∀ x ∈ l, x.1 ≤ m) ∧ ∃ x ∈ l, x.1 = m := by
 have key : (∀ x ∈ l, x.1 ≤ (fO l l.length).1) ∧ ∃ x ∈ l, x.1 = (fO l l.length).1 := by
   refine ⟨fun x hx => ?_, ?_⟩
   · obtain ⟨j, hj, rfl⟩ := fF hx; exact (lV hj).1
   · obtain ⟨⟨j, hj, e⟩, _⟩ := mj (ps := l) l.length
     exact ⟨_, aV (by omega) (by omega), e⟩
 constructor
 · rintro rfl; exact key
 · rintro ⟨h1, x, hx, rfl⟩
   obtain ⟨k1, y, hy, k2⟩ := key
   have := k1 x hx
   have := h1 y hy
   omega
theorem mG {l : List Pt} (h0 : 0 < l.length) {m : Int} : (fO l l.length).2 = m ↔ (∀ x ∈ l, x.2 ≤ m) ∧ ∃ x ∈ l, x.2 = m := by
 have key : (∀ x ∈ l, x.2 ≤ (fO l l.length).2) ∧ ∃ x ∈ l, x.2 = (fO l l.length).2 := by
   refine ⟨fun x hx => ?_, ?_⟩
   · obtain ⟨j, hj, rfl⟩ := fF hx; exact (lV hj).2
   · obtain ⟨_, ⟨j, hj, e⟩⟩ := mj (ps := l) l.length
     exact ⟨_, aV (by omega) (by omega), e⟩
 constructor
 · rintro rfl; exact key
 · rintro ⟨h1, x, hx, rfl⟩
   obtain ⟨k1, y, hy, k2⟩ := key
   have := k1 x hx
   have := h1 y hy
   omega
theorem pV {a b : List Pt} {t : Pt} (h0 : 0 < a.length) (h1 : 0 < b.length) (hab : ∀ y, y ∈ b ↔ ∃ x ∈ a, y = cr x t) :
   (fO b b.length).1 - (fN b b.length).1 = (fO a a.length).1 - (fN a a.length).1 ∧ (fO b b.length).2 - (fN b b.length).2 = (fO a a.length).2 - (fN a a.length).2 := by
 obtain ⟨p1, x1, m1, q1⟩ := (oS h0).1 (rfl : (fN a a.length).1 = _)
 obtain ⟨p2, x2, m2, q2⟩ := (mu h0).1 (rfl : (fN a a.length).2 = _)
 obtain ⟨p3, x3, m3, q3⟩ := (ot h0).1 (rfl : (fO a a.length).1 = _)
 obtain ⟨p4, x4, m4, q4⟩ := (mG h0).1 (rfl : (fO a a.length).2 = _)
 have f1 : (fN b b.length).1 = (fN a a.length).1 + t.1 := (oS h1).2 ⟨fun y hy => by
   obtain ⟨x, hx, rfl⟩ := (hab y).1 hy; have := p1 x hx; show _ ≤ x.1 + t.1; omega, _, (hab _).2 ⟨x1, m1, rfl⟩, by show x1.1 + t.1 = _; omega⟩
 have f2 : (fN b b.length).2 = (fN a a.length).2 + t.2 := (mu h1).2 ⟨fun y hy => by
   obtain ⟨x, hx, rfl⟩ := (hab y).1 hy; have := p2 x hx; show _ ≤ x.2 + t.2; omega, _, (hab _).2 ⟨x2, m2, rfl⟩, by show x2.2 + t.2 = _; omega⟩
 have f3 : (fO b b.length).1 = (fO a a.length).1 + t.1 := (ot h1).2 ⟨fun y hy => by
   obtain ⟨x, hx, rfl⟩ := (hab y).1 hy; have := p3 x hx; show x.1 + t.1 ≤ _; omega, _, (hab _).2 ⟨x3, m3, rfl⟩, by show x3.1 + t.1 = _; omega⟩
 have f4 : (fO b b.length).2 = (fO a a.length).2 + t.2 := (mG h1).2 ⟨fun y hy => by
   obtain ⟨x, hx, rfl⟩ := (hab y).1 hy; have := p4 x hx; show x.2 + t.2 ≤ _; omega, _, (hab _).2 ⟨x4, m4, rfl⟩, by show x4.2 + t.2 = _; omega⟩
 omega
end
structure j9 (g : cU) (p q : du) (to : List Int) (t : Pt) : Prop where
  hm : c9 g
  mv : (aA g to).2 = 0
  bt : (-1000 ≤ t.1 ∧ t.1 ≤ 1000) ∧ -1000 ≤ t.2 ∧ t.2 ≤ 1000
  sm : ∀ x ∈ az p, dg x
  pl : (p.1.length : Int) = g.1
  ql : (q.1.length : Int) = g.1
  at_ : ∀ v : Int, 0 ≤ v → v < g.1 → gI q.1 (gI to v) = cr (gI p.1 v) t
  ln : q.2 = p.2.map (List.map fun a => cr a t)
theorem fT {g : cU} {to : List Int} (hm : c9 g) (h : (aA g to).2 = 0) : (aA g to).1 = ek g to g.1 ∧ (to.length : Int) = g.1 ∧ (∀ v ∈ to, 0 ≤ v ∧ v < g.1) ∧ to.Nodup := by
 unfold aA at h ⊢
 rw [if_pos hm] at h ⊢
 by_cases c1 : (to.length : Int) = g.1
 · rw [if_pos c1] at h ⊢
   by_cases c2 : ∀ v ∈ to, 0 ≤ v ∧ v < g.1
   · rw [if_pos c2] at h ⊢
     by_cases c3 : c6 to g.1 = 0
     · rw [if_pos c3]
       exact ⟨rfl, c1, c2, (lW c3).2⟩
     · rw [if_neg c3] at h; exact absurd h c3
   · rw [if_neg c2] at h; exact absurd h (by decide)
 · rw [if_neg c1] at h; exact absurd h (by decide)
section
variable {g : cU} {p q : du} {to : List Int} {t : Pt}
theorem j9.nam (h : j9 g p q to t) : iq g (gi (fun a => cr a t) p) q to := by
 obtain ⟨_, h1, h2, h3⟩ := fT h.hm h.mv
 have hpl := h.pl
 have hsm : ∀ v : Int, 0 ≤ v → v < g.1 → dg (gI p.1 v) := fun v h0 hv => h.sm _ (by unfold az; exact List.mem_append.2 (.inl (aV h0 (by omega))))
 refine ⟨h.hm, h1, fun v h0 hv => h2 _ (aV h0 (by omega)), fun v w v0 v1 w0 w1 e => ?_, by rw [ic.1]; exact hpl, h.ql, fun v h0 hv => ?_, h.ln, fun v h0 hv => ?_⟩
 · have e1 := eA (xs := to) v0 (by omega)
   have e2 := eA (xs := to) w0 (by omega)
   rw [e] at e1
   have hi : v.toNat < to.length := by omega
   have hj : w.toNat < to.length := by omega
   rw [List.getElem?_eq_getElem hi] at e1
   rw [List.getElem?_eq_getElem hj] at e2
   have := (List.getElem_inj (h₀ := hi) (h₁ := hj) h3).1 ((Option.some.inj e1).trans (Option.some.inj e2).symm)
   omega
 · rw [h.at_ v h0 hv]; exact (fp (T := fun a => cr a t) (p := p) h0 (by omega)).symm
 · rw [fp h0 (by omega)]
   have a := hsm v h0 hv
   have b := h.bt
   unfold dg at a
   unfold cd cr
   simp only
   omega
theorem j9.small (h : j9 g p q to t) : (∀ x ∈ p.1, dg x) ∧ ∀ l ∈ p.2, ∀ x ∈ l, dg x :=
 ⟨fun x hx => h.sm x (by unfold az; exact List.mem_append.2 (.inl hx)), fun l hl x hx => h.sm x (by unfold az; exact List.mem_append.2 (.inr (List.mem_flatten.2 ⟨l, hl, hx⟩)))⟩
theorem j9.rmay (h : j9 g p q to t) : c9 (ek g to g.1) := by
 obtain ⟨_, h1, h2, h3⟩ := fT h.hm h.mv
 exact qS h.hm h1 h2
theorem j9.codes_eq (h : j9 g p q to t) : dv (aJ (aA g to).1 q).1 = dv (aJ g p).1 := by
 obtain ⟨e, _⟩ := fT h.hm h.mv
 have hs := h.small
 rw [e]
 unfold aJ
 rw [if_pos h.rmay, if_pos h.hm]
 simp only
 rw [h.nam.codes_eq, pk (oK h.bt) h.hm hs.1 hs.2]
theorem iG {f : Pt → Pt} : ∀ L : List (List Pt), (L.map (List.map f)).flatten = L.flatten.map f
 | [] => rfl
 | a :: L => by rw [List.map_cons, List.flatten_cons, iG L, List.flatten_cons, List.map_append]
theorem j9.look (h : j9 g p q to t) : aw (aA g to).1 q = aw g p := by
 obtain ⟨e, _⟩ := fT h.hm h.mv
 have hs := h.small
 have hn := h.nam
 have hpl := h.pl
 have hql := h.ql
 have h0 := h.hm.1
 rw [e]
 unfold aw
 rw [if_pos h.rmay, if_pos h.hm, hn.shape, (oK h.bt).shape hs.1 hs.2]
 by_cases c : bN g p = []
 · rw [if_pos c, if_pos c]
   have hsh := ef.1 c
   have l2 : q.2.length = p.2.length := by rw [h.ln]; simp
   have hg : ∀ e : Nat, e < p.2.length → gI q.2 (e : Int) = (gI p.2 (e : Int)).map fun a => cr a t := fun e he => by rw [h.ln, cH (by omega) (by omega)]
   have b1 : ∀ k : Nat, k ≤ p.2.length → eX q k = eX p k := by
     intro k
     induction k with
     | zero => intro _; rfl
     | succ k ih => intro hk; rw [eX, eX, ih (by omega), hg k (by omega), List.length_map]
   have a1 : jq q p.2.length = jq p p.2.length := jk fun e he => by
     unfold ug
     rw [hg e he, List.length_map]
     refine jk fun j hj => ?_
     have hl := (hsh.ln (e : Int) (by omega) (by omega)).1
     unfold lI
     rw [cH (by omega) (by omega), cH (by omega) (by omega), decide_eq_decide]
     unfold cr
     simp only
     omega
   have w1 : jo q = jo p := by
     have hmem : ∀ y, y ∈ az q ↔ ∃ x ∈ az p, y = cr x t := by
       intro y
       unfold az
       rw [h.ln, iG]
       simp only [List.mem_append, List.mem_map]
       constructor
       · rintro (hy | ⟨x, hx, rfl⟩)
         · obtain ⟨j, hj, rfl⟩ := fF hy
           obtain ⟨v, hv, e⟩ := hn.surj (x := (j : Int)) (by omega) (by omega)
           exact ⟨gI p.1 v, .inl (aV hv.1 (by omega)), by rw [← e]; exact h.at_ v hv.1 hv.2⟩
         · exact ⟨x, .inr hx, rfl⟩
       · rintro ⟨x, hx | hx, rfl⟩
         · obtain ⟨j, hj, rfl⟩ := fF hx
           refine .inl ?_
           rw [← h.at_ (j : Int) (by omega) (by omega)]
           have := hn.tr (j : Int) (by omega) (by omega)
           exact aV this.1 (by omega)
         · exact .inr ⟨x, hx, rfl⟩
     have hlen : (az q).length = (az p).length := by
       unfold az
       rw [h.ln, iG, List.length_append, List.length_append, List.length_map]
       omega
     unfold jo
     by_cases c0 : 0 < ((az p).length : Int)
     · rw [if_pos c0, if_pos (by omega)]
       obtain ⟨w1, w2⟩ := pV (a := az p) (b := az q) (t := t) (by omega) (by omega) hmem
       rw [w1, w2]
     · rw [if_neg c0, if_neg (by omega)]
   unfold ji
   rw [l2, b1 _ (Nat.le_refl _), a1, w1]
 · rw [if_neg c, if_neg c]
end
end TL
namespace TL
section
variable {g : cU} {p : du} {to : List Int} {t : Pt} {qA l r : List Pt} {qL L : List (List Pt)} {v e k i : Nat}
theorem li {x : fB} (h : x ∈ (aJ g p).1) : 0 ≤ x.1 ∧ x.1 < 10 := by
 unfold aJ at h
 split at h
 · exact rg h
 · cases h
theorem tA (h : ∀ j : Nat, j < i → dg (gI (az p) (j : Int))) (hi : ¬ (i : Int) < (az p).length) : ∀ x ∈ az p, dg x := fun x hx => by
 obtain ⟨j, hj, rfl⟩ := fF hx
 exact h j (by omega)
theorem td (h : ∀ x ∈ az p, dg x) {v : Int} (h0 : 0 ≤ v) (h1 : v < p.1.length) : dg (gI p.1 v) := h _ (by unfold az; exact List.mem_append.2 (.inl (aV h0 h1)))
theorem sW (h : ∀ x ∈ az p, dg x) {e k : Int} (h0 : 0 ≤ e) (h1 : e < p.2.length) (k0 : 0 ≤ k) (k1 : k < (gI p.2 e).length) : dg (gI (gI p.2 e) k) := h _ (by unfold az; exact List.mem_append.2 (.inr (List.mem_flatten.2 ⟨_, aV h0 h1, aV k0 k1⟩)))
def qY (g : cU) (p : du) (to : List Int) (t : Pt) (qA : List Pt) (v : Nat) : Prop := qA.length = g.1.toNat ∧ ∀ j : Nat, j < v → gI qA (gI to (j : Int)) = cr (gI p.1 (j : Int)) t
theorem qY.start : qY g p to t (List.replicate g.1.toNat (0, 0)) 0 := ⟨by simp, fun j hj => by omega⟩
theorem qY.next (h : qY g p to t qA v) (hn : to.Nodup) (hr : ∀ x ∈ to, 0 ≤ x ∧ x < g.1) (hv : (v : Int) < to.length) : qY g p to t (qA.set (Int.toNat (gI to (v : Int))) ((gI p.1 (v : Int)).1 + t.1, (gI p.1 (v : Int)).2 + t.2)) (v + 1) := by
 have hl := h.1
 have hx := hr _ (aV (xs := to) (i := (v : Int)) (by omega) hv)
 refine ⟨by simpa using hl, fun j hj => ?_⟩
 have hy := hr _ (aV (xs := to) (i := (j : Int)) (by omega) (by omega))
 rw [fK hx.1 (by omega) hy.1]
 by_cases c : j = v
 · subst c; rw [if_pos rfl]; rfl
 · rw [if_neg, h.2 j (by omega)]
   intro e
   have e1 := eA (xs := to) (i := (j : Int)) (by omega) (by omega)
   have e2 := eA (xs := to) (i := (v : Int)) (by omega) hv
   rw [e] at e1
   have hi : (j : Int).toNat < to.length := by omega
   have hj : (v : Int).toNat < to.length := by omega
   rw [List.getElem?_eq_getElem hi] at e1
   rw [List.getElem?_eq_getElem hj] at e2
   have := (List.getElem_inj (h₀ := hi) (h₁ := hj) hn).1 ((Option.some.inj e1).trans (Option.some.inj e2).symm)
   omega
theorem qy (h : r = (l.take k).map fun a => cr a t) (hk : (k : Int) < l.length) : r ++ [((gI l (k : Int)).1 + t.1, (gI l (k : Int)).2 + t.2)] = (l.take (k + 1)).map fun a => cr a t := by
 rw [bD hk, List.map_append, h]; rfl
theorem tG (h : r = (l.take k).map fun a => cr a t) : r.length ≤ k := by rw [h, List.length_map, List.length_take]; omega
theorem qD (h : L = (p.2.take e).map (List.map fun a => cr a t)) (he : (e : Int) < p.2.length) (hr : r = ((gI p.2 (e : Int)).take k).map fun a => cr a t) (hk : ¬ (k : Int) < (gI p.2 (e : Int)).length) : L ++ [r] = (p.2.take (e + 1)).map (List.map fun a => cr a t) := by
 have e1 : (gI p.2 (e : Int)).take k = gI p.2 (e : Int) := List.take_of_length_le (by omega)
 rw [bD he, List.map_append, h, hr, e1]; rfl
theorem th (h : L = (p.2.take e).map (List.map fun a => cr a t)) : L.length ≤ e := by rw [h, List.length_map, List.length_take]; omega
theorem rL (hm : c9 g) (hv0 : (aA g to).2 = 0) (hb : (-1000 ≤ t.1 ∧ t.1 ≤ 1000) ∧ -1000 ≤ t.2 ∧ t.2 ≤ 1000) (hs : ∀ x ∈ az p, dg x) (hp : (p.1.length : Int) = g.1) (hq : qY g p to t qA v) (hv : ¬ (v : Int) < g.1) (hL : qL = (p.2.take e).map (List.map fun a => cr a t)) (he : ¬ (e : Int) < p.2.length) : j9 g p (qA, qL) to t := by
 have h0 := hm.1
 have hl := hq.1
 refine ⟨hm, hv0, hb, hs, hp, by show (qA.length : Int) = _; omega, fun v h1 h2 => ?_, by rw [List.take_of_length_le (by omega)] at hL; exact hL⟩
 have := hq.2 v.toNat (by omega)
 rwa [Int.toNat_of_nonneg h1] at this
end
end TL
/-
  TlOpen: arguments opened: what a law's reader says of a slice is what a walk wants of it.
  By an AI agent.
-/
namespace TL
open Go Go.Proofs Go.ChangeShapes Go.WideShapes Go.Joins Go.Deep
structure ga {H : Type} (f : DataW H → Nat) : Prop where
 slice : ∀ l s : List (DataW H), l.length ≤ f (.slice l s)
 elem : ∀ l s : List (DataW H), ∀ d ∈ l, f d ≤ f (.slice l s)
 part : ∀ l : List (DataW H), ∀ d ∈ l, f d ≤ f (.agg l)
def pm (α : Type) [Rp α] (P : Program) (t : TypeId) : Prop :=
  ∀ {H : Type} (enc : TypeId × Value → H) (w : World) (fuel : Nat) (cs : List Value) (x : DataW H × List MemPlace), DataW.trod enc P w 0 (fun _ => true) true fuel t cs = some x → ∃ y : α, Rp.rep c0 any w cs y
theorem kn {P : Program} {t : TypeId} (ht : P.underlying t = some (.int .i64)) : pm Int P t := by
 intro H enc w fuel cs x h
 obtain ⟨n, rfl, _, _⟩ := DataW.trod_int ht h
 exact ⟨n, rfl⟩
theorem lj {H : Type} {enc : TypeId × Value → H} {P : Program} {w : World} {base : Nat} {spare : Nat → Bool} {held : Bool} {t e : TypeId} {fuel : Nat} {cs : List Value} {x : DataW H × List MemPlace} (ht : P.underlying t = some (.array 2 e)) (hce : P.cellsOf e = 1) (hct : P.cellsOf t = 2)
   (h : DataW.trod enc P w base spare held fuel t cs = some x) :
   ∃ v0 v1 y0 y1 n, cs = [v0, v1] ∧ x = (.agg [y0.1, y1.1], y0.2 ++ y1.2) ∧ DataW.trod enc P w base spare held n e [v0] = some y0 ∧ DataW.trod enc P w base spare held n e [v1] = some y1 := by
 cases fuel with
 | zero => simp [DataW.trod] at h
 | succ n =>
   unfold DataW.trod at h
   rw [ht] at h
   have r2 : List.range 2 = [0, 1] := rfl
   simp only [hct] at h
   by_cases hl : cs.length = 2
   · rw [if_pos hl] at h
     match cs, hl with
     | [v0, v1], _ =>
       simp [r2, hce] at h
       cases h0 : DataW.trod enc P w base spare held n e [v0] with
       | none => simp [h0] at h
       | some y0 =>
         cases h1 : DataW.trod enc P w base spare held n e [v1] with
         | none => simp [h0, h1] at h
         | some y1 =>
           simp [h0, h1] at h
           exact ⟨v0, v1, y0, y1, n, rfl, h.symm, h0, h1⟩
   · rw [if_neg hl] at h; cases h
theorem rY {P : Program} {t e : TypeId} (ht : P.underlying t = some (.array 2 e)) (he : P.underlying e = some (.int .i64)) (hce : P.cellsOf e = 1) (hct : P.cellsOf t = 2) : pm (Int × Int) P t := by
 intro H enc w fuel cs x h
 obtain ⟨v0, v1, y0, y1, n, rfl, _, h0, h1⟩ := lj ht hce hct h
 obtain ⟨a, ha⟩ := kn he enc w n [v0] y0 h0
 obtain ⟨b, hb⟩ := kn he enc w n [v1] y1 h1
 exact ⟨(a, b), [v0], [v1], rfl, ha, hb⟩
theorem jS {α : Type} [Rp α] [Inhabited α] {P : Program} {t e : TypeId} (ht : P.underlying t = some (.slice e)) (hc : P.cellsOf e = Rp.sz α) (hz : 0 < Rp.sz α) (he : pm α P e)
    {H : Type} {enc : TypeId × Value → H} {w : World} {f : DataW H → Nat} (hf : ga f) {fuel : Nat} {v : Value} {x : DataW H × List MemPlace}
    (hs : ∀ a len cap, v = .slice (some a) len cap → a.spot = none) (h : DataW.trod enc P w 0 (fun _ => true) true fuel t [v] = some x) (hb : f x.1 ≤ 1048576) : ∃ xs : List α, Ro w v xs := by
  rcases Deep.open_slice ht h with ⟨h0, _⟩ | ⟨a, len, cap, m, n, D, Pl, h0, _, hlc, _, hm, rfl, hx⟩
  · obtain rfl : v = .slice none 0 0 := by simpa using h0
    exact ⟨[], .inl ⟨⟨_, rfl⟩, rfl⟩⟩
  · obtain rfl : v = .slice (some a) len cap := by simpa using h0
    have hsp := hs a len cap rfl
    obtain ⟨b, off, spot⟩ := a
    obtain rfl : spot = none := hsp
    simp only [if_true] at hm
    subst hm
    obtain ⟨Y, hY⟩ := Deep.choose_lt (α := α) (n := len) (p := fun i y => ∃ cs, (∀ j, j < Rp.sz α → w.cell? ⟨b, off + i * Rp.sz α + j, none⟩ = cs[j]?) ∧ Rp.rep c0 any w cs y) (fun i hi => by
      obtain ⟨cs', h1, h2⟩ := hx i (by omega)
      obtain ⟨y, hy⟩ := he enc w n cs' _ h2
      refine ⟨y, cs', fun j hj => ?_, hy⟩
      obtain ⟨_, hl, hcell⟩ := World.cells?_some h1
      have := hcell j (by omega)
      rw [Deep.add_add, hc] at this
      rw [← this]
      unfold Addr.add
      by_cases hij : i * Rp.sz α + j = 0
      · rw [if_pos hij, Nat.add_assoc, hij]; rfl
      · rw [if_neg hij, Nat.add_assoc])
    have hlen : ((List.range len).map Y).length = len := by simp
    have hbound := Nat.le_trans (hf.slice _ _) hb
    refine ⟨(List.range len).map Y, .inr ⟨b, off, m, by rw [hlen], ⟨by omega, by simp at hbound; omega⟩, fun i y hi => ?_⟩⟩
    have hil : i < len := by
      have := (List.getElem?_eq_some_iff.1 hi).1
      omega
    obtain rfl : Y i = y := by simpa [hil] using hi
    obtain ⟨cs, h1, h2⟩ := hY i hil
    refine ⟨?_, trivial, cs, h1, h2⟩
    have h3 := h1 0 hz
    have h4 := Rp.len h2
    have h5 : 0 < cs.length := by omega
    rw [List.getElem?_eq_getElem h5] at h3
    by_cases hbl : b < w.heap.size
    · exact hbl
    · have : w.heap[b]? = none := Array.getElem?_eq_none (by omega)
      simp [World.cell?, this] at h3
theorem eG {P : Program} {w : World} {base : Nat} {t e : TypeId} {v : Value} (ht : P.underlying t = some (.slice e)) (h : Cell.okWide P w .any base t v) : ∀ a len cap, v = .slice (some a) len cap → a.spot = none := by
 rintro a len cap rfl
 simp only [Cell.okWide, Cell.ok, ht] at h
 exact h.2.2.2.1
theorem nQ {α : Type} [Rp α] [Inhabited α] {P : Program} {t e : TypeId} (ht : P.underlying t = some (.slice e)) (hc : P.cellsOf e = Rp.sz α) (hz : 0 < Rp.sz α) (he : pm α P e)
    {H : Type} {enc : TypeId × Value → H} {w : World} {f : DataW H → Nat} (hf : ga f) {base : Nat} {v : Value} {d : DataW H} {p : List MemPlace}
    (hval : Value.okWide P w .any base t v) (h : DataW.Trod enc P w 0 (fun _ => true) true t v d p) (hb : f d ≤ 1048576) : ∃ xs : List α, Ro w v xs := by
  obtain ⟨a, len, cap, rfl⟩ := okWide_slice ht hval
  obtain ⟨fuel, hfu⟩ := h
  refine jS ht hc hz he hf (eG (w := w) (base := base) ht ?_) (x := (d, p)) hfu hb
  simpa [Value.okWide, ht] using hval
theorem rN {α : Type} [Rp α] [Inhabited α] {P : Program} {t t0 t1 e : TypeId} {f0 f1 : Field} (hs : P.underlying t = some (.struct #[f0, f1])) (hone : oneCellFields P #[f0, f1] = true) (hC : P.cellsOf t = 2) (hts : P.cellTypes P.depth t = some [t0, t1])
    (h0 : f0.type = t0) (h1 : f1.type = t1) (hi : P.underlying t0 = some (.int .i64)) (ht : P.underlying t1 = some (.slice e)) (hc : P.cellsOf e = Rp.sz α) (hz : 0 < Rp.sz α) (he : pm α P e)
    {H : Type} {enc : TypeId × Value → H} {w : World} {f : DataW H → Nat} (hf : ga f) {base : Nat} {v : Value} {d : DataW H} {p : List MemPlace}
    (hval : Value.okWide P w .any base t v) (h : DataW.Trod enc P w 0 (fun _ => true) true t v d p) (hb : f d ≤ 1048576) : ∃ (n : Int) (u : Value) (xs : List α), v = .agg #[.int .i64 n, u] ∧ Ro w u xs := by
  obtain ⟨v0, v1, y0, y1, n, rfl, rfl, rfl, r0, r1⟩ := open_agg2 hs hone hC hval h
  subst h0 h1
  obtain ⟨k, hk, _, _⟩ := DataW.trod_int hi r0
  obtain rfl : v0 = .int .i64 k := by simpa using hk
  have hcell : Cell.okWide P w .any base f1.type v1 := by
    simp only [Value.okWide, hs] at hval
    obtain ⟨cs, hcs, _, ts, h3, _, h4⟩ := hval
    rw [hts] at h3
    obtain rfl := Option.some.inj h3
    obtain rfl : #[Value.int .i64 k, v1] = cs := by simpa using hcs
    obtain ⟨u, hu, hk⟩ := h4 1 v1 rfl
    simp at hu
    subst hu
    exact hk
  obtain ⟨xs, hx⟩ := jS ht hc hz he hf (eG ht hcell) (x := y1) r1 (Nat.le_trans (hf.part _ _ (by simp)) hb)
  exact ⟨k, v1, xs, rfl, hx⟩
end TL
/-
  TlPost: what is owed behind a law that returns true and writes nothing of the caller's.
  By an AI agent.
-/
namespace TL
open Go Go.Proofs Go.ChangeShapes Go.WideShapes Go.RowKit
def mT (P : Program) (ts : List TypeId) : Bool := ts.all fun t => P.readableRec t && decide (t < P.types.size)
theorem jA {H : Type} {enc : TypeId × Value → H} {P : Program} (hl : laidOutB P = true) {W W' : World} (hb : Below W.heap.size W W') (sp : Nat → Bool) :
   ∀ {ts : List TypeId} {vs : List Value} {ds : List (DataW H)} {ps : List MemPlace}, mT P ts = true → DataW.TrodAll enc P W 0 (fun _ => true) true ts vs ds ps → (∀ p ∈ ps, p.block < W.heap.size) → (∀ p ∈ ps, sp p.block = true) → DataW.TrodAll enc P W' 0 sp true ts vs ds ps
 | [], [], [], _, _, h, _, _ => h
 | [], [], _ :: _, _, _, h, _, _ => h.elim
 | [], _ :: _, _, _, _, h, _, _ => by cases ‹List (DataW H)› <;> exact h.elim
 | _ :: _, [], _, _, _, h, _, _ => by cases ‹List (DataW H)› <;> exact h.elim
 | _ :: _, _ :: _, [], _, _, h, _, _ => h.elim
 | t :: ts, v :: vs, d :: ds, ps, hr, h, hlt, hsp => by
   obtain ⟨p, q, h1, h2, rfl⟩ := h
   simp only [mT, List.all_cons, Bool.and_eq_true, decide_eq_true_eq] at hr
   exact ⟨p, q, WideElems.Trod_stays hl hr.1.1 hr.1.2 h1 (fun x hx => hb.same (hlt x (by simp [hx]))) (fun x hx => hsp x (by simp [hx])),
     jA hl hb sp hr.2 h2 (fun x hx => hlt x (by simp [hx])) (fun x hx => hsp x (by simp [hx])), rfl⟩
theorem px {H : Type} {enc : TypeId × Value → H} {P : Program} {f : Func} {s : ChangeSpec} {W W' : World} {args : Array Value} {ds gs : List (DataW H)} {before : List MemPlace} {tb : TypeId}
   (hl : laidOutB P = true) (hr : mT P f.params.toList = true) (hv : s.vars = []) (hrt : f.resultTypes = #[tb]) (htb : P.underlying tb = some .bool)
   (hW : DataW.Whole enc P f.params.toList s.vars false W args.toList ds gs before) (hfn : s.fn H (ds ++ gs) = { results := [.lit (.bool true)], args := ds }) (hB : Below W.heap.size W W') :
   s.post enc P f false true false false W args (.bool true) W' := by
 have hlt := hW.lt
 have hW0 := hW
 obtain ⟨p, q, hA, hV, rfl, hfz, _⟩ := hW
 rw [hv] at hV
 obtain ⟨rfl, rfl⟩ := trodVars_none hV
 simp only [List.append_nil] at hlt hfz hW0 hfn
 have hres : ∀ (b : Nat) (sp : Nat → Bool) (hd : Bool), DataW.TrodAll enc P W' b sp hd f.resultTypes.toList ((Value.bool true).resultList f.resultTypes.size) (s.fn H (ds ++ [])).results [] := fun b sp hd => by
   rw [hrt, List.append_nil, hfn]
   exact trodAll_cons_mk (shut_bool htb true) trodAll_mk0
 have hargs : ∀ sp : Nat → Bool, (∀ x ∈ p, sp x.block = true) → DataW.TrodAll enc P W' 0 sp true f.params.toList args.toList (s.fn H (ds ++ [])).args p := fun sp hsp => by
   rw [List.append_nil, hfn]
   exact jA hl hB sp hr hA hlt hsp
 have hvars : ∀ sp : Nat → Bool, DataW.TrodVars enc P W' sp s.vars (s.fn H (ds ++ [])).vars [] := fun sp => by
   rw [List.append_nil, hfn, hv]
   rfl
 refine ⟨ds, [], p, [], p, [], hW0, hres _ _ _, hargs _ (fun x hx => by simpa using hlt x hx), hvars _, World.keptBut_mono (fun x hx => ⟨hx, Or.inr (by simpa using hx)⟩) (hB.frame _), fun _ => ?_⟩
 refine ⟨?_, _, _, ([] ++ p) ++ [], ⟨[] ++ p, [], trodAll_append (hargs _ (fun _ _ => rfl)) (hres _ _ _), hvars _, rfl, ?_, ?_⟩, ?_⟩
 · exact ok_one hrt rfl (okWide_bool_mk htb true)
 · intro b off hp
   have hp' : MemPlace.cell b off ∈ p := by simpa using hp
   rw [hB.frozen (p := ⟨b, off, none⟩) (hlt _ hp')]
   exact hfz b off hp'
 · intro ha; cases ha
 · intro x hx _
   simpa using hx
end TL
/-
  TlOpenP: arguments that are points, or lists of points.
  By an AI agent.
-/
set_option linter.all false
namespace TL
open Go Go.Proofs Go.ChangeShapes Go.WideShapes Go.Joins Go.Deep
theorem tg {P : Program} {t e : TypeId} {f0 f1 : Field} (hs : P.underlying t = some (.struct #[f0, f1])) (hone : oneCellFields P #[f0, f1] = true) (hC : P.cellsOf t = 2) (h0 : f0.type = e) (h1 : f1.type = e) (he : P.underlying e = some (.int .i64))
    {H : Type} {enc : TypeId × Value → H} {w : World} {base : Nat} {v : Value} {d : DataW H} {p : List MemPlace}
    (hval : Value.okWide P w .any base t v) (h : DataW.Trod enc P w 0 (fun _ => true) true t v d p) : ∃ a b : Int, v = .agg #[.int .i64 a, .int .i64 b] := by
  obtain ⟨v0, v1, y0, y1, n, rfl, rfl, rfl, r0, r1⟩ := open_agg2 hs hone hC hval h
  rw [h0] at r0
  rw [h1] at r1
  obtain ⟨a, ha, _, _⟩ := DataW.trod_int he r0
  obtain ⟨b, hb, _, _⟩ := DataW.trod_int he r1
  obtain rfl : v0 = .int .i64 a := by simpa using ha
  obtain rfl : v1 = .int .i64 b := by simpa using hb
  exact ⟨a, b, rfl⟩
end TL
/-
  TlOpenL: arguments that are plots: a list of points, and a list of lists of points; whole numbers in their range.
  By an AI agent.
-/
set_option linter.all false
namespace TL
open Go Go.Proofs Go.ChangeShapes Go.WideShapes Go.Joins Go.Deep
def od (α : Type) [Rp α] (Q : α → Prop) (P : Program) (t : TypeId) : Prop :=
  ∀ {H : Type} (enc : TypeId × Value → H) (w : World) (fuel : Nat) (cs : List Value) (x : DataW H × List MemPlace), DataW.trod enc P w 0 (fun _ => true) true fuel t cs = some x → ∃ y : α, Rp.rep c0 any w cs y ∧ Q y
def uA (n : Int) : Prop := -9223372036854775808 ≤ n ∧ n ≤ 9223372036854775807
theorem mF {P : Program} {t : TypeId} (ht : P.underlying t = some (.int .i64)) : od Int uA P t := by
 intro H enc w fuel cs x h
 obtain ⟨n, rfl, _, hw⟩ := DataW.trod_int ht h
 refine ⟨n, rfl, ?_⟩
 simp only [Lit.wf, Bool.and_eq_true, decide_eq_true_eq] at hw
 have e1 : IntKind.i64.min = -9223372036854775808 := by decide
 have e2 : IntKind.i64.max = 9223372036854775807 := by decide
 unfold uA
 omega
theorem tf {P : Program} {t e : TypeId} {f0 f1 : Field} (hs : P.underlying t = some (.struct #[f0, f1])) (hone : oneCellFields P #[f0, f1] = true) (hC : P.cellsOf t = 2) (h0 : f0.type = e) (h1 : f1.type = e) (he : P.underlying e = some (.int .i64)) : od (Int × Int) rQ P t := by
 intro H enc w fuel cs x h
 obtain ⟨y0, y1, n, _, hl, k0, k1⟩ := trod_struct2 hs h
 obtain ⟨o0, c0⟩ := hone_of hone 0 f0 rfl
 obtain ⟨o1, c1⟩ := hone_of hone 1 f1 rfl
 rw [hC] at hl
 match cs, hl with
 | [v0, v1], _ =>
   have k0' : DataW.trod enc P w 0 (fun _ => true) true n f0.type [v0] = some y0 := by simpa [o0, c0] using k0
   have k1' : DataW.trod enc P w 0 (fun _ => true) true n f1.type [v1] = some y1 := by simpa [o1, c1] using k1
   rw [h0] at k0'
   rw [h1] at k1'
   obtain ⟨a, ha, qa⟩ := mF he enc w n [v0] y0 k0'
   obtain ⟨b, hb, qb⟩ := mF he enc w n [v1] y1 k1'
   exact ⟨(a, b), ⟨[v0], [v1], rfl, ha, hb⟩, qa, qb⟩
theorem jQ {α : Type} [Rp α] [Inhabited α] {Q : α → Prop} {P : Program} {t e : TypeId} (ht : P.underlying t = some (.slice e)) (hc : P.cellsOf e = Rp.sz α) (hz : 0 < Rp.sz α) (he : od α Q P e)
   {H : Type} {enc : TypeId × Value → H} {w : World} {f : DataW H → Nat} (hf : ga f) {fuel : Nat} {v : Value} {x : DataW H × List MemPlace}
   (hs : ∀ a len cap, v = .slice (some a) len cap → a.spot = none) (h : DataW.trod enc P w 0 (fun _ => true) true fuel t [v] = some x) (hb : f x.1 ≤ 1048576) : ∃ xs : List α, Ro w v xs ∧ (∀ y ∈ xs, Q y) ∧ xs.length ≤ 1048576 := by
 rcases Deep.open_slice ht h with ⟨h0, _⟩ | ⟨a, len, cap, m, n, D, Pl, h0, _, hlc, _, hm, rfl, hx⟩
 · obtain rfl : v = .slice none 0 0 := by simpa using h0
   exact ⟨[], .inl ⟨⟨_, rfl⟩, rfl⟩, fun y hy => (by cases hy), by simp⟩
 · obtain rfl : v = .slice (some a) len cap := by simpa using h0
   have hsp := hs a len cap rfl
   obtain ⟨b, off, spot⟩ := a
   obtain rfl : spot = none := hsp
   simp only [if_true] at hm
   subst hm
   obtain ⟨Y, hY⟩ := Deep.choose_lt (α := α) (n := len) (p := fun i y => (∃ cs, (∀ j, j < Rp.sz α → w.cell? ⟨b, off + i * Rp.sz α + j, none⟩ = cs[j]?) ∧ Rp.rep c0 any w cs y) ∧ Q y) (fun i hi => by
     obtain ⟨cs', h1, h2⟩ := hx i (by omega)
     obtain ⟨y, hy, hq⟩ := he enc w n cs' _ h2
     refine ⟨y, ⟨cs', fun j hj => ?_, hy⟩, hq⟩
     obtain ⟨_, hl, hcell⟩ := World.cells?_some h1
     have := hcell j (by omega)
     rw [Deep.add_add, hc] at this
     rw [← this]
     unfold Addr.add
     by_cases hij : i * Rp.sz α + j = 0
     · rw [if_pos hij, Nat.add_assoc, hij]; rfl
     · rw [if_neg hij, Nat.add_assoc])
   have hlen : ((List.range len).map Y).length = len := by simp
   have hbound := Nat.le_trans (hf.slice _ _) hb
   have hll : len ≤ 1048576 := by simp at hbound; omega
   refine ⟨(List.range len).map Y, .inr ⟨b, off, m, by rw [hlen], ⟨by omega, by omega⟩, fun i y hi => ?_⟩, fun y hy => ?_, by omega⟩
   · have hil : i < len := by
       have := (List.getElem?_eq_some_iff.1 hi).1
       omega
     obtain rfl : Y i = y := by simpa [hil] using hi
     obtain ⟨⟨cs, h1, h2⟩, _⟩ := hY i hil
     refine ⟨?_, trivial, cs, h1, h2⟩
     have h3 := h1 0 hz
     have h4 := Rp.len h2
     have h5 : 0 < cs.length := by omega
     rw [List.getElem?_eq_getElem h5] at h3
     by_cases hbl : b < w.heap.size
     · exact hbl
     · have : w.heap[b]? = none := Array.getElem?_eq_none (by omega)
       simp [World.cell?, this] at h3
   · obtain ⟨i, hi, rfl⟩ := List.mem_map.1 hy
     exact (hY i (List.mem_range.1 hi)).2
theorem nK {α : Type} [Rp α] [Inhabited α] {Q : α → Prop} {P : Program} {e q : TypeId} (he : P.underlying e = some (.slice q)) (hc : P.cellsOf q = Rp.sz α) (hz : 0 < Rp.sz α) (hq : od α Q P q)
    {H : Type} {enc : TypeId × Value → H} {w : World} {f : DataW H → Nat} (hf : ga f) {fuel : Nat} {u : Value} {x : DataW H × List MemPlace}
    (h : DataW.trod enc P w 0 (fun _ => true) true fuel e [u] = some x) (hb : f x.1 ≤ 1048576) : ∃ xs : List α, Ro w u xs ∧ (∀ y ∈ xs, Q y) ∧ xs.length ≤ 1048576 := by
  have h' := h
  rcases Deep.open_slice he h with ⟨h0, _⟩ | ⟨a, len, cap, m, n, D, Pl, h0, _, hlc, _, hm, rfl, hx⟩
  · obtain rfl : u = .slice none 0 0 := by simpa using h0
    exact ⟨[], .inl ⟨⟨_, rfl⟩, rfl⟩, fun y hy => (by cases hy), by simp⟩
  · obtain rfl : u = .slice (some a) len cap := by simpa using h0
    simp only [if_true] at hm
    subst hm
    by_cases hc0 : m = 0
    · have hl : len = 0 := by omega
      subst hl hc0
      exact ⟨[], .inl ⟨⟨_, rfl⟩, rfl⟩, fun y hy => (by cases hy), by simp⟩
    · obtain ⟨cs', h1, h2⟩ := hx 0 (by omega)
      obtain ⟨_, hl, hcell⟩ := World.cells?_some h1
      have h3 := hcell 0 (by omega)
      have h4 : 0 < cs'.length := by omega
      rw [List.getElem?_eq_getElem h4] at h3
      have hs : a.spot = none := by
        have := World.cell?_spot h3
        simpa [Addr.add] using this
      exact jQ he hc hz hq hf (by rintro a' len' cap' e'; cases e'; exact hs) h' hb
theorem nJ {α : Type} [Rp α] [Inhabited α] {Q : α → Prop} {P : Program} {t e q : TypeId} (ht : P.underlying t = some (.slice e)) (he : P.underlying e = some (.slice q)) (hce : P.cellsOf e = 1) (hc : P.cellsOf q = Rp.sz α) (hz : 0 < Rp.sz α) (hq : od α Q P q)
    {H : Type} {enc : TypeId × Value → H} {w : World} {f : DataW H → Nat} (hf : ga f) {fuel : Nat} {v : Value} {x : DataW H × List MemPlace}
    (hs : ∀ a len cap, v = .slice (some a) len cap → a.spot = none) (h : DataW.trod enc P w 0 (fun _ => true) true fuel t [v] = some x) (hb : f x.1 ≤ 1048576) : ∃ xss : List (List α), Ro w v xss ∧ (∀ l ∈ xss, (∀ y ∈ l, Q y) ∧ l.length ≤ 1048576) ∧ xss.length ≤ 1048576 := by
  rcases Deep.open_slice ht h with ⟨h0, _⟩ | ⟨a', len, cap, m, n, D, Pl, h0, _, hlc, _, hm, hd, hx⟩
  · obtain rfl : v = .slice none 0 0 := by simpa using h0
    exact ⟨[], .inl ⟨⟨_, rfl⟩, rfl⟩, fun l hl => (by cases hl), by simp⟩
  · obtain rfl : v = .slice (some a') len cap := by simpa using h0
    have hsp := hs a' len cap rfl
    obtain ⟨b, off, spot⟩ := a'
    obtain rfl : spot = none := hsp
    simp only [if_true] at hm
    subst hm hd
    have hbound := Nat.le_trans (hf.slice _ _) hb
    obtain ⟨Y, hY⟩ := Deep.choose_lt (α := List α) (n := len) (p := fun i y => (∃ cs, (∀ j, j < Rp.sz (List α) → w.cell? ⟨b, off + i * Rp.sz (List α) + j, none⟩ = cs[j]?) ∧ Rp.rep c0 any w cs y) ∧ (∀ z ∈ y, Q z) ∧ y.length ≤ 1048576) (fun i hi => by
      obtain ⟨cs', h1, h2⟩ := hx i (by omega)
      obtain ⟨_, hl, hcell⟩ := World.cells?_some h1
      rw [hce] at hl
      obtain ⟨u, rfl⟩ : ∃ u, cs' = [u] := by
        match cs', hl with
        | [u], _ => exact ⟨u, rfl⟩
      obtain ⟨y, hy, hyl⟩ := nK he hc hz hq hf h2 (Nat.le_trans (hf.elem _ _ _ (by simp; exact ⟨i, hi, rfl⟩)) hb)
      refine ⟨y, ⟨[u], fun j hj => ?_, u, rfl, hy⟩, hyl⟩
      have hj0 : j < 1 := hj
      have := hcell j (by rw [hce]; exact hj0)
      rw [Deep.add_add, hce] at this
      rw [← this]
      show w.cell? ⟨b, off + i * 1 + j, none⟩ = _
      unfold Addr.add
      by_cases hij : i * 1 + j = 0
      · rw [if_pos hij, Nat.add_assoc, hij]; rfl
      · rw [if_neg hij, Nat.add_assoc])
    have hlen : ((List.range len).map Y).length = len := by simp
    have hll : len ≤ 1048576 := by simp at hbound; omega
    refine ⟨(List.range len).map Y, .inr ⟨b, off, m, by rw [hlen], ⟨by omega, by omega⟩, fun i y hi => ?_⟩, fun l hl => ?_, by omega⟩
    · have hil : i < len := by
        have := (List.getElem?_eq_some_iff.1 hi).1
        omega
      obtain rfl : Y i = y := by simpa [hil] using hi
      obtain ⟨⟨cs, h1, h2⟩, _⟩ := hY i hil
      refine ⟨?_, trivial, cs, h1, h2⟩
      have h3 := h1 0 Nat.zero_lt_one
      have h4 := Rp.len h2
      have h5 : 0 < cs.length := by rw [h4]; exact Nat.zero_lt_one
      rw [List.getElem?_eq_getElem h5] at h3
      by_cases hbl : b < w.heap.size
      · exact hbl
      · have : w.heap[b]? = none := Array.getElem?_eq_none (by omega)
        simp [World.cell?, this] at h3
    · obtain ⟨i, hi, rfl⟩ := List.mem_map.1 hl
      exact (hY i (List.mem_range.1 hi)).2
theorem oD {P : Program} {t t0 t1 e q : TypeId} {f0 f1 : Field} (hs : P.underlying t = some (.struct #[f0, f1])) (hone : oneCellFields P #[f0, f1] = true) (hC : P.cellsOf t = 2) (hts : P.cellTypes P.depth t = some [t0, t1])
    (h0 : f0.type = t0) (h1 : f1.type = t1) (ht0 : P.underlying t0 = some (.slice q)) (ht1 : P.underlying t1 = some (.slice e)) (he : P.underlying e = some (.slice q)) (hce : P.cellsOf e = 1) (hcq : P.cellsOf q = 2) (hq : od (Int × Int) rQ P q)
    {H : Type} {enc : TypeId × Value → H} {w : World} {f : DataW H → Nat} (hf : ga f) {base : Nat} {v : Value} {d : DataW H} {p : List MemPlace}
    (hval : Value.okWide P w .any base t v) (h : DataW.Trod enc P w 0 (fun _ => true) true t v d p) (hb : f d ≤ 1048576) : ∃ (u0 u1 : Value) (xs : List (Int × Int)) (xss : List (List (Int × Int))), v = .agg #[u0, u1] ∧ Ro w u0 xs ∧ Ro w u1 xss ∧ sN (xs, xss) := by
  obtain ⟨v0, v1, y0, y1, n, rfl, rfl, rfl, r0, r1⟩ := open_agg2 hs hone hC hval h
  subst h0 h1
  simp only [Value.okWide, hs] at hval
  obtain ⟨cs, hcs, _, ts, h3, _, h4⟩ := hval
  rw [hts] at h3
  obtain rfl := Option.some.inj h3
  obtain rfl : #[v0, v1] = cs := by simpa using hcs
  obtain ⟨t0', hu0, hk0⟩ := h4 0 v0 rfl
  obtain ⟨t1', hu1, hk1⟩ := h4 1 v1 rfl
  simp at hu0 hu1
  subst hu0 hu1
  obtain ⟨xs, hx, hxq, hxl⟩ := jQ (α := Int × Int) ht0 (by rw [hcq]; rfl) (by decide) hq hf (eG ht0 hk0) (x := y0) r0 (Nat.le_trans (hf.part _ _ (by simp)) hb)
  obtain ⟨xss, hy, hyq, hyl⟩ := nJ (α := Int × Int) ht1 he hce (by rw [hcq]; rfl) (by decide) hq hf (eG ht1 hk1) (x := y1) r1 (Nat.le_trans (hf.part _ _ (by simp)) hb)
  exact ⟨v0, v1, xs, xss, rfl, hx, hy, ⟨by show (xs.length : Int) ≤ _; omega, by show (xss.length : Int) ≤ _; omega, fun l hl => (hyq l hl).2⟩, hxq, fun l hl => (hyq l hl).1⟩
end TL
