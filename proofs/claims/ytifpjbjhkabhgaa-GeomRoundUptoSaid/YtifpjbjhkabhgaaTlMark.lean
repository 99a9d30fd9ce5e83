/-
  TlMark: a slice with one element behind its end.
  By an AI agent.
-/
import Derived.Test.YtifpjbjhkabhgaaTlOps
set_option linter.all false
namespace TL
open Go
/-- one element longer -/
def upV (v : Value) : Value :=
  match v with
  | .slice a l c => .slice a (l + 1) c
  | v => v
variable {P : Program} {w : World} {t : TypeId} {f : Fr} {x : Operand} {dst : Option Tmp} {ty : TypeId} {pos : String} {after : Array Edge} {g : Option (Nat × Bool)}
theorem upV_sub {α : Type} [Rp α] [Fl α] {γ : Cmap} {J S : Col → Prop} {v : Value} {xs : List α} {m : α} {sz n : Nat} (h : Ow γ J S w v (xs ++ [m])) (hn : n = xs.length) : Ow γ J S w (upV (subV v sz 0 n)) (xs ++ [m]) := by
  subst hn
  have hf := h.flat
  have e : upV (subV v sz 0 xs.length) = v := by
    rw [subV_zero]
    rcases hf with ⟨_, h0⟩ | ⟨b, off, cap, rfl, _, _⟩
    · simp at h0
    · simp [upV]
  rw [e]; exact h
theorem mark_sl {α : Type} [Rp α] {γ : Cmap} {S : Col → Prop} {v : Value} {xs : List α} {m : α} (h : Sl γ S w (upV v) (xs ++ [m])) : Sl γ S w v xs := by
  rcases h with ⟨_, h0⟩ | ⟨b, off, cap, hv, hc, hx⟩
  · simp at h0
  · cases v <;> simp [upV] at hv
    rename_i a l c
    obtain ⟨rfl, hl, rfl⟩ := hv
    obtain rfl : l = xs.length := by omega
    simp only [List.length_append, List.length_cons, List.length_nil] at hc
    refine .inr ⟨b, off, c, rfl, by omega, fun i y hi => hx i y ?_⟩
    have := (List.getElem?_eq_some_iff.1 hi).1
    rw [List.getElem?_append_left this]; exact hi
/-- a slice up to one behind its end -/
theorem e_slice_up {w1 : World} {α : Type} [Rp α] {γ : Cmap} {S : Col → Prop} {v : Value} {xs : List α} {m : α} {e : Nat} {hi : Operand} {h : Int} (ht : P.underlying t = some (.slice e)) (hs : (P.info? e).map (·.size) = some (Rp.sz α)) (hx : ev f x = v) (hv : Sl γ S w1 (upV v) (xs ++ [m]))
    (hhi : ev f hi = .int .i64 h) (h2 : h = xs.length + 1) :
    (execOp (ev f) ⟨dst, .slice t x none (some hi) none, ty, pos, after, g⟩).run P w = .ok (.value (upV v)) w := by
  cases hq : P.info? e with
  | none => simp [hq] at hs
  | some q =>
    simp only [hq, Option.map_some, Option.some.injEq] at hs
    rcases hv with ⟨_, h0⟩ | ⟨b, off, cap, hv, hc, _⟩
    · simp at h0
    · cases v <;> simp [upV] at hv
      rename_i a l c
      obtain ⟨rfl, hl, rfl⟩ := hv
      obtain rfl : l = xs.length := by omega
      simp only [List.length_append, List.length_cons, List.length_nil] at hc
      have hb : (Instr.sliceBounds true xs.length c none (some (Value.int .i64 h)) none).run P w = .ok (0, xs.length + 1, c) w := by
        have e2 : (xs.length : Int) + 1 ≤ (c : Int) := by omega
        subst h2
        simp [Instr.sliceBounds, Instr.sliceBound, asIntOf]
        omega
      have hsub : execOp (ev f) ⟨dst, .slice t x none (some hi) none, ty, pos, after, g⟩ = (do pure (.value (← Instr.sliceAt t (.slice (some ⟨b, off, none⟩) xs.length c) none (some (Value.int .i64 h)) none))) := by
        simp [execOp, hx, hhi]
      rw [hsub]
      simp [Instr.sliceAt, Instr.slice, run_underlying' ht, hb, run_sizeOf hq, hs, upV, Addr.add]
end TL
namespace TL
open Go
section
variable {P : Program} {w : World} {t t' : TypeId} {f : Fr} {x y : Operand} {dst : Option Tmp} {ty : TypeId} {pos : String} {after : Array Edge} {g : Option (Nat × Bool)}
theorem run_equalIn_bool {d : Nat} {a b : Bool} (ht : P.underlying t = some .bool) : (Op.equalIn (d + 1) t (.bool a) (.bool b)).run P w = .ok (decide (a = b)) w := by
  unfold Op.equalIn
  simp [run_underlying' ht]
  cases a <;> cases b <;> rfl
theorem run_eql_bool {a b : Bool} (ht : P.underlying t = some .bool) : (Op.equal t (.bool a) (.bool b)).run P w = .ok (decide (a = b)) w := run_equalIn_bool (d := 9999) ht
theorem e_eql_bool {a b : Bool} (ht : P.underlying t = some .bool) (hx : ev f x = .bool a) (hy : ev f y = .bool b) : (execOp (ev f) ⟨dst, .binOp .eql t x y t', ty, pos, after, g⟩).run P w = .ok (.value (.bool (decide (a = b)))) w :=
  e_bin .eql hx hy (by simp [eqGuard]) (by simp [binOp, run_eql_bool ht])
theorem e_neq_bool {a b : Bool} (ht : P.underlying t = some .bool) (hx : ev f x = .bool a) (hy : ev f y = .bool b) : (execOp (ev f) ⟨dst, .binOp .neq t x y t', ty, pos, after, g⟩).run P w = .ok (.value (.bool (!decide (a = b)))) w :=
  e_bin .neq hx hy (by simp [eqGuard]) (by simp [binOp, run_eql_bool ht])
end
end TL
namespace TL
open Go
/-- one cell of an element turned -/
theorem ow_setF {α : Type} [Rp α] [Fl α] [Inhabited α] {w : World} {γ : Cmap} {J S : Col → Prop} {v u : Value} {xs : List α} {i q : Nat} {y : α} (hv : Ow γ J S w v xs) (hi : i < xs.length) (hq : q < Rp.sz α) (hy : Fl.cells y = (Fl.cells (gI xs (i : Int))).set q u) :
    ∃ b o cur e, eAddr v (Rp.sz α) i = ⟨b, o, none⟩ ∧ w.heap[b]? = some (.cells cur e (0, 0)) ∧ o + q + 1 ≤ cur.size ∧ Chg J γ w γ (w.setRow b (cur.toList.take (o + q) ++ [u] ++ cur.toList.drop (o + q + 1)).toArray) ∧
      Ow γ J S (w.setRow b (cur.toList.take (o + q) ++ [u] ++ cur.toList.drop (o + q + 1)).toArray) v (xs.set i y) := by
  have hlen : ∀ y : α, (Fl.cells y).length = Rp.sz α := fun y => Rp.len (γ := γ) (S := S) (w := w) (Fl.rep_iff.2 rfl)
  obtain ⟨b, o, cur, e, ha, hb, hle, hch, hov⟩ := ow_set (u := .agg (Fl.cells y).toArray) (y := y) hv hi (by simp [Value.cells])
  have hcell : ∀ j, j < Rp.sz α → cur.toList[o + j]? = (Fl.cells (gI xs (i : Int)))[j]? := fun j hj => by
    rcases hv with ⟨rfl, rfl⟩ | ⟨b', cap, c, e', rfl, hc, hm, hJ, hb', hsz, hx⟩
    · simp at hi
    · simp [eAddr] at ha
      obtain ⟨rfl, rfl⟩ := ha
      rw [hb] at hb'
      simp at hb'
      obtain ⟨rfl, rfl⟩ := hb'
      obtain ⟨cs, h1, h2⟩ := hx i (gI xs (i : Int)) (by simp [gI, hi])
      have h3 := Fl.rep_iff.1 h2
      subst h3
      have := h1 j hj
      simpa using this
  have hrow : cur.toList.take o ++ (Value.agg (Fl.cells y).toArray).cells.toList ++ cur.toList.drop (o + Rp.sz α) = cur.toList.take (o + q) ++ [u] ++ cur.toList.drop (o + q + 1) := by
    have hsz : o + Rp.sz α ≤ cur.toList.length := by simpa using hle
    have hly : (Value.agg (Fl.cells y).toArray).cells.toList = Fl.cells y := by simp [Value.cells]
    apply List.ext_getElem?
    intro k
    have h1 := splice_get cur.toList (Fl.cells y) o k (by rw [hlen]; exact hsz)
    rw [hlen] at h1
    have h2 := splice_get cur.toList [u] (o + q) k (by simp; omega)
    simp only [List.length_cons, List.length_nil, Nat.zero_add] at h2
    rw [hly, h1, h2, hy]
    by_cases hk : o ≤ k ∧ k < o + Rp.sz α
    · rw [if_pos hk]
      by_cases hkq : k = o + q
      · subst hkq
        rw [if_pos (by omega)]
        have : q < (Fl.cells (gI xs (i : Int))).length := by rw [hlen]; exact hq
        simp [this]
      · rw [if_neg (by omega), List.getElem?_set_ne (by omega), ← hcell (k - o) (by omega)]
        congr 1; omega
    · rw [if_neg hk, if_neg (by omega)]
  rw [hrow] at hch hov
  refine ⟨b, o, cur, e, ha, hb, ?_, hch, hov⟩
  omega
end TL
namespace TL
open Go
section
variable {P : Program} {w : World} {t : TypeId} {f : Fr} {x y : Operand} {dst : Option Tmp} {ty : TypeId} {pos : String} {after : Array Edge} {g : Option (Nat × Bool)}
variable {N : Value → World → Prop}
/-- a store into one cell of an element -/
theorem o_store_elF {α : Type} [Rp α] [Fl α] [Inhabited α] {γ : Cmap} {J S : Col → Prop} {bytes q : Nat} {z v u : Value} {xs : List α} {i : Int} (yv : α) (ht : Tp P t false 1 bytes z) (hx : ev f x = .pointer (some ⟨(eAddr v (Rp.sz α) i.toNat).block, (eAddr v (Rp.sz α) i.toNat).off + q, none⟩)) (hy : ev f y = u) (hv : Ow γ J S w v xs) (h0 : 0 ≤ i) (h1 : i < xs.length)
    (hq : q < Rp.sz α) (hu : u.cells = #[u]) (hu1 : u.oneCell' = true) (hyv : Fl.cells yv = (Fl.cells (gI xs i)).set q u)
    (hk : ∀ w', Chg J γ w γ w' → Ow γ J S w' v (xs.set i.toNat yv) → N undef w') : opT P ⟨dst, .store t x y, ty, pos, after, g⟩ f w N := by
  have hi : ((i.toNat : Nat) : Int) = i := by omega
  obtain ⟨b, o, cur, e, ha, hb, hle, hc, hov⟩ := ow_setF (u := u) (y := yv) hv (i := i.toNat) (q := q) (by omega) hq (by rw [hi]; exact hyv)
  rw [ha] at hx
  have hr := run_store (dst := dst) (ty := ty) (pos := pos) (after := after) (g := g) ht hx hy hb (by rw [hu]; rfl) hle (fun p hp => by rw [hu] at hp; simp at hp; subst hp; exact hu1)
  rw [hu] at hr
  exact o_of_eff hr (hk _ hc hov)
end
end TL
