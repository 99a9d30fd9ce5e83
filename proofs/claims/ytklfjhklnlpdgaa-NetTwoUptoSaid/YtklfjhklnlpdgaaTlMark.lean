/-
  TlMark: a slice with one element behind its end.
  By an AI agent.
-/
import Derived.Test.YtklfjhklnlpdgaaTlOps
set_option linter.all false
namespace TL
open Go
/-- one element longer -/
def upV (v : Value) : Value :=
  match v with
  | .slice a l c => .slice a (l + 1) c
  | v => v
variable {P : Program} {w : World} {t : TypeId} {f : Fr} {x : Operand} {dst : Option Tmp} {ty : TypeId} {pos : String} {after : Array Edge} {g : Option (Nat × Bool)}
theorem upV_sub {α : Type} [Rp α] [Fl α] {γ : Cmap} {J S : Col → Prop} {v : Value} {xs : List α} {m : α} {sz n : Nat} (h : Ow γ J S w v (xs ++ [m])) (hn : n = xs.length) : Ow γ J S w (upV (subV v sz 0 n)) (xs ++ [m]) := by
  subst hn
  have hf := h.flat
  have e : upV (subV v sz 0 xs.length) = v := by
    rw [subV_zero]
    rcases hf with ⟨_, h0⟩ | ⟨b, off, cap, rfl, _, _⟩
    · simp at h0
    · simp [upV]
  rw [e]; exact h
theorem mark_sl {α : Type} [Rp α] {γ : Cmap} {S : Col → Prop} {v : Value} {xs : List α} {m : α} (h : Sl γ S w (upV v) (xs ++ [m])) : Sl γ S w v xs := by
  rcases h with ⟨_, h0⟩ | ⟨b, off, cap, hv, hc, hx⟩
  · simp at h0
  · cases v <;> simp [upV] at hv
    rename_i a l c
    obtain ⟨rfl, hl, rfl⟩ := hv
    obtain rfl : l = xs.length := by omega
    simp only [List.length_append, List.length_cons, List.length_nil] at hc
    refine .inr ⟨b, off, c, rfl, by omega, fun i y hi => hx i y ?_⟩
    have := (List.getElem?_eq_some_iff.1 hi).1
    rw [List.getElem?_append_left this]; exact hi
/-- a slice up to one behind its end -/
theorem e_slice_up {w1 : World} {α : Type} [Rp α] {γ : Cmap} {S : Col → Prop} {v : Value} {xs : List α} {m : α} {e : Nat} {hi : Operand} {h : Int} (ht : P.underlying t = some (.slice e)) (hs : (P.info? e).map (·.size) = some (Rp.sz α)) (hx : ev f x = v) (hv : Sl γ S w1 (upV v) (xs ++ [m]))
    (hhi : ev f hi = .int .i64 h) (h2 : h = xs.length + 1) :
    (execOp (ev f) ⟨dst, .slice t x none (some hi) none, ty, pos, after, g⟩).run P w = .ok (.value (upV v)) w := by
  cases hq : P.info? e with
  | none => simp [hq] at hs
  | some q =>
    simp only [hq, Option.map_some, Option.some.injEq] at hs
    rcases hv with ⟨_, h0⟩ | ⟨b, off, cap, hv, hc, _⟩
    · simp at h0
    · cases v <;> simp [upV] at hv
      rename_i a l c
      obtain ⟨rfl, hl, rfl⟩ := hv
      obtain rfl : l = xs.length := by omega
      simp only [List.length_append, List.length_cons, List.length_nil] at hc
      have hb : (Instr.sliceBounds true xs.length c none (some (Value.int .i64 h)) none).run P w = .ok (0, xs.length + 1, c) w := by
        have e2 : (xs.length : Int) + 1 ≤ (c : Int) := by omega
        subst h2
        simp [Instr.sliceBounds, Instr.sliceBound, asIntOf]
        omega
      have hsub : execOp (ev f) ⟨dst, .slice t x none (some hi) none, ty, pos, after, g⟩ = (do pure (.value (← Instr.sliceAt t (.slice (some ⟨b, off, none⟩) xs.length c) none (some (Value.int .i64 h)) none))) := by
        simp [execOp, hx, hhi]
      rw [hsub]
      simp [Instr.sliceAt, Instr.slice, run_underlying' ht, hb, run_sizeOf hq, hs, upV, Addr.add]
end TL
namespace TL
open Go
section
variable {P : Program} {w : World} {t t' : TypeId} {f : Fr} {x y : Operand} {dst : Option Tmp} {ty : TypeId} {pos : String} {after : Array Edge} {g : Option (Nat × Bool)}
theorem run_equalIn_bool {d : Nat} {a b : Bool} (ht : P.underlying t = some .bool) : (Op.equalIn (d + 1) t (.bool a) (.bool b)).run P w = .ok (decide (a = b)) w := by
  unfold Op.equalIn
  simp [run_underlying' ht]
  cases a <;> cases b <;> rfl
theorem run_eql_bool {a b : Bool} (ht : P.underlying t = some .bool) : (Op.equal t (.bool a) (.bool b)).run P w = .ok (decide (a = b)) w := run_equalIn_bool (d := 9999) ht
theorem e_eql_bool {a b : Bool} (ht : P.underlying t = some .bool) (hx : ev f x = .bool a) (hy : ev f y = .bool b) : (execOp (ev f) ⟨dst, .binOp .eql t x y t', ty, pos, after, g⟩).run P w = .ok (.value (.bool (decide (a = b)))) w :=
  e_bin .eql hx hy (by simp [eqGuard]) (by simp [binOp, run_eql_bool ht])
theorem e_neq_bool {a b : Bool} (ht : P.underlying t = some .bool) (hx : ev f x = .bool a) (hy : ev f y = .bool b) : (execOp (ev f) ⟨dst, .binOp .neq t x y t', ty, pos, after, g⟩).run P w = .ok (.value (.bool (!decide (a = b)))) w :=
  e_bin .neq hx hy (by simp [eqGuard]) (by simp [binOp, run_eql_bool ht])
end
end TL
