/-
  TlNil: a list that is none, compared.
  By an AI agent.
-/
import Derived.Test.YtgaefcjhggdkcaaTlMark
set_option linter.all false
namespace TL
open Go
section
variable {P : Program} {w : World} {t t' : TypeId} {f : Fr} {x y : Operand} {dst : Option Tmp} {ty : TypeId} {pos : String} {after : Array Edge} {g : Option (Nat × Bool)}
theorem run_equal_nils {e : TypeId} (ht : P.underlying t = some (.slice e)) : (Op.equal t (.slice none 0 0) (.slice none 0 0)).run P w = .ok true w := by
  unfold Op.equal
  rw [show Op.maxDepth = 9999 + 1 from rfl]
  unfold Op.equalIn
  simp [run_underlying' ht]
theorem e_eql_nils {e : TypeId} (ht : P.underlying t = some (.slice e)) (hx : ev f x = .slice none 0 0) (hy : ev f y = .slice none 0 0) : (execOp (ev f) ⟨dst, .binOp .eql t x y t', ty, pos, after, g⟩).run P w = .ok (.value (.bool true)) w :=
  e_bin .eql hx hy (by simp [eqGuard]) (by simp [binOp, run_equal_nils ht])
theorem e_neq_nils {e : TypeId} (ht : P.underlying t = some (.slice e)) (hx : ev f x = .slice none 0 0) (hy : ev f y = .slice none 0 0) : (execOp (ev f) ⟨dst, .binOp .neq t x y t', ty, pos, after, g⟩).run P w = .ok (.value (.bool false)) w :=
  e_bin .neq hx hy (by simp [eqGuard]) (by simp [binOp, run_equal_nils ht])
end
/-- the first part of a list that the call owns, the rest given up -/
theorem ow_pre {α : Type} [Rp α] {γ : Cmap} {J S : Col → Prop} {w : World} {v : Value} {xs : List α} {hi : Nat} (h : Ow γ J S w v xs) (h2 : hi ≤ xs.length) : Ow γ J S w (subV v (Rp.sz α) 0 hi) (xs.take hi) := by
  rcases h with ⟨rfl, rfl⟩ | ⟨b, cap, c, e, rfl, hc, hm, hJ, hb, hcs, hx⟩
  · simp only [List.length_nil] at h2
    have : hi = 0 := by omega
    subst this
    exact .inl ⟨rfl, rfl⟩
  · have hl : (xs.take hi).length = hi := by simp; omega
    refine .inr ⟨b, cap, c, e, ?_, ⟨by omega, by omega⟩, hm, hJ, hb, hcs, fun i x hi' => hx i x ?_⟩
    · rw [subV_zero]
      simp only [hl]
    · rw [List.getElem?_take] at hi'
      split at hi'
      · exact hi'
      · cases hi'
end TL
