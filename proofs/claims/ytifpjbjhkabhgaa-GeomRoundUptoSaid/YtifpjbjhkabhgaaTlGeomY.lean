import Derived.Test.YtifpjbjhkabhgaaTlGeom
set_option linter.unusedVariables false
namespace TL

variable {a b c d : Int × Int}

theorem o1 {A B C D : Prop} [Decidable A] (h : decide A = true) : A ∨ B ∨ C ∨ D := .inl (of_decide_eq_true h)
theorem o2 {A B C D : Prop} [Decidable B] (h : decide B = true) : A ∨ B ∨ C ∨ D := .inr (.inl (of_decide_eq_true h))
theorem o3 {A B C D : Prop} [Decidable C] (h : decide C = true) : A ∨ B ∨ C ∨ D := .inr (.inr (.inl (of_decide_eq_true h)))
theorem o4 {A B C D : Prop} [Decidable D] (h : decide D = true) : A ∨ B ∨ C ∨ D := .inr (.inr (.inr (of_decide_eq_true h)))
theorem o5 {A B C D : Prop} [Decidable A] [Decidable B] [Decidable C] [Decidable D] (h1 : ¬ decide A = true) (h2 : ¬ decide B = true) (h3 : ¬ decide C = true) (h4 : ¬ decide D = true) : ¬ (A ∨ B ∨ C ∨ D) := by
  rintro (h | h | h | h)
  · exact h1 (decide_eq_true h)
  · exact h2 (decide_eq_true h)
  · exact h3 (decide_eq_true h)
  · exact h4 (decide_eq_true h)

end TL
