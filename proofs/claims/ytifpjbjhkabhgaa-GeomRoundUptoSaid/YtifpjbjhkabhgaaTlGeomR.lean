/-
  TlGeomR: what is told of many points: areas, boxes, whether a polyline is simple.
  By an AI agent.
-/
import Derived.Test.YtifpjbjhkabhgaaTlGeom
set_option linter.all false
namespace TL
def areaK (ps : List Pt) : Nat → Int
  | 0 => 0
  | k + 1 => areaK ps k + crs (gI ps (k : Int)) (gI ps (((k : Int) + 1) % (ps.length : Int)))
theorem crs_bd {a b : Pt} (ha : okP a) (hb : okP b) : -2199023255552 ≤ crs a b ∧ crs a b ≤ 2199023255552 := by
  unfold okP at ha hb
  have key : ∀ {x y : Int}, -1048576 ≤ x → x ≤ 1048576 → -1048576 ≤ y → y ≤ 1048576 → -1099511627776 ≤ x * y ∧ x * y ≤ 1099511627776 := fun {x y} h1 h2 h3 h4 => by
    have h := Int.natAbs_mul x y
    have a : x.natAbs ≤ 1048576 := by omega
    have b : y.natAbs ≤ 1048576 := by omega
    have c : x.natAbs * y.natAbs ≤ 1048576 * 1048576 := Nat.mul_le_mul a b
    omega
  have h1 := key ha.1.1 ha.1.2 hb.2.1 hb.2.2
  have h2 := key ha.2.1 ha.2.2 hb.1.1 hb.1.2
  unfold crs
  omega
theorem areaK_bd {ps : List Pt} (h : ∀ p ∈ ps, okP p) : ∀ k : Nat, (k : Int) ≤ ps.length → -(2199023255552 * (k : Int)) ≤ areaK ps k ∧ areaK ps k ≤ 2199023255552 * (k : Int)
  | 0, _ => by simp [areaK]
  | k + 1, hk => by
    have ih := areaK_bd h k (by omega)
    have e1 := Int.emod_nonneg ((k : Int) + 1) (show ((ps.length : Nat) : Int) ≠ 0 by omega)
    have e2 := Int.emod_lt_of_pos ((k : Int) + 1) (show (0 : Int) < ((ps.length : Nat) : Int) by omega)
    have hc := crs_bd (h _ (gI_mem (xs := ps) (i := (k : Int)) (by omega) (by omega))) (h _ (gI_mem (xs := ps) e1 e2))
    unfold areaK
    omega
def areaR (ps : List Pt) : Int × Int := if okL ps then if (ps.length : Int) < 3 then (0, 0) else (areaK ps ps.length, 0) else (0, 1)
def loK (ps : List Pt) : Nat → Pt
  | 0 => gI ps 0
  | k + 1 => (min (loK ps k).1 (gI ps (k : Int)).1, min (loK ps k).2 (gI ps (k : Int)).2)
def hiK (ps : List Pt) : Nat → Pt
  | 0 => gI ps 0
  | k + 1 => (max (hiK ps k).1 (gI ps (k : Int)).1, max (hiK ps k).2 (gI ps (k : Int)).2)
def boxR (ps : List Pt) : Pt × Pt × Int := if okL ps then if (ps.length : Int) = 0 then ((0, 0), (0, 0), 9) else (loK ps ps.length, hiK ps ps.length, 0) else ((0, 0), (0, 0), 1)
def closedP (ps : List Pt) : Prop := 4 ≤ (ps.length : Int) ∧ gI ps 0 = gI ps ((ps.length : Int) - 1)
instance (ps : List Pt) : Decidable (closedP ps) := by unfold closedP; infer_instance
def joinP (ps : List Pt) (i k : Nat) : Prop := k = i + 1 ∨ i = 0 ∧ (k : Int) = (ps.length : Int) - 2 ∧ closedP ps
instance (ps : List Pt) (i k : Nat) : Decidable (joinP ps i k) := by unfold joinP; infer_instance
def mAt (ps : List Pt) (i k : Nat) : Int := meetP (gI ps (i : Int)) (gI ps ((i : Int) + 1)) (gI ps (k : Int)) (gI ps ((k : Int) + 1))
def badP (ps : List Pt) (i k : Nat) : Prop := joinP ps i k ∧ mAt ps i k = 3 ∨ ¬ joinP ps i k ∧ mAt ps i k ≠ 0
instance (ps : List Pt) (i k : Nat) : Decidable (badP ps i k) := by unfold badP; infer_instance
def simI (ps : List Pt) (i : Nat) : Prop := gI ps (i : Int) ≠ gI ps ((i : Int) + 1) ∧ ∀ k < ps.length, i < k → (k : Int) ≤ (ps.length : Int) - 2 → ¬ badP ps i k
instance (ps : List Pt) (i : Nat) : Decidable (simI ps i) := by unfold simI; infer_instance
def simP (ps : List Pt) : Prop := ∀ i < ps.length, (i : Int) ≤ (ps.length : Int) - 2 → simI ps i
instance (ps : List Pt) : Decidable (simP ps) := by unfold simP; infer_instance
def simR (ps : List Pt) : Bool × Int := if (ps.length : Int) = 0 ∨ ¬ okL ps then (false, 1) else (decide (simP ps), 0)
section
variable {ps : List Pt}
theorem simR_err (h : (ps.length : Int) = 0 ∨ ¬ okL ps) : simR ps = (false, 1) := by unfold simR; rw [if_pos h]
theorem simR_ok (h0 : ¬ (ps.length : Int) = 0) (h : okL ps) : simR ps = (decide (simP ps), 0) := by unfold simR; rw [if_neg (by rintro (c | c); exact h0 c; exact c h)]
theorem sim_eq {i : Nat} (hi : (i : Int) ≤ (ps.length : Int) - 2) (h : gI ps (i : Int) = gI ps ((i : Int) + 1)) : false = decide (simP ps) :=
  (decide_eq_false fun hs => (hs i (by omega) hi).1 h).symm
theorem sim_bad {i k : Nat} (hi : (i : Int) ≤ (ps.length : Int) - 2) (hk : (k : Int) ≤ (ps.length : Int) - 2) (hik : i < k) (h : badP ps i k) : false = decide (simP ps) :=
  (decide_eq_false fun hs => (hs i (by omega) hi).2 k (by omega) hik hk h).symm
theorem sim_yes {i : Nat} (h : ∀ j : Nat, j < i → simI ps j) (hi : ¬ (i : Int) ≤ (ps.length : Int) - 2) : true = decide (simP ps) :=
  (decide_eq_true fun j _ hj2 => h j (by omega)).symm
variable {i k : Nat}
theorem join1 (h : (k : Int) = (i : Int) + 1) : joinP ps i k := .inl (by omega)
theorem join2 (h1 : (i : Int) = 0) (h2 : (k : Int) = (ps.length : Int) - 2) (h3 : decide (closedP ps) = true) : joinP ps i k := .inr ⟨by omega, h2, of_decide_eq_true h3⟩
theorem nojoin0 (h : ¬ (k : Int) = (i : Int) + 1) (h1 : ¬ (i : Int) = 0) : ¬ joinP ps i k := by
  rintro (c | ⟨c, _⟩) <;> omega
theorem nojoin1 (h : ¬ (k : Int) = (i : Int) + 1) (h1 : ¬ (k : Int) = (ps.length : Int) - 2) : ¬ joinP ps i k := by
  rintro (c | ⟨_, c, _⟩) <;> omega
theorem nojoin2 (h : ¬ (k : Int) = (i : Int) + 1) (h1 : ¬ decide (closedP ps) = true) : ¬ joinP ps i k := by
  rintro (c | ⟨_, _, c⟩)
  · omega
  · exact h1 (decide_eq_true c)
theorem bad3 (hj : joinP ps i k) (hm : meetP (gI ps (i : Int)) (gI ps ((i : Int) + 1)) (gI ps (k : Int)) (gI ps ((k : Int) + 1)) = 3) : badP ps i k := .inl ⟨hj, hm⟩
theorem bad0 (hj : ¬ joinP ps i k) (hm : ¬ meetP (gI ps (i : Int)) (gI ps ((i : Int) + 1)) (gI ps (k : Int)) (gI ps ((k : Int) + 1)) = 0) : badP ps i k := .inr ⟨hj, hm⟩
theorem good3 (hj : joinP ps i k) (hm : ¬ meetP (gI ps (i : Int)) (gI ps ((i : Int) + 1)) (gI ps (k : Int)) (gI ps ((k : Int) + 1)) = 3) : ¬ badP ps i k := by
  rintro (⟨_, h⟩ | ⟨h, _⟩)
  · exact hm h
  · exact h hj
theorem good0 (hj : ¬ joinP ps i k) (hm : meetP (gI ps (i : Int)) (gI ps ((i : Int) + 1)) (gI ps (k : Int)) (gI ps ((k : Int) + 1)) = 0) : ¬ badP ps i k := by
  rintro (⟨h, _⟩ | ⟨_, h⟩)
  · exact hj h
  · exact h hm
end
end TL
