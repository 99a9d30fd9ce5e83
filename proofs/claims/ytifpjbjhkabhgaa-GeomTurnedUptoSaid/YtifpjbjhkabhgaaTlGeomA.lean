/-
  TlGeomA: areas: of a polygon turned about, begun elsewhere, cut in two.
  By an AI agent.
-/
import Derived.Test.YtifpjbjhkabhgaaTlGeomR
set_option linter.all false
namespace TL
theorem crs_anti (a b : Pt) : crs b a = - crs a b := by unfold crs; grind
theorem crs_self (a : Pt) : crs a a = 0 := by unfold crs; grind
/-- along a list of points -/
def pth : List Pt → Int
  | [] => 0
  | [_] => 0
  | a :: b :: l => crs a b + pth (b :: l)
theorem pth_app : ∀ (l : List Pt) (a : Pt) (m : List Pt), pth (l ++ a :: m) = pth (l ++ [a]) + pth (a :: m)
  | [], a, m => by simp [pth]
  | [x], a, m => by simp [pth]
  | x :: y :: l, a, m => by
    have := pth_app (y :: l) a m
    simp only [List.cons_append] at this ⊢
    simp only [pth]
    rw [this]; omega
theorem pth_rev : ∀ l : List Pt, pth l.reverse = - pth l
  | [] => by simp [pth]
  | [a] => by simp [pth]
  | a :: b :: l => by
    have ih := pth_rev (b :: l)
    rw [List.reverse_cons, List.reverse_cons, List.append_assoc]
    rw [List.reverse_cons] at ih
    show pth (l.reverse ++ b :: [a]) = _
    rw [pth_app, ih]
    simp only [pth]
    rw [crs_anti a b]; omega
/-- round -/
def cyc : List Pt → Int
  | [] => 0
  | a :: l => pth (a :: l ++ [a])
theorem cyc_rot (u v : List Pt) : cyc (v ++ u) = cyc (u ++ v) := by
  cases u with
  | nil => simp
  | cons a u =>
    cases v with
    | nil => simp
    | cons b v =>
      show pth (b :: (v ++ a :: u) ++ [b]) = pth (a :: (u ++ b :: v) ++ [a])
      have e1 : b :: (v ++ a :: u) ++ [b] = (b :: v) ++ a :: (u ++ [b]) := by simp
      have e2 : a :: (u ++ b :: v) ++ [a] = (a :: u) ++ b :: (v ++ [a]) := by simp
      rw [e1, e2, pth_app, pth_app (a :: u)]
      simp only [List.cons_append]
      omega
theorem cyc_rev (l : List Pt) : cyc l.reverse = - cyc l := by
  cases l with
  | nil => rfl
  | cons a t =>
    rw [List.reverse_cons, cyc_rot]
    show pth (a :: t.reverse ++ [a]) = - pth (a :: t ++ [a])
    rw [← pth_rev]
    simp
/-- cut in two -/
theorem cyc_cut {u v : List Pt} {a b : Pt} : cyc (a :: u ++ [b]) + cyc (b :: v ++ [a]) = cyc ((a :: u) ++ b :: v) := by
  show pth (a :: (u ++ [b]) ++ [a]) + pth (b :: (v ++ [a]) ++ [b]) = pth (a :: (u ++ b :: v) ++ [a])
  have e1 : a :: (u ++ [b]) ++ [a] = (a :: u) ++ b :: [a] := by simp
  have e2 : b :: (v ++ [a]) ++ [b] = (b :: v) ++ a :: [b] := by simp
  have e3 : a :: (u ++ b :: v) ++ [a] = (a :: u) ++ b :: (v ++ [a]) := by simp
  rw [e1, e2, e3, pth_app (a :: u) b [a], pth_app (b :: v) a [b], pth_app (a :: u) b (v ++ [a])]
  simp only [pth, List.cons_append]
  rw [crs_anti a b]
  omega
theorem area_cyc {ps : List Pt} (h0 : 0 < ps.length) : areaK ps ps.length = cyc ps := by
  have hc : cyc ps = pth (ps ++ [gI ps 0]) := by
    cases ps with
    | nil => simp at h0
    | cons a l => simp [cyc, gI]
  have key : ∀ k : Nat, k ≤ ps.length → areaK ps k = pth ((ps ++ [gI ps 0]).take (k + 1)) := by
    intro k
    induction k with
    | zero =>
      intro _
      cases ps with
      | nil => simp at h0
      | cons a l => simp [areaK, pth]
    | succ k ih =>
      intro hk
      have hg : ∀ j : Nat, j < ps.length → gI (ps ++ [gI ps 0]) (j : Int) = gI ps (j : Int) := fun j hj => by
        unfold gI
        simp [List.getD_eq_getElem?_getD, List.getElem?_append_left hj]
      have hl : (ps ++ [gI ps 0]).length = ps.length + 1 := by simp
      have e1 := take_succ_gI (xs := ps ++ [gI ps 0]) (k := k) (by rw [hl]; omega)
      have e2 := take_succ_gI (xs := ps ++ [gI ps 0]) (k := k + 1) (by rw [hl]; omega)
      have hnext : gI (ps ++ [gI ps 0]) ((k + 1 : Nat) : Int) = gI ps (((k : Int) + 1) % (ps.length : Int)) := by
        by_cases c : k + 1 < ps.length
        · rw [hg _ c, Int.emod_eq_of_lt (by omega) (by omega)]; rfl
        · have : k + 1 = ps.length := by omega
          rw [show (k : Int) + 1 = ((ps.length : Nat) : Int) by omega, Int.emod_self, this]
          unfold gI
          simp [List.getD_eq_getElem?_getD]
      rw [e2, e1, List.append_assoc]
      show _ = pth ((ps ++ [gI ps 0]).take k ++ gI (ps ++ [gI ps 0]) (k : Int) :: [gI (ps ++ [gI ps 0]) ((k + 1 : Nat) : Int)])
      rw [pth_app, ← e1, ← ih (by omega), hg k (by omega), hnext]
      show areaK ps k + crs (gI ps (k : Int)) (gI ps (((k : Int) + 1) % (ps.length : Int))) = _
      simp [pth]
  rw [hc, key ps.length (Nat.le_refl _), List.take_of_length_le (by simp)]
theorem area_eq {ps : List Pt} (h : okL ps) : (areaR ps).1 = cyc ps := by
  unfold areaR
  rw [if_pos h]
  by_cases c : (ps.length : Int) < 3
  · rw [if_pos c]
    match ps, c with
    | [], _ => rfl
    | [a], _ => simp [cyc, pth, crs_self]
    | [a, b], _ =>
      simp [cyc, pth]
      rw [crs_anti a b]; omega
    | a :: b :: d :: l, c => simp at c; omega
  · rw [if_neg c]
    exact area_cyc (by omega)
theorem okL.of {ps qs : List Pt} (h : okL ps) (hl : qs.length ≤ 4096) (hs : ∀ p ∈ qs, p ∈ ps) : okL qs := ⟨hl, fun p hp => h.2 p (hs p hp)⟩
/-- all that GeomAreas asks -/
theorem areas_law {ps : List Pt} (h : okL ps) (hl : (ps.length : Int) ≤ 100) {at_ : Nat} (h0 : 1 ≤ at_) (h1 : (at_ : Int) ≤ (ps.length : Int) - 2) :
    (areaR ps.reverse).1 = - (areaR ps).1 ∧ (areaR (ps.drop at_ ++ ps.take at_)).1 = (areaR ps).1 ∧ (areaR (ps.take (at_ + 1))).1 + (areaR (ps.drop at_ ++ [gI ps 0])).1 = (areaR ps).1 := by
  have o1 : okL ps.reverse := h.of (by simp; omega) (by simp)
  have o2 : okL (ps.drop at_ ++ ps.take at_) := h.of (by simp; omega) (fun p hp => by
    rcases List.mem_append.1 hp with hp | hp
    · exact List.mem_of_mem_drop hp
    · exact List.mem_of_mem_take hp)
  have o3 : okL (ps.take (at_ + 1)) := h.of (by simp; omega) (fun p hp => List.mem_of_mem_take hp)
  have o4 : okL (ps.drop at_ ++ [gI ps 0]) := h.of (by simp; omega) (fun p hp => by
    rcases List.mem_append.1 hp with hp | hp
    · exact List.mem_of_mem_drop hp
    · obtain rfl := List.mem_singleton.1 hp
      exact gI_mem (by omega) (by omega))
  rw [area_eq h, area_eq o1, area_eq o2, area_eq o3, area_eq o4]
  refine ⟨cyc_rev ps, ?_, ?_⟩
  · rw [cyc_rot, List.take_append_drop]
  · have e1 := take_succ_gI (xs := ps) (k := at_) (by omega)
    have e2 : ps.drop at_ = gI ps (at_ : Int) :: ps.drop (at_ + 1) := drop_gI (by omega)
    rw [e1, e2]
    cases ps with
    | nil => simp at h1; omega
    | cons a l =>
      have e3 : (a :: l).take at_ = a :: l.take (at_ - 1) := by
        rw [show at_ = (at_ - 1) + 1 by omega]; simp
      have e4 : gI (a :: l) 0 = a := by simp [gI]
      rw [e4, e3]
      have := cyc_cut (u := l.take (at_ - 1)) (v := (a :: l).drop (at_ + 1)) (a := a) (b := gI (a :: l) (at_ : Int))
      rw [List.cons_append] at this ⊢
      rw [this]
      congr 1
      rw [← e2]
      have e5 := List.take_append_drop at_ (a :: l)
      rw [e3] at e5
      exact e5
end TL
namespace TL
theorem back_next {ps back : List Pt} {i : Int} (h : back = (ps.drop (Int.toNat (i + 1))).reverse ∧ -1 ≤ i ∧ i < ps.length) (h0 : 0 ≤ i) : back ++ [gI ps i] = (ps.drop (Int.toNat (i - 1 + 1))).reverse ∧ -1 ≤ i - 1 ∧ i - 1 < ps.length := by
  refine ⟨?_, by omega, by omega⟩
  have e := drop_gI (xs := ps) (k := i.toNat) (by omega)
  rw [show ((i.toNat : Nat) : Int) = i by omega] at e
  rw [h.1, show Int.toNat (i - 1 + 1) = i.toNat by omega, e, List.reverse_cons, show Int.toNat (i + 1) = i.toNat + 1 by omega]
theorem back_done {ps back : List Pt} {i : Int} (h : back = (ps.drop (Int.toNat (i + 1))).reverse ∧ -1 ≤ i ∧ i < ps.length) (h0 : ¬ 0 ≤ i) : back = ps.reverse := by
  rw [h.1, show Int.toNat (i + 1) = 0 by omega]; rfl
theorem back_start (ps : List Pt) : ([] : List Pt) = (ps.drop (Int.toNat ((ps.length : Int) - 1 + 1))).reverse := by
  rw [show Int.toNat ((ps.length : Int) - 1 + 1) = ps.length by omega]; simp
theorem area_abs (ps : List Pt) : -9007199254740992 ≤ (areaR ps).1 ∧ (areaR ps).1 ≤ 9007199254740992 := by
  unfold areaR
  by_cases c : okL ps
  · rw [if_pos c]
    split
    · simp
    · have h := areaK_bd c.2 ps.length (by omega)
      have := c.1
      simp only
      omega
  · rw [if_neg c]; simp
end TL
