/-
  TlGeomT: turns and meetings of points that change places, are moved, or turned.
  By an AI agent.
-/
import Derived.Test.YtifpjbjhkabhgaaTlGeomM
import Derived.Test.YtifpjbjhkabhgaaTlGeomR
set_option linter.all false
namespace TL
def smP (p : Pt) : Prop := (-262144 ≤ p.1 ∧ p.1 ≤ 262144) ∧ -262144 ≤ p.2 ∧ p.2 ≤ 262144
section
variable {a b c d q : Pt}
theorem smP.ok (h : smP a) : okP a := by unfold smP at h; unfold okP; omega
theorem smP.add (h : smP a) (hq : smP q) : okP (addP a q) := by unfold smP at h hq; unfold okP addP; simp only; omega
theorem smP.rot (h : smP a) : okP (rotP a) := by unfold smP at h; unfold okP rotP; simp only; omega
theorem orient_yes (ha : okP a) (hb : okP b) (hc : okP c) : orientR a b c = (trn a b c, 0) := by unfold orientR; rw [if_pos ⟨ha, hb, hc⟩]
theorem meet_yes (ha : okP a) (hb : okP b) (hc : okP c) (hd : okP d) : meetR a b c d = (meetP a b c d, 0) := by unfold meetR; rw [if_pos ⟨⟨ha, hb⟩, hc, hd⟩]
theorem on_yes (ha : okP a) (hb : okP b) (hc : okP c) : onR a b c = (decide (onP a b c), 0) := by unfold onR; rw [if_pos ⟨ha, hb, hc⟩]
theorem orient_abs (a b c : Pt) : -1 ≤ (orientR a b c).1 ∧ (orientR a b c).1 ≤ 1 := by
  unfold orientR
  split
  · exact trn_abs a b c
  · simp
theorem turns_law (ha : smP a) (hb : smP b) (hc : smP c) (hd : smP d) (hq : smP q) :
    ((orientR b a c).1 = -(orientR a b c).1 ∧ (orientR b c a).1 = (orientR a b c).1) ∧
    ((orientR (a.1 + q.1, a.2 + q.2) (b.1 + q.1, b.2 + q.2) (c.1 + q.1, c.2 + q.2)).1 = (orientR a b c).1 ∧ (orientR (-a.2, a.1) (-b.2, b.1) (-c.2, c.1)).1 = (orientR a b c).1) ∧
    (meetR (a.1 + q.1, a.2 + q.2) (b.1 + q.1, b.2 + q.2) (c.1 + q.1, c.2 + q.2) (d.1 + q.1, d.2 + q.2)).1 = (meetR a b c d).1 ∧ (meetR (-a.2, a.1) (-b.2, b.1) (-c.2, c.1) (-d.2, d.1)).1 = (meetR a b c d).1 ∧ (meetR d c b a).1 = (meetR a b c d).1 := by
  have a1 := ha.ok
  have b1 := hb.ok
  have c1 := hc.ok
  have d1 := hd.ok
  have a2 := ha.add hq
  have b2 := hb.add hq
  have c2 := hc.add hq
  have d2 := hd.add hq
  have a3 := ha.rot
  have b3 := hb.rot
  have c3 := hc.rot
  have d3 := hd.rot
  rw [orient_yes b1 a1 c1, orient_yes a1 b1 c1, orient_yes b1 c1 a1]
  refine ⟨⟨trn_swap _ _ _, trn_next _ _ _⟩, ⟨?_, ?_⟩, ?_, ?_, ?_⟩
  · show (orientR (addP a q) (addP b q) (addP c q)).1 = _
    rw [orient_yes a2 b2 c2]; exact trn_add a b c q
  · show (orientR (rotP a) (rotP b) (rotP c)).1 = _
    rw [orient_yes a3 b3 c3]; exact trn_rot a b c
  · show (meetR (addP a q) (addP b q) (addP c q) (addP d q)).1 = _
    rw [meet_yes a2 b2 c2 d2, meet_yes a1 b1 c1 d1]
    exact meet_add a1.bd b1.bd c1.bd d1.bd a2.bd b2.bd c2.bd d2.bd
  · show (meetR (rotP a) (rotP b) (rotP c) (rotP d)).1 = _
    rw [meet_yes a3 b3 c3 d3, meet_yes a1 b1 c1 d1]
    exact meet_rot a1.bd b1.bd c1.bd d1.bd
  · rw [meet_yes d1 c1 b1 a1, meet_yes a1 b1 c1 d1]
    exact meet_back a1.bd b1.bd c1.bd d1.bd
end
end TL
