import Derived.Test.YtbadiajeohbpcaaGTlP2
import Derived.Test.YtbadiajeohbpcaaGTlGenX
import Derived.Test.YtbadiajeohbpcaaProg
set_option linter.all false
set_option maxRecDepth 20000
namespace TL
open Go Go.Proofs
theorem s4 : Try.f62.body.isNone = false := rfl
theorem rr : (Try.f62.name == "runtime.NumGoroutine") = false := by decide +kernel
theorem rL : Try.f63.body.isNone = false := rfl
theorem rM : (Try.f63.name == "runtime.NumGoroutine") = false := by decide +kernel
theorem mp (w0 : World) (g : (Int) × (List ((Int) × (Int)))) (g_v : Value) (hg_v : Ro w0 g_v g.2) (r : dQ) (r_v : Value) (hr_v : Ro w0 r_v r) :
    Calls Try.prog 31 #[vg [vi g.1, g_v], r_v] w0 (fun ee w => ∃ xx : aP × Value, ee = .returned ((fun ⟨δ, rv0⟩ => vt [rv0, vi ((cV g r).2)]) xx) ∧ (fun (⟨δ, rv0⟩ : aP × Value) (w : World) => fB w0 δ w ∧ dJ δ 1 w rv0 ((cV g r).1)) xx w) := by
 refine aC Try.func31 rfl (Nat.le_of_ble_eq_true rfl) ?_
 have bH := bf.start w0
 have Rg := hg_v.sl
 have Rr := hr_v.sl
 refine a7 (a6 rfl (bY rfl (bA c0 (is 1) (1, 0) rfl rfl ?_)))
 intro g4 w1 b3 ch2 bx5
 replace bx5 : Bx g4 (is 1) w1 b3 [vi g.1, g_v] := bx5
 refine ma vn (ai 0 (aa (a7 (a7 (a6 rfl (lx (ad (ds := [vi g.1, g_v]) cj rfl bx5 rfl rfl) (mv r_v ?_)))))))
 replace Rg := Rg.cn ch2
 replace Rr := Rr.cn ch2
 refine lo (aF (v := vi (cr g r)) (aw (vals := [vg [vi g.1, g_v], r_v]) Try.func62 s4 rr rfl) (oS w1 g g_v (Rg).ro r r_v (Rr).ro) ?_)
 intro w6 hb7
 replace hb7 := ak hb7 g4
 refine ai (cr g r) (aa (a7 ?_))
 clear bx5
 refine a6 rfl (mi (cr g r) (lx (dC (m := cr g r) (n := 0) rfl rfl) (aa ?_)))
 by_cases p2 : (cr g r) = 0
 ·
  obtain ⟨hm, hrp⟩ := oV ‹_›
  have hm0 := hm
  obtain ⟨hm1, hm2, hm3, hm4⟩ := hm0
  refine aj rfl (congrArg Bool.not (dt p2)) (am (a7 (a6 rfl (mv r_v ?_))))
  replace Rr := Rr.cn hb7
  refine lo (cy (aw (vals := [r_v]) Try.func63 rL rM rfl) (od w6 r r_v (Rr).ro) ?_)
  rintro ⟨d9, v11⟩ w8 ⟨fr10, o12⟩
  obtain ⟨g13, ch14, G13⟩ := m6 g4 fr10 (fun n => if n = 1 then 2 else 0)
  replace o12 := o12.gl G13 2
  refine ma v11 (ai 0 (aa (al (vs := [v11, vi 0]) Try.func31 (.tmp rfl (.tmp rfl .nil)) ?_)))
  have C15 := cg [] (ch2.n.seq (hb7.n.seq ch14.n))
  replace bH := bH.ca C15
  have e0 : (ew r : dQ) = ((cV g r).1) := by
    simp only [cV, if_pos (show cr g r = 0 by assumption)]
  have e1 : (0 : Int) = ((cV g r).2) := by
    simp only [cV, if_pos (show cr g r = 0 by assumption)]
  exact ⟨(fin w0 g13 (fun n => if n = 2 then 1 else 0), v11), (bW (a := ew r) (b := 0) (fun (z0 : dQ) (z1 : Int) => Ending.returned (vt [v11, vi z1])) e0 e1), bH.fresh _, (e0 ▸ (o12.glue (γ := c0) (ren := (fun n => if n = 2 then 1 else 0)) (k := 1) bH.col rfl rfl))⟩
 refine ah rfl (congrArg Bool.not (df p2)) (a7 (a6 rfl (mi (cr g r) (ma vn (ai (cr g r) (aa (al (vs := [vn, vi (cr g r)]) Try.func31 (.tmp rfl (.tmp rfl .nil)) ?_)))))))
 replace bH := bH.cn ch2
 replace bH := bH.cn hb7
 have e0 : ([] : dQ) = ((cV g r).1) := by
   simp only [cV, if_neg (show ¬ cr g r = 0 by assumption)]
 have e1 : (cr g r : Int) = ((cV g r).2) := by
   simp only [cV, if_neg (show ¬ cr g r = 0 by assumption)]
 exact ⟨(fin w0 g4 (fun n => 0), vn), (bW (a := []) (b := cr g r) (fun (z0 : dQ) (z1 : Int) => Ending.returned (vt [vn, vi z1])) e0 e1), bH.fresh _, (e0 ▸ dJ.nil)⟩
end TL
