/-
  TlOpenP: arguments that are points, or lists of points.
  By an AI agent.
-/
import Derived.Test.YtifpjbjhkabhgaaTlOpen
set_option linter.all false
namespace TL
open Go Go.Proofs Go.ChangeShapes Go.WideShapes Go.Joins Go.Deep
theorem opn_pt {P : Program} {t e : TypeId} {f0 f1 : Field} (hs : P.underlying t = some (.struct #[f0, f1])) (hone : oneCellFields P #[f0, f1] = true) (hC : P.cellsOf t = 2) (h0 : f0.type = e) (h1 : f1.type = e) (he : P.underlying e = some (.int .i64)) : OpnF (Int × Int) P t := by
  intro H enc w fuel cs x h
  obtain ⟨y0, y1, n, _, hl, k0, k1⟩ := trod_struct2 hs h
  obtain ⟨o0, c0⟩ := hone_of hone 0 f0 rfl
  obtain ⟨o1, c1⟩ := hone_of hone 1 f1 rfl
  rw [hC] at hl
  match cs, hl with
  | [v0, v1], _ =>
    have k0' : DataW.trod enc P w 0 (fun _ => true) true n f0.type [v0] = some y0 := by simpa [o0, c0] using k0
    have k1' : DataW.trod enc P w 0 (fun _ => true) true n f1.type [v1] = some y1 := by simpa [o1, c1] using k1
    rw [h0] at k0'
    rw [h1] at k1'
    obtain ⟨a, ha⟩ := opn_int he enc w n [v0] y0 k0'
    obtain ⟨b, hb⟩ := opn_int he enc w n [v1] y1 k1'
    exact ⟨(a, b), [v0], [v1], rfl, ha, hb⟩
/-- an argument that is a point -/
theorem top_pt {P : Program} {t e : TypeId} {f0 f1 : Field} (hs : P.underlying t = some (.struct #[f0, f1])) (hone : oneCellFields P #[f0, f1] = true) (hC : P.cellsOf t = 2) (h0 : f0.type = e) (h1 : f1.type = e) (he : P.underlying e = some (.int .i64))
    {H : Type} {enc : TypeId × Value → H} {w : World} {base : Nat} {v : Value} {d : DataW H} {p : List MemPlace}
    (hval : Value.okWide P w .any base t v) (h : DataW.Trod enc P w 0 (fun _ => true) true t v d p) : ∃ a b : Int, v = .agg #[.int .i64 a, .int .i64 b] := by
  obtain ⟨v0, v1, y0, y1, n, rfl, rfl, rfl, r0, r1⟩ := open_agg2 hs hone hC hval h
  rw [h0] at r0
  rw [h1] at r1
  obtain ⟨a, ha, _, _⟩ := DataW.trod_int he r0
  obtain ⟨b, hb, _, _⟩ := DataW.trod_int he r1
  obtain rfl : v0 = .int .i64 a := by simpa using ha
  obtain rfl : v1 = .int .i64 b := by simpa using hb
  exact ⟨a, b, rfl⟩
end TL
