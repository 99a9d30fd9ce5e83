/- A plot without flaws, where half-edges leave in unlike directions, has a planar rotation, if its net is connected. By an AI agent. -/
import Derived.Test.YtcblhagfadineaaRows
import Derived.Test.YtcblhagfadineaaJpTlGjP
import Derived.Test.YtcblhagfadineaaJpTlP4
import Derived.WalkKit
import Derived.ProofKit
import Derived.OpenShut
import Derived.JoinedCond
set_option maxRecDepth 20000
namespace Go.Proofs.Ytcblhagfadineaa.judgePlanar
open Go.ChangeShapes Go.WideShapes Go.ChangeAt Go.RowKit TL
theorem own : ownKnob Try.prog.godebug = none := by kernel_rfl
theorem part_le {H : Type} {d : DataW H} {l : List (DataW H)} (h : d ∈ l) : Rows.uptoBulk d ≤ Rows.uptoBulkAll l := by
  induction l with
  | nil => cases h
  | cons x r ih =>
    simp only [Rows.uptoBulkAll]
    cases List.mem_cons.1 h with
    | inl e => subst e; omega
    | inr e => have := ih e; omega
theorem one_le {H : Type} (d : DataW H) : 1 ≤ Rows.uptoBulk d := by
  cases d with
  | lit l => cases l <;> simp [Rows.uptoBulk]
  | nil => simp [Rows.uptoBulk]
  | ptr d => simp [Rows.uptoBulk]
  | slice elems spare => simp [Rows.uptoBulk]
  | agg parts => simp [Rows.uptoBulk]
  | iface t d => simp [Rows.uptoBulk]
  | map entries => simp [Rows.uptoBulk]
  | held h => simp [Rows.uptoBulk]
theorem length_le {H : Type} (l : List (DataW H)) : l.length ≤ Rows.uptoBulkAll l := by
  induction l with
  | nil => simp [Rows.uptoBulkAll]
  | cons x r ih => have := one_le x; simp only [Rows.uptoBulkAll, List.length_cons]; omega
theorem bulk {H : Type} : j9 (Rows.uptoBulk (H := H)) where
  slice l s := by have := length_le l; simp only [Rows.uptoBulk]; omega
  elem l s d h := by have := part_le h; simp only [Rows.uptoBulk]; omega
  part l d h := by have := part_le h; simp only [Rows.uptoBulk]; omega
theorem oneNet : ∃ f0 f1 : Field, Try.prog.underlying 24 = some (.struct #[f0, f1]) ∧ Deep.oneCellFields Try.prog #[f0, f1] = true ∧ f0.type = 3 ∧ f1.type = 22 := ⟨_, _, Try.underlying24, by kernel_rfl, rfl, rfl⟩
theorem isNet {H : Type} {enc : TypeId × Value → H} {w : World} {base : Nat} {v : Value} {d : DataW H} {p : List MemPlace} (hval : Value.okWide Try.prog w .any base 24 v) (h : DataW.Trod enc Try.prog w 0 (fun _ => true) true 24 v d p) (hb : Rows.uptoBulk d ≤ 1048576) :
    ∃ (n : Int) (u : Value) (xs : List (Int × Int)), v = .agg #[.int .i64 n, u] ∧ Ro w u xs := by
  obtain ⟨f0, f1, h1, h2, h3, h4⟩ := oneNet
  exact wL h1 h2 (by kernel_rfl) (by kernel_rfl) h3 h4 (by kernel_rfl) (by kernel_rfl) (by kernel_rfl) (by decide) (x0 (t := 68) (e := 3) (by kernel_rfl) (by kernel_rfl) (by kernel_rfl) (by kernel_rfl)) bulk hval h hb
theorem onePlot : ∃ f0 f1 : Field, Try.prog.underlying 28 = some (.struct #[f0, f1]) ∧ Deep.oneCellFields Try.prog #[f0, f1] = true ∧ f0.type = 25 ∧ f1.type = 26 := ⟨_, _, Try.underlying28, by kernel_rfl, rfl, rfl⟩
theorem oneP : ∃ f0 f1 : Field, Try.prog.underlying 51 = some (.struct #[f0, f1]) ∧ Deep.oneCellFields Try.prog #[f0, f1] = true ∧ f0.type = 3 ∧ f1.type = 3 := ⟨_, _, Try.underlying51, by kernel_rfl, rfl, rfl⟩
theorem isPlot {H : Type} {enc : TypeId × Value → H} {w : World} {base : Nat} {v : Value} {d : DataW H} {p : List MemPlace} (hval : Value.okWide Try.prog w .any base 28 v) (h : DataW.Trod enc Try.prog w 0 (fun _ => true) true 28 v d p) (hb : Rows.uptoBulk d ≤ 1048576) :
    ∃ (u0 u1 : Value) (xs : List (Int × Int)) (xss : List (List (Int × Int))), v = .agg #[u0, u1] ∧ Ro w u0 xs ∧ Ro w u1 xss ∧ yr (xs, xss) := by
  obtain ⟨f0, f1, h1, h2, h3, h4⟩ := onePlot
  obtain ⟨g0, g1, k1, k2, k3, k4⟩ := oneP
  exact tR (e := 25) (q := 51) h1 h2 (by kernel_rfl) (by kernel_rfl) h3 h4 (by kernel_rfl) (by kernel_rfl) (by kernel_rfl) (by kernel_rfl) (by kernel_rfl) (zp k1 k2 (by kernel_rfl) k3 k4 (by kernel_rfl)) bulk hval h hb
theorem params : Try.f3.params.toList = [24, 28] := by kernel_rfl
theorem rowedP : rt Try.prog Try.f3.params.toList = true := by kernel_rfl
theorem laid : laidOutB Try.prog = true := by kernel_rfl
theorem boolT : Try.prog.underlying 4 = some .bool := by kernel_rfl
theorem contract (H : Type) (enc : TypeId × Value → H) (W : World) (base : Nat) (args : Array Value) (ds gs : List (DataW H)) (before : List MemPlace)
    (hval : ∀ (j : Nat) t v, Try.f3.params[j]? = some t → args[j]? = some v → Value.okWide Try.prog W .any base t v)
    (hW : DataW.Whole enc Try.prog Try.f3.params.toList Rows.judgePlanarSpec.vars false W args.toList ds gs before) (hk : Rows.uptoSmall H (ds ++ gs) = true) :
    Calls Try.prog 3 args W fun e W' => ∃ v, e = .returned v ∧ Rows.judgePlanarSpec.post enc Try.prog Try.f3 false true false false W args v W' := by
  have hW' := hW
  obtain ⟨p, q, hA0, hV, rfl, hfz, hnd⟩ := hW
  obtain ⟨rfl, rfl⟩ := trodVars_none hV
  have hA : DataW.TrodAll enc Try.prog W 0 (fun _ => true) true Try.f3.params.toList args.toList ds p := hA0
  rw [params] at hA
  have hval2 : ∀ (j : Nat) t v, ([24, 28] : List TypeId)[j]? = some t → args[j]? = some v → Value.okWide Try.prog W .any base t v := fun j t v h => hval j t v (by rw [← params] at h; simpa using h)
  obtain ⟨v0, vs0, d0, ds0, p0, q0, hargs0, rfl, rfl, h0, r0⟩ := trodAll_cons hA
  obtain ⟨v1, vs1, d1, ds1, p1, q1, hargs1, rfl, rfl, h1, r1⟩ := trodAll_cons r0
  subst hargs1
  obtain ⟨rfl, rfl, rfl⟩ := trodAll_nil r1
  obtain rfl : args = #[v0, v1] := by cases args; simp_all
  have hs : Rows.uptoBulkAll _ ≤ 1048576 := of_decide_eq_true hk
  have b0 : Rows.uptoBulk d0 ≤ 1048576 := Nat.le_trans (part_le (by simp)) hs
  have b1 : Rows.uptoBulk d1 ≤ 1048576 := Nat.le_trans (part_le (by simp)) hs
  obtain ⟨n0, u0, xs0, rfl, o0⟩ := isNet (hval2 0 24 v0 rfl rfl) h0 b0
  obtain ⟨u1, w1, xs1, ys1, rfl, o1, y1, m1⟩ := isPlot (hval2 1 28 v1 rfl rfl) h1 b1
  clear hA0 hA
  refine (ls W (n0, xs0) u0 o0 (xs1, ys1) u1 w1 o1 y1 m1).mono fun e W' ⟨he, hB⟩ => ?_
  subst he
  exact ⟨_, rfl, ux laid rowedP rfl rfl boolT hW' rfl hB.kit⟩
set_option maxRecDepth 100000 in
theorem lifted (os : Os) (started : os.Started) (H : Type) (enc : TypeId × Value → H) (F : Stop.Interp) :
    ReturnsInHanded {} Try.checked os 3 .any ((Rows.OpenSpec.upto Rows.judgePlanarSpec).pre6 enc Try.prog Try.f3 Rows.judgePlanarUptoRow.domain false) (((Rows.OpenSpec.upto Rows.judgePlanarSpec).at F).post enc Try.prog Try.f3 false true false false) := by
  refine returnsInHanded_of_cond (C := Try.checked) (s := Rows.OpenSpec.upto Rows.judgePlanarSpec) (k := Rows.uptoSmall) rfl own started (by kernel_rfl) Try.func3
    (OpenSpec.witness (enc := enc) (C := Try.checked) (s := Rows.OpenSpec.upto Rows.judgePlanarSpec) (k := Rows.uptoSmall) rfl false ⟨#[], #[.agg #[.int .i64 0, .slice none 0 0], .agg #[.slice none 0 0, .slice none 0 0]], []⟩ 8 (by kernel_rfl) (by kernel_rfl) (by kernel_rfl)
      (x := ([.agg [.lit (.int .i64 0), .nil], .agg [.nil, .nil]], [], [])) (by kernel_rfl) rfl (by kernel_rfl)) ?_
  intro W base args ds gs before hval hW _ hk _
  exact contract H enc W base args ds gs before hval hW hk
theorem proved : Rows.JudgePlanarUptoSaid :=
  OpenClaim.holds_of_cond 3 Try.f3 rfl rfl rfl rfl rfl rfl rfl ⟨rfl, rfl, rfl, rfl, rfl⟩ rfl rfl rfl rfl rfl (by kernel_rfl) Try.func3 (by kernel_rfl)
    (of_decide_eq_true (by kernel_rfl)) (by unfold Func.isWrapper; first | (rw [if_pos (by decide +kernel)]; kernel_rfl) | (rw [if_neg (by decide +kernel)]; exact ⟨rfl, rfl⟩))
    (fun os started H enc _ F => lifted os started H enc F)
end Go.Proofs.Ytcblhagfadineaa.judgePlanar
#print axioms Go.Proofs.Ytcblhagfadineaa.judgePlanar.proved
