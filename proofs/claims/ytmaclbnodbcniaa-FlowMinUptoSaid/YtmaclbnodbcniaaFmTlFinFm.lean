/- A flow of the least cost is found and proved so, or that there is none is shown by nodes whose needs are too great. By an AI agent. -/
import Derived.Test.YtmaclbnodbcniaaRows
import Derived.Test.YtmaclbnodbcniaaFmTlFwN
import Derived.Test.YtmaclbnodbcniaaFmTlP3
import Derived.WalkKit
import Derived.ProofKit
import Derived.OpenShut
import Derived.JoinedCond
set_option maxRecDepth 20000
namespace Go.Proofs.Ytmaclbnodbcniaa.flowMin
open Go.ChangeShapes Go.WideShapes Go.ChangeAt Go.RowKit TL
theorem own : ownKnob Try.prog.godebug = none := by kernel_rfl
theorem part_le {H : Type} {d : DataW H} {l : List (DataW H)} (h : d ∈ l) : Rows.uptoBulk d ≤ Rows.uptoBulkAll l := by
  induction l with
  | nil => cases h
  | cons x r ih =>
    simp only [Rows.uptoBulkAll]
    cases List.mem_cons.1 h with
    | inl e => subst e; omega
    | inr e => have := ih e; omega
theorem one_le {H : Type} (d : DataW H) : 1 ≤ Rows.uptoBulk d := by
  cases d with
  | lit l => cases l <;> simp [Rows.uptoBulk]
  | nil => simp [Rows.uptoBulk]
  | ptr d => simp [Rows.uptoBulk]
  | slice elems spare => simp [Rows.uptoBulk]
  | agg parts => simp [Rows.uptoBulk]
  | iface t d => simp [Rows.uptoBulk]
  | map entries => simp [Rows.uptoBulk]
  | held h => simp [Rows.uptoBulk]
theorem length_le {H : Type} (l : List (DataW H)) : l.length ≤ Rows.uptoBulkAll l := by
  induction l with
  | nil => simp [Rows.uptoBulkAll]
  | cons x r ih => have := one_le x; simp only [Rows.uptoBulkAll, List.length_cons]; omega
theorem bulk {H : Type} : mx (Rows.uptoBulk (H := H)) where
  slice l s := by have := length_le l; simp only [Rows.uptoBulk]; omega
  elem l s d h := by have := part_le h; simp only [Rows.uptoBulk]; omega
  part l d h := by have := part_le h; simp only [Rows.uptoBulk]; omega
theorem oneTask : ∃ f0 f1 f2 : Field, Try.prog.underlying 25 = some (.struct #[f0, f1, f2]) ∧ Deep.oneCellFields Try.prog #[f0, f1, f2] = true ∧ f0.type = 3 ∧ f1.type = 22 ∧ f2.type = 23 := ⟨_, _, _, Try.underlying25, by kernel_rfl, rfl, rfl, rfl⟩
theorem oneArc : ∃ f0 f1 f2 f3 : Field, Try.prog.underlying 47 = some (.struct #[f0, f1, f2, f3]) ∧ Deep.oneCellFields Try.prog #[f0, f1, f2, f3] = true ∧ f0.type = 3 ∧ f1.type = 3 ∧ f2.type = 3 ∧ f3.type = 3 := ⟨_, _, _, _, Try.underlying47, by kernel_rfl, rfl, rfl, rfl, rfl⟩
theorem isTask {H : Type} {enc : TypeId × Value → H} {w : World} {base : Nat} {v : Value} {d : DataW H} {p : List MemPlace} (hval : Value.okWide Try.prog w .any base 25 v) (h : DataW.Trod enc Try.prog w 0 (fun _ => true) true 25 v d p) (hb : Rows.uptoBulk d ≤ 1048576) :
    ∃ (n : Int) (u u2 : Value) (xs : List (Int × Int × Int × Int)) (ys : List Int), v = .agg #[.int .i64 n, u, u2] ∧ Ro w u xs ∧ Ro w u2 ys := by
  obtain ⟨f0, f1, f2, h1, h2, h3, h4, h5⟩ := oneTask
  obtain ⟨g0, g1, g2, g3, k1, k2, k3, k4, k5, k6⟩ := oneArc
  exact om (e := 47) (q := 3) h1 h2 (by kernel_rfl) (by kernel_rfl) h3 h4 h5 (by kernel_rfl) (by kernel_rfl) (by kernel_rfl) (by decide) (qi (e := 3) k1 k2 (by kernel_rfl) k3 k4 k5 k6 (by kernel_rfl)) (by kernel_rfl) (by kernel_rfl) (by kernel_rfl) bulk hval h hb
theorem params : Try.f3.params.toList = [25] := by kernel_rfl
theorem rowedP : n9 Try.prog Try.f3.params.toList = true := by kernel_rfl
theorem laid : laidOutB Try.prog = true := by kernel_rfl
theorem boolT : Try.prog.underlying 4 = some .bool := by kernel_rfl
theorem contract (H : Type) (enc : TypeId × Value → H) (W : World) (base : Nat) (args : Array Value) (ds gs : List (DataW H)) (before : List MemPlace)
    (hval : ∀ (j : Nat) t v, Try.f3.params[j]? = some t → args[j]? = some v → Value.okWide Try.prog W .any base t v)
    (hW : DataW.Whole enc Try.prog Try.f3.params.toList Rows.flowMinSpec.vars false W args.toList ds gs before) (hk : Rows.uptoSmall H (ds ++ gs) = true) :
    Calls Try.prog 3 args W fun e W' => ∃ v, e = .returned v ∧ Rows.flowMinSpec.post enc Try.prog Try.f3 false true false false W args v W' := by
  have hW' := hW
  obtain ⟨p, q, hA0, hV, rfl, hfz, hnd⟩ := hW
  obtain ⟨rfl, rfl⟩ := trodVars_none hV
  have hA : DataW.TrodAll enc Try.prog W 0 (fun _ => true) true Try.f3.params.toList args.toList ds p := hA0
  rw [params] at hA
  have hval2 : ∀ (j : Nat) t v, ([25] : List TypeId)[j]? = some t → args[j]? = some v → Value.okWide Try.prog W .any base t v := fun j t v h => hval j t v (by rw [← params] at h; simpa using h)
  obtain ⟨v0, vs0, d0, ds0, p0, q0, hargs0, rfl, rfl, h0, r0⟩ := trodAll_cons hA
  obtain ⟨rfl, rfl, rfl⟩ := trodAll_nil r0
  obtain rfl : args = #[v0] := by cases args; simp_all
  have hs : Rows.uptoBulkAll _ ≤ 1048576 := of_decide_eq_true hk
  have b0 : Rows.uptoBulk d0 ≤ 1048576 := Nat.le_trans (part_le (by simp)) hs
  obtain ⟨n0, u0, w0, xs0, ys0, rfl, o0, y0⟩ := isTask (hval2 0 25 v0 rfl rfl) h0 b0
  clear hA0 hA
  refine (m8 W (n0, xs0, ys0) u0 w0 o0 y0).mono fun e W' ⟨he, hB⟩ => ?_
  subst he
  exact ⟨_, rfl, oW laid rowedP rfl rfl boolT hW' rfl hB.kit⟩
set_option maxRecDepth 100000 in
theorem lifted (os : Os) (started : os.Started) (H : Type) (enc : TypeId × Value → H) (F : Stop.Interp) :
    ReturnsInHanded {} Try.checked os 3 .any ((Rows.OpenSpec.upto Rows.flowMinSpec).pre6 enc Try.prog Try.f3 Rows.flowMinUptoRow.domain false) (((Rows.OpenSpec.upto Rows.flowMinSpec).at F).post enc Try.prog Try.f3 false true false false) := by
  refine returnsInHanded_of_cond (C := Try.checked) (s := Rows.OpenSpec.upto Rows.flowMinSpec) (k := Rows.uptoSmall) rfl own started (by kernel_rfl) Try.func3
    (OpenSpec.witness (enc := enc) (C := Try.checked) (s := Rows.OpenSpec.upto Rows.flowMinSpec) (k := Rows.uptoSmall) rfl false ⟨#[], #[.agg #[.int .i64 0, .slice none 0 0, .slice none 0 0]], []⟩ 8 (by kernel_rfl) (by kernel_rfl) (by kernel_rfl)
      (x := ([.agg [.lit (.int .i64 0), .nil, .nil]], [], [])) (by kernel_rfl) rfl (by kernel_rfl)) ?_
  intro W base args ds gs before hval hW _ hk _
  exact contract H enc W base args ds gs before hval hW hk
theorem proved : Rows.FlowMinUptoSaid :=
  OpenClaim.holds_of_cond 3 Try.f3 rfl rfl rfl rfl rfl rfl rfl ⟨rfl, rfl, rfl, rfl, rfl⟩ rfl rfl rfl rfl rfl (by kernel_rfl) Try.func3 (by kernel_rfl)
    (of_decide_eq_true (by kernel_rfl)) (by unfold Func.isWrapper; first | (rw [if_pos (by decide +kernel)]; kernel_rfl) | (rw [if_neg (by decide +kernel)]; exact ⟨rfl, rfl⟩))
    (fun os started H enc _ F => lifted os started H enc F)
end Go.Proofs.Ytmaclbnodbcniaa.flowMin
#print axioms Go.Proofs.Ytmaclbnodbcniaa.flowMin.proved
