/- SpqrParts: begun is true, and a part is told as a net as the document tells it, for any list of parts and any number. By an AI agent. -/
import Derived.Test.YtfpckpgnnplhnaaGreatRows
import Derived.Test.YtfpckpgnnplhnaaGreatSkTlSrP
import Derived.Test.YtfpckpgnnplhnaaGreatSkTlP4
import Derived.WalkKit
import Derived.ProofKit
import Derived.OpenShut
import Derived.JoinedCond
set_option maxRecDepth 20000
namespace Go.Proofs.YtfpckpgnnplhnaaGreat.spqrParts
open Go.ChangeShapes Go.WideShapes Go.ChangeAt Go.RowKit TL
theorem own : ownKnob Tryz.prog.godebug = none := by kernel_rfl
theorem part_le {H : Type} {d : DataW H} {l : List (DataW H)} (h : d ∈ l) : Rows.uptoBulk d ≤ Rows.uptoBulkAll l := by
  induction l with
  | nil => cases h
  | cons x r ih =>
    simp only [Rows.uptoBulkAll]
    cases List.mem_cons.1 h with
    | inl e => subst e; omega
    | inr e => have := ih e; omega
theorem one_le {H : Type} (d : DataW H) : 1 ≤ Rows.uptoBulk d := by
  cases d with
  | lit l => cases l <;> simp [Rows.uptoBulk]
  | nil => simp [Rows.uptoBulk]
  | ptr d => simp [Rows.uptoBulk]
  | slice elems spare => simp [Rows.uptoBulk]
  | agg parts => simp [Rows.uptoBulk]
  | iface t d => simp [Rows.uptoBulk]
  | map entries => simp [Rows.uptoBulk]
  | held h => simp [Rows.uptoBulk]
theorem length_le {H : Type} (l : List (DataW H)) : l.length ≤ Rows.uptoBulkAll l := by
  induction l with
  | nil => simp [Rows.uptoBulkAll]
  | cons x r ih => have := one_le x; simp only [Rows.uptoBulkAll, List.length_cons]; omega
theorem bulk {H : Type} : kr (Rows.uptoBulk (H := H)) where
  slice l s := by have := length_le l; simp only [Rows.uptoBulk]; omega
  elem l s d h := by have := part_le h; simp only [Rows.uptoBulk]; omega
  part l d h := by have := part_le h; simp only [Rows.uptoBulk]; omega
theorem isInt {H : Type} {enc : TypeId × Value → H} {w : World} {base : Nat} {v : Value} {d : DataW H} {p : List MemPlace} (hval : Value.okWide Tryz.prog w .any base 3 v) (_ : DataW.Trod enc Tryz.prog w 0 (fun _ => true) true 3 v d p) (_ : Rows.uptoBulk d ≤ 1048576) :
    ∃ n : Int, v = .int .i64 n := okWide_int (by kernel_rfl : Tryz.prog.underlying 3 = some (.int .i64)) hval
theorem onePce : ∃ f0 f1 f2 : Field, Tryz.prog.underlying 41 = some (.struct #[f0, f1, f2]) ∧ Deep.oneCellFields Tryz.prog #[f0, f1, f2] = true ∧ f0.type = 3 ∧ f1.type = 38 ∧ f2.type = 39 := ⟨_, _, _, Tryz.underlying41, by kernel_rfl, rfl, rfl, rfl⟩
theorem oneBond : ∃ f0 f1 f2 f3 : Field, Tryz.prog.underlying 57 = some (.struct #[f0, f1, f2, f3]) ∧ Deep.oneCellFields Tryz.prog #[f0, f1, f2, f3] = true ∧ f0.type = 3 ∧ f1.type = 3 ∧ f2.type = 3 ∧ f3.type = 3 := ⟨_, _, _, _, Tryz.underlying57, by kernel_rfl, rfl, rfl, rfl, rfl⟩
theorem isPces {H : Type} {enc : TypeId × Value → H} {w : World} {base : Nat} {v : Value} {d : DataW H} {p : List MemPlace} (hval : Value.okWide Tryz.prog w .any base 34 v) (h : DataW.Trod enc Tryz.prog w 0 (fun _ => true) true 34 v d p) (hb : Rows.uptoBulk d ≤ 1048576) :
    ∃ (xs : List (Int × List Int × List (Int × Int × Int × Int))), Ro w v xs ∧ (xs.length : Int) ≤ 1048576 ∧ ∀ y ∈ xs, Bb y := by
  obtain ⟨f0, f1, f2, h1, h2, h3, h4, h5⟩ := onePce
  obtain ⟨g0, g1, g2, g3, k1, k2, k3, k4, k5, k6⟩ := oneBond
  exact xJ (e := 41) (by kernel_rfl) (by kernel_rfl) (by decide) (yC h1 h2 (by kernel_rfl) h3 h4 h5 (by kernel_rfl) (e1 := 3) (by kernel_rfl) (by kernel_rfl) (by kernel_rfl) (e2 := 57) (by kernel_rfl) (by kernel_rfl) (yV (e := 3) k1 k2 (by kernel_rfl) k3 k4 k5 k6 (by kernel_rfl))) bulk hval h hb
theorem params : Tryz.f4.params.toList = [34, 3] := by kernel_rfl
theorem rowedP : rH Tryz.prog Tryz.f4.params.toList = true := by kernel_rfl
theorem laid : laidOutB Tryz.prog = true := by kernel_rfl
theorem boolT : Tryz.prog.underlying 4 = some .bool := by kernel_rfl
theorem contract (H : Type) (enc : TypeId × Value → H) (W : World) (base : Nat) (args : Array Value) (ds gs : List (DataW H)) (before : List MemPlace)
    (hval : ∀ (j : Nat) t v, Tryz.f4.params[j]? = some t → args[j]? = some v → Value.okWide Tryz.prog W .any base t v)
    (hW : DataW.Whole enc Tryz.prog Tryz.f4.params.toList Rows.spqrPartsSpec.vars false W args.toList ds gs before) (hk : Rows.uptoSmall H (ds ++ gs) = true) :
    Calls Tryz.prog 4 args W fun e W' => ∃ v, e = .returned v ∧ Rows.spqrPartsSpec.post enc Tryz.prog Tryz.f4 false true false false W args v W' := by
  have hW' := hW
  obtain ⟨p, q, hA0, hV, rfl, hfz, hnd⟩ := hW
  obtain ⟨rfl, rfl⟩ := trodVars_none hV
  have hA : DataW.TrodAll enc Tryz.prog W 0 (fun _ => true) true Tryz.f4.params.toList args.toList ds p := hA0
  rw [params] at hA
  have hval2 : ∀ (j : Nat) t v, ([34, 3] : List TypeId)[j]? = some t → args[j]? = some v → Value.okWide Tryz.prog W .any base t v := fun j t v h => hval j t v (by rw [← params] at h; simpa using h)
  obtain ⟨v0, vs0, d0, ds0, p0, q0, hargs0, rfl, rfl, h0, r0⟩ := trodAll_cons hA
  obtain ⟨v1, vs1, d1, ds1, p1, q1, hargs1, rfl, rfl, h1, r1⟩ := trodAll_cons r0
  subst hargs1
  obtain ⟨rfl, rfl, rfl⟩ := trodAll_nil r1
  obtain rfl : args = #[v0, v1] := by cases args; simp_all
  have hs : Rows.uptoBulkAll _ ≤ 1048576 := of_decide_eq_true hk
  have b0 : Rows.uptoBulk d0 ≤ 1048576 := Nat.le_trans (part_le (by simp)) hs
  have b1 : Rows.uptoBulk d1 ≤ 1048576 := Nat.le_trans (part_le (by simp)) hs
  obtain ⟨xs0, o0, m0, k0⟩ := isPces (hval2 0 34 v0 rfl rfl) h0 b0
  obtain ⟨n1, rfl⟩ := isInt (hval2 1 3 v1 rfl rfl) h1 b1
  clear hA0 hA
  refine (ob W xs0 v0 o0 n1 m0 k0).mono fun e W' ⟨he, hB⟩ => ?_
  subst he
  exact ⟨_, rfl, uo laid rowedP rfl rfl boolT hW' rfl hB.kit⟩
set_option maxRecDepth 100000 in
theorem lifted (os : Os) (started : os.Started) (H : Type) (enc : TypeId × Value → H) (F : Stop.Interp) :
    ReturnsInHanded {} Tryz.checked os 4 .any ((Rows.OpenSpec.upto Rows.spqrPartsSpec).pre6 enc Tryz.prog Tryz.f4 Rows.spqrPartsUptoRow.domain false) (((Rows.OpenSpec.upto Rows.spqrPartsSpec).at F).post enc Tryz.prog Tryz.f4 false true false false) := by
  refine returnsInHanded_of_cond (C := Tryz.checked) (s := Rows.OpenSpec.upto Rows.spqrPartsSpec) (k := Rows.uptoSmall) rfl own started (by kernel_rfl) Tryz.func4
    (OpenSpec.witness (enc := enc) (C := Tryz.checked) (s := Rows.OpenSpec.upto Rows.spqrPartsSpec) (k := Rows.uptoSmall) rfl false ⟨#[], #[.slice none 0 0, .int .i64 0], []⟩ 8 (by kernel_rfl) (by kernel_rfl) (by kernel_rfl)
      (x := ([.nil, .lit (.int .i64 0)], [], [])) (by kernel_rfl) rfl (by kernel_rfl)) ?_
  intro W base args ds gs before hval hW _ hk _
  exact contract H enc W base args ds gs before hval hW hk
theorem proved : Rows.SpqrPartsUptoSaid :=
  OpenClaim.holds_of_cond 4 Tryz.f4 rfl rfl rfl rfl rfl rfl rfl ⟨rfl, rfl, rfl, rfl, rfl⟩ rfl rfl rfl rfl rfl (by kernel_rfl) Tryz.func4 (by kernel_rfl)
    (of_decide_eq_true (by kernel_rfl)) (by unfold Func.isWrapper; first | (rw [if_pos (by decide +kernel)]; kernel_rfl) | (rw [if_neg (by decide +kernel)]; exact ⟨rfl, rfl⟩))
    (fun os started H enc _ F => lifted os started H enc F)
end Go.Proofs.YtfpckpgnnplhnaaGreat.spqrParts
#print axioms Go.Proofs.YtfpckpgnnplhnaaGreat.spqrParts.proved
