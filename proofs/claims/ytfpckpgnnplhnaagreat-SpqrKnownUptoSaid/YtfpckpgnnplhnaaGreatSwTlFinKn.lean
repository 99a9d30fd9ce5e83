/- SpqrKnown: begun is true, and for each n from 3 to 14 the cycle, the bond, the wheel, the complete net and the ladder come to the parts that are said, and the wheel's level is 3. By an AI agent. -/
import Derived.Test.YtfpckpgnnplhnaaGreatRows
import Derived.Test.YtfpckpgnnplhnaaGreatSwTlSrK
import Derived.Test.YtfpckpgnnplhnaaGreatSwTlP4
import Derived.WalkKit
import Derived.ProofKit
import Derived.OpenShut
import Derived.JoinedCond
set_option maxRecDepth 20000
namespace Go.Proofs.YtfpckpgnnplhnaaGreat.spqrKnown
open Go.ChangeShapes Go.WideShapes Go.ChangeAt Go.RowKit TL
theorem own : ownKnob Tryz.prog.godebug = none := by kernel_rfl
theorem part_le {H : Type} {d : DataW H} {l : List (DataW H)} (h : d ∈ l) : Rows.uptoBulk d ≤ Rows.uptoBulkAll l := by
  induction l with
  | nil => cases h
  | cons x r ih =>
    simp only [Rows.uptoBulkAll]
    cases List.mem_cons.1 h with
    | inl e => subst e; omega
    | inr e => have := ih e; omega
theorem one_le {H : Type} (d : DataW H) : 1 ≤ Rows.uptoBulk d := by
  cases d with
  | lit l => cases l <;> simp [Rows.uptoBulk]
  | nil => simp [Rows.uptoBulk]
  | ptr d => simp [Rows.uptoBulk]
  | slice elems spare => simp [Rows.uptoBulk]
  | agg parts => simp [Rows.uptoBulk]
  | iface t d => simp [Rows.uptoBulk]
  | map entries => simp [Rows.uptoBulk]
  | held h => simp [Rows.uptoBulk]
theorem length_le {H : Type} (l : List (DataW H)) : l.length ≤ Rows.uptoBulkAll l := by
  induction l with
  | nil => simp [Rows.uptoBulkAll]
  | cons x r ih => have := one_le x; simp only [Rows.uptoBulkAll, List.length_cons]; omega
theorem isInt {H : Type} {enc : TypeId × Value → H} {w : World} {base : Nat} {v : Value} {d : DataW H} {p : List MemPlace} (hval : Value.okWide Tryz.prog w .any base 3 v) (_ : DataW.Trod enc Tryz.prog w 0 (fun _ => true) true 3 v d p) (_ : Rows.uptoBulk d ≤ 1048576) :
    ∃ n : Int, v = .int .i64 n := okWide_int (by kernel_rfl : Tryz.prog.underlying 3 = some (.int .i64)) hval
theorem params : Tryz.f3.params.toList = [3] := by kernel_rfl
theorem rowedP : u5 Tryz.prog Tryz.f3.params.toList = true := by kernel_rfl
theorem laid : laidOutB Tryz.prog = true := by kernel_rfl
theorem boolT : Tryz.prog.underlying 4 = some .bool := by kernel_rfl
theorem contract (H : Type) (enc : TypeId × Value → H) (W : World) (base : Nat) (args : Array Value) (ds gs : List (DataW H)) (before : List MemPlace)
    (hval : ∀ (j : Nat) t v, Tryz.f3.params[j]? = some t → args[j]? = some v → Value.okWide Tryz.prog W .any base t v)
    (hW : DataW.Whole enc Tryz.prog Tryz.f3.params.toList Rows.spqrKnownSpec.vars false W args.toList ds gs before) (hk : Rows.uptoSmall H (ds ++ gs) = true) :
    Calls Tryz.prog 3 args W fun e W' => ∃ v, e = .returned v ∧ Rows.spqrKnownSpec.post enc Tryz.prog Tryz.f3 false true false false W args v W' := by
  have hW' := hW
  obtain ⟨p, q, hA0, hV, rfl, hfz, hnd⟩ := hW
  obtain ⟨rfl, rfl⟩ := trodVars_none hV
  have hA : DataW.TrodAll enc Tryz.prog W 0 (fun _ => true) true Tryz.f3.params.toList args.toList ds p := hA0
  rw [params] at hA
  have hval2 : ∀ (j : Nat) t v, ([3] : List TypeId)[j]? = some t → args[j]? = some v → Value.okWide Tryz.prog W .any base t v := fun j t v h => hval j t v (by rw [← params] at h; simpa using h)
  obtain ⟨v0, vs0, d0, ds0, p0, q0, hargs0, rfl, rfl, h0, r0⟩ := trodAll_cons hA
  obtain ⟨rfl, rfl, rfl⟩ := trodAll_nil r0
  obtain rfl : args = #[v0] := by cases args; simp_all
  have hs : Rows.uptoBulkAll _ ≤ 1048576 := of_decide_eq_true hk
  have b0 : Rows.uptoBulk d0 ≤ 1048576 := Nat.le_trans (part_le (by simp)) hs
  obtain ⟨n0, rfl⟩ := isInt (hval2 0 3 v0 rfl rfl) h0 b0
  clear hA0 hA
  refine (pW W n0).mono fun e W' ⟨he, hB⟩ => ?_
  subst he
  exact ⟨_, rfl, zG laid rowedP rfl rfl boolT hW' rfl hB.kit⟩
set_option maxRecDepth 100000 in
theorem lifted (os : Os) (started : os.Started) (H : Type) (enc : TypeId × Value → H) (F : Stop.Interp) :
    ReturnsInHanded {} Tryz.checked os 3 .any ((Rows.OpenSpec.upto Rows.spqrKnownSpec).pre6 enc Tryz.prog Tryz.f3 Rows.spqrKnownUptoRow.domain false) (((Rows.OpenSpec.upto Rows.spqrKnownSpec).at F).post enc Tryz.prog Tryz.f3 false true false false) := by
  refine returnsInHanded_of_cond (C := Tryz.checked) (s := Rows.OpenSpec.upto Rows.spqrKnownSpec) (k := Rows.uptoSmall) rfl own started (by kernel_rfl) Tryz.func3
    (OpenSpec.witness (enc := enc) (C := Tryz.checked) (s := Rows.OpenSpec.upto Rows.spqrKnownSpec) (k := Rows.uptoSmall) rfl false ⟨#[], #[.int .i64 0], []⟩ 8 (by kernel_rfl) (by kernel_rfl) (by kernel_rfl)
      (x := ([.lit (.int .i64 0)], [], [])) (by kernel_rfl) rfl (by kernel_rfl)) ?_
  intro W base args ds gs before hval hW _ hk _
  exact contract H enc W base args ds gs before hval hW hk
theorem proved : Rows.SpqrKnownUptoSaid :=
  OpenClaim.holds_of_cond 3 Tryz.f3 rfl rfl rfl rfl rfl rfl rfl ⟨rfl, rfl, rfl, rfl, rfl⟩ rfl rfl rfl rfl rfl (by kernel_rfl) Tryz.func3 (by kernel_rfl)
    (of_decide_eq_true (by kernel_rfl)) (by unfold Func.isWrapper; first | (rw [if_pos (by decide +kernel)]; kernel_rfl) | (rw [if_neg (by decide +kernel)]; exact ⟨rfl, rfl⟩))
    (fun os started H enc _ F => lifted os started H enc F)
end Go.Proofs.YtfpckpgnnplhnaaGreat.spqrKnown
#print axioms Go.Proofs.YtfpckpgnnplhnaaGreat.spqrKnown.proved
