/- Levels, separating pairs, classes and split pairs are the document's, by taking nodes out. By an AI agent. -/
import Derived.Test.YtgneelmmomohdaaRows
import Derived.Test.YtgneelmmomohdaaSaTlSqS
import Derived.Test.YtgneelmmomohdaaSaTlP5
import Derived.WalkKit
import Derived.ProofKit
import Derived.OpenShut
import Derived.JoinedCond
set_option maxRecDepth 20000
namespace Go.Proofs.Ytgneelmmomohdaa.sepaAll
open Go.ChangeShapes Go.WideShapes Go.ChangeAt Go.RowKit TL
theorem own : ownKnob Try.prog.godebug = none := by kernel_rfl
theorem part_le {H : Type} {d : DataW H} {l : List (DataW H)} (h : d ∈ l) : Rows.uptoBulk d ≤ Rows.uptoBulkAll l := by
  induction l with
  | nil => cases h
  | cons x r ih =>
    simp only [Rows.uptoBulkAll]
    cases List.mem_cons.1 h with
    | inl e => subst e; omega
    | inr e => have := ih e; omega
theorem one_le {H : Type} (d : DataW H) : 1 ≤ Rows.uptoBulk d := by
  cases d with
  | lit l => cases l <;> simp [Rows.uptoBulk]
  | nil => simp [Rows.uptoBulk]
  | ptr d => simp [Rows.uptoBulk]
  | slice elems spare => simp [Rows.uptoBulk]
  | agg parts => simp [Rows.uptoBulk]
  | iface t d => simp [Rows.uptoBulk]
  | map entries => simp [Rows.uptoBulk]
  | held h => simp [Rows.uptoBulk]
theorem length_le {H : Type} (l : List (DataW H)) : l.length ≤ Rows.uptoBulkAll l := by
  induction l with
  | nil => simp [Rows.uptoBulkAll]
  | cons x r ih => have := one_le x; simp only [Rows.uptoBulkAll, List.length_cons]; omega
theorem bulk {H : Type} : sU (Rows.uptoBulk (H := H)) where
  slice l s := by have := length_le l; simp only [Rows.uptoBulk]; omega
  elem l s d h := by have := part_le h; simp only [Rows.uptoBulk]; omega
  part l d h := by have := part_le h; simp only [Rows.uptoBulk]; omega
theorem isInt {H : Type} {enc : TypeId × Value → H} {w : World} {base : Nat} {v : Value} {d : DataW H} {p : List MemPlace} (hval : Value.okWide Try.prog w .any base 3 v) (_ : DataW.Trod enc Try.prog w 0 (fun _ => true) true 3 v d p) (_ : Rows.uptoBulk d ≤ 1048576) :
    ∃ n : Int, v = .int .i64 n := okWide_int (by kernel_rfl : Try.prog.underlying 3 = some (.int .i64)) hval
theorem oneNet : ∃ f0 f1 : Field, Try.prog.underlying 24 = some (.struct #[f0, f1]) ∧ Deep.oneCellFields Try.prog #[f0, f1] = true ∧ f0.type = 3 ∧ f1.type = 22 := ⟨_, _, Try.underlying24, by kernel_rfl, rfl, rfl⟩
theorem isNet {H : Type} {enc : TypeId × Value → H} {w : World} {base : Nat} {v : Value} {d : DataW H} {p : List MemPlace} (hval : Value.okWide Try.prog w .any base 24 v) (h : DataW.Trod enc Try.prog w 0 (fun _ => true) true 24 v d p) (hb : Rows.uptoBulk d ≤ 1048576) :
    ∃ (n : Int) (u : Value) (xs : List (Int × Int)), v = .agg #[.int .i64 n, u] ∧ Ro w u xs ∧ (xs.length : Int) ≤ 1048576 := by
  obtain ⟨f0, f1, h1, h2, h3, h4⟩ := oneNet
  exact y8 h1 h2 (by kernel_rfl) (by kernel_rfl) h3 h4 (by kernel_rfl) (by kernel_rfl) (by kernel_rfl) (by decide) (AF (t := 52) (e := 3) (by kernel_rfl) (by kernel_rfl) (by kernel_rfl) (by kernel_rfl)) bulk hval h hb
theorem params : Try.f3.params.toList = [24, 3, 3] := by kernel_rfl
theorem rowedP : uC Try.prog Try.f3.params.toList = true := by kernel_rfl
theorem laid : laidOutB Try.prog = true := by kernel_rfl
theorem boolT : Try.prog.underlying 4 = some .bool := by kernel_rfl
theorem contract (H : Type) (enc : TypeId × Value → H) (W : World) (base : Nat) (args : Array Value) (ds gs : List (DataW H)) (before : List MemPlace)
    (hval : ∀ (j : Nat) t v, Try.f3.params[j]? = some t → args[j]? = some v → Value.okWide Try.prog W .any base t v)
    (hW : DataW.Whole enc Try.prog Try.f3.params.toList Rows.sepaAllSpec.vars false W args.toList ds gs before) (hk : Rows.uptoSmall H (ds ++ gs) = true) :
    Calls Try.prog 3 args W fun e W' => ∃ v, e = .returned v ∧ Rows.sepaAllSpec.post enc Try.prog Try.f3 false true false false W args v W' := by
  have hW' := hW
  obtain ⟨p, q, hA0, hV, rfl, hfz, hnd⟩ := hW
  obtain ⟨rfl, rfl⟩ := trodVars_none hV
  have hA : DataW.TrodAll enc Try.prog W 0 (fun _ => true) true Try.f3.params.toList args.toList ds p := hA0
  rw [params] at hA
  have hval2 : ∀ (j : Nat) t v, ([24, 3, 3] : List TypeId)[j]? = some t → args[j]? = some v → Value.okWide Try.prog W .any base t v := fun j t v h => hval j t v (by rw [← params] at h; simpa using h)
  obtain ⟨v0, vs0, d0, ds0, p0, q0, hargs0, rfl, rfl, h0, r0⟩ := trodAll_cons hA
  obtain ⟨v1, vs1, d1, ds1, p1, q1, hargs1, rfl, rfl, h1, r1⟩ := trodAll_cons r0
  subst hargs1
  obtain ⟨v2, vs2, d2, ds2, p2, q2, hargs2, rfl, rfl, h2, r2⟩ := trodAll_cons r1
  subst hargs2
  obtain ⟨rfl, rfl, rfl⟩ := trodAll_nil r2
  obtain rfl : args = #[v0, v1, v2] := by cases args; simp_all
  have hs : Rows.uptoBulkAll _ ≤ 1048576 := of_decide_eq_true hk
  have b0 : Rows.uptoBulk d0 ≤ 1048576 := Nat.le_trans (part_le (by simp)) hs
  have b1 : Rows.uptoBulk d1 ≤ 1048576 := Nat.le_trans (part_le (by simp)) hs
  have b2 : Rows.uptoBulk d2 ≤ 1048576 := Nat.le_trans (part_le (by simp)) hs
  obtain ⟨n0, u0, xs0, rfl, o0, m0⟩ := isNet (hval2 0 24 v0 rfl rfl) h0 b0
  obtain ⟨n1, rfl⟩ := isInt (hval2 1 3 v1 rfl rfl) h1 b1
  obtain ⟨n2, rfl⟩ := isInt (hval2 2 3 v2 rfl rfl) h2 b2
  clear hA0 hA
  refine (tp W (n0, xs0) u0 o0 n1 n2 m0).mono fun e W' ⟨he, hB⟩ => ?_
  subst he
  exact ⟨_, rfl, yu laid rowedP rfl rfl boolT hW' rfl hB.kit⟩
set_option maxRecDepth 100000 in
theorem lifted (os : Os) (started : os.Started) (H : Type) (enc : TypeId × Value → H) (F : Stop.Interp) :
    ReturnsInHanded {} Try.checked os 3 .any ((Rows.OpenSpec.upto Rows.sepaAllSpec).pre6 enc Try.prog Try.f3 Rows.sepaAllUptoRow.domain false) (((Rows.OpenSpec.upto Rows.sepaAllSpec).at F).post enc Try.prog Try.f3 false true false false) := by
  refine returnsInHanded_of_cond (C := Try.checked) (s := Rows.OpenSpec.upto Rows.sepaAllSpec) (k := Rows.uptoSmall) rfl own started (by kernel_rfl) Try.func3
    (OpenSpec.witness (enc := enc) (C := Try.checked) (s := Rows.OpenSpec.upto Rows.sepaAllSpec) (k := Rows.uptoSmall) rfl false ⟨#[], #[.agg #[.int .i64 0, .slice none 0 0], .int .i64 0, .int .i64 0], []⟩ 8 (by kernel_rfl) (by kernel_rfl) (by kernel_rfl)
      (x := ([.agg [.lit (.int .i64 0), .nil], .lit (.int .i64 0), .lit (.int .i64 0)], [], [])) (by kernel_rfl) rfl (by kernel_rfl)) ?_
  intro W base args ds gs before hval hW _ hk _
  exact contract H enc W base args ds gs before hval hW hk
theorem proved : Rows.SepaAllUptoSaid :=
  OpenClaim.holds_of_cond 3 Try.f3 rfl rfl rfl rfl rfl rfl rfl ⟨rfl, rfl, rfl, rfl, rfl⟩ rfl rfl rfl rfl rfl (by kernel_rfl) Try.func3 (by kernel_rfl)
    (of_decide_eq_true (by kernel_rfl)) (by unfold Func.isWrapper; first | (rw [if_pos (by decide +kernel)]; kernel_rfl) | (rw [if_neg (by decide +kernel)]; exact ⟨rfl, rfl⟩))
    (fun os started H enc _ F => lifted os started H enc F)
end Go.Proofs.Ytgneelmmomohdaa.sepaAll
#print axioms Go.Proofs.Ytgneelmmomohdaa.sepaAll.proved
