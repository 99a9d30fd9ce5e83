/-
  No cell of these rows narrows 'for every input' (looked for: loops, veiled, ifaces, maps, wideKeys, modest, calm, conditions, laid).
  DERIVED. THE GIVEN ROWS OF THIS SEAT. 3 by the template 'for every input the law returns true; each argument reads behind the call as it read before'; 0 by the template 'total and deterministic' (their statements: YtgneelmmomohdaaTotals.lean).
  GIVEN WITH THE SEED: the statements are not yours to turn. If you find one false, say at which input.
  Laid BY PROGRAM, IN A SANDBOX (cutbox-rows.mjs): the forced cells as the released guide's own fill.sh prints them over the translation 082a2fb4fef27ef8… (all of the seat's roots in one cut). By AI agents, Wed Nov 11 2026. No macro, syntax, notation, axiom, sorry.
-/
import Derived.Test.YtgneelmmomohdaaChecked
import GoSem.Claim
import GoSem.ClaimJoined
import GoSem.ClaimMapViews
import Derived.JoinedTies
import Derived.KernelRfl
namespace Go.Proofs.Ytgneelmmomohdaa
/- THE CELL 'sum', in the pinned program and in every row, IS THE sha256 OF THE DUMP (.gsa) THAT YtgneelmmomohdaaProg.lean LOADS. Nothing in Lean hashes anything: it is a label: what it is worth is what the hold of that sum in a sandbox is worth. -/
noncomputable def Try.pinned : Pinned := { name := "ytgneelmmomohdaa", sum := "082a2fb4fef27ef8686e6b870e5d3f7ef2004232b11c9b26280db4f44fa97305", checked := Try.checked }
namespace Rows
def none {H : Type} : Left H := { results := [], args := [] }

/-- 'tracerylaw15.SepaAll': WHATEVER THE INPUT: true; the input reads as it did. -/
def sepaAllSpec : ChangeSpec := { name := "sepaAll", fn := fun _ => fun
  | [d1, d2, d3] => { results := [.lit (.bool true)], args := [d1, d2, d3] }
  | _ => none }
def sepaAllRow : OpenClaim := { program := "ytgneelmmomohdaa", sum := "082a2fb4fef27ef8686e6b870e5d3f7ef2004232b11c9b26280db4f44fa97305", func := "tracery/tracerylaw15.SepaAll", spec := "sepaAll", unfollowed := true, recurses := true, plainKeys := false, apart := false }
def SepaAllSaid : Prop := sepaAllRow.holds Try.pinned (OpenSpec.ofChange sepaAllSpec)

/-- ITS FALSE NEIGHBOUR: 'it returns false'. Refute it at one input. -/
def sepaAllWrong : ChangeSpec := { name := "sepaAll", fn := fun _ => fun
  | [d1, d2, d3] => { results := [.lit (.bool false)], args := [d1, d2, d3] }
  | _ => none }
def SepaAllWrongFalsely : Prop := sepaAllRow.holds Try.pinned (OpenSpec.ofChange sepaAllWrong)

/-- 'tracerylaw15.SepaPairs': WHATEVER THE INPUT: true; the input reads as it did. -/
def sepaPairsSpec : ChangeSpec := { name := "sepaPairs", fn := fun _ => fun
  | [d1, d2, d3] => { results := [.lit (.bool true)], args := [d1, d2, d3] }
  | _ => none }
def sepaPairsRow : OpenClaim := { program := "ytgneelmmomohdaa", sum := "082a2fb4fef27ef8686e6b870e5d3f7ef2004232b11c9b26280db4f44fa97305", func := "tracery/tracerylaw15.SepaPairs", spec := "sepaPairs", unfollowed := true, recurses := true, plainKeys := false, apart := false }
def SepaPairsSaid : Prop := sepaPairsRow.holds Try.pinned (OpenSpec.ofChange sepaPairsSpec)

/-- ITS FALSE NEIGHBOUR: 'it returns false'. Refute it at one input. -/
def sepaPairsWrong : ChangeSpec := { name := "sepaPairs", fn := fun _ => fun
  | [d1, d2, d3] => { results := [.lit (.bool false)], args := [d1, d2, d3] }
  | _ => none }
def SepaPairsWrongFalsely : Prop := sepaPairsRow.holds Try.pinned (OpenSpec.ofChange sepaPairsWrong)

/-- 'tracerylaw15.SepaMore': WHATEVER THE INPUT: true; the input reads as it did. -/
def sepaMoreSpec : ChangeSpec := { name := "sepaMore", fn := fun _ => fun
  | [d1, d2, d3] => { results := [.lit (.bool true)], args := [d1, d2, d3] }
  | _ => none }
def sepaMoreRow : OpenClaim := { program := "ytgneelmmomohdaa", sum := "082a2fb4fef27ef8686e6b870e5d3f7ef2004232b11c9b26280db4f44fa97305", func := "tracery/tracerylaw15.SepaMore", spec := "sepaMore", unfollowed := true, recurses := true, plainKeys := false, apart := false }
def SepaMoreSaid : Prop := sepaMoreRow.holds Try.pinned (OpenSpec.ofChange sepaMoreSpec)

/-- ITS FALSE NEIGHBOUR: 'it returns false'. Refute it at one input. -/
def sepaMoreWrong : ChangeSpec := { name := "sepaMore", fn := fun _ => fun
  | [d1, d2, d3] => { results := [.lit (.bool false)], args := [d1, d2, d3] }
  | _ => none }
def SepaMoreWrongFalsely : Prop := sepaMoreRow.holds Try.pinned (OpenSpec.ofChange sepaMoreWrong)

/- THE SECOND FORM. 'bulk': how many values and letters a reading holds, each counted each time it is reached (what is shared counts as often as it is met; a slice's spare places count too). A statement '..UptoSaid' is the law's where the arguments, and the package variables that the reading takes, are together of bulk at most 1048576: NARROWER than '..Said'. Prove '..Said' where nothing that the law and all that it calls make is longer than what came in: it says more and counts as full. Else prove '..UptoSaid'. A law counts once. -/
mutual
def uptoBulk {H : Type} : DataW H → Nat
  | .lit (.string bytes) => bytes.length + 1
  | .lit _ => 1
  | .nil => 1
  | .ptr d => uptoBulk d + 1
  | .slice elems spare => uptoBulkAll elems + uptoBulkAll spare + 1
  | .agg parts => uptoBulkAll parts + 1
  | .iface _ d => uptoBulk d + 1
  | .map entries => uptoBulkEntries entries + 1
  | .held _ => 1
def uptoBulkAll {H : Type} : List (DataW H) → Nat
  | [] => 0
  | d :: r => uptoBulk d + uptoBulkAll r
def uptoBulkEntries {H : Type} : List (Lit × DataW H) → Nat
  | [] => 0
  | x :: r => uptoBulkEntry x + uptoBulkEntries r
def uptoBulkEntry {H : Type} : Lit × DataW H → Nat
  | (.string bytes, d) => bytes.length + uptoBulk d + 1
  | (_, d) => uptoBulk d + 1
 end
def uptoSmall : (H : Type) → List (DataW H) → Bool := fun _ ds => decide (uptoBulkAll ds ≤ 1048576)
def OpenSpec.upto (s : _root_.Go.ChangeSpec) : _root_.Go.OpenSpec := { _root_.Go.OpenSpec.ofChange s with cond := some uptoSmall }

/-- 'tracerylaw15.SepaAll', WHERE WHAT IT READS IS OF BULK AT MOST 1048576: true; the input reads as it did. -/
def sepaAllUptoRow : OpenClaim := { program := "ytgneelmmomohdaa", sum := "082a2fb4fef27ef8686e6b870e5d3f7ef2004232b11c9b26280db4f44fa97305", func := "tracery/tracerylaw15.SepaAll", spec := "sepaAll", unfollowed := true, recurses := true, plainKeys := false, apart := false, narrowed := true }
def SepaAllUptoSaid : Prop := sepaAllUptoRow.holds Try.pinned (OpenSpec.upto sepaAllSpec)

/-- 'tracerylaw15.SepaPairs', WHERE WHAT IT READS IS OF BULK AT MOST 1048576: true; the input reads as it did. -/
def sepaPairsUptoRow : OpenClaim := { program := "ytgneelmmomohdaa", sum := "082a2fb4fef27ef8686e6b870e5d3f7ef2004232b11c9b26280db4f44fa97305", func := "tracery/tracerylaw15.SepaPairs", spec := "sepaPairs", unfollowed := true, recurses := true, plainKeys := false, apart := false, narrowed := true }
def SepaPairsUptoSaid : Prop := sepaPairsUptoRow.holds Try.pinned (OpenSpec.upto sepaPairsSpec)

/-- 'tracerylaw15.SepaMore', WHERE WHAT IT READS IS OF BULK AT MOST 1048576: true; the input reads as it did. -/
def sepaMoreUptoRow : OpenClaim := { program := "ytgneelmmomohdaa", sum := "082a2fb4fef27ef8686e6b870e5d3f7ef2004232b11c9b26280db4f44fa97305", func := "tracery/tracerylaw15.SepaMore", spec := "sepaMore", unfollowed := true, recurses := true, plainKeys := false, apart := false, narrowed := true }
def SepaMoreUptoSaid : Prop := sepaMoreUptoRow.holds Try.pinned (OpenSpec.upto sepaMoreSpec)

end Rows
end Go.Proofs.Ytgneelmmomohdaa
