/-
  No cell of these rows narrows 'for every input' (looked for: loops, veiled, ifaces, maps, wideKeys, modest, calm, conditions, laid).
  DERIVED. THE GIVEN ROWS OF THIS SEAT. 5 by the template 'for every input the law returns true; each argument reads behind the call as it read before'; 0 by the template 'total and deterministic' (their statements: YtmakonaaojadbaaTotals.lean).
  GIVEN WITH THE SEED: the statements are not yours to turn. If you find one false, say at which input.
  Laid BY PROGRAM, IN A SANDBOX (cutbox-rows.mjs): the forced cells as the released guide's own fill.sh prints them over the translation ff7bdaecc09ecad7… (all of the seat's roots in one cut). By AI agents, Wed Nov 11 2026. No macro, syntax, notation, axiom, sorry.
-/
import Derived.Test.YtmakonaaojadbaaChecked
import GoSem.Claim
import GoSem.ClaimJoined
import GoSem.ClaimMapViews
import Derived.JoinedTies
import Derived.KernelRfl
namespace Go.Proofs.Ytmakonaaojadbaa
/- THE CELL 'sum', in the pinned program and in every row, IS THE sha256 OF THE DUMP (.gsa) THAT YtmakonaaojadbaaProg.lean LOADS. Nothing in Lean hashes anything: it is a label: what it is worth is what the hold of that sum in a sandbox is worth. -/
noncomputable def Try.pinned : Pinned := { name := "ytmakonaaojadbaa", sum := "ff7bdaecc09ecad78ab11e44b3fdedf489381f69750d57c429e3aef1bc9f9ad1", checked := Try.checked }
namespace Rows
def none {H : Type} : Left H := { results := [], args := [] }

/-- 'tracerylaw8.BlockAll': WHATEVER THE INPUT: true; the input reads as it did. -/
def blockAllSpec : ChangeSpec := { name := "blockAll", fn := fun _ => fun
  | [d] => { results := [.lit (.bool true)], args := [d] }
  | _ => none }
def blockAllRow : OpenClaim := { program := "ytmakonaaojadbaa", sum := "ff7bdaecc09ecad78ab11e44b3fdedf489381f69750d57c429e3aef1bc9f9ad1", func := "tracery/tracerylaw8.BlockAll", spec := "blockAll", unfollowed := true, recurses := true, plainKeys := false, apart := false }
def BlockAllSaid : Prop := blockAllRow.holds Try.pinned (OpenSpec.ofChange blockAllSpec)

/-- ITS FALSE NEIGHBOUR: 'it returns false'. Refute it at one input. -/
def blockAllWrong : ChangeSpec := { name := "blockAll", fn := fun _ => fun
  | [d] => { results := [.lit (.bool false)], args := [d] }
  | _ => none }
def BlockAllWrongFalsely : Prop := blockAllRow.holds Try.pinned (OpenSpec.ofChange blockAllWrong)

/-- 'tracerylaw8.BlockEars': WHATEVER THE INPUT: true; the input reads as it did. -/
def blockEarsSpec : ChangeSpec := { name := "blockEars", fn := fun _ => fun
  | [d] => { results := [.lit (.bool true)], args := [d] }
  | _ => none }
def blockEarsRow : OpenClaim := { program := "ytmakonaaojadbaa", sum := "ff7bdaecc09ecad78ab11e44b3fdedf489381f69750d57c429e3aef1bc9f9ad1", func := "tracery/tracerylaw8.BlockEars", spec := "blockEars", unfollowed := true, recurses := true, plainKeys := false, apart := false }
def BlockEarsSaid : Prop := blockEarsRow.holds Try.pinned (OpenSpec.ofChange blockEarsSpec)

/-- ITS FALSE NEIGHBOUR: 'it returns false'. Refute it at one input. -/
def blockEarsWrong : ChangeSpec := { name := "blockEars", fn := fun _ => fun
  | [d] => { results := [.lit (.bool false)], args := [d] }
  | _ => none }
def BlockEarsWrongFalsely : Prop := blockEarsRow.holds Try.pinned (OpenSpec.ofChange blockEarsWrong)

/-- 'tracerylaw8.BlockCuts': WHATEVER THE INPUT: true; the input reads as it did. -/
def blockCutsSpec : ChangeSpec := { name := "blockCuts", fn := fun _ => fun
  | [d] => { results := [.lit (.bool true)], args := [d] }
  | _ => none }
def blockCutsRow : OpenClaim := { program := "ytmakonaaojadbaa", sum := "ff7bdaecc09ecad78ab11e44b3fdedf489381f69750d57c429e3aef1bc9f9ad1", func := "tracery/tracerylaw8.BlockCuts", spec := "blockCuts", unfollowed := true, recurses := true, plainKeys := false, apart := false }
def BlockCutsSaid : Prop := blockCutsRow.holds Try.pinned (OpenSpec.ofChange blockCutsSpec)

/-- ITS FALSE NEIGHBOUR: 'it returns false'. Refute it at one input. -/
def blockCutsWrong : ChangeSpec := { name := "blockCuts", fn := fun _ => fun
  | [d] => { results := [.lit (.bool false)], args := [d] }
  | _ => none }
def BlockCutsWrongFalsely : Prop := blockCutsRow.holds Try.pinned (OpenSpec.ofChange blockCutsWrong)

/-- 'tracerylaw8.BlockBridges': WHATEVER THE INPUT: true; the input reads as it did. -/
def blockBridgesSpec : ChangeSpec := { name := "blockBridges", fn := fun _ => fun
  | [d] => { results := [.lit (.bool true)], args := [d] }
  | _ => none }
def blockBridgesRow : OpenClaim := { program := "ytmakonaaojadbaa", sum := "ff7bdaecc09ecad78ab11e44b3fdedf489381f69750d57c429e3aef1bc9f9ad1", func := "tracery/tracerylaw8.BlockBridges", spec := "blockBridges", unfollowed := true, recurses := true, plainKeys := false, apart := false }
def BlockBridgesSaid : Prop := blockBridgesRow.holds Try.pinned (OpenSpec.ofChange blockBridgesSpec)

/-- ITS FALSE NEIGHBOUR: 'it returns false'. Refute it at one input. -/
def blockBridgesWrong : ChangeSpec := { name := "blockBridges", fn := fun _ => fun
  | [d] => { results := [.lit (.bool false)], args := [d] }
  | _ => none }
def BlockBridgesWrongFalsely : Prop := blockBridgesRow.holds Try.pinned (OpenSpec.ofChange blockBridgesWrong)

/-- 'tracerylaw8.BlockJoins': WHATEVER THE INPUT: true; the input reads as it did. -/
def blockJoinsSpec : ChangeSpec := { name := "blockJoins", fn := fun _ => fun
  | [d1, d2, d3] => { results := [.lit (.bool true)], args := [d1, d2, d3] }
  | _ => none }
def blockJoinsRow : OpenClaim := { program := "ytmakonaaojadbaa", sum := "ff7bdaecc09ecad78ab11e44b3fdedf489381f69750d57c429e3aef1bc9f9ad1", func := "tracery/tracerylaw8.BlockJoins", spec := "blockJoins", unfollowed := true, recurses := true, plainKeys := false, apart := false }
def BlockJoinsSaid : Prop := blockJoinsRow.holds Try.pinned (OpenSpec.ofChange blockJoinsSpec)

/-- ITS FALSE NEIGHBOUR: 'it returns false'. Refute it at one input. -/
def blockJoinsWrong : ChangeSpec := { name := "blockJoins", fn := fun _ => fun
  | [d1, d2, d3] => { results := [.lit (.bool false)], args := [d1, d2, d3] }
  | _ => none }
def BlockJoinsWrongFalsely : Prop := blockJoinsRow.holds Try.pinned (OpenSpec.ofChange blockJoinsWrong)

/- THE SECOND FORM. 'bulk': how many values and letters a reading holds, each counted each time it is reached (what is shared counts as often as it is met; a slice's spare places count too). A statement '..UptoSaid' is the law's where the arguments, and the package variables that the reading takes, are together of bulk at most 1048576: NARROWER than '..Said'. Prove '..Said' where nothing that the law and all that it calls make is longer than what came in: it says more and counts as full. Else prove '..UptoSaid'. A law counts once. -/
mutual
def uptoBulk {H : Type} : DataW H → Nat
  | .lit (.string bytes) => bytes.length + 1
  | .lit _ => 1
  | .nil => 1
  | .ptr d => uptoBulk d + 1
  | .slice elems spare => uptoBulkAll elems + uptoBulkAll spare + 1
  | .agg parts => uptoBulkAll parts + 1
  | .iface _ d => uptoBulk d + 1
  | .map entries => uptoBulkEntries entries + 1
  | .held _ => 1
def uptoBulkAll {H : Type} : List (DataW H) → Nat
  | [] => 0
  | d :: r => uptoBulk d + uptoBulkAll r
def uptoBulkEntries {H : Type} : List (Lit × DataW H) → Nat
  | [] => 0
  | x :: r => uptoBulkEntry x + uptoBulkEntries r
def uptoBulkEntry {H : Type} : Lit × DataW H → Nat
  | (.string bytes, d) => bytes.length + uptoBulk d + 1
  | (_, d) => uptoBulk d + 1
 end
def uptoSmall : (H : Type) → List (DataW H) → Bool := fun _ ds => decide (uptoBulkAll ds ≤ 1048576)
def OpenSpec.upto (s : _root_.Go.ChangeSpec) : _root_.Go.OpenSpec := { _root_.Go.OpenSpec.ofChange s with cond := some uptoSmall }

/-- 'tracerylaw8.BlockAll', WHERE WHAT IT READS IS OF BULK AT MOST 1048576: true; the input reads as it did. -/
def blockAllUptoRow : OpenClaim := { program := "ytmakonaaojadbaa", sum := "ff7bdaecc09ecad78ab11e44b3fdedf489381f69750d57c429e3aef1bc9f9ad1", func := "tracery/tracerylaw8.BlockAll", spec := "blockAll", unfollowed := true, recurses := true, plainKeys := false, apart := false, narrowed := true }
def BlockAllUptoSaid : Prop := blockAllUptoRow.holds Try.pinned (OpenSpec.upto blockAllSpec)

/-- 'tracerylaw8.BlockEars', WHERE WHAT IT READS IS OF BULK AT MOST 1048576: true; the input reads as it did. -/
def blockEarsUptoRow : OpenClaim := { program := "ytmakonaaojadbaa", sum := "ff7bdaecc09ecad78ab11e44b3fdedf489381f69750d57c429e3aef1bc9f9ad1", func := "tracery/tracerylaw8.BlockEars", spec := "blockEars", unfollowed := true, recurses := true, plainKeys := false, apart := false, narrowed := true }
def BlockEarsUptoSaid : Prop := blockEarsUptoRow.holds Try.pinned (OpenSpec.upto blockEarsSpec)

/-- 'tracerylaw8.BlockCuts', WHERE WHAT IT READS IS OF BULK AT MOST 1048576: true; the input reads as it did. -/
def blockCutsUptoRow : OpenClaim := { program := "ytmakonaaojadbaa", sum := "ff7bdaecc09ecad78ab11e44b3fdedf489381f69750d57c429e3aef1bc9f9ad1", func := "tracery/tracerylaw8.BlockCuts", spec := "blockCuts", unfollowed := true, recurses := true, plainKeys := false, apart := false, narrowed := true }
def BlockCutsUptoSaid : Prop := blockCutsUptoRow.holds Try.pinned (OpenSpec.upto blockCutsSpec)

/-- 'tracerylaw8.BlockBridges', WHERE WHAT IT READS IS OF BULK AT MOST 1048576: true; the input reads as it did. -/
def blockBridgesUptoRow : OpenClaim := { program := "ytmakonaaojadbaa", sum := "ff7bdaecc09ecad78ab11e44b3fdedf489381f69750d57c429e3aef1bc9f9ad1", func := "tracery/tracerylaw8.BlockBridges", spec := "blockBridges", unfollowed := true, recurses := true, plainKeys := false, apart := false, narrowed := true }
def BlockBridgesUptoSaid : Prop := blockBridgesUptoRow.holds Try.pinned (OpenSpec.upto blockBridgesSpec)

/-- 'tracerylaw8.BlockJoins', WHERE WHAT IT READS IS OF BULK AT MOST 1048576: true; the input reads as it did. -/
def blockJoinsUptoRow : OpenClaim := { program := "ytmakonaaojadbaa", sum := "ff7bdaecc09ecad78ab11e44b3fdedf489381f69750d57c429e3aef1bc9f9ad1", func := "tracery/tracerylaw8.BlockJoins", spec := "blockJoins", unfollowed := true, recurses := true, plainKeys := false, apart := false, narrowed := true }
def BlockJoinsUptoSaid : Prop := blockJoinsUptoRow.holds Try.pinned (OpenSpec.upto blockJoinsSpec)

end Rows
end Go.Proofs.Ytmakonaaojadbaa
