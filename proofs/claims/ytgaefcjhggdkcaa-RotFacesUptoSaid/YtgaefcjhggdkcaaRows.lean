/-
  No cell of these rows narrows 'for every input' (looked for: loops, veiled, ifaces, maps, wideKeys, modest, calm, conditions, laid).
  DERIVED. THE GIVEN ROWS OF THIS SEAT. 6 by the template 'for every input the law returns true; each argument reads behind the call as it read before'; 0 by the template 'total and deterministic' (their statements: YtgaefcjhggdkcaaTotals.lean).
  GIVEN WITH THE SEED: the statements are not yours to turn. If you find one false, say at which input.
  Laid BY PROGRAM, IN A SANDBOX (cutbox-rows.mjs): the forced cells as the released guide's own fill.sh prints them over the translation 0c8536d133aa541f… (all of the seat's roots in one cut). By AI agents, Wed Nov 11 2026. No macro, syntax, notation, axiom, sorry.
-/
import Derived.Test.YtgaefcjhggdkcaaChecked
import GoSem.Claim
import GoSem.ClaimJoined
import GoSem.ClaimMapViews
import Derived.JoinedTies
import Derived.KernelRfl
namespace Go.Proofs.Ytgaefcjhggdkcaa
/- THE CELL 'sum', in the pinned program and in every row, IS THE sha256 OF THE DUMP (.gsa) THAT YtgaefcjhggdkcaaProg.lean LOADS. Nothing in Lean hashes anything: it is a label: what it is worth is what the hold of that sum in a sandbox is worth. -/
noncomputable def Try.pinned : Pinned := { name := "ytgaefcjhggdkcaa", sum := "0c8536d133aa541f795144a28044066e9544dce3418c551be477eb7b02f7880d", checked := Try.checked }
namespace Rows
def none {H : Type} : Left H := { results := [], args := [] }

/-- 'tracerylaw9.RotFaces': WHATEVER THE INPUT: true; the input reads as it did. -/
def rotFacesSpec : ChangeSpec := { name := "rotFaces", fn := fun _ => fun
  | [d1, d2] => { results := [.lit (.bool true)], args := [d1, d2] }
  | _ => none }
def rotFacesRow : OpenClaim := { program := "ytgaefcjhggdkcaa", sum := "0c8536d133aa541f795144a28044066e9544dce3418c551be477eb7b02f7880d", func := "tracery/tracerylaw9.RotFaces", spec := "rotFaces", plainKeys := false, apart := false }
def RotFacesSaid : Prop := rotFacesRow.holds Try.pinned (OpenSpec.ofChange rotFacesSpec)

/-- ITS FALSE NEIGHBOUR: 'it returns false'. Refute it at one input. -/
def rotFacesWrong : ChangeSpec := { name := "rotFaces", fn := fun _ => fun
  | [d1, d2] => { results := [.lit (.bool false)], args := [d1, d2] }
  | _ => none }
def RotFacesWrongFalsely : Prop := rotFacesRow.holds Try.pinned (OpenSpec.ofChange rotFacesWrong)

/-- 'tracerylaw3.NetAll': WHATEVER THE INPUT: true; the input reads as it did. -/
def netAllSpec : ChangeSpec := { name := "netAll", fn := fun _ => fun
  | [d1, d2, d3, d4, d5] => { results := [.lit (.bool true)], args := [d1, d2, d3, d4, d5] }
  | _ => none }
def netAllRow : OpenClaim := { program := "ytgaefcjhggdkcaa", sum := "0c8536d133aa541f795144a28044066e9544dce3418c551be477eb7b02f7880d", func := "tracery/tracerylaw3.NetAll", spec := "netAll", plainKeys := false, apart := false }
def NetAllSaid : Prop := netAllRow.holds Try.pinned (OpenSpec.ofChange netAllSpec)

/-- ITS FALSE NEIGHBOUR: 'it returns false'. Refute it at one input. -/
def netAllWrong : ChangeSpec := { name := "netAll", fn := fun _ => fun
  | [d1, d2, d3, d4, d5] => { results := [.lit (.bool false)], args := [d1, d2, d3, d4, d5] }
  | _ => none }
def NetAllWrongFalsely : Prop := netAllRow.holds Try.pinned (OpenSpec.ofChange netAllWrong)

/-- 'tracerylaw9.RotSame': WHATEVER THE INPUT: true; the input reads as it did. -/
def rotSameSpec : ChangeSpec := { name := "rotSame", fn := fun _ => fun
  | [d1, d2, d3, d4] => { results := [.lit (.bool true)], args := [d1, d2, d3, d4] }
  | _ => none }
def rotSameRow : OpenClaim := { program := "ytgaefcjhggdkcaa", sum := "0c8536d133aa541f795144a28044066e9544dce3418c551be477eb7b02f7880d", func := "tracery/tracerylaw9.RotSame", spec := "rotSame", unfollowed := true, recurses := true, plainKeys := false, apart := false }
def RotSameSaid : Prop := rotSameRow.holds Try.pinned (OpenSpec.ofChange rotSameSpec)

/-- ITS FALSE NEIGHBOUR: 'it returns false'. Refute it at one input. -/
def rotSameWrong : ChangeSpec := { name := "rotSame", fn := fun _ => fun
  | [d1, d2, d3, d4] => { results := [.lit (.bool false)], args := [d1, d2, d3, d4] }
  | _ => none }
def RotSameWrongFalsely : Prop := rotSameRow.holds Try.pinned (OpenSpec.ofChange rotSameWrong)

/-- 'tracerylaw9.RotLess': WHATEVER THE INPUT: true; the input reads as it did. -/
def rotLessSpec : ChangeSpec := { name := "rotLess", fn := fun _ => fun
  | [d1, d2, d3] => { results := [.lit (.bool true)], args := [d1, d2, d3] }
  | _ => none }
def rotLessRow : OpenClaim := { program := "ytgaefcjhggdkcaa", sum := "0c8536d133aa541f795144a28044066e9544dce3418c551be477eb7b02f7880d", func := "tracery/tracerylaw9.RotLess", spec := "rotLess", plainKeys := false, apart := false }
def RotLessSaid : Prop := rotLessRow.holds Try.pinned (OpenSpec.ofChange rotLessSpec)

/-- ITS FALSE NEIGHBOUR: 'it returns false'. Refute it at one input. -/
def rotLessWrong : ChangeSpec := { name := "rotLess", fn := fun _ => fun
  | [d1, d2, d3] => { results := [.lit (.bool false)], args := [d1, d2, d3] }
  | _ => none }
def RotLessWrongFalsely : Prop := rotLessRow.holds Try.pinned (OpenSpec.ofChange rotLessWrong)

/-- 'tracerylaw9.RotMoved': WHATEVER THE INPUT: true; the input reads as it did. -/
def rotMovedSpec : ChangeSpec := { name := "rotMoved", fn := fun _ => fun
  | [d1, d2, d3] => { results := [.lit (.bool true)], args := [d1, d2, d3] }
  | _ => none }
def rotMovedRow : OpenClaim := { program := "ytgaefcjhggdkcaa", sum := "0c8536d133aa541f795144a28044066e9544dce3418c551be477eb7b02f7880d", func := "tracery/tracerylaw9.RotMoved", spec := "rotMoved", plainKeys := false, apart := false }
def RotMovedSaid : Prop := rotMovedRow.holds Try.pinned (OpenSpec.ofChange rotMovedSpec)

/-- ITS FALSE NEIGHBOUR: 'it returns false'. Refute it at one input. -/
def rotMovedWrong : ChangeSpec := { name := "rotMoved", fn := fun _ => fun
  | [d1, d2, d3] => { results := [.lit (.bool false)], args := [d1, d2, d3] }
  | _ => none }
def RotMovedWrongFalsely : Prop := rotMovedRow.holds Try.pinned (OpenSpec.ofChange rotMovedWrong)

/-- 'tracerylaw9.RotAll': WHATEVER THE INPUT: true; the input reads as it did. -/
def rotAllSpec : ChangeSpec := { name := "rotAll", fn := fun _ => fun
  | [d1, d2, d3, d4] => { results := [.lit (.bool true)], args := [d1, d2, d3, d4] }
  | _ => none }
def rotAllRow : OpenClaim := { program := "ytgaefcjhggdkcaa", sum := "0c8536d133aa541f795144a28044066e9544dce3418c551be477eb7b02f7880d", func := "tracery/tracerylaw9.RotAll", spec := "rotAll", plainKeys := false, apart := false }
def RotAllSaid : Prop := rotAllRow.holds Try.pinned (OpenSpec.ofChange rotAllSpec)

/-- ITS FALSE NEIGHBOUR: 'it returns false'. Refute it at one input. -/
def rotAllWrong : ChangeSpec := { name := "rotAll", fn := fun _ => fun
  | [d1, d2, d3, d4] => { results := [.lit (.bool false)], args := [d1, d2, d3, d4] }
  | _ => none }
def RotAllWrongFalsely : Prop := rotAllRow.holds Try.pinned (OpenSpec.ofChange rotAllWrong)

/- THE SECOND FORM. 'bulk': how many values and letters a reading holds, each counted each time it is reached (what is shared counts as often as it is met; a slice's spare places count too). A statement '..UptoSaid' is the law's where the arguments, and the package variables that the reading takes, are together of bulk at most 1048576: NARROWER than '..Said'. Prove '..Said' where nothing that the law and all that it calls make is longer than what came in: it says more and counts as full. Else prove '..UptoSaid'. A law counts once. -/
mutual
def uptoBulk {H : Type} : DataW H → Nat
  | .lit (.string bytes) => bytes.length + 1
  | .lit _ => 1
  | .nil => 1
  | .ptr d => uptoBulk d + 1
  | .slice elems spare => uptoBulkAll elems + uptoBulkAll spare + 1
  | .agg parts => uptoBulkAll parts + 1
  | .iface _ d => uptoBulk d + 1
  | .map entries => uptoBulkEntries entries + 1
  | .held _ => 1
def uptoBulkAll {H : Type} : List (DataW H) → Nat
  | [] => 0
  | d :: r => uptoBulk d + uptoBulkAll r
def uptoBulkEntries {H : Type} : List (Lit × DataW H) → Nat
  | [] => 0
  | x :: r => uptoBulkEntry x + uptoBulkEntries r
def uptoBulkEntry {H : Type} : Lit × DataW H → Nat
  | (.string bytes, d) => bytes.length + uptoBulk d + 1
  | (_, d) => uptoBulk d + 1
 end
def uptoSmall : (H : Type) → List (DataW H) → Bool := fun _ ds => decide (uptoBulkAll ds ≤ 1048576)
def OpenSpec.upto (s : _root_.Go.ChangeSpec) : _root_.Go.OpenSpec := { _root_.Go.OpenSpec.ofChange s with cond := some uptoSmall }

/-- 'tracerylaw9.RotFaces', WHERE WHAT IT READS IS OF BULK AT MOST 1048576: true; the input reads as it did. -/
def rotFacesUptoRow : OpenClaim := { program := "ytgaefcjhggdkcaa", sum := "0c8536d133aa541f795144a28044066e9544dce3418c551be477eb7b02f7880d", func := "tracery/tracerylaw9.RotFaces", spec := "rotFaces", plainKeys := false, apart := false, narrowed := true }
def RotFacesUptoSaid : Prop := rotFacesUptoRow.holds Try.pinned (OpenSpec.upto rotFacesSpec)

/-- 'tracerylaw3.NetAll', WHERE WHAT IT READS IS OF BULK AT MOST 1048576: true; the input reads as it did. -/
def netAllUptoRow : OpenClaim := { program := "ytgaefcjhggdkcaa", sum := "0c8536d133aa541f795144a28044066e9544dce3418c551be477eb7b02f7880d", func := "tracery/tracerylaw3.NetAll", spec := "netAll", plainKeys := false, apart := false, narrowed := true }
def NetAllUptoSaid : Prop := netAllUptoRow.holds Try.pinned (OpenSpec.upto netAllSpec)

/-- 'tracerylaw9.RotSame', WHERE WHAT IT READS IS OF BULK AT MOST 1048576: true; the input reads as it did. -/
def rotSameUptoRow : OpenClaim := { program := "ytgaefcjhggdkcaa", sum := "0c8536d133aa541f795144a28044066e9544dce3418c551be477eb7b02f7880d", func := "tracery/tracerylaw9.RotSame", spec := "rotSame", unfollowed := true, recurses := true, plainKeys := false, apart := false, narrowed := true }
def RotSameUptoSaid : Prop := rotSameUptoRow.holds Try.pinned (OpenSpec.upto rotSameSpec)

/-- 'tracerylaw9.RotLess', WHERE WHAT IT READS IS OF BULK AT MOST 1048576: true; the input reads as it did. -/
def rotLessUptoRow : OpenClaim := { program := "ytgaefcjhggdkcaa", sum := "0c8536d133aa541f795144a28044066e9544dce3418c551be477eb7b02f7880d", func := "tracery/tracerylaw9.RotLess", spec := "rotLess", plainKeys := false, apart := false, narrowed := true }
def RotLessUptoSaid : Prop := rotLessUptoRow.holds Try.pinned (OpenSpec.upto rotLessSpec)

/-- 'tracerylaw9.RotMoved', WHERE WHAT IT READS IS OF BULK AT MOST 1048576: true; the input reads as it did. -/
def rotMovedUptoRow : OpenClaim := { program := "ytgaefcjhggdkcaa", sum := "0c8536d133aa541f795144a28044066e9544dce3418c551be477eb7b02f7880d", func := "tracery/tracerylaw9.RotMoved", spec := "rotMoved", plainKeys := false, apart := false, narrowed := true }
def RotMovedUptoSaid : Prop := rotMovedUptoRow.holds Try.pinned (OpenSpec.upto rotMovedSpec)

/-- 'tracerylaw9.RotAll', WHERE WHAT IT READS IS OF BULK AT MOST 1048576: true; the input reads as it did. -/
def rotAllUptoRow : OpenClaim := { program := "ytgaefcjhggdkcaa", sum := "0c8536d133aa541f795144a28044066e9544dce3418c551be477eb7b02f7880d", func := "tracery/tracerylaw9.RotAll", spec := "rotAll", plainKeys := false, apart := false, narrowed := true }
def RotAllUptoSaid : Prop := rotAllUptoRow.holds Try.pinned (OpenSpec.upto rotAllSpec)

end Rows
end Go.Proofs.Ytgaefcjhggdkcaa
