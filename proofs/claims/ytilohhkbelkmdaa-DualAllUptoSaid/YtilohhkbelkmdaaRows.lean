/-
  No cell of these rows narrows 'for every input' (looked for: loops, veiled, ifaces, maps, wideKeys, modest, calm, conditions, laid).
  DERIVED. THE GIVEN ROWS OF THIS SEAT. 7 by the template 'for every input the law returns true; each argument reads behind the call as it read before'; 0 by the template 'total and deterministic' (their statements: YtilohhkbelkmdaaTotals.lean).
  GIVEN WITH THE SEED: the statements are not yours to turn. If you find one false, say at which input.
  Laid BY PROGRAM, IN A SANDBOX (cutbox-rows.mjs): the forced cells as the released guide's own fill.sh prints them over the translation df27e49c5f0f4124… (all of the seat's roots in one cut). By AI agents, Wed Nov 11 2026. No macro, syntax, notation, axiom, sorry.
-/
import Derived.Test.YtilohhkbelkmdaaChecked
import GoSem.Claim
import GoSem.ClaimJoined
import GoSem.ClaimMapViews
import Derived.JoinedTies
import Derived.KernelRfl
namespace Go.Proofs.Ytilohhkbelkmdaa
/- THE CELL 'sum', in the pinned program and in every row, IS THE sha256 OF THE DUMP (.gsa) THAT YtilohhkbelkmdaaProg.lean LOADS. Nothing in Lean hashes anything: it is a label: what it is worth is what the hold of that sum in a sandbox is worth. -/
noncomputable def Try.pinned : Pinned := { name := "ytilohhkbelkmdaa", sum := "df27e49c5f0f4124090085c4316db40f4f29087c88c2573616f78e0e22e521d8", checked := Try.checked }
namespace Rows
def none {H : Type} : Left H := { results := [], args := [] }

/-- 'tracerylaw9.RotAll': WHATEVER THE INPUT: true; the input reads as it did. -/
def rotAllSpec : ChangeSpec := { name := "rotAll", fn := fun _ => fun
  | [d1, d2, d3, d4] => { results := [.lit (.bool true)], args := [d1, d2, d3, d4] }
  | _ => none }
def rotAllRow : OpenClaim := { program := "ytilohhkbelkmdaa", sum := "df27e49c5f0f4124090085c4316db40f4f29087c88c2573616f78e0e22e521d8", func := "tracery/tracerylaw9.RotAll", spec := "rotAll", apart := false }
def RotAllSaid : Prop := rotAllRow.holds Try.pinned (OpenSpec.ofChange rotAllSpec)

/-- ITS FALSE NEIGHBOUR: 'it returns false'. Refute it at one input. -/
def rotAllWrong : ChangeSpec := { name := "rotAll", fn := fun _ => fun
  | [d1, d2, d3, d4] => { results := [.lit (.bool false)], args := [d1, d2, d3, d4] }
  | _ => none }
def RotAllWrongFalsely : Prop := rotAllRow.holds Try.pinned (OpenSpec.ofChange rotAllWrong)

/-- 'tracerylaw10.DualBack': WHATEVER THE INPUT: true; the input reads as it did. -/
def dualBackSpec : ChangeSpec := { name := "dualBack", fn := fun _ => fun
  | [d1, d2] => { results := [.lit (.bool true)], args := [d1, d2] }
  | _ => none }
def dualBackRow : OpenClaim := { program := "ytilohhkbelkmdaa", sum := "df27e49c5f0f4124090085c4316db40f4f29087c88c2573616f78e0e22e521d8", func := "tracery/tracerylaw10.DualBack", spec := "dualBack", inPlace := ["slices.overlaps[int]"], apart := false }
def DualBackSaid : Prop := dualBackRow.holds Try.pinned (OpenSpec.ofChange dualBackSpec)

/-- ITS FALSE NEIGHBOUR: 'it returns false'. Refute it at one input. -/
def dualBackWrong : ChangeSpec := { name := "dualBack", fn := fun _ => fun
  | [d1, d2] => { results := [.lit (.bool false)], args := [d1, d2] }
  | _ => none }
def DualBackWrongFalsely : Prop := dualBackRow.holds Try.pinned (OpenSpec.ofChange dualBackWrong)

/-- 'tracerylaw10.DualHops': WHATEVER THE INPUT: true; the input reads as it did. -/
def dualHopsSpec : ChangeSpec := { name := "dualHops", fn := fun _ => fun
  | [d1, d2, d3, d4] => { results := [.lit (.bool true)], args := [d1, d2, d3, d4] }
  | _ => none }
def dualHopsRow : OpenClaim := { program := "ytilohhkbelkmdaa", sum := "df27e49c5f0f4124090085c4316db40f4f29087c88c2573616f78e0e22e521d8", func := "tracery/tracerylaw10.DualHops", spec := "dualHops", inPlace := ["slices.overlaps[int]"], apart := false }
def DualHopsSaid : Prop := dualHopsRow.holds Try.pinned (OpenSpec.ofChange dualHopsSpec)

/-- ITS FALSE NEIGHBOUR: 'it returns false'. Refute it at one input. -/
def dualHopsWrong : ChangeSpec := { name := "dualHops", fn := fun _ => fun
  | [d1, d2, d3, d4] => { results := [.lit (.bool false)], args := [d1, d2, d3, d4] }
  | _ => none }
def DualHopsWrongFalsely : Prop := dualHopsRow.holds Try.pinned (OpenSpec.ofChange dualHopsWrong)

/-- 'tracerylaw10.DualSplits': WHATEVER THE INPUT: true; the input reads as it did. -/
def dualSplitsSpec : ChangeSpec := { name := "dualSplits", fn := fun _ => fun
  | [d1, d2, d3] => { results := [.lit (.bool true)], args := [d1, d2, d3] }
  | _ => none }
def dualSplitsRow : OpenClaim := { program := "ytilohhkbelkmdaa", sum := "df27e49c5f0f4124090085c4316db40f4f29087c88c2573616f78e0e22e521d8", func := "tracery/tracerylaw10.DualSplits", spec := "dualSplits", inPlace := ["slices.overlaps[int]"], apart := false }
def DualSplitsSaid : Prop := dualSplitsRow.holds Try.pinned (OpenSpec.ofChange dualSplitsSpec)

/-- ITS FALSE NEIGHBOUR: 'it returns false'. Refute it at one input. -/
def dualSplitsWrong : ChangeSpec := { name := "dualSplits", fn := fun _ => fun
  | [d1, d2, d3] => { results := [.lit (.bool false)], args := [d1, d2, d3] }
  | _ => none }
def DualSplitsWrongFalsely : Prop := dualSplitsRow.holds Try.pinned (OpenSpec.ofChange dualSplitsWrong)

/-- 'tracerylaw10.DualLays': WHATEVER THE INPUT: true; the input reads as it did. -/
def dualLaysSpec : ChangeSpec := { name := "dualLays", fn := fun _ => fun
  | [d1, d2, d3, d4] => { results := [.lit (.bool true)], args := [d1, d2, d3, d4] }
  | _ => none }
def dualLaysRow : OpenClaim := { program := "ytilohhkbelkmdaa", sum := "df27e49c5f0f4124090085c4316db40f4f29087c88c2573616f78e0e22e521d8", func := "tracery/tracerylaw10.DualLays", spec := "dualLays", inPlace := ["slices.overlaps[int]"], apart := false }
def DualLaysSaid : Prop := dualLaysRow.holds Try.pinned (OpenSpec.ofChange dualLaysSpec)

/-- ITS FALSE NEIGHBOUR: 'it returns false'. Refute it at one input. -/
def dualLaysWrong : ChangeSpec := { name := "dualLays", fn := fun _ => fun
  | [d1, d2, d3, d4] => { results := [.lit (.bool false)], args := [d1, d2, d3, d4] }
  | _ => none }
def DualLaysWrongFalsely : Prop := dualLaysRow.holds Try.pinned (OpenSpec.ofChange dualLaysWrong)

/-- 'tracerylaw10.DualTakes': WHATEVER THE INPUT: true; the input reads as it did. -/
def dualTakesSpec : ChangeSpec := { name := "dualTakes", fn := fun _ => fun
  | [d1, d2, d3] => { results := [.lit (.bool true)], args := [d1, d2, d3] }
  | _ => none }
def dualTakesRow : OpenClaim := { program := "ytilohhkbelkmdaa", sum := "df27e49c5f0f4124090085c4316db40f4f29087c88c2573616f78e0e22e521d8", func := "tracery/tracerylaw10.DualTakes", spec := "dualTakes", inPlace := ["slices.overlaps[int]"], apart := false }
def DualTakesSaid : Prop := dualTakesRow.holds Try.pinned (OpenSpec.ofChange dualTakesSpec)

/-- ITS FALSE NEIGHBOUR: 'it returns false'. Refute it at one input. -/
def dualTakesWrong : ChangeSpec := { name := "dualTakes", fn := fun _ => fun
  | [d1, d2, d3] => { results := [.lit (.bool false)], args := [d1, d2, d3] }
  | _ => none }
def DualTakesWrongFalsely : Prop := dualTakesRow.holds Try.pinned (OpenSpec.ofChange dualTakesWrong)

/-- 'tracerylaw10.DualAll': WHATEVER THE INPUT: true; the input reads as it did. -/
def dualAllSpec : ChangeSpec := { name := "dualAll", fn := fun _ => fun
  | [d1, d2, d3, d4, d5, d6, d7] => { results := [.lit (.bool true)], args := [d1, d2, d3, d4, d5, d6, d7] }
  | _ => none }
def dualAllRow : OpenClaim := { program := "ytilohhkbelkmdaa", sum := "df27e49c5f0f4124090085c4316db40f4f29087c88c2573616f78e0e22e521d8", func := "tracery/tracerylaw10.DualAll", spec := "dualAll", inPlace := ["slices.overlaps[int]"], apart := false }
def DualAllSaid : Prop := dualAllRow.holds Try.pinned (OpenSpec.ofChange dualAllSpec)

/-- ITS FALSE NEIGHBOUR: 'it returns false'. Refute it at one input. -/
def dualAllWrong : ChangeSpec := { name := "dualAll", fn := fun _ => fun
  | [d1, d2, d3, d4, d5, d6, d7] => { results := [.lit (.bool false)], args := [d1, d2, d3, d4, d5, d6, d7] }
  | _ => none }
def DualAllWrongFalsely : Prop := dualAllRow.holds Try.pinned (OpenSpec.ofChange dualAllWrong)

/- THE SECOND FORM. 'bulk': how many values and letters a reading holds, each counted each time it is reached (what is shared counts as often as it is met; a slice's spare places count too). A statement '..UptoSaid' is the law's where the arguments, and the package variables that the reading takes, are together of bulk at most 1048576: NARROWER than '..Said'. Prove '..Said' where nothing that the law and all that it calls make is longer than what came in: it says more and counts as full. Else prove '..UptoSaid'. A law counts once. -/
mutual
def uptoBulk {H : Type} : DataW H → Nat
  | .lit (.string bytes) => bytes.length + 1
  | .lit _ => 1
  | .nil => 1
  | .ptr d => uptoBulk d + 1
  | .slice elems spare => uptoBulkAll elems + uptoBulkAll spare + 1
  | .agg parts => uptoBulkAll parts + 1
  | .iface _ d => uptoBulk d + 1
  | .map entries => uptoBulkEntries entries + 1
  | .held _ => 1
def uptoBulkAll {H : Type} : List (DataW H) → Nat
  | [] => 0
  | d :: r => uptoBulk d + uptoBulkAll r
def uptoBulkEntries {H : Type} : List (Lit × DataW H) → Nat
  | [] => 0
  | x :: r => uptoBulkEntry x + uptoBulkEntries r
def uptoBulkEntry {H : Type} : Lit × DataW H → Nat
  | (.string bytes, d) => bytes.length + uptoBulk d + 1
  | (_, d) => uptoBulk d + 1
 end
def uptoSmall : (H : Type) → List (DataW H) → Bool := fun _ ds => decide (uptoBulkAll ds ≤ 1048576)
def OpenSpec.upto (s : _root_.Go.ChangeSpec) : _root_.Go.OpenSpec := { _root_.Go.OpenSpec.ofChange s with cond := some uptoSmall }

/-- 'tracerylaw9.RotAll', WHERE WHAT IT READS IS OF BULK AT MOST 1048576: true; the input reads as it did. -/
def rotAllUptoRow : OpenClaim := { program := "ytilohhkbelkmdaa", sum := "df27e49c5f0f4124090085c4316db40f4f29087c88c2573616f78e0e22e521d8", func := "tracery/tracerylaw9.RotAll", spec := "rotAll", apart := false, narrowed := true }
def RotAllUptoSaid : Prop := rotAllUptoRow.holds Try.pinned (OpenSpec.upto rotAllSpec)

/-- 'tracerylaw10.DualBack', WHERE WHAT IT READS IS OF BULK AT MOST 1048576: true; the input reads as it did. -/
def dualBackUptoRow : OpenClaim := { program := "ytilohhkbelkmdaa", sum := "df27e49c5f0f4124090085c4316db40f4f29087c88c2573616f78e0e22e521d8", func := "tracery/tracerylaw10.DualBack", spec := "dualBack", inPlace := ["slices.overlaps[int]"], apart := false, narrowed := true }
def DualBackUptoSaid : Prop := dualBackUptoRow.holds Try.pinned (OpenSpec.upto dualBackSpec)

/-- 'tracerylaw10.DualHops', WHERE WHAT IT READS IS OF BULK AT MOST 1048576: true; the input reads as it did. -/
def dualHopsUptoRow : OpenClaim := { program := "ytilohhkbelkmdaa", sum := "df27e49c5f0f4124090085c4316db40f4f29087c88c2573616f78e0e22e521d8", func := "tracery/tracerylaw10.DualHops", spec := "dualHops", inPlace := ["slices.overlaps[int]"], apart := false, narrowed := true }
def DualHopsUptoSaid : Prop := dualHopsUptoRow.holds Try.pinned (OpenSpec.upto dualHopsSpec)

/-- 'tracerylaw10.DualSplits', WHERE WHAT IT READS IS OF BULK AT MOST 1048576: true; the input reads as it did. -/
def dualSplitsUptoRow : OpenClaim := { program := "ytilohhkbelkmdaa", sum := "df27e49c5f0f4124090085c4316db40f4f29087c88c2573616f78e0e22e521d8", func := "tracery/tracerylaw10.DualSplits", spec := "dualSplits", inPlace := ["slices.overlaps[int]"], apart := false, narrowed := true }
def DualSplitsUptoSaid : Prop := dualSplitsUptoRow.holds Try.pinned (OpenSpec.upto dualSplitsSpec)

/-- 'tracerylaw10.DualLays', WHERE WHAT IT READS IS OF BULK AT MOST 1048576: true; the input reads as it did. -/
def dualLaysUptoRow : OpenClaim := { program := "ytilohhkbelkmdaa", sum := "df27e49c5f0f4124090085c4316db40f4f29087c88c2573616f78e0e22e521d8", func := "tracery/tracerylaw10.DualLays", spec := "dualLays", inPlace := ["slices.overlaps[int]"], apart := false, narrowed := true }
def DualLaysUptoSaid : Prop := dualLaysUptoRow.holds Try.pinned (OpenSpec.upto dualLaysSpec)

/-- 'tracerylaw10.DualTakes', WHERE WHAT IT READS IS OF BULK AT MOST 1048576: true; the input reads as it did. -/
def dualTakesUptoRow : OpenClaim := { program := "ytilohhkbelkmdaa", sum := "df27e49c5f0f4124090085c4316db40f4f29087c88c2573616f78e0e22e521d8", func := "tracery/tracerylaw10.DualTakes", spec := "dualTakes", inPlace := ["slices.overlaps[int]"], apart := false, narrowed := true }
def DualTakesUptoSaid : Prop := dualTakesUptoRow.holds Try.pinned (OpenSpec.upto dualTakesSpec)

/-- 'tracerylaw10.DualAll', WHERE WHAT IT READS IS OF BULK AT MOST 1048576: true; the input reads as it did. -/
def dualAllUptoRow : OpenClaim := { program := "ytilohhkbelkmdaa", sum := "df27e49c5f0f4124090085c4316db40f4f29087c88c2573616f78e0e22e521d8", func := "tracery/tracerylaw10.DualAll", spec := "dualAll", inPlace := ["slices.overlaps[int]"], apart := false, narrowed := true }
def DualAllUptoSaid : Prop := dualAllUptoRow.holds Try.pinned (OpenSpec.upto dualAllSpec)

end Rows
end Go.Proofs.Ytilohhkbelkmdaa
