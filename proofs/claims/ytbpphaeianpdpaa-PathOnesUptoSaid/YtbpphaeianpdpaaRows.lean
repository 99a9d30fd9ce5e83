/-
  No cell of these rows narrows 'for every input' (looked for: loops, veiled, ifaces, maps, wideKeys, modest, calm, conditions, laid).
  DERIVED. THE GIVEN ROWS OF THIS SEAT. 6 by the template 'for every input the law returns true; each argument reads behind the call as it read before'; 0 by the template 'total and deterministic' (their statements: YtbpphaeianpdpaaTotals.lean).
  GIVEN WITH THE SEED: the statements are not yours to turn. If you find one false, say at which input.
  Laid BY PROGRAM, IN A SANDBOX (cutbox-rows.mjs): the forced cells as the released guide's own fill.sh prints them over the translation 5bfc1f00b401efc6… (all of the seat's roots in one cut). By AI agents, Wed Nov 11 2026. No macro, syntax, notation, axiom, sorry.
-/
import Derived.Test.YtbpphaeianpdpaaChecked
import GoSem.Claim
import GoSem.ClaimJoined
import GoSem.ClaimMapViews
import Derived.JoinedTies
import Derived.KernelRfl
namespace Go.Proofs.Ytbpphaeianpdpaa
/- THE CELL 'sum', in the pinned program and in every row, IS THE sha256 OF THE DUMP (.gsa) THAT YtbpphaeianpdpaaProg.lean LOADS. Nothing in Lean hashes anything: it is a label: what it is worth is what the hold of that sum in a sandbox is worth. -/
noncomputable def Try.pinned : Pinned := { name := "ytbpphaeianpdpaa", sum := "5bfc1f00b401efc6b064223ce2abe39e730a2cfa3c9b678c351235e0bc2f9d02", checked := Try.checked }
namespace Rows
def none {H : Type} : Left H := { results := [], args := [] }

/-- 'tracerylaw7.PathAll': WHATEVER THE INPUT: true; the input reads as it did. -/
def pathAllSpec : ChangeSpec := { name := "pathAll", fn := fun _ => fun
  | [d1, d2, d3, d4] => { results := [.lit (.bool true)], args := [d1, d2, d3, d4] }
  | _ => none }
def pathAllRow : OpenClaim := { program := "ytbpphaeianpdpaa", sum := "5bfc1f00b401efc6b064223ce2abe39e730a2cfa3c9b678c351235e0bc2f9d02", func := "tracery/tracerylaw7.PathAll", spec := "pathAll", inPlace := ["math.Float64frombits", "math.Float64bits"], unfollowed := true, recurses := true, apart := false }
def PathAllSaid : Prop := pathAllRow.holds Try.pinned (OpenSpec.ofChange pathAllSpec)

/-- ITS FALSE NEIGHBOUR: 'it returns false'. Refute it at one input. -/
def pathAllWrong : ChangeSpec := { name := "pathAll", fn := fun _ => fun
  | [d1, d2, d3, d4] => { results := [.lit (.bool false)], args := [d1, d2, d3, d4] }
  | _ => none }
def PathAllWrongFalsely : Prop := pathAllRow.holds Try.pinned (OpenSpec.ofChange pathAllWrong)

/-- 'tracerylaw7.PathBack': WHATEVER THE INPUT: true; the input reads as it did. -/
def pathBackSpec : ChangeSpec := { name := "pathBack", fn := fun _ => fun
  | [d1, d2, d3, d4] => { results := [.lit (.bool true)], args := [d1, d2, d3, d4] }
  | _ => none }
def pathBackRow : OpenClaim := { program := "ytbpphaeianpdpaa", sum := "5bfc1f00b401efc6b064223ce2abe39e730a2cfa3c9b678c351235e0bc2f9d02", func := "tracery/tracerylaw7.PathBack", spec := "pathBack", inPlace := ["math.Float64frombits", "math.Float64bits"], unfollowed := true, recurses := true, apart := false }
def PathBackSaid : Prop := pathBackRow.holds Try.pinned (OpenSpec.ofChange pathBackSpec)

/-- ITS FALSE NEIGHBOUR: 'it returns false'. Refute it at one input. -/
def pathBackWrong : ChangeSpec := { name := "pathBack", fn := fun _ => fun
  | [d1, d2, d3, d4] => { results := [.lit (.bool false)], args := [d1, d2, d3, d4] }
  | _ => none }
def PathBackWrongFalsely : Prop := pathBackRow.holds Try.pinned (OpenSpec.ofChange pathBackWrong)

/-- 'tracerylaw7.PathLeast': WHATEVER THE INPUT: true; the input reads as it did. -/
def pathLeastSpec : ChangeSpec := { name := "pathLeast", fn := fun _ => fun
  | [d1, d2, d3] => { results := [.lit (.bool true)], args := [d1, d2, d3] }
  | _ => none }
def pathLeastRow : OpenClaim := { program := "ytbpphaeianpdpaa", sum := "5bfc1f00b401efc6b064223ce2abe39e730a2cfa3c9b678c351235e0bc2f9d02", func := "tracery/tracerylaw7.PathLeast", spec := "pathLeast", inPlace := ["math.Float64frombits", "math.Float64bits"], unfollowed := true, recurses := true, apart := false }
def PathLeastSaid : Prop := pathLeastRow.holds Try.pinned (OpenSpec.ofChange pathLeastSpec)

/-- ITS FALSE NEIGHBOUR: 'it returns false'. Refute it at one input. -/
def pathLeastWrong : ChangeSpec := { name := "pathLeast", fn := fun _ => fun
  | [d1, d2, d3] => { results := [.lit (.bool false)], args := [d1, d2, d3] }
  | _ => none }
def PathLeastWrongFalsely : Prop := pathLeastRow.holds Try.pinned (OpenSpec.ofChange pathLeastWrong)

/-- 'tracerylaw7.PathTrees': WHATEVER THE INPUT: true; the input reads as it did. -/
def pathTreesSpec : ChangeSpec := { name := "pathTrees", fn := fun _ => fun
  | [d1, d2] => { results := [.lit (.bool true)], args := [d1, d2] }
  | _ => none }
def pathTreesRow : OpenClaim := { program := "ytbpphaeianpdpaa", sum := "5bfc1f00b401efc6b064223ce2abe39e730a2cfa3c9b678c351235e0bc2f9d02", func := "tracery/tracerylaw7.PathTrees", spec := "pathTrees", inPlace := ["math.Float64frombits", "math.Float64bits"], unfollowed := true, recurses := true, apart := false }
def PathTreesSaid : Prop := pathTreesRow.holds Try.pinned (OpenSpec.ofChange pathTreesSpec)

/-- ITS FALSE NEIGHBOUR: 'it returns false'. Refute it at one input. -/
def pathTreesWrong : ChangeSpec := { name := "pathTrees", fn := fun _ => fun
  | [d1, d2] => { results := [.lit (.bool false)], args := [d1, d2] }
  | _ => none }
def PathTreesWrongFalsely : Prop := pathTreesRow.holds Try.pinned (OpenSpec.ofChange pathTreesWrong)

/-- 'tracerylaw7.PathTriangle': WHATEVER THE INPUT: true; the input reads as it did. -/
def pathTriangleSpec : ChangeSpec := { name := "pathTriangle", fn := fun _ => fun
  | [d1, d2, d3, d4] => { results := [.lit (.bool true)], args := [d1, d2, d3, d4] }
  | _ => none }
def pathTriangleRow : OpenClaim := { program := "ytbpphaeianpdpaa", sum := "5bfc1f00b401efc6b064223ce2abe39e730a2cfa3c9b678c351235e0bc2f9d02", func := "tracery/tracerylaw7.PathTriangle", spec := "pathTriangle", inPlace := ["math.Float64frombits", "math.Float64bits"], unfollowed := true, recurses := true, apart := false }
def PathTriangleSaid : Prop := pathTriangleRow.holds Try.pinned (OpenSpec.ofChange pathTriangleSpec)

/-- ITS FALSE NEIGHBOUR: 'it returns false'. Refute it at one input. -/
def pathTriangleWrong : ChangeSpec := { name := "pathTriangle", fn := fun _ => fun
  | [d1, d2, d3, d4] => { results := [.lit (.bool false)], args := [d1, d2, d3, d4] }
  | _ => none }
def PathTriangleWrongFalsely : Prop := pathTriangleRow.holds Try.pinned (OpenSpec.ofChange pathTriangleWrong)

/-- 'tracerylaw7.PathOnes': WHATEVER THE INPUT: true; the input reads as it did. -/
def pathOnesSpec : ChangeSpec := { name := "pathOnes", fn := fun _ => fun
  | [d1, d2, d3] => { results := [.lit (.bool true)], args := [d1, d2, d3] }
  | _ => none }
def pathOnesRow : OpenClaim := { program := "ytbpphaeianpdpaa", sum := "5bfc1f00b401efc6b064223ce2abe39e730a2cfa3c9b678c351235e0bc2f9d02", func := "tracery/tracerylaw7.PathOnes", spec := "pathOnes", inPlace := ["math.Float64frombits", "math.Float64bits"], unfollowed := true, recurses := true, apart := false }
def PathOnesSaid : Prop := pathOnesRow.holds Try.pinned (OpenSpec.ofChange pathOnesSpec)

/-- ITS FALSE NEIGHBOUR: 'it returns false'. Refute it at one input. -/
def pathOnesWrong : ChangeSpec := { name := "pathOnes", fn := fun _ => fun
  | [d1, d2, d3] => { results := [.lit (.bool false)], args := [d1, d2, d3] }
  | _ => none }
def PathOnesWrongFalsely : Prop := pathOnesRow.holds Try.pinned (OpenSpec.ofChange pathOnesWrong)

/- THE SECOND FORM. 'bulk': how many values and letters a reading holds, each counted each time it is reached (what is shared counts as often as it is met; a slice's spare places count too). A statement '..UptoSaid' is the law's where the arguments, and the package variables that the reading takes, are together of bulk at most 1048576: NARROWER than '..Said'. Prove '..Said' where nothing that the law and all that it calls make is longer than what came in: it says more and counts as full. Else prove '..UptoSaid'. A law counts once. -/
mutual
def uptoBulk {H : Type} : DataW H → Nat
  | .lit (.string bytes) => bytes.length + 1
  | .lit _ => 1
  | .nil => 1
  | .ptr d => uptoBulk d + 1
  | .slice elems spare => uptoBulkAll elems + uptoBulkAll spare + 1
  | .agg parts => uptoBulkAll parts + 1
  | .iface _ d => uptoBulk d + 1
  | .map entries => uptoBulkEntries entries + 1
  | .held _ => 1
def uptoBulkAll {H : Type} : List (DataW H) → Nat
  | [] => 0
  | d :: r => uptoBulk d + uptoBulkAll r
def uptoBulkEntries {H : Type} : List (Lit × DataW H) → Nat
  | [] => 0
  | x :: r => uptoBulkEntry x + uptoBulkEntries r
def uptoBulkEntry {H : Type} : Lit × DataW H → Nat
  | (.string bytes, d) => bytes.length + uptoBulk d + 1
  | (_, d) => uptoBulk d + 1
 end
def uptoSmall : (H : Type) → List (DataW H) → Bool := fun _ ds => decide (uptoBulkAll ds ≤ 1048576)
def OpenSpec.upto (s : _root_.Go.ChangeSpec) : _root_.Go.OpenSpec := { _root_.Go.OpenSpec.ofChange s with cond := some uptoSmall }

/-- 'tracerylaw7.PathAll', WHERE WHAT IT READS IS OF BULK AT MOST 1048576: true; the input reads as it did. -/
def pathAllUptoRow : OpenClaim := { program := "ytbpphaeianpdpaa", sum := "5bfc1f00b401efc6b064223ce2abe39e730a2cfa3c9b678c351235e0bc2f9d02", func := "tracery/tracerylaw7.PathAll", spec := "pathAll", inPlace := ["math.Float64frombits", "math.Float64bits"], unfollowed := true, recurses := true, apart := false, narrowed := true }
def PathAllUptoSaid : Prop := pathAllUptoRow.holds Try.pinned (OpenSpec.upto pathAllSpec)

/-- 'tracerylaw7.PathBack', WHERE WHAT IT READS IS OF BULK AT MOST 1048576: true; the input reads as it did. -/
def pathBackUptoRow : OpenClaim := { program := "ytbpphaeianpdpaa", sum := "5bfc1f00b401efc6b064223ce2abe39e730a2cfa3c9b678c351235e0bc2f9d02", func := "tracery/tracerylaw7.PathBack", spec := "pathBack", inPlace := ["math.Float64frombits", "math.Float64bits"], unfollowed := true, recurses := true, apart := false, narrowed := true }
def PathBackUptoSaid : Prop := pathBackUptoRow.holds Try.pinned (OpenSpec.upto pathBackSpec)

/-- 'tracerylaw7.PathLeast', WHERE WHAT IT READS IS OF BULK AT MOST 1048576: true; the input reads as it did. -/
def pathLeastUptoRow : OpenClaim := { program := "ytbpphaeianpdpaa", sum := "5bfc1f00b401efc6b064223ce2abe39e730a2cfa3c9b678c351235e0bc2f9d02", func := "tracery/tracerylaw7.PathLeast", spec := "pathLeast", inPlace := ["math.Float64frombits", "math.Float64bits"], unfollowed := true, recurses := true, apart := false, narrowed := true }
def PathLeastUptoSaid : Prop := pathLeastUptoRow.holds Try.pinned (OpenSpec.upto pathLeastSpec)

/-- 'tracerylaw7.PathTrees', WHERE WHAT IT READS IS OF BULK AT MOST 1048576: true; the input reads as it did. -/
def pathTreesUptoRow : OpenClaim := { program := "ytbpphaeianpdpaa", sum := "5bfc1f00b401efc6b064223ce2abe39e730a2cfa3c9b678c351235e0bc2f9d02", func := "tracery/tracerylaw7.PathTrees", spec := "pathTrees", inPlace := ["math.Float64frombits", "math.Float64bits"], unfollowed := true, recurses := true, apart := false, narrowed := true }
def PathTreesUptoSaid : Prop := pathTreesUptoRow.holds Try.pinned (OpenSpec.upto pathTreesSpec)

/-- 'tracerylaw7.PathTriangle', WHERE WHAT IT READS IS OF BULK AT MOST 1048576: true; the input reads as it did. -/
def pathTriangleUptoRow : OpenClaim := { program := "ytbpphaeianpdpaa", sum := "5bfc1f00b401efc6b064223ce2abe39e730a2cfa3c9b678c351235e0bc2f9d02", func := "tracery/tracerylaw7.PathTriangle", spec := "pathTriangle", inPlace := ["math.Float64frombits", "math.Float64bits"], unfollowed := true, recurses := true, apart := false, narrowed := true }
def PathTriangleUptoSaid : Prop := pathTriangleUptoRow.holds Try.pinned (OpenSpec.upto pathTriangleSpec)

/-- 'tracerylaw7.PathOnes', WHERE WHAT IT READS IS OF BULK AT MOST 1048576: true; the input reads as it did. -/
def pathOnesUptoRow : OpenClaim := { program := "ytbpphaeianpdpaa", sum := "5bfc1f00b401efc6b064223ce2abe39e730a2cfa3c9b678c351235e0bc2f9d02", func := "tracery/tracerylaw7.PathOnes", spec := "pathOnes", inPlace := ["math.Float64frombits", "math.Float64bits"], unfollowed := true, recurses := true, apart := false, narrowed := true }
def PathOnesUptoSaid : Prop := pathOnesUptoRow.holds Try.pinned (OpenSpec.upto pathOnesSpec)

end Rows
end Go.Proofs.Ytbpphaeianpdpaa
