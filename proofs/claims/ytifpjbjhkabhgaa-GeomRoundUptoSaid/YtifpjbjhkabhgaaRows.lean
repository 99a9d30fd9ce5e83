/-
  No cell of these rows narrows 'for every input' (looked for: loops, veiled, ifaces, maps, wideKeys, modest, calm, conditions, laid).
  DERIVED. THE GIVEN ROWS OF THIS SEAT. 9 by the template 'for every input the law returns true; each argument reads behind the call as it read before'; 0 by the template 'total and deterministic' (their statements: YtifpjbjhkabhgaaTotals.lean).
  GIVEN WITH THE SEED: the statements are not yours to turn. If you find one false, say at which input.
  Laid BY PROGRAM, IN A SANDBOX (cutbox-rows.mjs): the forced cells as the released guide's own fill.sh prints them over the translation dd619ff615f1374e… (all of the seat's roots in one cut). By AI agents, Wed Nov 11 2026. No macro, syntax, notation, axiom, sorry.
-/
import Derived.Test.YtifpjbjhkabhgaaChecked
import GoSem.Claim
import GoSem.ClaimJoined
import GoSem.ClaimMapViews
import Derived.JoinedTies
import Derived.KernelRfl
namespace Go.Proofs.Ytifpjbjhkabhgaa
/- THE CELL 'sum', in the pinned program and in every row, IS THE sha256 OF THE DUMP (.gsa) THAT YtifpjbjhkabhgaaProg.lean LOADS. Nothing in Lean hashes anything: it is a label: what it is worth is what the hold of that sum in a sandbox is worth. -/
noncomputable def Try.pinned : Pinned := { name := "ytifpjbjhkabhgaa", sum := "dd619ff615f1374e3e30a89979f8341576f3dbe21cbe3aa431d12fcff346fcd1", checked := Try.checked }
namespace Rows
def none {H : Type} : Left H := { results := [], args := [] }

/-- 'tracerylaw2.GeomTurns': WHATEVER THE INPUT: true; the input reads as it did. -/
def geomTurnsSpec : ChangeSpec := { name := "geomTurns", fn := fun _ => fun
  | [d1, d2, d3, d4, d5] => { results := [.lit (.bool true)], args := [d1, d2, d3, d4, d5] }
  | _ => none }
def geomTurnsRow : OpenClaim := { program := "ytifpjbjhkabhgaa", sum := "dd619ff615f1374e3e30a89979f8341576f3dbe21cbe3aa431d12fcff346fcd1", func := "tracery/tracerylaw2.GeomTurns", spec := "geomTurns", unfollowed := true, recurses := true, apart := false }
def GeomTurnsSaid : Prop := geomTurnsRow.holds Try.pinned (OpenSpec.ofChange geomTurnsSpec)

/-- ITS FALSE NEIGHBOUR: 'it returns false'. Refute it at one input. -/
def geomTurnsWrong : ChangeSpec := { name := "geomTurns", fn := fun _ => fun
  | [d1, d2, d3, d4, d5] => { results := [.lit (.bool false)], args := [d1, d2, d3, d4, d5] }
  | _ => none }
def GeomTurnsWrongFalsely : Prop := geomTurnsRow.holds Try.pinned (OpenSpec.ofChange geomTurnsWrong)

/-- 'tracerylaw2.GeomAround': WHATEVER THE INPUT: true; the input reads as it did. -/
def geomAroundSpec : ChangeSpec := { name := "geomAround", fn := fun _ => fun
  | [d1, d2] => { results := [.lit (.bool true)], args := [d1, d2] }
  | _ => none }
def geomAroundRow : OpenClaim := { program := "ytifpjbjhkabhgaa", sum := "dd619ff615f1374e3e30a89979f8341576f3dbe21cbe3aa431d12fcff346fcd1", func := "tracery/tracerylaw2.GeomAround", spec := "geomAround", unfollowed := true, recurses := true, apart := false }
def GeomAroundSaid : Prop := geomAroundRow.holds Try.pinned (OpenSpec.ofChange geomAroundSpec)

/-- ITS FALSE NEIGHBOUR: 'it returns false'. Refute it at one input. -/
def geomAroundWrong : ChangeSpec := { name := "geomAround", fn := fun _ => fun
  | [d1, d2] => { results := [.lit (.bool false)], args := [d1, d2] }
  | _ => none }
def GeomAroundWrongFalsely : Prop := geomAroundRow.holds Try.pinned (OpenSpec.ofChange geomAroundWrong)

/-- 'tracerylaw2.GeomAreas': WHATEVER THE INPUT: true; the input reads as it did. -/
def geomAreasSpec : ChangeSpec := { name := "geomAreas", fn := fun _ => fun
  | [d1, d2] => { results := [.lit (.bool true)], args := [d1, d2] }
  | _ => none }
def geomAreasRow : OpenClaim := { program := "ytifpjbjhkabhgaa", sum := "dd619ff615f1374e3e30a89979f8341576f3dbe21cbe3aa431d12fcff346fcd1", func := "tracery/tracerylaw2.GeomAreas", spec := "geomAreas", unfollowed := true, recurses := true, apart := false }
def GeomAreasSaid : Prop := geomAreasRow.holds Try.pinned (OpenSpec.ofChange geomAreasSpec)

/-- ITS FALSE NEIGHBOUR: 'it returns false'. Refute it at one input. -/
def geomAreasWrong : ChangeSpec := { name := "geomAreas", fn := fun _ => fun
  | [d1, d2] => { results := [.lit (.bool false)], args := [d1, d2] }
  | _ => none }
def GeomAreasWrongFalsely : Prop := geomAreasRow.holds Try.pinned (OpenSpec.ofChange geomAreasWrong)

/-- 'tracerylaw2.GeomRound': WHATEVER THE INPUT: true; the input reads as it did. -/
def geomRoundSpec : ChangeSpec := { name := "geomRound", fn := fun _ => fun
  | [d1, d2] => { results := [.lit (.bool true)], args := [d1, d2] }
  | _ => none }
def geomRoundRow : OpenClaim := { program := "ytifpjbjhkabhgaa", sum := "dd619ff615f1374e3e30a89979f8341576f3dbe21cbe3aa431d12fcff346fcd1", func := "tracery/tracerylaw2.GeomRound", spec := "geomRound", unfollowed := true, recurses := true, apart := false }
def GeomRoundSaid : Prop := geomRoundRow.holds Try.pinned (OpenSpec.ofChange geomRoundSpec)

/-- ITS FALSE NEIGHBOUR: 'it returns false'. Refute it at one input. -/
def geomRoundWrong : ChangeSpec := { name := "geomRound", fn := fun _ => fun
  | [d1, d2] => { results := [.lit (.bool false)], args := [d1, d2] }
  | _ => none }
def GeomRoundWrongFalsely : Prop := geomRoundRow.holds Try.pinned (OpenSpec.ofChange geomRoundWrong)

/-- 'tracerylaw2.GeomFour': WHATEVER THE INPUT: true; the input reads as it did. -/
def geomFourSpec : ChangeSpec := { name := "geomFour", fn := fun _ => fun
  | [d1, d2, d3, d4] => { results := [.lit (.bool true)], args := [d1, d2, d3, d4] }
  | _ => none }
def geomFourRow : OpenClaim := { program := "ytifpjbjhkabhgaa", sum := "dd619ff615f1374e3e30a89979f8341576f3dbe21cbe3aa431d12fcff346fcd1", func := "tracery/tracerylaw2.GeomFour", spec := "geomFour", unfollowed := true, recurses := true, apart := false }
def GeomFourSaid : Prop := geomFourRow.holds Try.pinned (OpenSpec.ofChange geomFourSpec)

/-- ITS FALSE NEIGHBOUR: 'it returns false'. Refute it at one input. -/
def geomFourWrong : ChangeSpec := { name := "geomFour", fn := fun _ => fun
  | [d1, d2, d3, d4] => { results := [.lit (.bool false)], args := [d1, d2, d3, d4] }
  | _ => none }
def GeomFourWrongFalsely : Prop := geomFourRow.holds Try.pinned (OpenSpec.ofChange geomFourWrong)

/-- 'tracerylaw2.GeomMeets': WHATEVER THE INPUT: true; the input reads as it did. -/
def geomMeetsSpec : ChangeSpec := { name := "geomMeets", fn := fun _ => fun
  | [d1, d2, d3, d4] => { results := [.lit (.bool true)], args := [d1, d2, d3, d4] }
  | _ => none }
def geomMeetsRow : OpenClaim := { program := "ytifpjbjhkabhgaa", sum := "dd619ff615f1374e3e30a89979f8341576f3dbe21cbe3aa431d12fcff346fcd1", func := "tracery/tracerylaw2.GeomMeets", spec := "geomMeets", unfollowed := true, recurses := true, apart := false }
def GeomMeetsSaid : Prop := geomMeetsRow.holds Try.pinned (OpenSpec.ofChange geomMeetsSpec)

/-- ITS FALSE NEIGHBOUR: 'it returns false'. Refute it at one input. -/
def geomMeetsWrong : ChangeSpec := { name := "geomMeets", fn := fun _ => fun
  | [d1, d2, d3, d4] => { results := [.lit (.bool false)], args := [d1, d2, d3, d4] }
  | _ => none }
def GeomMeetsWrongFalsely : Prop := geomMeetsRow.holds Try.pinned (OpenSpec.ofChange geomMeetsWrong)

/-- 'tracerylaw2.GeomBoxes': WHATEVER THE INPUT: true; the input reads as it did. -/
def geomBoxesSpec : ChangeSpec := { name := "geomBoxes", fn := fun _ => fun
  | [d] => { results := [.lit (.bool true)], args := [d] }
  | _ => none }
def geomBoxesRow : OpenClaim := { program := "ytifpjbjhkabhgaa", sum := "dd619ff615f1374e3e30a89979f8341576f3dbe21cbe3aa431d12fcff346fcd1", func := "tracery/tracerylaw2.GeomBoxes", spec := "geomBoxes", unfollowed := true, recurses := true, apart := false }
def GeomBoxesSaid : Prop := geomBoxesRow.holds Try.pinned (OpenSpec.ofChange geomBoxesSpec)

/-- ITS FALSE NEIGHBOUR: 'it returns false'. Refute it at one input. -/
def geomBoxesWrong : ChangeSpec := { name := "geomBoxes", fn := fun _ => fun
  | [d] => { results := [.lit (.bool false)], args := [d] }
  | _ => none }
def GeomBoxesWrongFalsely : Prop := geomBoxesRow.holds Try.pinned (OpenSpec.ofChange geomBoxesWrong)

/-- 'tracerylaw2.GeomTurned': WHATEVER THE INPUT: true; the input reads as it did. -/
def geomTurnedSpec : ChangeSpec := { name := "geomTurned", fn := fun _ => fun
  | [d1, d2] => { results := [.lit (.bool true)], args := [d1, d2] }
  | _ => none }
def geomTurnedRow : OpenClaim := { program := "ytifpjbjhkabhgaa", sum := "dd619ff615f1374e3e30a89979f8341576f3dbe21cbe3aa431d12fcff346fcd1", func := "tracery/tracerylaw2.GeomTurned", spec := "geomTurned", unfollowed := true, recurses := true, apart := false }
def GeomTurnedSaid : Prop := geomTurnedRow.holds Try.pinned (OpenSpec.ofChange geomTurnedSpec)

/-- ITS FALSE NEIGHBOUR: 'it returns false'. Refute it at one input. -/
def geomTurnedWrong : ChangeSpec := { name := "geomTurned", fn := fun _ => fun
  | [d1, d2] => { results := [.lit (.bool false)], args := [d1, d2] }
  | _ => none }
def GeomTurnedWrongFalsely : Prop := geomTurnedRow.holds Try.pinned (OpenSpec.ofChange geomTurnedWrong)

/-- 'tracerylaw2.GeomLines': WHATEVER THE INPUT: true; the input reads as it did. -/
def geomLinesSpec : ChangeSpec := { name := "geomLines", fn := fun _ => fun
  | [d1, d2] => { results := [.lit (.bool true)], args := [d1, d2] }
  | _ => none }
def geomLinesRow : OpenClaim := { program := "ytifpjbjhkabhgaa", sum := "dd619ff615f1374e3e30a89979f8341576f3dbe21cbe3aa431d12fcff346fcd1", func := "tracery/tracerylaw2.GeomLines", spec := "geomLines", unfollowed := true, recurses := true, apart := false }
def GeomLinesSaid : Prop := geomLinesRow.holds Try.pinned (OpenSpec.ofChange geomLinesSpec)

/-- ITS FALSE NEIGHBOUR: 'it returns false'. Refute it at one input. -/
def geomLinesWrong : ChangeSpec := { name := "geomLines", fn := fun _ => fun
  | [d1, d2] => { results := [.lit (.bool false)], args := [d1, d2] }
  | _ => none }
def GeomLinesWrongFalsely : Prop := geomLinesRow.holds Try.pinned (OpenSpec.ofChange geomLinesWrong)

/- THE SECOND FORM. 'bulk': how many values and letters a reading holds, each counted each time it is reached (what is shared counts as often as it is met; a slice's spare places count too). A statement '..UptoSaid' is the law's where the arguments, and the package variables that the reading takes, are together of bulk at most 1048576: NARROWER than '..Said'. Prove '..Said' where nothing that the law and all that it calls make is longer than what came in: it says more and counts as full. Else prove '..UptoSaid'. A law counts once. -/
mutual
def uptoBulk {H : Type} : DataW H → Nat
  | .lit (.string bytes) => bytes.length + 1
  | .lit _ => 1
  | .nil => 1
  | .ptr d => uptoBulk d + 1
  | .slice elems spare => uptoBulkAll elems + uptoBulkAll spare + 1
  | .agg parts => uptoBulkAll parts + 1
  | .iface _ d => uptoBulk d + 1
  | .map entries => uptoBulkEntries entries + 1
  | .held _ => 1
def uptoBulkAll {H : Type} : List (DataW H) → Nat
  | [] => 0
  | d :: r => uptoBulk d + uptoBulkAll r
def uptoBulkEntries {H : Type} : List (Lit × DataW H) → Nat
  | [] => 0
  | x :: r => uptoBulkEntry x + uptoBulkEntries r
def uptoBulkEntry {H : Type} : Lit × DataW H → Nat
  | (.string bytes, d) => bytes.length + uptoBulk d + 1
  | (_, d) => uptoBulk d + 1
 end
def uptoSmall : (H : Type) → List (DataW H) → Bool := fun _ ds => decide (uptoBulkAll ds ≤ 1048576)
def OpenSpec.upto (s : _root_.Go.ChangeSpec) : _root_.Go.OpenSpec := { _root_.Go.OpenSpec.ofChange s with cond := some uptoSmall }

/-- 'tracerylaw2.GeomTurns', WHERE WHAT IT READS IS OF BULK AT MOST 1048576: true; the input reads as it did. -/
def geomTurnsUptoRow : OpenClaim := { program := "ytifpjbjhkabhgaa", sum := "dd619ff615f1374e3e30a89979f8341576f3dbe21cbe3aa431d12fcff346fcd1", func := "tracery/tracerylaw2.GeomTurns", spec := "geomTurns", unfollowed := true, recurses := true, apart := false, narrowed := true }
def GeomTurnsUptoSaid : Prop := geomTurnsUptoRow.holds Try.pinned (OpenSpec.upto geomTurnsSpec)

/-- 'tracerylaw2.GeomAround', WHERE WHAT IT READS IS OF BULK AT MOST 1048576: true; the input reads as it did. -/
def geomAroundUptoRow : OpenClaim := { program := "ytifpjbjhkabhgaa", sum := "dd619ff615f1374e3e30a89979f8341576f3dbe21cbe3aa431d12fcff346fcd1", func := "tracery/tracerylaw2.GeomAround", spec := "geomAround", unfollowed := true, recurses := true, apart := false, narrowed := true }
def GeomAroundUptoSaid : Prop := geomAroundUptoRow.holds Try.pinned (OpenSpec.upto geomAroundSpec)

/-- 'tracerylaw2.GeomAreas', WHERE WHAT IT READS IS OF BULK AT MOST 1048576: true; the input reads as it did. -/
def geomAreasUptoRow : OpenClaim := { program := "ytifpjbjhkabhgaa", sum := "dd619ff615f1374e3e30a89979f8341576f3dbe21cbe3aa431d12fcff346fcd1", func := "tracery/tracerylaw2.GeomAreas", spec := "geomAreas", unfollowed := true, recurses := true, apart := false, narrowed := true }
def GeomAreasUptoSaid : Prop := geomAreasUptoRow.holds Try.pinned (OpenSpec.upto geomAreasSpec)

/-- 'tracerylaw2.GeomRound', WHERE WHAT IT READS IS OF BULK AT MOST 1048576: true; the input reads as it did. -/
def geomRoundUptoRow : OpenClaim := { program := "ytifpjbjhkabhgaa", sum := "dd619ff615f1374e3e30a89979f8341576f3dbe21cbe3aa431d12fcff346fcd1", func := "tracery/tracerylaw2.GeomRound", spec := "geomRound", unfollowed := true, recurses := true, apart := false, narrowed := true }
def GeomRoundUptoSaid : Prop := geomRoundUptoRow.holds Try.pinned (OpenSpec.upto geomRoundSpec)

/-- 'tracerylaw2.GeomFour', WHERE WHAT IT READS IS OF BULK AT MOST 1048576: true; the input reads as it did. -/
def geomFourUptoRow : OpenClaim := { program := "ytifpjbjhkabhgaa", sum := "dd619ff615f1374e3e30a89979f8341576f3dbe21cbe3aa431d12fcff346fcd1", func := "tracery/tracerylaw2.GeomFour", spec := "geomFour", unfollowed := true, recurses := true, apart := false, narrowed := true }
def GeomFourUptoSaid : Prop := geomFourUptoRow.holds Try.pinned (OpenSpec.upto geomFourSpec)

/-- 'tracerylaw2.GeomMeets', WHERE WHAT IT READS IS OF BULK AT MOST 1048576: true; the input reads as it did. -/
def geomMeetsUptoRow : OpenClaim := { program := "ytifpjbjhkabhgaa", sum := "dd619ff615f1374e3e30a89979f8341576f3dbe21cbe3aa431d12fcff346fcd1", func := "tracery/tracerylaw2.GeomMeets", spec := "geomMeets", unfollowed := true, recurses := true, apart := false, narrowed := true }
def GeomMeetsUptoSaid : Prop := geomMeetsUptoRow.holds Try.pinned (OpenSpec.upto geomMeetsSpec)

/-- 'tracerylaw2.GeomBoxes', WHERE WHAT IT READS IS OF BULK AT MOST 1048576: true; the input reads as it did. -/
def geomBoxesUptoRow : OpenClaim := { program := "ytifpjbjhkabhgaa", sum := "dd619ff615f1374e3e30a89979f8341576f3dbe21cbe3aa431d12fcff346fcd1", func := "tracery/tracerylaw2.GeomBoxes", spec := "geomBoxes", unfollowed := true, recurses := true, apart := false, narrowed := true }
def GeomBoxesUptoSaid : Prop := geomBoxesUptoRow.holds Try.pinned (OpenSpec.upto geomBoxesSpec)

/-- 'tracerylaw2.GeomTurned', WHERE WHAT IT READS IS OF BULK AT MOST 1048576: true; the input reads as it did. -/
def geomTurnedUptoRow : OpenClaim := { program := "ytifpjbjhkabhgaa", sum := "dd619ff615f1374e3e30a89979f8341576f3dbe21cbe3aa431d12fcff346fcd1", func := "tracery/tracerylaw2.GeomTurned", spec := "geomTurned", unfollowed := true, recurses := true, apart := false, narrowed := true }
def GeomTurnedUptoSaid : Prop := geomTurnedUptoRow.holds Try.pinned (OpenSpec.upto geomTurnedSpec)

/-- 'tracerylaw2.GeomLines', WHERE WHAT IT READS IS OF BULK AT MOST 1048576: true; the input reads as it did. -/
def geomLinesUptoRow : OpenClaim := { program := "ytifpjbjhkabhgaa", sum := "dd619ff615f1374e3e30a89979f8341576f3dbe21cbe3aa431d12fcff346fcd1", func := "tracery/tracerylaw2.GeomLines", spec := "geomLines", unfollowed := true, recurses := true, apart := false, narrowed := true }
def GeomLinesUptoSaid : Prop := geomLinesUptoRow.holds Try.pinned (OpenSpec.upto geomLinesSpec)

end Rows
end Go.Proofs.Ytifpjbjhkabhgaa
