/-
  No cell of these rows narrows 'for every input' (looked for: loops, veiled, ifaces, maps, wideKeys, modest, calm, conditions, laid).
  DERIVED. THE GIVEN ROWS OF THIS SEAT. 5 by the template 'for every input the law returns true; each argument reads behind the call as it read before'; 0 by the template 'total and deterministic' (their statements: YtbadiajeohbpcaaTotals.lean).
  GIVEN WITH THE SEED: the statements are not yours to turn. If you find one false, say at which input.
  Laid BY PROGRAM, IN A SANDBOX (cutbox-rows.mjs): the forced cells as the released guide's own fill.sh prints them over the translation 7af6dd509a8927e3… (all of the seat's roots in one cut). By AI agents, Wed Nov 11 2026. No macro, syntax, notation, axiom, sorry.
-/
import Derived.Test.YtbadiajeohbpcaaChecked
import GoSem.Claim
import GoSem.ClaimJoined
import GoSem.ClaimMapViews
import Derived.JoinedTies
import Derived.KernelRfl
namespace Go.Proofs.Ytbadiajeohbpcaa
/- THE CELL 'sum', in the pinned program and in every row, IS THE sha256 OF THE DUMP (.gsa) THAT YtbadiajeohbpcaaProg.lean LOADS. Nothing in Lean hashes anything: it is a label: what it is worth is what the hold of that sum in a sandbox is worth. -/
noncomputable def Try.pinned : Pinned := { name := "ytbadiajeohbpcaa", sum := "7af6dd509a8927e3c85250c7f375ab004b44acfc96b47b4367f7fc7a3f45f82d", checked := Try.checked }
namespace Rows
def none {H : Type} : Left H := { results := [], args := [] }

/-- 'tracerylaw11.JudgePlanar': WHATEVER THE INPUT: true; the input reads as it did. -/
def judgePlanarSpec : ChangeSpec := { name := "judgePlanar", fn := fun _ => fun
  | [d1, d2] => { results := [.lit (.bool true)], args := [d1, d2] }
  | _ => none }
def judgePlanarRow : OpenClaim := { program := "ytbadiajeohbpcaa", sum := "7af6dd509a8927e3c85250c7f375ab004b44acfc96b47b4367f7fc7a3f45f82d", func := "tracery/tracerylaw11.JudgePlanar", spec := "judgePlanar", unfollowed := true, recurses := true, plainKeys := false, apart := false }
def JudgePlanarSaid : Prop := judgePlanarRow.holds Try.pinned (OpenSpec.ofChange judgePlanarSpec)

/-- ITS FALSE NEIGHBOUR: 'it returns false'. Refute it at one input. -/
def judgePlanarWrong : ChangeSpec := { name := "judgePlanar", fn := fun _ => fun
  | [d1, d2] => { results := [.lit (.bool false)], args := [d1, d2] }
  | _ => none }
def JudgePlanarWrongFalsely : Prop := judgePlanarRow.holds Try.pinned (OpenSpec.ofChange judgePlanarWrong)

/-- 'tracerylaw11.JudgeMoved': WHATEVER THE INPUT: true; the input reads as it did. -/
def judgeMovedSpec : ChangeSpec := { name := "judgeMoved", fn := fun _ => fun
  | [d1, d2, d3, d4] => { results := [.lit (.bool true)], args := [d1, d2, d3, d4] }
  | _ => none }
def judgeMovedRow : OpenClaim := { program := "ytbadiajeohbpcaa", sum := "7af6dd509a8927e3c85250c7f375ab004b44acfc96b47b4367f7fc7a3f45f82d", func := "tracery/tracerylaw11.JudgeMoved", spec := "judgeMoved", unfollowed := true, recurses := true, plainKeys := false, apart := false }
def JudgeMovedSaid : Prop := judgeMovedRow.holds Try.pinned (OpenSpec.ofChange judgeMovedSpec)

/-- ITS FALSE NEIGHBOUR: 'it returns false'. Refute it at one input. -/
def judgeMovedWrong : ChangeSpec := { name := "judgeMoved", fn := fun _ => fun
  | [d1, d2, d3, d4] => { results := [.lit (.bool false)], args := [d1, d2, d3, d4] }
  | _ => none }
def JudgeMovedWrongFalsely : Prop := judgeMovedRow.holds Try.pinned (OpenSpec.ofChange judgeMovedWrong)

/-- 'tracerylaw11.JudgeStraight': WHATEVER THE INPUT: true; the input reads as it did. -/
def judgeStraightSpec : ChangeSpec := { name := "judgeStraight", fn := fun _ => fun
  | [d1, d2] => { results := [.lit (.bool true)], args := [d1, d2] }
  | _ => none }
def judgeStraightRow : OpenClaim := { program := "ytbadiajeohbpcaa", sum := "7af6dd509a8927e3c85250c7f375ab004b44acfc96b47b4367f7fc7a3f45f82d", func := "tracery/tracerylaw11.JudgeStraight", spec := "judgeStraight", unfollowed := true, recurses := true, plainKeys := false, apart := false }
def JudgeStraightSaid : Prop := judgeStraightRow.holds Try.pinned (OpenSpec.ofChange judgeStraightSpec)

/-- ITS FALSE NEIGHBOUR: 'it returns false'. Refute it at one input. -/
def judgeStraightWrong : ChangeSpec := { name := "judgeStraight", fn := fun _ => fun
  | [d1, d2] => { results := [.lit (.bool false)], args := [d1, d2] }
  | _ => none }
def JudgeStraightWrongFalsely : Prop := judgeStraightRow.holds Try.pinned (OpenSpec.ofChange judgeStraightWrong)

/-- 'tracerylaw11.JudgeTurned': WHATEVER THE INPUT: true; the input reads as it did. -/
def judgeTurnedSpec : ChangeSpec := { name := "judgeTurned", fn := fun _ => fun
  | [d1, d2] => { results := [.lit (.bool true)], args := [d1, d2] }
  | _ => none }
def judgeTurnedRow : OpenClaim := { program := "ytbadiajeohbpcaa", sum := "7af6dd509a8927e3c85250c7f375ab004b44acfc96b47b4367f7fc7a3f45f82d", func := "tracery/tracerylaw11.JudgeTurned", spec := "judgeTurned", unfollowed := true, recurses := true, plainKeys := false, apart := false }
def JudgeTurnedSaid : Prop := judgeTurnedRow.holds Try.pinned (OpenSpec.ofChange judgeTurnedSpec)

/-- ITS FALSE NEIGHBOUR: 'it returns false'. Refute it at one input. -/
def judgeTurnedWrong : ChangeSpec := { name := "judgeTurned", fn := fun _ => fun
  | [d1, d2] => { results := [.lit (.bool false)], args := [d1, d2] }
  | _ => none }
def JudgeTurnedWrongFalsely : Prop := judgeTurnedRow.holds Try.pinned (OpenSpec.ofChange judgeTurnedWrong)

/-- 'tracerylaw11.JudgeGrids': WHATEVER THE INPUT: true; the input reads as it did. -/
def judgeGridsSpec : ChangeSpec := { name := "judgeGrids", fn := fun _ => fun
  | [d1, d2, d3, d4] => { results := [.lit (.bool true)], args := [d1, d2, d3, d4] }
  | _ => none }
def judgeGridsRow : OpenClaim := { program := "ytbadiajeohbpcaa", sum := "7af6dd509a8927e3c85250c7f375ab004b44acfc96b47b4367f7fc7a3f45f82d", func := "tracery/tracerylaw11.JudgeGrids", spec := "judgeGrids", unfollowed := true, recurses := true, plainKeys := false, apart := false }
def JudgeGridsSaid : Prop := judgeGridsRow.holds Try.pinned (OpenSpec.ofChange judgeGridsSpec)

/-- ITS FALSE NEIGHBOUR: 'it returns false'. Refute it at one input. -/
def judgeGridsWrong : ChangeSpec := { name := "judgeGrids", fn := fun _ => fun
  | [d1, d2, d3, d4] => { results := [.lit (.bool false)], args := [d1, d2, d3, d4] }
  | _ => none }
def JudgeGridsWrongFalsely : Prop := judgeGridsRow.holds Try.pinned (OpenSpec.ofChange judgeGridsWrong)

/- THE SECOND FORM. 'bulk': how many values and letters a reading holds, each counted each time it is reached (what is shared counts as often as it is met; a slice's spare places count too). A statement '..UptoSaid' is the law's where the arguments, and the package variables that the reading takes, are together of bulk at most 1048576: NARROWER than '..Said'. Prove '..Said' where nothing that the law and all that it calls make is longer than what came in: it says more and counts as full. Else prove '..UptoSaid'. A law counts once. -/
mutual
def uptoBulk {H : Type} : DataW H → Nat
  | .lit (.string bytes) => bytes.length + 1
  | .lit _ => 1
  | .nil => 1
  | .ptr d => uptoBulk d + 1
  | .slice elems spare => uptoBulkAll elems + uptoBulkAll spare + 1
  | .agg parts => uptoBulkAll parts + 1
  | .iface _ d => uptoBulk d + 1
  | .map entries => uptoBulkEntries entries + 1
  | .held _ => 1
def uptoBulkAll {H : Type} : List (DataW H) → Nat
  | [] => 0
  | d :: r => uptoBulk d + uptoBulkAll r
def uptoBulkEntries {H : Type} : List (Lit × DataW H) → Nat
  | [] => 0
  | x :: r => uptoBulkEntry x + uptoBulkEntries r
def uptoBulkEntry {H : Type} : Lit × DataW H → Nat
  | (.string bytes, d) => bytes.length + uptoBulk d + 1
  | (_, d) => uptoBulk d + 1
 end
def uptoSmall : (H : Type) → List (DataW H) → Bool := fun _ ds => decide (uptoBulkAll ds ≤ 1048576)
def OpenSpec.upto (s : _root_.Go.ChangeSpec) : _root_.Go.OpenSpec := { _root_.Go.OpenSpec.ofChange s with cond := some uptoSmall }

/-- 'tracerylaw11.JudgePlanar', WHERE WHAT IT READS IS OF BULK AT MOST 1048576: true; the input reads as it did. -/
def judgePlanarUptoRow : OpenClaim := { program := "ytbadiajeohbpcaa", sum := "7af6dd509a8927e3c85250c7f375ab004b44acfc96b47b4367f7fc7a3f45f82d", func := "tracery/tracerylaw11.JudgePlanar", spec := "judgePlanar", unfollowed := true, recurses := true, plainKeys := false, apart := false, narrowed := true }
def JudgePlanarUptoSaid : Prop := judgePlanarUptoRow.holds Try.pinned (OpenSpec.upto judgePlanarSpec)

/-- 'tracerylaw11.JudgeMoved', WHERE WHAT IT READS IS OF BULK AT MOST 1048576: true; the input reads as it did. -/
def judgeMovedUptoRow : OpenClaim := { program := "ytbadiajeohbpcaa", sum := "7af6dd509a8927e3c85250c7f375ab004b44acfc96b47b4367f7fc7a3f45f82d", func := "tracery/tracerylaw11.JudgeMoved", spec := "judgeMoved", unfollowed := true, recurses := true, plainKeys := false, apart := false, narrowed := true }
def JudgeMovedUptoSaid : Prop := judgeMovedUptoRow.holds Try.pinned (OpenSpec.upto judgeMovedSpec)

/-- 'tracerylaw11.JudgeStraight', WHERE WHAT IT READS IS OF BULK AT MOST 1048576: true; the input reads as it did. -/
def judgeStraightUptoRow : OpenClaim := { program := "ytbadiajeohbpcaa", sum := "7af6dd509a8927e3c85250c7f375ab004b44acfc96b47b4367f7fc7a3f45f82d", func := "tracery/tracerylaw11.JudgeStraight", spec := "judgeStraight", unfollowed := true, recurses := true, plainKeys := false, apart := false, narrowed := true }
def JudgeStraightUptoSaid : Prop := judgeStraightUptoRow.holds Try.pinned (OpenSpec.upto judgeStraightSpec)

/-- 'tracerylaw11.JudgeTurned', WHERE WHAT IT READS IS OF BULK AT MOST 1048576: true; the input reads as it did. -/
def judgeTurnedUptoRow : OpenClaim := { program := "ytbadiajeohbpcaa", sum := "7af6dd509a8927e3c85250c7f375ab004b44acfc96b47b4367f7fc7a3f45f82d", func := "tracery/tracerylaw11.JudgeTurned", spec := "judgeTurned", unfollowed := true, recurses := true, plainKeys := false, apart := false, narrowed := true }
def JudgeTurnedUptoSaid : Prop := judgeTurnedUptoRow.holds Try.pinned (OpenSpec.upto judgeTurnedSpec)

/-- 'tracerylaw11.JudgeGrids', WHERE WHAT IT READS IS OF BULK AT MOST 1048576: true; the input reads as it did. -/
def judgeGridsUptoRow : OpenClaim := { program := "ytbadiajeohbpcaa", sum := "7af6dd509a8927e3c85250c7f375ab004b44acfc96b47b4367f7fc7a3f45f82d", func := "tracery/tracerylaw11.JudgeGrids", spec := "judgeGrids", unfollowed := true, recurses := true, plainKeys := false, apart := false, narrowed := true }
def JudgeGridsUptoSaid : Prop := judgeGridsUptoRow.holds Try.pinned (OpenSpec.upto judgeGridsSpec)

end Rows
end Go.Proofs.Ytbadiajeohbpcaa
