/-
  No cell of these rows narrows 'for every input' (looked for: loops, veiled, ifaces, maps, wideKeys, modest, calm, conditions, laid).
  DERIVED. THE GIVEN ROWS OF THIS SEAT. 5 by the template 'for every input the law returns true; each argument reads behind the call as it read before'; 0 by the template 'total and deterministic' (their statements: YtmaclbnodbcniaaTotals.lean).
  GIVEN WITH THE SEED: the statements are not yours to turn. If you find one false, say at which input.
  Laid BY PROGRAM, IN A SANDBOX (cutbox-rows.mjs): the forced cells as the released guide's own fill.sh prints them over the translation 20829a1ac34b99e7… (all of the seat's roots in one cut). By AI agents, Wed Nov 11 2026. No macro, syntax, notation, axiom, sorry.
-/
import Derived.Test.YtmaclbnodbcniaaChecked
import GoSem.Claim
import GoSem.ClaimJoined
import GoSem.ClaimMapViews
import Derived.JoinedTies
import Derived.KernelRfl
namespace Go.Proofs.Ytmaclbnodbcniaa
/- THE CELL 'sum', in the pinned program and in every row, IS THE sha256 OF THE DUMP (.gsa) THAT YtmaclbnodbcniaaProg.lean LOADS. Nothing in Lean hashes anything: it is a label: what it is worth is what the hold of that sum in a sandbox is worth. -/
noncomputable def Try.pinned : Pinned := { name := "ytmaclbnodbcniaa", sum := "20829a1ac34b99e718231f83f31d3b4491294c562500378f1e6e6f89537a181b", checked := Try.checked }
namespace Rows
def none {H : Type} : Left H := { results := [], args := [] }

/-- 'tracerylaw25.FlowMin': WHATEVER THE INPUT: true; the input reads as it did. -/
def flowMinSpec : ChangeSpec := { name := "flowMin", fn := fun _ => fun
  | [d] => { results := [.lit (.bool true)], args := [d] }
  | _ => none }
def flowMinRow : OpenClaim := { program := "ytmaclbnodbcniaa", sum := "20829a1ac34b99e718231f83f31d3b4491294c562500378f1e6e6f89537a181b", func := "tracery/tracerylaw25.FlowMin", spec := "flowMin", unfollowed := true, recurses := true, apart := false }
def FlowMinSaid : Prop := flowMinRow.holds Try.pinned (OpenSpec.ofChange flowMinSpec)

/-- ITS FALSE NEIGHBOUR: 'it returns false'. Refute it at one input. -/
def flowMinWrong : ChangeSpec := { name := "flowMin", fn := fun _ => fun
  | [d] => { results := [.lit (.bool false)], args := [d] }
  | _ => none }
def FlowMinWrongFalsely : Prop := flowMinRow.holds Try.pinned (OpenSpec.ofChange flowMinWrong)

/-- 'tracerylaw25.FlowProves': WHATEVER THE INPUT: true; the input reads as it did. -/
def flowProvesSpec : ChangeSpec := { name := "flowProves", fn := fun _ => fun
  | [d1, d2] => { results := [.lit (.bool true)], args := [d1, d2] }
  | _ => none }
def flowProvesRow : OpenClaim := { program := "ytmaclbnodbcniaa", sum := "20829a1ac34b99e718231f83f31d3b4491294c562500378f1e6e6f89537a181b", func := "tracery/tracerylaw25.FlowProves", spec := "flowProves", unfollowed := true, recurses := true, apart := false }
def FlowProvesSaid : Prop := flowProvesRow.holds Try.pinned (OpenSpec.ofChange flowProvesSpec)

/-- ITS FALSE NEIGHBOUR: 'it returns false'. Refute it at one input. -/
def flowProvesWrong : ChangeSpec := { name := "flowProves", fn := fun _ => fun
  | [d1, d2] => { results := [.lit (.bool false)], args := [d1, d2] }
  | _ => none }
def FlowProvesWrongFalsely : Prop := flowProvesRow.holds Try.pinned (OpenSpec.ofChange flowProvesWrong)

/-- 'tracerylaw25.FlowLeast': WHATEVER THE INPUT: true; the input reads as it did. -/
def flowLeastSpec : ChangeSpec := { name := "flowLeast", fn := fun _ => fun
  | [d1, d2] => { results := [.lit (.bool true)], args := [d1, d2] }
  | _ => none }
def flowLeastRow : OpenClaim := { program := "ytmaclbnodbcniaa", sum := "20829a1ac34b99e718231f83f31d3b4491294c562500378f1e6e6f89537a181b", func := "tracery/tracerylaw25.FlowLeast", spec := "flowLeast", unfollowed := true, recurses := true, apart := false }
def FlowLeastSaid : Prop := flowLeastRow.holds Try.pinned (OpenSpec.ofChange flowLeastSpec)

/-- ITS FALSE NEIGHBOUR: 'it returns false'. Refute it at one input. -/
def flowLeastWrong : ChangeSpec := { name := "flowLeast", fn := fun _ => fun
  | [d1, d2] => { results := [.lit (.bool false)], args := [d1, d2] }
  | _ => none }
def FlowLeastWrongFalsely : Prop := flowLeastRow.holds Try.pinned (OpenSpec.ofChange flowLeastWrong)

/-- 'tracerylaw25.FlowScaled': WHATEVER THE INPUT: true; the input reads as it did. -/
def flowScaledSpec : ChangeSpec := { name := "flowScaled", fn := fun _ => fun
  | [d1, d2, d3] => { results := [.lit (.bool true)], args := [d1, d2, d3] }
  | _ => none }
def flowScaledRow : OpenClaim := { program := "ytmaclbnodbcniaa", sum := "20829a1ac34b99e718231f83f31d3b4491294c562500378f1e6e6f89537a181b", func := "tracery/tracerylaw25.FlowScaled", spec := "flowScaled", unfollowed := true, recurses := true, apart := false }
def FlowScaledSaid : Prop := flowScaledRow.holds Try.pinned (OpenSpec.ofChange flowScaledSpec)

/-- ITS FALSE NEIGHBOUR: 'it returns false'. Refute it at one input. -/
def flowScaledWrong : ChangeSpec := { name := "flowScaled", fn := fun _ => fun
  | [d1, d2, d3] => { results := [.lit (.bool false)], args := [d1, d2, d3] }
  | _ => none }
def FlowScaledWrongFalsely : Prop := flowScaledRow.holds Try.pinned (OpenSpec.ofChange flowScaledWrong)

/-- 'tracerylaw25.FlowWider': WHATEVER THE INPUT: true; the input reads as it did. -/
def flowWiderSpec : ChangeSpec := { name := "flowWider", fn := fun _ => fun
  | [d1, d2, d3] => { results := [.lit (.bool true)], args := [d1, d2, d3] }
  | _ => none }
def flowWiderRow : OpenClaim := { program := "ytmaclbnodbcniaa", sum := "20829a1ac34b99e718231f83f31d3b4491294c562500378f1e6e6f89537a181b", func := "tracery/tracerylaw25.FlowWider", spec := "flowWider", unfollowed := true, recurses := true, apart := false }
def FlowWiderSaid : Prop := flowWiderRow.holds Try.pinned (OpenSpec.ofChange flowWiderSpec)

/-- ITS FALSE NEIGHBOUR: 'it returns false'. Refute it at one input. -/
def flowWiderWrong : ChangeSpec := { name := "flowWider", fn := fun _ => fun
  | [d1, d2, d3] => { results := [.lit (.bool false)], args := [d1, d2, d3] }
  | _ => none }
def FlowWiderWrongFalsely : Prop := flowWiderRow.holds Try.pinned (OpenSpec.ofChange flowWiderWrong)

/- THE SECOND FORM. 'bulk': how many values and letters a reading holds, each counted each time it is reached (what is shared counts as often as it is met; a slice's spare places count too). A statement '..UptoSaid' is the law's where the arguments, and the package variables that the reading takes, are together of bulk at most 1048576: NARROWER than '..Said'. Prove '..Said' where nothing that the law and all that it calls make is longer than what came in: it says more and counts as full. Else prove '..UptoSaid'. A law counts once. -/
mutual
def uptoBulk {H : Type} : DataW H → Nat
  | .lit (.string bytes) => bytes.length + 1
  | .lit _ => 1
  | .nil => 1
  | .ptr d => uptoBulk d + 1
  | .slice elems spare => uptoBulkAll elems + uptoBulkAll spare + 1
  | .agg parts => uptoBulkAll parts + 1
  | .iface _ d => uptoBulk d + 1
  | .map entries => uptoBulkEntries entries + 1
  | .held _ => 1
def uptoBulkAll {H : Type} : List (DataW H) → Nat
  | [] => 0
  | d :: r => uptoBulk d + uptoBulkAll r
def uptoBulkEntries {H : Type} : List (Lit × DataW H) → Nat
  | [] => 0
  | x :: r => uptoBulkEntry x + uptoBulkEntries r
def uptoBulkEntry {H : Type} : Lit × DataW H → Nat
  | (.string bytes, d) => bytes.length + uptoBulk d + 1
  | (_, d) => uptoBulk d + 1
 end
def uptoSmall : (H : Type) → List (DataW H) → Bool := fun _ ds => decide (uptoBulkAll ds ≤ 1048576)
def OpenSpec.upto (s : _root_.Go.ChangeSpec) : _root_.Go.OpenSpec := { _root_.Go.OpenSpec.ofChange s with cond := some uptoSmall }

/-- 'tracerylaw25.FlowMin', WHERE WHAT IT READS IS OF BULK AT MOST 1048576: true; the input reads as it did. -/
def flowMinUptoRow : OpenClaim := { program := "ytmaclbnodbcniaa", sum := "20829a1ac34b99e718231f83f31d3b4491294c562500378f1e6e6f89537a181b", func := "tracery/tracerylaw25.FlowMin", spec := "flowMin", unfollowed := true, recurses := true, apart := false, narrowed := true }
def FlowMinUptoSaid : Prop := flowMinUptoRow.holds Try.pinned (OpenSpec.upto flowMinSpec)

/-- 'tracerylaw25.FlowProves', WHERE WHAT IT READS IS OF BULK AT MOST 1048576: true; the input reads as it did. -/
def flowProvesUptoRow : OpenClaim := { program := "ytmaclbnodbcniaa", sum := "20829a1ac34b99e718231f83f31d3b4491294c562500378f1e6e6f89537a181b", func := "tracery/tracerylaw25.FlowProves", spec := "flowProves", unfollowed := true, recurses := true, apart := false, narrowed := true }
def FlowProvesUptoSaid : Prop := flowProvesUptoRow.holds Try.pinned (OpenSpec.upto flowProvesSpec)

/-- 'tracerylaw25.FlowLeast', WHERE WHAT IT READS IS OF BULK AT MOST 1048576: true; the input reads as it did. -/
def flowLeastUptoRow : OpenClaim := { program := "ytmaclbnodbcniaa", sum := "20829a1ac34b99e718231f83f31d3b4491294c562500378f1e6e6f89537a181b", func := "tracery/tracerylaw25.FlowLeast", spec := "flowLeast", unfollowed := true, recurses := true, apart := false, narrowed := true }
def FlowLeastUptoSaid : Prop := flowLeastUptoRow.holds Try.pinned (OpenSpec.upto flowLeastSpec)

/-- 'tracerylaw25.FlowScaled', WHERE WHAT IT READS IS OF BULK AT MOST 1048576: true; the input reads as it did. -/
def flowScaledUptoRow : OpenClaim := { program := "ytmaclbnodbcniaa", sum := "20829a1ac34b99e718231f83f31d3b4491294c562500378f1e6e6f89537a181b", func := "tracery/tracerylaw25.FlowScaled", spec := "flowScaled", unfollowed := true, recurses := true, apart := false, narrowed := true }
def FlowScaledUptoSaid : Prop := flowScaledUptoRow.holds Try.pinned (OpenSpec.upto flowScaledSpec)

/-- 'tracerylaw25.FlowWider', WHERE WHAT IT READS IS OF BULK AT MOST 1048576: true; the input reads as it did. -/
def flowWiderUptoRow : OpenClaim := { program := "ytmaclbnodbcniaa", sum := "20829a1ac34b99e718231f83f31d3b4491294c562500378f1e6e6f89537a181b", func := "tracery/tracerylaw25.FlowWider", spec := "flowWider", unfollowed := true, recurses := true, apart := false, narrowed := true }
def FlowWiderUptoSaid : Prop := flowWiderUptoRow.holds Try.pinned (OpenSpec.upto flowWiderSpec)

end Rows
end Go.Proofs.Ytmaclbnodbcniaa
