/-
  No cell of these rows narrows 'for every input' (looked for: loops, veiled, ifaces, maps, wideKeys, modest, calm, conditions, laid).
  DERIVED. THE GIVEN ROWS OF THIS SEAT. 5 by the template 'for every input the law returns true; each argument reads behind the call as it read before'; 0 by the template 'total and deterministic' (their statements: YtklfjhklnlpdgaaTotals.lean).
  GIVEN WITH THE SEED: the statements are not yours to turn. If you find one false, say at which input.
  Laid BY PROGRAM, IN A SANDBOX (cutbox-rows.mjs): the forced cells as the released guide's own fill.sh prints them over the translation afba3bbb639a9ac9… (all of the seat's roots in one cut). By AI agents, Wed Nov 11 2026. No macro, syntax, notation, axiom, sorry.
-/
import Derived.Test.YtklfjhklnlpdgaaChecked
import GoSem.Claim
import GoSem.ClaimJoined
import GoSem.ClaimMapViews
import Derived.JoinedTies
import Derived.KernelRfl
namespace Go.Proofs.Ytklfjhklnlpdgaa
/- THE CELL 'sum', in the pinned program and in every row, IS THE sha256 OF THE DUMP (.gsa) THAT YtklfjhklnlpdgaaProg.lean LOADS. Nothing in Lean hashes anything: it is a label: what it is worth is what the hold of that sum in a sandbox is worth. -/
noncomputable def Try.pinned : Pinned := { name := "ytklfjhklnlpdgaa", sum := "afba3bbb639a9ac9f97639c1c77cb7e1cda0e8f709a00f3bd8a7f5d71404e560", checked := Try.checked }
namespace Rows
def none {H : Type} : Left H := { results := [], args := [] }

/-- 'tracerylaw3.NetParts': WHATEVER THE INPUT: true; the input reads as it did. -/
def netPartsSpec : ChangeSpec := { name := "netParts", fn := fun _ => fun
  | [d1, d2, d3, d4, d5] => { results := [.lit (.bool true)], args := [d1, d2, d3, d4, d5] }
  | _ => none }
def netPartsRow : OpenClaim := { program := "ytklfjhklnlpdgaa", sum := "afba3bbb639a9ac9f97639c1c77cb7e1cda0e8f709a00f3bd8a7f5d71404e560", func := "tracery/tracerylaw3.NetParts", spec := "netParts", plainKeys := false, apart := false }
def NetPartsSaid : Prop := netPartsRow.holds Try.pinned (OpenSpec.ofChange netPartsSpec)

/-- ITS FALSE NEIGHBOUR: 'it returns false'. Refute it at one input. -/
def netPartsWrong : ChangeSpec := { name := "netParts", fn := fun _ => fun
  | [d1, d2, d3, d4, d5] => { results := [.lit (.bool false)], args := [d1, d2, d3, d4, d5] }
  | _ => none }
def NetPartsWrongFalsely : Prop := netPartsRow.holds Try.pinned (OpenSpec.ofChange netPartsWrong)

/-- 'tracerylaw3.NetTwo': WHATEVER THE INPUT: true; the input reads as it did. -/
def netTwoSpec : ChangeSpec := { name := "netTwo", fn := fun _ => fun
  | [d1, d2, d3] => { results := [.lit (.bool true)], args := [d1, d2, d3] }
  | _ => none }
def netTwoRow : OpenClaim := { program := "ytklfjhklnlpdgaa", sum := "afba3bbb639a9ac9f97639c1c77cb7e1cda0e8f709a00f3bd8a7f5d71404e560", func := "tracery/tracerylaw3.NetTwo", spec := "netTwo", plainKeys := false, apart := false }
def NetTwoSaid : Prop := netTwoRow.holds Try.pinned (OpenSpec.ofChange netTwoSpec)

/-- ITS FALSE NEIGHBOUR: 'it returns false'. Refute it at one input. -/
def netTwoWrong : ChangeSpec := { name := "netTwo", fn := fun _ => fun
  | [d1, d2, d3] => { results := [.lit (.bool false)], args := [d1, d2, d3] }
  | _ => none }
def NetTwoWrongFalsely : Prop := netTwoRow.holds Try.pinned (OpenSpec.ofChange netTwoWrong)

/-- 'tracerylaw3.NetSums': WHATEVER THE INPUT: true; the input reads as it did. -/
def netSumsSpec : ChangeSpec := { name := "netSums", fn := fun _ => fun
  | [d1, d2] => { results := [.lit (.bool true)], args := [d1, d2] }
  | _ => none }
def netSumsRow : OpenClaim := { program := "ytklfjhklnlpdgaa", sum := "afba3bbb639a9ac9f97639c1c77cb7e1cda0e8f709a00f3bd8a7f5d71404e560", func := "tracery/tracerylaw3.NetSums", spec := "netSums", plainKeys := false, apart := false }
def NetSumsSaid : Prop := netSumsRow.holds Try.pinned (OpenSpec.ofChange netSumsSpec)

/-- ITS FALSE NEIGHBOUR: 'it returns false'. Refute it at one input. -/
def netSumsWrong : ChangeSpec := { name := "netSums", fn := fun _ => fun
  | [d1, d2] => { results := [.lit (.bool false)], args := [d1, d2] }
  | _ => none }
def NetSumsWrongFalsely : Prop := netSumsRow.holds Try.pinned (OpenSpec.ofChange netSumsWrong)

/-- 'tracerylaw3.NetChanges': WHATEVER THE INPUT: true; the input reads as it did. -/
def netChangesSpec : ChangeSpec := { name := "netChanges", fn := fun _ => fun
  | [d1, d2, d3, d4] => { results := [.lit (.bool true)], args := [d1, d2, d3, d4] }
  | _ => none }
def netChangesRow : OpenClaim := { program := "ytklfjhklnlpdgaa", sum := "afba3bbb639a9ac9f97639c1c77cb7e1cda0e8f709a00f3bd8a7f5d71404e560", func := "tracery/tracerylaw3.NetChanges", spec := "netChanges", plainKeys := false, apart := false }
def NetChangesSaid : Prop := netChangesRow.holds Try.pinned (OpenSpec.ofChange netChangesSpec)

/-- ITS FALSE NEIGHBOUR: 'it returns false'. Refute it at one input. -/
def netChangesWrong : ChangeSpec := { name := "netChanges", fn := fun _ => fun
  | [d1, d2, d3, d4] => { results := [.lit (.bool false)], args := [d1, d2, d3, d4] }
  | _ => none }
def NetChangesWrongFalsely : Prop := netChangesRow.holds Try.pinned (OpenSpec.ofChange netChangesWrong)

/-- 'tracerylaw3.NetAll': WHATEVER THE INPUT: true; the input reads as it did. -/
def netAllSpec : ChangeSpec := { name := "netAll", fn := fun _ => fun
  | [d1, d2, d3, d4, d5] => { results := [.lit (.bool true)], args := [d1, d2, d3, d4, d5] }
  | _ => none }
def netAllRow : OpenClaim := { program := "ytklfjhklnlpdgaa", sum := "afba3bbb639a9ac9f97639c1c77cb7e1cda0e8f709a00f3bd8a7f5d71404e560", func := "tracery/tracerylaw3.NetAll", spec := "netAll", plainKeys := false, apart := false }
def NetAllSaid : Prop := netAllRow.holds Try.pinned (OpenSpec.ofChange netAllSpec)

/-- ITS FALSE NEIGHBOUR: 'it returns false'. Refute it at one input. -/
def netAllWrong : ChangeSpec := { name := "netAll", fn := fun _ => fun
  | [d1, d2, d3, d4, d5] => { results := [.lit (.bool false)], args := [d1, d2, d3, d4, d5] }
  | _ => none }
def NetAllWrongFalsely : Prop := netAllRow.holds Try.pinned (OpenSpec.ofChange netAllWrong)

/- THE SECOND FORM. 'bulk': how many values and letters a reading holds, each counted each time it is reached (what is shared counts as often as it is met; a slice's spare places count too). A statement '..UptoSaid' is the law's where the arguments, and the package variables that the reading takes, are together of bulk at most 1048576: NARROWER than '..Said'. Prove '..Said' where nothing that the law and all that it calls make is longer than what came in: it says more and counts as full. Else prove '..UptoSaid'. A law counts once. -/
mutual
def uptoBulk {H : Type} : DataW H → Nat
  | .lit (.string bytes) => bytes.length + 1
  | .lit _ => 1
  | .nil => 1
  | .ptr d => uptoBulk d + 1
  | .slice elems spare => uptoBulkAll elems + uptoBulkAll spare + 1
  | .agg parts => uptoBulkAll parts + 1
  | .iface _ d => uptoBulk d + 1
  | .map entries => uptoBulkEntries entries + 1
  | .held _ => 1
def uptoBulkAll {H : Type} : List (DataW H) → Nat
  | [] => 0
  | d :: r => uptoBulk d + uptoBulkAll r
def uptoBulkEntries {H : Type} : List (Lit × DataW H) → Nat
  | [] => 0
  | x :: r => uptoBulkEntry x + uptoBulkEntries r
def uptoBulkEntry {H : Type} : Lit × DataW H → Nat
  | (.string bytes, d) => bytes.length + uptoBulk d + 1
  | (_, d) => uptoBulk d + 1
 end
def uptoSmall : (H : Type) → List (DataW H) → Bool := fun _ ds => decide (uptoBulkAll ds ≤ 1048576)
def OpenSpec.upto (s : _root_.Go.ChangeSpec) : _root_.Go.OpenSpec := { _root_.Go.OpenSpec.ofChange s with cond := some uptoSmall }

/-- 'tracerylaw3.NetParts', WHERE WHAT IT READS IS OF BULK AT MOST 1048576: true; the input reads as it did. -/
def netPartsUptoRow : OpenClaim := { program := "ytklfjhklnlpdgaa", sum := "afba3bbb639a9ac9f97639c1c77cb7e1cda0e8f709a00f3bd8a7f5d71404e560", func := "tracery/tracerylaw3.NetParts", spec := "netParts", plainKeys := false, apart := false, narrowed := true }
def NetPartsUptoSaid : Prop := netPartsUptoRow.holds Try.pinned (OpenSpec.upto netPartsSpec)

/-- 'tracerylaw3.NetTwo', WHERE WHAT IT READS IS OF BULK AT MOST 1048576: true; the input reads as it did. -/
def netTwoUptoRow : OpenClaim := { program := "ytklfjhklnlpdgaa", sum := "afba3bbb639a9ac9f97639c1c77cb7e1cda0e8f709a00f3bd8a7f5d71404e560", func := "tracery/tracerylaw3.NetTwo", spec := "netTwo", plainKeys := false, apart := false, narrowed := true }
def NetTwoUptoSaid : Prop := netTwoUptoRow.holds Try.pinned (OpenSpec.upto netTwoSpec)

/-- 'tracerylaw3.NetSums', WHERE WHAT IT READS IS OF BULK AT MOST 1048576: true; the input reads as it did. -/
def netSumsUptoRow : OpenClaim := { program := "ytklfjhklnlpdgaa", sum := "afba3bbb639a9ac9f97639c1c77cb7e1cda0e8f709a00f3bd8a7f5d71404e560", func := "tracery/tracerylaw3.NetSums", spec := "netSums", plainKeys := false, apart := false, narrowed := true }
def NetSumsUptoSaid : Prop := netSumsUptoRow.holds Try.pinned (OpenSpec.upto netSumsSpec)

/-- 'tracerylaw3.NetChanges', WHERE WHAT IT READS IS OF BULK AT MOST 1048576: true; the input reads as it did. -/
def netChangesUptoRow : OpenClaim := { program := "ytklfjhklnlpdgaa", sum := "afba3bbb639a9ac9f97639c1c77cb7e1cda0e8f709a00f3bd8a7f5d71404e560", func := "tracery/tracerylaw3.NetChanges", spec := "netChanges", plainKeys := false, apart := false, narrowed := true }
def NetChangesUptoSaid : Prop := netChangesUptoRow.holds Try.pinned (OpenSpec.upto netChangesSpec)

/-- 'tracerylaw3.NetAll', WHERE WHAT IT READS IS OF BULK AT MOST 1048576: true; the input reads as it did. -/
def netAllUptoRow : OpenClaim := { program := "ytklfjhklnlpdgaa", sum := "afba3bbb639a9ac9f97639c1c77cb7e1cda0e8f709a00f3bd8a7f5d71404e560", func := "tracery/tracerylaw3.NetAll", spec := "netAll", plainKeys := false, apart := false, narrowed := true }
def NetAllUptoSaid : Prop := netAllUptoRow.holds Try.pinned (OpenSpec.upto netAllSpec)

end Rows
end Go.Proofs.Ytklfjhklnlpdgaa
