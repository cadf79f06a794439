/-
  No cell of these rows narrows 'for every input' (looked for: loops, veiled, ifaces, maps, wideKeys, modest, calm, conditions, laid).
  DERIVED. THE GIVEN ROWS OF THIS SEAT. 4 by the template 'for every input the law returns true; each argument reads behind the call as it read before'; 0 by the template 'total and deterministic' (their statements: YtkgakohgbbapaaaTotals.lean).
  GIVEN WITH THE SEED: the statements are not yours to turn. If you find one false, say at which input.
  Laid BY PROGRAM, IN A SANDBOX (cutbox-rows.mjs): the forced cells as the released guide's own fill.sh prints them over the translation ff6ac9e771f0e81f… (all of the seat's roots in one cut). By AI agents, Wed Nov 11 2026. No macro, syntax, notation, axiom, sorry.
-/
import Derived.Test.YtkgakohgbbapaaaChecked
import GoSem.Claim
import GoSem.ClaimJoined
import GoSem.ClaimMapViews
import Derived.JoinedTies
import Derived.KernelRfl
namespace Go.Proofs.Ytkgakohgbbapaaa
/- THE CELL 'sum', in the pinned program and in every row, IS THE sha256 OF THE DUMP (.gsa) THAT YtkgakohgbbapaaaProg.lean LOADS. Nothing in Lean hashes anything: it is a label: what it is worth is what the hold of that sum in a sandbox is worth. -/
noncomputable def Try.pinned : Pinned := { name := "ytkgakohgbbapaaa", sum := "ff6ac9e771f0e81f1b3faef1770a3aae4ff972cd08669c773c8fe98833c6f7ae", checked := Try.checked }
namespace Rows
def none {H : Type} : Left H := { results := [], args := [] }

/-- 'abacistlaw33.TreeNodes': WHATEVER THE INPUT: true; the input reads as it did. -/
def treeNodesSpec : ChangeSpec := { name := "treeNodes", fn := fun _ => fun
  | [d1, d2, d3] => { results := [.lit (.bool true)], args := [d1, d2, d3] }
  | _ => none }
def treeNodesRow : OpenClaim := { program := "ytkgakohgbbapaaa", sum := "ff6ac9e771f0e81f1b3faef1770a3aae4ff972cd08669c773c8fe98833c6f7ae", func := "abacist/abacistlaw33.TreeNodes", spec := "treeNodes", inPlace := ["math/bits.Add64"], unfollowed := true, recurses := true, apart := false }
def TreeNodesSaid : Prop := treeNodesRow.holds Try.pinned (OpenSpec.ofChange treeNodesSpec)

/-- ITS FALSE NEIGHBOUR: 'it returns false'. Refute it at one input. -/
def treeNodesWrong : ChangeSpec := { name := "treeNodes", fn := fun _ => fun
  | [d1, d2, d3] => { results := [.lit (.bool false)], args := [d1, d2, d3] }
  | _ => none }
def TreeNodesWrongFalsely : Prop := treeNodesRow.holds Try.pinned (OpenSpec.ofChange treeNodesWrong)

/-- 'abacistlaw33.TreeShifts': WHATEVER THE INPUT: true; the input reads as it did. -/
def treeShiftsSpec : ChangeSpec := { name := "treeShifts", fn := fun _ => fun
  | [d1, d2, d3] => { results := [.lit (.bool true)], args := [d1, d2, d3] }
  | _ => none }
def treeShiftsRow : OpenClaim := { program := "ytkgakohgbbapaaa", sum := "ff6ac9e771f0e81f1b3faef1770a3aae4ff972cd08669c773c8fe98833c6f7ae", func := "abacist/abacistlaw33.TreeShifts", spec := "treeShifts", inPlace := ["math/bits.Add64"], unfollowed := true, recurses := true, apart := false }
def TreeShiftsSaid : Prop := treeShiftsRow.holds Try.pinned (OpenSpec.ofChange treeShiftsSpec)

/-- ITS FALSE NEIGHBOUR: 'it returns false'. Refute it at one input. -/
def treeShiftsWrong : ChangeSpec := { name := "treeShifts", fn := fun _ => fun
  | [d1, d2, d3] => { results := [.lit (.bool false)], args := [d1, d2, d3] }
  | _ => none }
def TreeShiftsWrongFalsely : Prop := treeShiftsRow.holds Try.pinned (OpenSpec.ofChange treeShiftsWrong)

/-- 'abacistlaw33.TreeValues': WHATEVER THE INPUT: true; the input reads as it did. -/
def treeValuesSpec : ChangeSpec := { name := "treeValues", fn := fun _ => fun
  | [d1, d2] => { results := [.lit (.bool true)], args := [d1, d2] }
  | _ => none }
def treeValuesRow : OpenClaim := { program := "ytkgakohgbbapaaa", sum := "ff6ac9e771f0e81f1b3faef1770a3aae4ff972cd08669c773c8fe98833c6f7ae", func := "abacist/abacistlaw33.TreeValues", spec := "treeValues", inPlace := ["math/bits.Add64"], unfollowed := true, recurses := true, apart := false }
def TreeValuesSaid : Prop := treeValuesRow.holds Try.pinned (OpenSpec.ofChange treeValuesSpec)

/-- ITS FALSE NEIGHBOUR: 'it returns false'. Refute it at one input. -/
def treeValuesWrong : ChangeSpec := { name := "treeValues", fn := fun _ => fun
  | [d1, d2] => { results := [.lit (.bool false)], args := [d1, d2] }
  | _ => none }
def TreeValuesWrongFalsely : Prop := treeValuesRow.holds Try.pinned (OpenSpec.ofChange treeValuesWrong)

/-- 'abacistlaw33.TreeThrough': WHATEVER THE INPUT: true; the input reads as it did. -/
def treeThroughSpec : ChangeSpec := { name := "treeThrough", fn := fun _ => fun
  | [d1, d2] => { results := [.lit (.bool true)], args := [d1, d2] }
  | _ => none }
def treeThroughRow : OpenClaim := { program := "ytkgakohgbbapaaa", sum := "ff6ac9e771f0e81f1b3faef1770a3aae4ff972cd08669c773c8fe98833c6f7ae", func := "abacist/abacistlaw33.TreeThrough", spec := "treeThrough", inPlace := ["math/bits.Add64"], unfollowed := true, recurses := true, apart := false }
def TreeThroughSaid : Prop := treeThroughRow.holds Try.pinned (OpenSpec.ofChange treeThroughSpec)

/-- ITS FALSE NEIGHBOUR: 'it returns false'. Refute it at one input. -/
def treeThroughWrong : ChangeSpec := { name := "treeThrough", fn := fun _ => fun
  | [d1, d2] => { results := [.lit (.bool false)], args := [d1, d2] }
  | _ => none }
def TreeThroughWrongFalsely : Prop := treeThroughRow.holds Try.pinned (OpenSpec.ofChange treeThroughWrong)

/- THE SECOND FORM. 'bulk': how many values and letters a reading holds, each counted each time it is reached (what is shared counts as often as it is met; a slice's spare places count too). A statement '..UptoSaid' is the law's where the arguments, and the package variables that the reading takes, are together of bulk at most 1048576: NARROWER than '..Said'. Prove '..Said' where nothing that the law and all that it calls make is longer than what came in: it says more and counts as full. Else prove '..UptoSaid'. A law counts once. -/
mutual
def uptoBulk {H : Type} : DataW H → Nat
  | .lit (.string bytes) => bytes.length + 1
  | .lit _ => 1
  | .nil => 1
  | .ptr d => uptoBulk d + 1
  | .slice elems spare => uptoBulkAll elems + uptoBulkAll spare + 1
  | .agg parts => uptoBulkAll parts + 1
  | .iface _ d => uptoBulk d + 1
  | .map entries => uptoBulkEntries entries + 1
  | .held _ => 1
def uptoBulkAll {H : Type} : List (DataW H) → Nat
  | [] => 0
  | d :: r => uptoBulk d + uptoBulkAll r
def uptoBulkEntries {H : Type} : List (Lit × DataW H) → Nat
  | [] => 0
  | x :: r => uptoBulkEntry x + uptoBulkEntries r
def uptoBulkEntry {H : Type} : Lit × DataW H → Nat
  | (.string bytes, d) => bytes.length + uptoBulk d + 1
  | (_, d) => uptoBulk d + 1
 end
def uptoSmall : (H : Type) → List (DataW H) → Bool := fun _ ds => decide (uptoBulkAll ds ≤ 1048576)
def OpenSpec.upto (s : _root_.Go.ChangeSpec) : _root_.Go.OpenSpec := { _root_.Go.OpenSpec.ofChange s with cond := some uptoSmall }

/-- 'abacistlaw33.TreeNodes', WHERE WHAT IT READS IS OF BULK AT MOST 1048576: true; the input reads as it did. -/
def treeNodesUptoRow : OpenClaim := { program := "ytkgakohgbbapaaa", sum := "ff6ac9e771f0e81f1b3faef1770a3aae4ff972cd08669c773c8fe98833c6f7ae", func := "abacist/abacistlaw33.TreeNodes", spec := "treeNodes", inPlace := ["math/bits.Add64"], unfollowed := true, recurses := true, apart := false, narrowed := true }
def TreeNodesUptoSaid : Prop := treeNodesUptoRow.holds Try.pinned (OpenSpec.upto treeNodesSpec)

/-- 'abacistlaw33.TreeShifts', WHERE WHAT IT READS IS OF BULK AT MOST 1048576: true; the input reads as it did. -/
def treeShiftsUptoRow : OpenClaim := { program := "ytkgakohgbbapaaa", sum := "ff6ac9e771f0e81f1b3faef1770a3aae4ff972cd08669c773c8fe98833c6f7ae", func := "abacist/abacistlaw33.TreeShifts", spec := "treeShifts", inPlace := ["math/bits.Add64"], unfollowed := true, recurses := true, apart := false, narrowed := true }
def TreeShiftsUptoSaid : Prop := treeShiftsUptoRow.holds Try.pinned (OpenSpec.upto treeShiftsSpec)

/-- 'abacistlaw33.TreeValues', WHERE WHAT IT READS IS OF BULK AT MOST 1048576: true; the input reads as it did. -/
def treeValuesUptoRow : OpenClaim := { program := "ytkgakohgbbapaaa", sum := "ff6ac9e771f0e81f1b3faef1770a3aae4ff972cd08669c773c8fe98833c6f7ae", func := "abacist/abacistlaw33.TreeValues", spec := "treeValues", inPlace := ["math/bits.Add64"], unfollowed := true, recurses := true, apart := false, narrowed := true }
def TreeValuesUptoSaid : Prop := treeValuesUptoRow.holds Try.pinned (OpenSpec.upto treeValuesSpec)

/-- 'abacistlaw33.TreeThrough', WHERE WHAT IT READS IS OF BULK AT MOST 1048576: true; the input reads as it did. -/
def treeThroughUptoRow : OpenClaim := { program := "ytkgakohgbbapaaa", sum := "ff6ac9e771f0e81f1b3faef1770a3aae4ff972cd08669c773c8fe98833c6f7ae", func := "abacist/abacistlaw33.TreeThrough", spec := "treeThrough", inPlace := ["math/bits.Add64"], unfollowed := true, recurses := true, apart := false, narrowed := true }
def TreeThroughUptoSaid : Prop := treeThroughUptoRow.holds Try.pinned (OpenSpec.upto treeThroughSpec)

end Rows
end Go.Proofs.Ytkgakohgbbapaaa
