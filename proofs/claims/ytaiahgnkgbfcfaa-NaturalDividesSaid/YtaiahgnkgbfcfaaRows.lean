/-
  No cell of these rows narrows 'for every input' (looked for: loops, veiled, ifaces, maps, wideKeys, modest, calm, conditions, laid).
  DERIVED. THE GIVEN ROWS OF THIS SEAT. 8 by the template 'for every input the law returns true; each argument reads behind the call as it read before'; 0 by the template 'total and deterministic' (their statements: YtaiahgnkgbfcfaaTotals.lean).
  GIVEN WITH THE SEED: the statements are not yours to turn. If you find one false, say at which input.
  Laid BY PROGRAM, IN A SANDBOX (cutbox-rows.mjs): the forced cells as the released guide's own fill.sh prints them over the translation c7363f28180677ab… (all of the seat's roots in one cut). By AI agents, Wed Nov 11 2026. No macro, syntax, notation, axiom, sorry.
-/
import Derived.Test.YtaiahgnkgbfcfaaChecked
import GoSem.Claim
import GoSem.ClaimJoined
import GoSem.ClaimMapViews
import Derived.JoinedTies
import Derived.KernelRfl
namespace Go.Proofs.Ytaiahgnkgbfcfaa
/- THE CELL 'sum', in the pinned program and in every row, IS THE sha256 OF THE DUMP (.gsa) THAT YtaiahgnkgbfcfaaProg.lean LOADS. Nothing in Lean hashes anything: it is a label: what it is worth is what the hold of that sum in a sandbox is worth. -/
noncomputable def Try.pinned : Pinned := { name := "ytaiahgnkgbfcfaa", sum := "c7363f28180677ab348847d0db586c8d05ff490c54969c251f8785642bec18c7", checked := Try.checked }
namespace Rows
def none {H : Type} : Left H := { results := [], args := [] }

/-- 'abacistlaw33.TreeNodes': WHATEVER THE INPUT: true; the input reads as it did. -/
def treeNodesSpec : ChangeSpec := { name := "treeNodes", fn := fun _ => fun
  | [d1, d2, d3] => { results := [.lit (.bool true)], args := [d1, d2, d3] }
  | _ => none }
def treeNodesRow : OpenClaim := { program := "ytaiahgnkgbfcfaa", sum := "c7363f28180677ab348847d0db586c8d05ff490c54969c251f8785642bec18c7", func := "abacist/abacistlaw33.TreeNodes", spec := "treeNodes", inPlace := ["math/bits.Add64"], unfollowed := true, recurses := true, apart := false }
def TreeNodesSaid : Prop := treeNodesRow.holds Try.pinned (OpenSpec.ofChange treeNodesSpec)

/-- ITS FALSE NEIGHBOUR: 'it returns false'. Refute it at one input. -/
def treeNodesWrong : ChangeSpec := { name := "treeNodes", fn := fun _ => fun
  | [d1, d2, d3] => { results := [.lit (.bool false)], args := [d1, d2, d3] }
  | _ => none }
def TreeNodesWrongFalsely : Prop := treeNodesRow.holds Try.pinned (OpenSpec.ofChange treeNodesWrong)

/-- 'abacistlaw33.TreeShifts': WHATEVER THE INPUT: true; the input reads as it did. -/
def treeShiftsSpec : ChangeSpec := { name := "treeShifts", fn := fun _ => fun
  | [d1, d2, d3] => { results := [.lit (.bool true)], args := [d1, d2, d3] }
  | _ => none }
def treeShiftsRow : OpenClaim := { program := "ytaiahgnkgbfcfaa", sum := "c7363f28180677ab348847d0db586c8d05ff490c54969c251f8785642bec18c7", func := "abacist/abacistlaw33.TreeShifts", spec := "treeShifts", inPlace := ["math/bits.Add64"], unfollowed := true, recurses := true, apart := false }
def TreeShiftsSaid : Prop := treeShiftsRow.holds Try.pinned (OpenSpec.ofChange treeShiftsSpec)

/-- ITS FALSE NEIGHBOUR: 'it returns false'. Refute it at one input. -/
def treeShiftsWrong : ChangeSpec := { name := "treeShifts", fn := fun _ => fun
  | [d1, d2, d3] => { results := [.lit (.bool false)], args := [d1, d2, d3] }
  | _ => none }
def TreeShiftsWrongFalsely : Prop := treeShiftsRow.holds Try.pinned (OpenSpec.ofChange treeShiftsWrong)

/-- 'abacistlaw31.NaturalLaws': WHATEVER THE INPUT: true; the input reads as it did. -/
def naturalLawsSpec : ChangeSpec := { name := "naturalLaws", fn := fun _ => fun
  | [d1, d2, d3] => { results := [.lit (.bool true)], args := [d1, d2, d3] }
  | _ => none }
def naturalLawsRow : OpenClaim := { program := "ytaiahgnkgbfcfaa", sum := "c7363f28180677ab348847d0db586c8d05ff490c54969c251f8785642bec18c7", func := "abacist/abacistlaw31.NaturalLaws", spec := "naturalLaws", inPlace := ["math/bits.Add64"], unfollowed := true, recurses := true, apart := false }
def NaturalLawsSaid : Prop := naturalLawsRow.holds Try.pinned (OpenSpec.ofChange naturalLawsSpec)

/-- ITS FALSE NEIGHBOUR: 'it returns false'. Refute it at one input. -/
def naturalLawsWrong : ChangeSpec := { name := "naturalLaws", fn := fun _ => fun
  | [d1, d2, d3] => { results := [.lit (.bool false)], args := [d1, d2, d3] }
  | _ => none }
def NaturalLawsWrongFalsely : Prop := naturalLawsRow.holds Try.pinned (OpenSpec.ofChange naturalLawsWrong)

/-- 'abacistlaw31.NaturalPowers': WHATEVER THE INPUT: true; the input reads as it did. -/
def naturalPowersSpec : ChangeSpec := { name := "naturalPowers", fn := fun _ => fun
  | [d1, d2] => { results := [.lit (.bool true)], args := [d1, d2] }
  | _ => none }
def naturalPowersRow : OpenClaim := { program := "ytaiahgnkgbfcfaa", sum := "c7363f28180677ab348847d0db586c8d05ff490c54969c251f8785642bec18c7", func := "abacist/abacistlaw31.NaturalPowers", spec := "naturalPowers", inPlace := ["math/bits.Add64"], unfollowed := true, recurses := true, apart := false }
def NaturalPowersSaid : Prop := naturalPowersRow.holds Try.pinned (OpenSpec.ofChange naturalPowersSpec)

/-- ITS FALSE NEIGHBOUR: 'it returns false'. Refute it at one input. -/
def naturalPowersWrong : ChangeSpec := { name := "naturalPowers", fn := fun _ => fun
  | [d1, d2] => { results := [.lit (.bool false)], args := [d1, d2] }
  | _ => none }
def NaturalPowersWrongFalsely : Prop := naturalPowersRow.holds Try.pinned (OpenSpec.ofChange naturalPowersWrong)

/-- 'abacistlaw33.TreeValues': WHATEVER THE INPUT: true; the input reads as it did. -/
def treeValuesSpec : ChangeSpec := { name := "treeValues", fn := fun _ => fun
  | [d1, d2] => { results := [.lit (.bool true)], args := [d1, d2] }
  | _ => none }
def treeValuesRow : OpenClaim := { program := "ytaiahgnkgbfcfaa", sum := "c7363f28180677ab348847d0db586c8d05ff490c54969c251f8785642bec18c7", func := "abacist/abacistlaw33.TreeValues", spec := "treeValues", inPlace := ["math/bits.Add64"], unfollowed := true, recurses := true, apart := false }
def TreeValuesSaid : Prop := treeValuesRow.holds Try.pinned (OpenSpec.ofChange treeValuesSpec)

/-- ITS FALSE NEIGHBOUR: 'it returns false'. Refute it at one input. -/
def treeValuesWrong : ChangeSpec := { name := "treeValues", fn := fun _ => fun
  | [d1, d2] => { results := [.lit (.bool false)], args := [d1, d2] }
  | _ => none }
def TreeValuesWrongFalsely : Prop := treeValuesRow.holds Try.pinned (OpenSpec.ofChange treeValuesWrong)

/-- 'abacistlaw31.NaturalDivides': WHATEVER THE INPUT: true; the input reads as it did. -/
def naturalDividesSpec : ChangeSpec := { name := "naturalDivides", fn := fun _ => fun
  | [d1, d2] => { results := [.lit (.bool true)], args := [d1, d2] }
  | _ => none }
def naturalDividesRow : OpenClaim := { program := "ytaiahgnkgbfcfaa", sum := "c7363f28180677ab348847d0db586c8d05ff490c54969c251f8785642bec18c7", func := "abacist/abacistlaw31.NaturalDivides", spec := "naturalDivides", inPlace := ["math/bits.Add64"], unfollowed := true, recurses := true, apart := false }
def NaturalDividesSaid : Prop := naturalDividesRow.holds Try.pinned (OpenSpec.ofChange naturalDividesSpec)

/-- ITS FALSE NEIGHBOUR: 'it returns false'. Refute it at one input. -/
def naturalDividesWrong : ChangeSpec := { name := "naturalDivides", fn := fun _ => fun
  | [d1, d2] => { results := [.lit (.bool false)], args := [d1, d2] }
  | _ => none }
def NaturalDividesWrongFalsely : Prop := naturalDividesRow.holds Try.pinned (OpenSpec.ofChange naturalDividesWrong)

/-- 'abacistlaw31.NaturalSums': WHATEVER THE INPUT: true; the input reads as it did. -/
def naturalSumsSpec : ChangeSpec := { name := "naturalSums", fn := fun _ => fun
  | [d1, d2] => { results := [.lit (.bool true)], args := [d1, d2] }
  | _ => none }
def naturalSumsRow : OpenClaim := { program := "ytaiahgnkgbfcfaa", sum := "c7363f28180677ab348847d0db586c8d05ff490c54969c251f8785642bec18c7", func := "abacist/abacistlaw31.NaturalSums", spec := "naturalSums", inPlace := ["math/bits.Add64"], unfollowed := true, recurses := true, apart := false }
def NaturalSumsSaid : Prop := naturalSumsRow.holds Try.pinned (OpenSpec.ofChange naturalSumsSpec)

/-- ITS FALSE NEIGHBOUR: 'it returns false'. Refute it at one input. -/
def naturalSumsWrong : ChangeSpec := { name := "naturalSums", fn := fun _ => fun
  | [d1, d2] => { results := [.lit (.bool false)], args := [d1, d2] }
  | _ => none }
def NaturalSumsWrongFalsely : Prop := naturalSumsRow.holds Try.pinned (OpenSpec.ofChange naturalSumsWrong)

/-- 'abacistlaw33.TreeThrough': WHATEVER THE INPUT: true; the input reads as it did. -/
def treeThroughSpec : ChangeSpec := { name := "treeThrough", fn := fun _ => fun
  | [d1, d2] => { results := [.lit (.bool true)], args := [d1, d2] }
  | _ => none }
def treeThroughRow : OpenClaim := { program := "ytaiahgnkgbfcfaa", sum := "c7363f28180677ab348847d0db586c8d05ff490c54969c251f8785642bec18c7", func := "abacist/abacistlaw33.TreeThrough", spec := "treeThrough", inPlace := ["math/bits.Add64"], unfollowed := true, recurses := true, apart := false }
def TreeThroughSaid : Prop := treeThroughRow.holds Try.pinned (OpenSpec.ofChange treeThroughSpec)

/-- ITS FALSE NEIGHBOUR: 'it returns false'. Refute it at one input. -/
def treeThroughWrong : ChangeSpec := { name := "treeThrough", fn := fun _ => fun
  | [d1, d2] => { results := [.lit (.bool false)], args := [d1, d2] }
  | _ => none }
def TreeThroughWrongFalsely : Prop := treeThroughRow.holds Try.pinned (OpenSpec.ofChange treeThroughWrong)

/- THE SECOND FORM. 'bulk': how many values and letters a reading holds, each counted each time it is reached (what is shared counts as often as it is met; a slice's spare places count too). A statement '..UptoSaid' is the law's where the arguments, and the package variables that the reading takes, are together of bulk at most 1048576: NARROWER than '..Said'. Prove '..Said' where nothing that the law and all that it calls make is longer than what came in: it says more and counts as full. Else prove '..UptoSaid'. A law counts once. -/
mutual
def uptoBulk {H : Type} : DataW H → Nat
  | .lit (.string bytes) => bytes.length + 1
  | .lit _ => 1
  | .nil => 1
  | .ptr d => uptoBulk d + 1
  | .slice elems spare => uptoBulkAll elems + uptoBulkAll spare + 1
  | .agg parts => uptoBulkAll parts + 1
  | .iface _ d => uptoBulk d + 1
  | .map entries => uptoBulkEntries entries + 1
  | .held _ => 1
def uptoBulkAll {H : Type} : List (DataW H) → Nat
  | [] => 0
  | d :: r => uptoBulk d + uptoBulkAll r
def uptoBulkEntries {H : Type} : List (Lit × DataW H) → Nat
  | [] => 0
  | x :: r => uptoBulkEntry x + uptoBulkEntries r
def uptoBulkEntry {H : Type} : Lit × DataW H → Nat
  | (.string bytes, d) => bytes.length + uptoBulk d + 1
  | (_, d) => uptoBulk d + 1
 end
def uptoSmall : (H : Type) → List (DataW H) → Bool := fun _ ds => decide (uptoBulkAll ds ≤ 1048576)
def OpenSpec.upto (s : _root_.Go.ChangeSpec) : _root_.Go.OpenSpec := { _root_.Go.OpenSpec.ofChange s with cond := some uptoSmall }

/-- 'abacistlaw33.TreeNodes', WHERE WHAT IT READS IS OF BULK AT MOST 1048576: true; the input reads as it did. -/
def treeNodesUptoRow : OpenClaim := { program := "ytaiahgnkgbfcfaa", sum := "c7363f28180677ab348847d0db586c8d05ff490c54969c251f8785642bec18c7", func := "abacist/abacistlaw33.TreeNodes", spec := "treeNodes", inPlace := ["math/bits.Add64"], unfollowed := true, recurses := true, apart := false, narrowed := true }
def TreeNodesUptoSaid : Prop := treeNodesUptoRow.holds Try.pinned (OpenSpec.upto treeNodesSpec)

/-- 'abacistlaw33.TreeShifts', WHERE WHAT IT READS IS OF BULK AT MOST 1048576: true; the input reads as it did. -/
def treeShiftsUptoRow : OpenClaim := { program := "ytaiahgnkgbfcfaa", sum := "c7363f28180677ab348847d0db586c8d05ff490c54969c251f8785642bec18c7", func := "abacist/abacistlaw33.TreeShifts", spec := "treeShifts", inPlace := ["math/bits.Add64"], unfollowed := true, recurses := true, apart := false, narrowed := true }
def TreeShiftsUptoSaid : Prop := treeShiftsUptoRow.holds Try.pinned (OpenSpec.upto treeShiftsSpec)

/-- 'abacistlaw31.NaturalLaws', WHERE WHAT IT READS IS OF BULK AT MOST 1048576: true; the input reads as it did. -/
def naturalLawsUptoRow : OpenClaim := { program := "ytaiahgnkgbfcfaa", sum := "c7363f28180677ab348847d0db586c8d05ff490c54969c251f8785642bec18c7", func := "abacist/abacistlaw31.NaturalLaws", spec := "naturalLaws", inPlace := ["math/bits.Add64"], unfollowed := true, recurses := true, apart := false, narrowed := true }
def NaturalLawsUptoSaid : Prop := naturalLawsUptoRow.holds Try.pinned (OpenSpec.upto naturalLawsSpec)

/-- 'abacistlaw31.NaturalPowers', WHERE WHAT IT READS IS OF BULK AT MOST 1048576: true; the input reads as it did. -/
def naturalPowersUptoRow : OpenClaim := { program := "ytaiahgnkgbfcfaa", sum := "c7363f28180677ab348847d0db586c8d05ff490c54969c251f8785642bec18c7", func := "abacist/abacistlaw31.NaturalPowers", spec := "naturalPowers", inPlace := ["math/bits.Add64"], unfollowed := true, recurses := true, apart := false, narrowed := true }
def NaturalPowersUptoSaid : Prop := naturalPowersUptoRow.holds Try.pinned (OpenSpec.upto naturalPowersSpec)

/-- 'abacistlaw33.TreeValues', WHERE WHAT IT READS IS OF BULK AT MOST 1048576: true; the input reads as it did. -/
def treeValuesUptoRow : OpenClaim := { program := "ytaiahgnkgbfcfaa", sum := "c7363f28180677ab348847d0db586c8d05ff490c54969c251f8785642bec18c7", func := "abacist/abacistlaw33.TreeValues", spec := "treeValues", inPlace := ["math/bits.Add64"], unfollowed := true, recurses := true, apart := false, narrowed := true }
def TreeValuesUptoSaid : Prop := treeValuesUptoRow.holds Try.pinned (OpenSpec.upto treeValuesSpec)

/-- 'abacistlaw31.NaturalDivides', WHERE WHAT IT READS IS OF BULK AT MOST 1048576: true; the input reads as it did. -/
def naturalDividesUptoRow : OpenClaim := { program := "ytaiahgnkgbfcfaa", sum := "c7363f28180677ab348847d0db586c8d05ff490c54969c251f8785642bec18c7", func := "abacist/abacistlaw31.NaturalDivides", spec := "naturalDivides", inPlace := ["math/bits.Add64"], unfollowed := true, recurses := true, apart := false, narrowed := true }
def NaturalDividesUptoSaid : Prop := naturalDividesUptoRow.holds Try.pinned (OpenSpec.upto naturalDividesSpec)

/-- 'abacistlaw31.NaturalSums', WHERE WHAT IT READS IS OF BULK AT MOST 1048576: true; the input reads as it did. -/
def naturalSumsUptoRow : OpenClaim := { program := "ytaiahgnkgbfcfaa", sum := "c7363f28180677ab348847d0db586c8d05ff490c54969c251f8785642bec18c7", func := "abacist/abacistlaw31.NaturalSums", spec := "naturalSums", inPlace := ["math/bits.Add64"], unfollowed := true, recurses := true, apart := false, narrowed := true }
def NaturalSumsUptoSaid : Prop := naturalSumsUptoRow.holds Try.pinned (OpenSpec.upto naturalSumsSpec)

/-- 'abacistlaw33.TreeThrough', WHERE WHAT IT READS IS OF BULK AT MOST 1048576: true; the input reads as it did. -/
def treeThroughUptoRow : OpenClaim := { program := "ytaiahgnkgbfcfaa", sum := "c7363f28180677ab348847d0db586c8d05ff490c54969c251f8785642bec18c7", func := "abacist/abacistlaw33.TreeThrough", spec := "treeThrough", inPlace := ["math/bits.Add64"], unfollowed := true, recurses := true, apart := false, narrowed := true }
def TreeThroughUptoSaid : Prop := treeThroughUptoRow.holds Try.pinned (OpenSpec.upto treeThroughSpec)

end Rows
end Go.Proofs.Ytaiahgnkgbfcfaa
