/-
  No cell of these rows narrows 'for every input' (looked for: loops, veiled, ifaces, maps, wideKeys, modest, calm, conditions, laid).
  DERIVED. THE GIVEN ROWS OF THIS SEAT. 10 by the template 'for every input the law returns true; each argument reads behind the call as it read before'; 0 by the template 'total and deterministic' (their statements: YtalfhpghmoikoaaTotals.lean).
  GIVEN WITH THE SEED: the statements are not yours to turn. If you find one false, say at which input.
  Laid BY PROGRAM, IN A SANDBOX (cutbox-rows.mjs): the forced cells as the released guide's own fill.sh prints them over the translation e7c4aa14314c90ac… (all of the seat's roots in one cut). By AI agents, Wed Nov 11 2026. No macro, syntax, notation, axiom, sorry.
-/
import Derived.Test.YtalfhpghmoikoaaChecked
import GoSem.Claim
import GoSem.ClaimJoined
import GoSem.ClaimMapViews
import Derived.JoinedTies
import Derived.KernelRfl
namespace Go.Proofs.Ytalfhpghmoikoaa
/- THE CELL 'sum', in the pinned program and in every row, IS THE sha256 OF THE DUMP (.gsa) THAT YtalfhpghmoikoaaProg.lean LOADS. Nothing in Lean hashes anything: it is a label: what it is worth is what the hold of that sum in a sandbox is worth. -/
noncomputable def Try.pinned : Pinned := { name := "ytalfhpghmoikoaa", sum := "e7c4aa14314c90acd8fd7bde443e4ed10d46eeea0281f775bc7edeafbdbc563d", checked := Try.checked }
namespace Rows
def none {H : Type} : Left H := { results := [], args := [] }

/-- 'abacistlaw02.GoldReduces': WHATEVER THE INPUT: true; the input reads as it did. -/
def goldReducesSpec : ChangeSpec := { name := "goldReduces", fn := fun _ => fun
  | [d] => { results := [.lit (.bool true)], args := [d] }
  | _ => none }
def goldReducesRow : OpenClaim := { program := "ytalfhpghmoikoaa", sum := "e7c4aa14314c90acd8fd7bde443e4ed10d46eeea0281f775bc7edeafbdbc563d", func := "abacist/abacistlaw02.GoldReduces", spec := "goldReduces", apart := false }
def GoldReducesSaid : Prop := goldReducesRow.holds Try.pinned (OpenSpec.ofChange goldReducesSpec)

/-- ITS FALSE NEIGHBOUR: 'it returns false'. Refute it at one input. -/
def goldReducesWrong : ChangeSpec := { name := "goldReduces", fn := fun _ => fun
  | [d] => { results := [.lit (.bool false)], args := [d] }
  | _ => none }
def GoldReducesWrongFalsely : Prop := goldReducesRow.holds Try.pinned (OpenSpec.ofChange goldReducesWrong)

/-- 'abacistlaw02.GoldPowers': WHATEVER THE INPUT: true; the input reads as it did. -/
def goldPowersSpec : ChangeSpec := { name := "goldPowers", fn := fun _ => fun
  | [d1, d2, d3] => { results := [.lit (.bool true)], args := [d1, d2, d3] }
  | _ => none }
def goldPowersRow : OpenClaim := { program := "ytalfhpghmoikoaa", sum := "e7c4aa14314c90acd8fd7bde443e4ed10d46eeea0281f775bc7edeafbdbc563d", func := "abacist/abacistlaw02.GoldPowers", spec := "goldPowers", apart := false }
def GoldPowersSaid : Prop := goldPowersRow.holds Try.pinned (OpenSpec.ofChange goldPowersSpec)

/-- ITS FALSE NEIGHBOUR: 'it returns false'. Refute it at one input. -/
def goldPowersWrong : ChangeSpec := { name := "goldPowers", fn := fun _ => fun
  | [d1, d2, d3] => { results := [.lit (.bool false)], args := [d1, d2, d3] }
  | _ => none }
def GoldPowersWrongFalsely : Prop := goldPowersRow.holds Try.pinned (OpenSpec.ofChange goldPowersWrong)

/-- 'abacistlaw02.GoldInverses': WHATEVER THE INPUT: true; the input reads as it did. -/
def goldInversesSpec : ChangeSpec := { name := "goldInverses", fn := fun _ => fun
  | [d1, d2] => { results := [.lit (.bool true)], args := [d1, d2] }
  | _ => none }
def goldInversesRow : OpenClaim := { program := "ytalfhpghmoikoaa", sum := "e7c4aa14314c90acd8fd7bde443e4ed10d46eeea0281f775bc7edeafbdbc563d", func := "abacist/abacistlaw02.GoldInverses", spec := "goldInverses", apart := false }
def GoldInversesSaid : Prop := goldInversesRow.holds Try.pinned (OpenSpec.ofChange goldInversesSpec)

/-- ITS FALSE NEIGHBOUR: 'it returns false'. Refute it at one input. -/
def goldInversesWrong : ChangeSpec := { name := "goldInverses", fn := fun _ => fun
  | [d1, d2] => { results := [.lit (.bool false)], args := [d1, d2] }
  | _ => none }
def GoldInversesWrongFalsely : Prop := goldInversesRow.holds Try.pinned (OpenSpec.ofChange goldInversesWrong)

/-- 'abacistlaw03.RootPowers': WHATEVER THE INPUT: true; the input reads as it did. -/
def rootPowersSpec : ChangeSpec := { name := "rootPowers", fn := fun _ => fun
  | [d1, d2] => { results := [.lit (.bool true)], args := [d1, d2] }
  | _ => none }
def rootPowersRow : OpenClaim := { program := "ytalfhpghmoikoaa", sum := "e7c4aa14314c90acd8fd7bde443e4ed10d46eeea0281f775bc7edeafbdbc563d", func := "abacist/abacistlaw03.RootPowers", spec := "rootPowers", apart := false }
def RootPowersSaid : Prop := rootPowersRow.holds Try.pinned (OpenSpec.ofChange rootPowersSpec)

/-- ITS FALSE NEIGHBOUR: 'it returns false'. Refute it at one input. -/
def rootPowersWrong : ChangeSpec := { name := "rootPowers", fn := fun _ => fun
  | [d1, d2] => { results := [.lit (.bool false)], args := [d1, d2] }
  | _ => none }
def RootPowersWrongFalsely : Prop := rootPowersRow.holds Try.pinned (OpenSpec.ofChange rootPowersWrong)

/-- 'abacistlaw03.RootSums': WHATEVER THE INPUT: true; the input reads as it did. -/
def rootSumsSpec : ChangeSpec := { name := "rootSums", fn := fun _ => fun
  | [d] => { results := [.lit (.bool true)], args := [d] }
  | _ => none }
def rootSumsRow : OpenClaim := { program := "ytalfhpghmoikoaa", sum := "e7c4aa14314c90acd8fd7bde443e4ed10d46eeea0281f775bc7edeafbdbc563d", func := "abacist/abacistlaw03.RootSums", spec := "rootSums", apart := false }
def RootSumsSaid : Prop := rootSumsRow.holds Try.pinned (OpenSpec.ofChange rootSumsSpec)

/-- ITS FALSE NEIGHBOUR: 'it returns false'. Refute it at one input. -/
def rootSumsWrong : ChangeSpec := { name := "rootSums", fn := fun _ => fun
  | [d] => { results := [.lit (.bool false)], args := [d] }
  | _ => none }
def RootSumsWrongFalsely : Prop := rootSumsRow.holds Try.pinned (OpenSpec.ofChange rootSumsWrong)

/-- 'abacistlaw02.GoldOps': WHATEVER THE INPUT: true; the input reads as it did. -/
def goldOpsSpec : ChangeSpec := { name := "goldOps", fn := fun _ => fun
  | [d1, d2] => { results := [.lit (.bool true)], args := [d1, d2] }
  | _ => none }
def goldOpsRow : OpenClaim := { program := "ytalfhpghmoikoaa", sum := "e7c4aa14314c90acd8fd7bde443e4ed10d46eeea0281f775bc7edeafbdbc563d", func := "abacist/abacistlaw02.GoldOps", spec := "goldOps", inPlace := ["math/bits.Add64"], apart := false }
def GoldOpsSaid : Prop := goldOpsRow.holds Try.pinned (OpenSpec.ofChange goldOpsSpec)

/-- ITS FALSE NEIGHBOUR: 'it returns false'. Refute it at one input. -/
def goldOpsWrong : ChangeSpec := { name := "goldOps", fn := fun _ => fun
  | [d1, d2] => { results := [.lit (.bool false)], args := [d1, d2] }
  | _ => none }
def GoldOpsWrongFalsely : Prop := goldOpsRow.holds Try.pinned (OpenSpec.ofChange goldOpsWrong)

/-- 'abacistlaw02.GoldLaws': WHATEVER THE INPUT: true; the input reads as it did. -/
def goldLawsSpec : ChangeSpec := { name := "goldLaws", fn := fun _ => fun
  | [d1, d2, d3] => { results := [.lit (.bool true)], args := [d1, d2, d3] }
  | _ => none }
def goldLawsRow : OpenClaim := { program := "ytalfhpghmoikoaa", sum := "e7c4aa14314c90acd8fd7bde443e4ed10d46eeea0281f775bc7edeafbdbc563d", func := "abacist/abacistlaw02.GoldLaws", spec := "goldLaws", inPlace := ["math/bits.Add64"], apart := false }
def GoldLawsSaid : Prop := goldLawsRow.holds Try.pinned (OpenSpec.ofChange goldLawsSpec)

/-- ITS FALSE NEIGHBOUR: 'it returns false'. Refute it at one input. -/
def goldLawsWrong : ChangeSpec := { name := "goldLaws", fn := fun _ => fun
  | [d1, d2, d3] => { results := [.lit (.bool false)], args := [d1, d2, d3] }
  | _ => none }
def GoldLawsWrongFalsely : Prop := goldLawsRow.holds Try.pinned (OpenSpec.ofChange goldLawsWrong)

/-- 'abacistlaw02.GoldInvs': WHATEVER THE INPUT: true; the input reads as it did. -/
def goldInvsSpec : ChangeSpec := { name := "goldInvs", fn := fun _ => fun
  | [d] => { results := [.lit (.bool true)], args := [d] }
  | _ => none }
def goldInvsRow : OpenClaim := { program := "ytalfhpghmoikoaa", sum := "e7c4aa14314c90acd8fd7bde443e4ed10d46eeea0281f775bc7edeafbdbc563d", func := "abacist/abacistlaw02.GoldInvs", spec := "goldInvs", apart := false }
def GoldInvsSaid : Prop := goldInvsRow.holds Try.pinned (OpenSpec.ofChange goldInvsSpec)

/-- ITS FALSE NEIGHBOUR: 'it returns false'. Refute it at one input. -/
def goldInvsWrong : ChangeSpec := { name := "goldInvs", fn := fun _ => fun
  | [d] => { results := [.lit (.bool false)], args := [d] }
  | _ => none }
def GoldInvsWrongFalsely : Prop := goldInvsRow.holds Try.pinned (OpenSpec.ofChange goldInvsWrong)

/-- 'abacistlaw03.RootOrders': WHATEVER THE INPUT: true; the input reads as it did. -/
def rootOrdersSpec : ChangeSpec := { name := "rootOrders", fn := fun _ => fun
  | [d1, d2, d3] => { results := [.lit (.bool true)], args := [d1, d2, d3] }
  | _ => none }
def rootOrdersRow : OpenClaim := { program := "ytalfhpghmoikoaa", sum := "e7c4aa14314c90acd8fd7bde443e4ed10d46eeea0281f775bc7edeafbdbc563d", func := "abacist/abacistlaw03.RootOrders", spec := "rootOrders", apart := false }
def RootOrdersSaid : Prop := rootOrdersRow.holds Try.pinned (OpenSpec.ofChange rootOrdersSpec)

/-- ITS FALSE NEIGHBOUR: 'it returns false'. Refute it at one input. -/
def rootOrdersWrong : ChangeSpec := { name := "rootOrders", fn := fun _ => fun
  | [d1, d2, d3] => { results := [.lit (.bool false)], args := [d1, d2, d3] }
  | _ => none }
def RootOrdersWrongFalsely : Prop := rootOrdersRow.holds Try.pinned (OpenSpec.ofChange rootOrdersWrong)

/-- 'abacistlaw02.GoldRows': WHATEVER THE INPUT: true; the input reads as it did. -/
def goldRowsSpec : ChangeSpec := { name := "goldRows", fn := fun _ => fun
  | [d1, d2] => { results := [.lit (.bool true)], args := [d1, d2] }
  | _ => none }
def goldRowsRow : OpenClaim := { program := "ytalfhpghmoikoaa", sum := "e7c4aa14314c90acd8fd7bde443e4ed10d46eeea0281f775bc7edeafbdbc563d", func := "abacist/abacistlaw02.GoldRows", spec := "goldRows", inPlace := ["math/bits.Add64"], apart := false }
def GoldRowsSaid : Prop := goldRowsRow.holds Try.pinned (OpenSpec.ofChange goldRowsSpec)

/-- ITS FALSE NEIGHBOUR: 'it returns false'. Refute it at one input. -/
def goldRowsWrong : ChangeSpec := { name := "goldRows", fn := fun _ => fun
  | [d1, d2] => { results := [.lit (.bool false)], args := [d1, d2] }
  | _ => none }
def GoldRowsWrongFalsely : Prop := goldRowsRow.holds Try.pinned (OpenSpec.ofChange goldRowsWrong)

/- THE SECOND FORM. 'bulk': how many values and letters a reading holds, each counted each time it is reached (what is shared counts as often as it is met; a slice's spare places count too). A statement '..UptoSaid' is the law's where the arguments, and the package variables that the reading takes, are together of bulk at most 1048576: NARROWER than '..Said'. Prove '..Said' where nothing that the law and all that it calls make is longer than what came in: it says more and counts as full. Else prove '..UptoSaid'. A law counts once. -/
mutual
def uptoBulk {H : Type} : DataW H → Nat
  | .lit (.string bytes) => bytes.length + 1
  | .lit _ => 1
  | .nil => 1
  | .ptr d => uptoBulk d + 1
  | .slice elems spare => uptoBulkAll elems + uptoBulkAll spare + 1
  | .agg parts => uptoBulkAll parts + 1
  | .iface _ d => uptoBulk d + 1
  | .map entries => uptoBulkEntries entries + 1
  | .held _ => 1
def uptoBulkAll {H : Type} : List (DataW H) → Nat
  | [] => 0
  | d :: r => uptoBulk d + uptoBulkAll r
def uptoBulkEntries {H : Type} : List (Lit × DataW H) → Nat
  | [] => 0
  | x :: r => uptoBulkEntry x + uptoBulkEntries r
def uptoBulkEntry {H : Type} : Lit × DataW H → Nat
  | (.string bytes, d) => bytes.length + uptoBulk d + 1
  | (_, d) => uptoBulk d + 1
 end
def uptoSmall : (H : Type) → List (DataW H) → Bool := fun _ ds => decide (uptoBulkAll ds ≤ 1048576)
def OpenSpec.upto (s : _root_.Go.ChangeSpec) : _root_.Go.OpenSpec := { _root_.Go.OpenSpec.ofChange s with cond := some uptoSmall }

/-- 'abacistlaw02.GoldReduces', WHERE WHAT IT READS IS OF BULK AT MOST 1048576: true; the input reads as it did. -/
def goldReducesUptoRow : OpenClaim := { program := "ytalfhpghmoikoaa", sum := "e7c4aa14314c90acd8fd7bde443e4ed10d46eeea0281f775bc7edeafbdbc563d", func := "abacist/abacistlaw02.GoldReduces", spec := "goldReduces", apart := false, narrowed := true }
def GoldReducesUptoSaid : Prop := goldReducesUptoRow.holds Try.pinned (OpenSpec.upto goldReducesSpec)

/-- 'abacistlaw02.GoldPowers', WHERE WHAT IT READS IS OF BULK AT MOST 1048576: true; the input reads as it did. -/
def goldPowersUptoRow : OpenClaim := { program := "ytalfhpghmoikoaa", sum := "e7c4aa14314c90acd8fd7bde443e4ed10d46eeea0281f775bc7edeafbdbc563d", func := "abacist/abacistlaw02.GoldPowers", spec := "goldPowers", apart := false, narrowed := true }
def GoldPowersUptoSaid : Prop := goldPowersUptoRow.holds Try.pinned (OpenSpec.upto goldPowersSpec)

/-- 'abacistlaw02.GoldInverses', WHERE WHAT IT READS IS OF BULK AT MOST 1048576: true; the input reads as it did. -/
def goldInversesUptoRow : OpenClaim := { program := "ytalfhpghmoikoaa", sum := "e7c4aa14314c90acd8fd7bde443e4ed10d46eeea0281f775bc7edeafbdbc563d", func := "abacist/abacistlaw02.GoldInverses", spec := "goldInverses", apart := false, narrowed := true }
def GoldInversesUptoSaid : Prop := goldInversesUptoRow.holds Try.pinned (OpenSpec.upto goldInversesSpec)

/-- 'abacistlaw03.RootPowers', WHERE WHAT IT READS IS OF BULK AT MOST 1048576: true; the input reads as it did. -/
def rootPowersUptoRow : OpenClaim := { program := "ytalfhpghmoikoaa", sum := "e7c4aa14314c90acd8fd7bde443e4ed10d46eeea0281f775bc7edeafbdbc563d", func := "abacist/abacistlaw03.RootPowers", spec := "rootPowers", apart := false, narrowed := true }
def RootPowersUptoSaid : Prop := rootPowersUptoRow.holds Try.pinned (OpenSpec.upto rootPowersSpec)

/-- 'abacistlaw03.RootSums', WHERE WHAT IT READS IS OF BULK AT MOST 1048576: true; the input reads as it did. -/
def rootSumsUptoRow : OpenClaim := { program := "ytalfhpghmoikoaa", sum := "e7c4aa14314c90acd8fd7bde443e4ed10d46eeea0281f775bc7edeafbdbc563d", func := "abacist/abacistlaw03.RootSums", spec := "rootSums", apart := false, narrowed := true }
def RootSumsUptoSaid : Prop := rootSumsUptoRow.holds Try.pinned (OpenSpec.upto rootSumsSpec)

/-- 'abacistlaw02.GoldOps', WHERE WHAT IT READS IS OF BULK AT MOST 1048576: true; the input reads as it did. -/
def goldOpsUptoRow : OpenClaim := { program := "ytalfhpghmoikoaa", sum := "e7c4aa14314c90acd8fd7bde443e4ed10d46eeea0281f775bc7edeafbdbc563d", func := "abacist/abacistlaw02.GoldOps", spec := "goldOps", inPlace := ["math/bits.Add64"], apart := false, narrowed := true }
def GoldOpsUptoSaid : Prop := goldOpsUptoRow.holds Try.pinned (OpenSpec.upto goldOpsSpec)

/-- 'abacistlaw02.GoldLaws', WHERE WHAT IT READS IS OF BULK AT MOST 1048576: true; the input reads as it did. -/
def goldLawsUptoRow : OpenClaim := { program := "ytalfhpghmoikoaa", sum := "e7c4aa14314c90acd8fd7bde443e4ed10d46eeea0281f775bc7edeafbdbc563d", func := "abacist/abacistlaw02.GoldLaws", spec := "goldLaws", inPlace := ["math/bits.Add64"], apart := false, narrowed := true }
def GoldLawsUptoSaid : Prop := goldLawsUptoRow.holds Try.pinned (OpenSpec.upto goldLawsSpec)

/-- 'abacistlaw02.GoldInvs', WHERE WHAT IT READS IS OF BULK AT MOST 1048576: true; the input reads as it did. -/
def goldInvsUptoRow : OpenClaim := { program := "ytalfhpghmoikoaa", sum := "e7c4aa14314c90acd8fd7bde443e4ed10d46eeea0281f775bc7edeafbdbc563d", func := "abacist/abacistlaw02.GoldInvs", spec := "goldInvs", apart := false, narrowed := true }
def GoldInvsUptoSaid : Prop := goldInvsUptoRow.holds Try.pinned (OpenSpec.upto goldInvsSpec)

/-- 'abacistlaw03.RootOrders', WHERE WHAT IT READS IS OF BULK AT MOST 1048576: true; the input reads as it did. -/
def rootOrdersUptoRow : OpenClaim := { program := "ytalfhpghmoikoaa", sum := "e7c4aa14314c90acd8fd7bde443e4ed10d46eeea0281f775bc7edeafbdbc563d", func := "abacist/abacistlaw03.RootOrders", spec := "rootOrders", apart := false, narrowed := true }
def RootOrdersUptoSaid : Prop := rootOrdersUptoRow.holds Try.pinned (OpenSpec.upto rootOrdersSpec)

/-- 'abacistlaw02.GoldRows', WHERE WHAT IT READS IS OF BULK AT MOST 1048576: true; the input reads as it did. -/
def goldRowsUptoRow : OpenClaim := { program := "ytalfhpghmoikoaa", sum := "e7c4aa14314c90acd8fd7bde443e4ed10d46eeea0281f775bc7edeafbdbc563d", func := "abacist/abacistlaw02.GoldRows", spec := "goldRows", inPlace := ["math/bits.Add64"], apart := false, narrowed := true }
def GoldRowsUptoSaid : Prop := goldRowsUptoRow.holds Try.pinned (OpenSpec.upto goldRowsSpec)

end Rows
end Go.Proofs.Ytalfhpghmoikoaa
