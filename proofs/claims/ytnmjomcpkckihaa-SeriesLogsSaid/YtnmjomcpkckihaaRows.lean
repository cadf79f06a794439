/-
  No cell of these rows narrows 'for every input' (looked for: loops, veiled, ifaces, maps, wideKeys, modest, calm, conditions, laid).
  DERIVED. THE GIVEN ROWS OF THIS SEAT. 4 by the template 'for every input the law returns true; each argument reads behind the call as it read before'; 0 by the template 'total and deterministic' (their statements: YtnmjomcpkckihaaTotals.lean).
  GIVEN WITH THE SEED: the statements are not yours to turn. If you find one false, say at which input.
  Laid BY PROGRAM, IN A SANDBOX (cutbox-rows.mjs): the forced cells as the released guide's own fill.sh prints them over the translation 578e661b48f1ad1c… (all of the seat's roots in one cut). By AI agents, Wed Nov 11 2026. No macro, syntax, notation, axiom, sorry.
-/
import Derived.Test.YtnmjomcpkckihaaChecked
import GoSem.Claim
import GoSem.ClaimJoined
import GoSem.ClaimMapViews
import Derived.JoinedTies
import Derived.KernelRfl
namespace Go.Proofs.Ytnmjomcpkckihaa
/- THE CELL 'sum', in the pinned program and in every row, IS THE sha256 OF THE DUMP (.gsa) THAT YtnmjomcpkckihaaProg.lean LOADS. Nothing in Lean hashes anything: it is a label: what it is worth is what the hold of that sum in a sandbox is worth. -/
noncomputable def Try.pinned : Pinned := { name := "ytnmjomcpkckihaa", sum := "578e661b48f1ad1cc5f1ff606454b3f733d335682f2d49c4b67eae9bfb01838e", checked := Try.checked }
namespace Rows
def none {H : Type} : Left H := { results := [], args := [] }

/-- 'abacistlaw30.SeriesInverts': WHATEVER THE INPUT: true; the input reads as it did. -/
def seriesInvertsSpec : ChangeSpec := { name := "seriesInverts", fn := fun _ => fun
  | [d1, d2, d3] => { results := [.lit (.bool true)], args := [d1, d2, d3] }
  | _ => none }
def seriesInvertsRow : OpenClaim := { program := "ytnmjomcpkckihaa", sum := "578e661b48f1ad1cc5f1ff606454b3f733d335682f2d49c4b67eae9bfb01838e", func := "abacist/abacistlaw30.SeriesInverts", spec := "seriesInverts", inPlace := ["math/bits.Add64"], unfollowed := true, recurses := true, apart := false }
def SeriesInvertsSaid : Prop := seriesInvertsRow.holds Try.pinned (OpenSpec.ofChange seriesInvertsSpec)

/-- ITS FALSE NEIGHBOUR: 'it returns false'. Refute it at one input. -/
def seriesInvertsWrong : ChangeSpec := { name := "seriesInverts", fn := fun _ => fun
  | [d1, d2, d3] => { results := [.lit (.bool false)], args := [d1, d2, d3] }
  | _ => none }
def SeriesInvertsWrongFalsely : Prop := seriesInvertsRow.holds Try.pinned (OpenSpec.ofChange seriesInvertsWrong)

/-- 'abacistlaw30.SeriesMuls': WHATEVER THE INPUT: true; the input reads as it did. -/
def seriesMulsSpec : ChangeSpec := { name := "seriesMuls", fn := fun _ => fun
  | [d1, d2, d3, d4] => { results := [.lit (.bool true)], args := [d1, d2, d3, d4] }
  | _ => none }
def seriesMulsRow : OpenClaim := { program := "ytnmjomcpkckihaa", sum := "578e661b48f1ad1cc5f1ff606454b3f733d335682f2d49c4b67eae9bfb01838e", func := "abacist/abacistlaw30.SeriesMuls", spec := "seriesMuls", inPlace := ["math/bits.Add64"], unfollowed := true, recurses := true, apart := false }
def SeriesMulsSaid : Prop := seriesMulsRow.holds Try.pinned (OpenSpec.ofChange seriesMulsSpec)

/-- ITS FALSE NEIGHBOUR: 'it returns false'. Refute it at one input. -/
def seriesMulsWrong : ChangeSpec := { name := "seriesMuls", fn := fun _ => fun
  | [d1, d2, d3, d4] => { results := [.lit (.bool false)], args := [d1, d2, d3, d4] }
  | _ => none }
def SeriesMulsWrongFalsely : Prop := seriesMulsRow.holds Try.pinned (OpenSpec.ofChange seriesMulsWrong)

/-- 'abacistlaw30.SeriesRest': WHATEVER THE INPUT: true; the input reads as it did. -/
def seriesRestSpec : ChangeSpec := { name := "seriesRest", fn := fun _ => fun
  | [d1, d2] => { results := [.lit (.bool true)], args := [d1, d2] }
  | _ => none }
def seriesRestRow : OpenClaim := { program := "ytnmjomcpkckihaa", sum := "578e661b48f1ad1cc5f1ff606454b3f733d335682f2d49c4b67eae9bfb01838e", func := "abacist/abacistlaw30.SeriesRest", spec := "seriesRest", inPlace := ["math/bits.Add64"], unfollowed := true, recurses := true, apart := false }
def SeriesRestSaid : Prop := seriesRestRow.holds Try.pinned (OpenSpec.ofChange seriesRestSpec)

/-- ITS FALSE NEIGHBOUR: 'it returns false'. Refute it at one input. -/
def seriesRestWrong : ChangeSpec := { name := "seriesRest", fn := fun _ => fun
  | [d1, d2] => { results := [.lit (.bool false)], args := [d1, d2] }
  | _ => none }
def SeriesRestWrongFalsely : Prop := seriesRestRow.holds Try.pinned (OpenSpec.ofChange seriesRestWrong)

/-- 'abacistlaw30.SeriesLogs': WHATEVER THE INPUT: true; the input reads as it did. -/
def seriesLogsSpec : ChangeSpec := { name := "seriesLogs", fn := fun _ => fun
  | [d1, d2, d3] => { results := [.lit (.bool true)], args := [d1, d2, d3] }
  | _ => none }
def seriesLogsRow : OpenClaim := { program := "ytnmjomcpkckihaa", sum := "578e661b48f1ad1cc5f1ff606454b3f733d335682f2d49c4b67eae9bfb01838e", func := "abacist/abacistlaw30.SeriesLogs", spec := "seriesLogs", inPlace := ["math/bits.Add64"], unfollowed := true, recurses := true, apart := false }
def SeriesLogsSaid : Prop := seriesLogsRow.holds Try.pinned (OpenSpec.ofChange seriesLogsSpec)

/-- ITS FALSE NEIGHBOUR: 'it returns false'. Refute it at one input. -/
def seriesLogsWrong : ChangeSpec := { name := "seriesLogs", fn := fun _ => fun
  | [d1, d2, d3] => { results := [.lit (.bool false)], args := [d1, d2, d3] }
  | _ => none }
def SeriesLogsWrongFalsely : Prop := seriesLogsRow.holds Try.pinned (OpenSpec.ofChange seriesLogsWrong)

/- THE SECOND FORM. 'bulk': how many values and letters a reading holds, each counted each time it is reached (what is shared counts as often as it is met; a slice's spare places count too). A statement '..UptoSaid' is the law's where the arguments, and the package variables that the reading takes, are together of bulk at most 1048576: NARROWER than '..Said'. Prove '..Said' where nothing that the law and all that it calls make is longer than what came in: it says more and counts as full. Else prove '..UptoSaid'. A law counts once. -/
mutual
def uptoBulk {H : Type} : DataW H → Nat
  | .lit (.string bytes) => bytes.length + 1
  | .lit _ => 1
  | .nil => 1
  | .ptr d => uptoBulk d + 1
  | .slice elems spare => uptoBulkAll elems + uptoBulkAll spare + 1
  | .agg parts => uptoBulkAll parts + 1
  | .iface _ d => uptoBulk d + 1
  | .map entries => uptoBulkEntries entries + 1
  | .held _ => 1
def uptoBulkAll {H : Type} : List (DataW H) → Nat
  | [] => 0
  | d :: r => uptoBulk d + uptoBulkAll r
def uptoBulkEntries {H : Type} : List (Lit × DataW H) → Nat
  | [] => 0
  | x :: r => uptoBulkEntry x + uptoBulkEntries r
def uptoBulkEntry {H : Type} : Lit × DataW H → Nat
  | (.string bytes, d) => bytes.length + uptoBulk d + 1
  | (_, d) => uptoBulk d + 1
 end
def uptoSmall : (H : Type) → List (DataW H) → Bool := fun _ ds => decide (uptoBulkAll ds ≤ 1048576)
def OpenSpec.upto (s : _root_.Go.ChangeSpec) : _root_.Go.OpenSpec := { _root_.Go.OpenSpec.ofChange s with cond := some uptoSmall }

/-- 'abacistlaw30.SeriesInverts', WHERE WHAT IT READS IS OF BULK AT MOST 1048576: true; the input reads as it did. -/
def seriesInvertsUptoRow : OpenClaim := { program := "ytnmjomcpkckihaa", sum := "578e661b48f1ad1cc5f1ff606454b3f733d335682f2d49c4b67eae9bfb01838e", func := "abacist/abacistlaw30.SeriesInverts", spec := "seriesInverts", inPlace := ["math/bits.Add64"], unfollowed := true, recurses := true, apart := false, narrowed := true }
def SeriesInvertsUptoSaid : Prop := seriesInvertsUptoRow.holds Try.pinned (OpenSpec.upto seriesInvertsSpec)

/-- 'abacistlaw30.SeriesMuls', WHERE WHAT IT READS IS OF BULK AT MOST 1048576: true; the input reads as it did. -/
def seriesMulsUptoRow : OpenClaim := { program := "ytnmjomcpkckihaa", sum := "578e661b48f1ad1cc5f1ff606454b3f733d335682f2d49c4b67eae9bfb01838e", func := "abacist/abacistlaw30.SeriesMuls", spec := "seriesMuls", inPlace := ["math/bits.Add64"], unfollowed := true, recurses := true, apart := false, narrowed := true }
def SeriesMulsUptoSaid : Prop := seriesMulsUptoRow.holds Try.pinned (OpenSpec.upto seriesMulsSpec)

/-- 'abacistlaw30.SeriesRest', WHERE WHAT IT READS IS OF BULK AT MOST 1048576: true; the input reads as it did. -/
def seriesRestUptoRow : OpenClaim := { program := "ytnmjomcpkckihaa", sum := "578e661b48f1ad1cc5f1ff606454b3f733d335682f2d49c4b67eae9bfb01838e", func := "abacist/abacistlaw30.SeriesRest", spec := "seriesRest", inPlace := ["math/bits.Add64"], unfollowed := true, recurses := true, apart := false, narrowed := true }
def SeriesRestUptoSaid : Prop := seriesRestUptoRow.holds Try.pinned (OpenSpec.upto seriesRestSpec)

/-- 'abacistlaw30.SeriesLogs', WHERE WHAT IT READS IS OF BULK AT MOST 1048576: true; the input reads as it did. -/
def seriesLogsUptoRow : OpenClaim := { program := "ytnmjomcpkckihaa", sum := "578e661b48f1ad1cc5f1ff606454b3f733d335682f2d49c4b67eae9bfb01838e", func := "abacist/abacistlaw30.SeriesLogs", spec := "seriesLogs", inPlace := ["math/bits.Add64"], unfollowed := true, recurses := true, apart := false, narrowed := true }
def SeriesLogsUptoSaid : Prop := seriesLogsUptoRow.holds Try.pinned (OpenSpec.upto seriesLogsSpec)

end Rows
end Go.Proofs.Ytnmjomcpkckihaa
