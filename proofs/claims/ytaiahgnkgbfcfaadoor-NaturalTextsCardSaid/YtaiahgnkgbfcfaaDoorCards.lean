/-
  DERIVED. GIVEN WITH THE SEED: THE CARDS: each row of YtaiahgnkgbfcfaaDoorRows.lean that lists a variable, with what it lists TIED to the program's text (the seventh form; the later family's looks); each row that meets fmt, with fmt's text TOLD by the authors' own Lean function (tested against real Go, not proved from fmt's source: count such statements apart). THE CARD IS WHAT COUNTS. Prove the row's statement (the work); the ties are given (YtaiahgnkgbfcfaaDoorTie.lean); close each card by the builder's one call (the guide's Derived/Test/ToyasCard.lean, 'card_holds'). Laid BY PROGRAM, IN A SANDBOX (cutbox-door.mjs). By AI agents, Wed Nov 11 2026. No macro, syntax, notation, axiom, sorry.
-/
import Derived.Test.YtaiahgnkgbfcfaaDoorRows
import GoSem.ClaimSeven
namespace Go.Proofs.YtaiahgnkgbfcfaaDoor
namespace Rows

/-- THE TIED CARD OF 'abacistlaw31.NaturalTexts'. -/
def naturalTextsCard : Claim7 := { stood := { row := naturalTextsRow, standIns := [], harness := (true, "ff5818c08a39fe93d642f08afd85379e277171874a37ebd0ffc87751301a11f2"), looks := false }, kinds := [], alts := [], laidByText := true, laidKinds := [.data, .pinned], laidTests := true, laidLooks := .later }
def NaturalTextsCardSaid : Prop := Claim7.holds Tryd.pinned (.plain (OpenSpec.ofChange naturalTextsSpec)) naturalTextsCard

/-- THE SECOND FORM's CARD OF 'abacistlaw31.NaturalTexts'. -/
def naturalTextsUptoCard : Claim7 := { stood := { row := naturalTextsUptoRow, standIns := [], harness := (true, "ff5818c08a39fe93d642f08afd85379e277171874a37ebd0ffc87751301a11f2"), looks := false }, kinds := [], alts := [], laidByText := true, laidKinds := [.data, .pinned], laidTests := true, laidLooks := .later }
def NaturalTextsUptoCardSaid : Prop := Claim7.holds Tryd.pinned (.plain (OpenSpec.upto naturalTextsSpec)) naturalTextsUptoCard
end Rows
end Go.Proofs.YtaiahgnkgbfcfaaDoor
