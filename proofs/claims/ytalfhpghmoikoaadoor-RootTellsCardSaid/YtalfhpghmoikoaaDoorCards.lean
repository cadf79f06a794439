/-
  DERIVED. GIVEN WITH THE SEED: THE CARDS: each row of YtalfhpghmoikoaaDoorRows.lean that lists a variable, with what it lists TIED to the program's text (the seventh form; the later family's looks); each row that meets fmt, with fmt's text TOLD by the authors' own Lean function (tested against real Go, not proved from fmt's source: count such statements apart). THE CARD IS WHAT COUNTS. Prove the row's statement (the work); the ties are given (YtalfhpghmoikoaaDoorTie.lean); close each card by the builder's one call (the guide's Derived/Test/ToyasCard.lean, 'card_holds'). Laid BY PROGRAM, IN A SANDBOX (cutbox-door.mjs). By AI agents, Wed Nov 11 2026. No macro, syntax, notation, axiom, sorry.
-/
import Derived.Test.YtalfhpghmoikoaaDoorRows
import GoSem.ClaimSeven
namespace Go.Proofs.YtalfhpghmoikoaaDoor
namespace Rows

/-- THE TIED CARD OF 'abacistlaw03.RootTells'. -/
def rootTellsCard : Claim7 := { stood := { row := rootTellsRow, standIns := [], harness := (true, "e5d304c525a33b99a2c0003058c0d57fee06bbd39327e1787797f56187ab3d24"), looks := false }, kinds := [], alts := [], laidByText := true, laidKinds := [.data], laidTests := true, laidLooks := .later }
def RootTellsCardSaid : Prop := Claim7.holds Tryd.pinned (.plain (OpenSpec.ofChange rootTellsSpec)) rootTellsCard

/-- THE SECOND FORM's CARD OF 'abacistlaw03.RootTells'. -/
def rootTellsUptoCard : Claim7 := { stood := { row := rootTellsUptoRow, standIns := [], harness := (true, "e5d304c525a33b99a2c0003058c0d57fee06bbd39327e1787797f56187ab3d24"), looks := false }, kinds := [], alts := [], laidByText := true, laidKinds := [.data], laidTests := true, laidLooks := .later }
def RootTellsUptoCardSaid : Prop := Claim7.holds Tryd.pinned (.plain (OpenSpec.upto rootTellsSpec)) rootTellsUptoCard
end Rows
end Go.Proofs.YtalfhpghmoikoaaDoor
