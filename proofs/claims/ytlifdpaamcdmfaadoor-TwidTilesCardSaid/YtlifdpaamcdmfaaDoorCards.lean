/-
  DERIVED. GIVEN WITH THE SEED: THE CARDS: each row of YtlifdpaamcdmfaaDoorRows.lean that lists a variable, with what it lists TIED to the program's text (the seventh form; the later family's looks); each row that meets fmt, with fmt's text TOLD by the authors' own Lean function (tested against real Go, not proved from fmt's source: count such statements apart). THE CARD IS WHAT COUNTS. Prove the row's statement (the work); the ties are given (YtlifdpaamcdmfaaDoorTie.lean); close each card by the builder's one call (the guide's Derived/Test/ToyasCard.lean, 'card_holds'). Laid BY PROGRAM, IN A SANDBOX (cutbox-door.mjs). By AI agents, Wed Nov 11 2026. No macro, syntax, notation, axiom, sorry.
-/
import Derived.Test.YtlifdpaamcdmfaaDoorRows
import GoSem.ClaimSeven
namespace Go.Proofs.YtlifdpaamcdmfaaDoor
namespace Rows

/-- THE TIED CARD OF 'abacistlaw08.TwidSlow'. -/
def twidSlowCard : Claim7 := { stood := { row := twidSlowRow, standIns := [], harness := (true, "9098da081e37a1fcdd36a7a73d8c4b3cb196045926d1073c91c8b5dfac3bb7e9"), looks := false }, kinds := [], alts := [], laidByText := true, laidKinds := [.data], laidTests := true, laidLooks := .later }
def TwidSlowCardSaid : Prop := Claim7.holds Tryd.pinned (.plain (OpenSpec.ofChange twidSlowSpec)) twidSlowCard

/-- THE TIED CARD OF 'abacistlaw08.TwidRoots'. -/
def twidRootsCard : Claim7 := { stood := { row := twidRootsRow, standIns := [], harness := (true, "9098da081e37a1fcdd36a7a73d8c4b3cb196045926d1073c91c8b5dfac3bb7e9"), looks := false }, kinds := [], alts := [], laidByText := true, laidKinds := [.data], laidTests := true, laidLooks := .later }
def TwidRootsCardSaid : Prop := Claim7.holds Tryd.pinned (.plain (OpenSpec.ofChange twidRootsSpec)) twidRootsCard

/-- THE TIED CARD OF 'abacistlaw08.TwidTells'. -/
def twidTellsCard : Claim7 := { stood := { row := twidTellsRow, standIns := [], harness := (true, "9098da081e37a1fcdd36a7a73d8c4b3cb196045926d1073c91c8b5dfac3bb7e9"), looks := false }, kinds := [], alts := [], laidByText := true, laidKinds := [.data], laidTests := true, laidLooks := .later }
def TwidTellsCardSaid : Prop := Claim7.holds Tryd.pinned (.plain (OpenSpec.ofChange twidTellsSpec)) twidTellsCard

/-- THE TIED CARD OF 'abacistlaw08.TwidTiles'. -/
def twidTilesCard : Claim7 := { stood := { row := twidTilesRow, standIns := [], harness := (true, "9098da081e37a1fcdd36a7a73d8c4b3cb196045926d1073c91c8b5dfac3bb7e9"), looks := false }, kinds := [], alts := [], laidByText := true, laidKinds := [.data], laidTests := true, laidLooks := .later }
def TwidTilesCardSaid : Prop := Claim7.holds Tryd.pinned (.plain (OpenSpec.ofChange twidTilesSpec)) twidTilesCard

/-- THE TIED CARD OF 'abacistlaw28.ProofValues'. -/
def proofValuesCard : Claim7 := { stood := { row := proofValuesRow, standIns := [], harness := (true, "9098da081e37a1fcdd36a7a73d8c4b3cb196045926d1073c91c8b5dfac3bb7e9"), looks := false }, kinds := [], alts := [], laidByText := true, laidKinds := [.data], laidTests := true, laidLooks := .later }
def ProofValuesCardSaid : Prop := Claim7.holds Tryd.pinned (.plain (OpenSpec.ofChange proofValuesSpec)) proofValuesCard

/-- THE SECOND FORM's CARD OF 'abacistlaw08.TwidSlow'. -/
def twidSlowUptoCard : Claim7 := { stood := { row := twidSlowUptoRow, standIns := [], harness := (true, "9098da081e37a1fcdd36a7a73d8c4b3cb196045926d1073c91c8b5dfac3bb7e9"), looks := false }, kinds := [], alts := [], laidByText := true, laidKinds := [.data], laidTests := true, laidLooks := .later }
def TwidSlowUptoCardSaid : Prop := Claim7.holds Tryd.pinned (.plain (OpenSpec.upto twidSlowSpec)) twidSlowUptoCard

/-- THE SECOND FORM's CARD OF 'abacistlaw08.TwidRoots'. -/
def twidRootsUptoCard : Claim7 := { stood := { row := twidRootsUptoRow, standIns := [], harness := (true, "9098da081e37a1fcdd36a7a73d8c4b3cb196045926d1073c91c8b5dfac3bb7e9"), looks := false }, kinds := [], alts := [], laidByText := true, laidKinds := [.data], laidTests := true, laidLooks := .later }
def TwidRootsUptoCardSaid : Prop := Claim7.holds Tryd.pinned (.plain (OpenSpec.upto twidRootsSpec)) twidRootsUptoCard

/-- THE SECOND FORM's CARD OF 'abacistlaw08.TwidTells'. -/
def twidTellsUptoCard : Claim7 := { stood := { row := twidTellsUptoRow, standIns := [], harness := (true, "9098da081e37a1fcdd36a7a73d8c4b3cb196045926d1073c91c8b5dfac3bb7e9"), looks := false }, kinds := [], alts := [], laidByText := true, laidKinds := [.data], laidTests := true, laidLooks := .later }
def TwidTellsUptoCardSaid : Prop := Claim7.holds Tryd.pinned (.plain (OpenSpec.upto twidTellsSpec)) twidTellsUptoCard

/-- THE SECOND FORM's CARD OF 'abacistlaw08.TwidTiles'. -/
def twidTilesUptoCard : Claim7 := { stood := { row := twidTilesUptoRow, standIns := [], harness := (true, "9098da081e37a1fcdd36a7a73d8c4b3cb196045926d1073c91c8b5dfac3bb7e9"), looks := false }, kinds := [], alts := [], laidByText := true, laidKinds := [.data], laidTests := true, laidLooks := .later }
def TwidTilesUptoCardSaid : Prop := Claim7.holds Tryd.pinned (.plain (OpenSpec.upto twidTilesSpec)) twidTilesUptoCard

/-- THE SECOND FORM's CARD OF 'abacistlaw28.ProofValues'. -/
def proofValuesUptoCard : Claim7 := { stood := { row := proofValuesUptoRow, standIns := [], harness := (true, "9098da081e37a1fcdd36a7a73d8c4b3cb196045926d1073c91c8b5dfac3bb7e9"), looks := false }, kinds := [], alts := [], laidByText := true, laidKinds := [.data], laidTests := true, laidLooks := .later }
def ProofValuesUptoCardSaid : Prop := Claim7.holds Tryd.pinned (.plain (OpenSpec.upto proofValuesSpec)) proofValuesUptoCard
end Rows
end Go.Proofs.YtlifdpaamcdmfaaDoor
