/-
  DERIVED. GIVEN WITH THE SEED: THE CARDS: each row of YtjooodbjbidjiaaDoorRows.lean that lists a variable, with what it lists TIED to the program's text (the seventh form; the later family's looks); each row that meets fmt, with fmt's text TOLD by the authors' own Lean function (tested against real Go, not proved from fmt's source: count such statements apart). THE CARD IS WHAT COUNTS. Prove the row's statement (the work); the ties are given (YtjooodbjbidjiaaDoorTie.lean); close each card by the builder's one call (the guide's Derived/Test/ToyasCard.lean, 'card_holds'). Laid BY PROGRAM, IN A SANDBOX (cutbox-door.mjs). By AI agents, Wed Nov 11 2026. No macro, syntax, notation, axiom, sorry.
-/
import Derived.Test.YtjooodbjbidjiaaDoorRows
import GoSem.ClaimSeven
namespace Go.Proofs.YtjooodbjbidjiaaDoor
namespace Rows

/-- THE TIED CARD OF 'abacistlaw13.ConvLaws'. -/
def convLawsCard : Claim7 := { stood := { row := convLawsRow, standIns := [], harness := (true, "eed6617f44fb58b0817f24d4da10a4655f557b96ea01da431122e3d1c8998c23"), looks := false }, kinds := [], alts := [], laidByText := true, laidKinds := [.data], laidTests := true, laidLooks := .later }
def ConvLawsCardSaid : Prop := Claim7.holds Tryd.pinned (.plain (OpenSpec.ofChange convLawsSpec)) convLawsCard

/-- THE TIED CARD OF 'abacistlaw13.ConvTells'. -/
def convTellsCard : Claim7 := { stood := { row := convTellsRow, standIns := [], harness := (true, "eed6617f44fb58b0817f24d4da10a4655f557b96ea01da431122e3d1c8998c23"), looks := false }, kinds := [], alts := [], laidByText := true, laidKinds := [.data], laidTests := true, laidLooks := .later }
def ConvTellsCardSaid : Prop := Claim7.holds Tryd.pinned (.plain (OpenSpec.ofChange convTellsSpec)) convTellsCard

/-- THE TIED CARD OF 'abacistlaw13.ConvMuls'. -/
def convMulsCard : Claim7 := { stood := { row := convMulsRow, standIns := [], harness := (true, "eed6617f44fb58b0817f24d4da10a4655f557b96ea01da431122e3d1c8998c23"), looks := false }, kinds := [], alts := [], laidByText := true, laidKinds := [.data], laidTests := true, laidLooks := .later }
def ConvMulsCardSaid : Prop := Claim7.holds Tryd.pinned (.plain (OpenSpec.ofChange convMulsSpec)) convMulsCard

/-- THE SECOND FORM's CARD OF 'abacistlaw13.ConvLaws'. -/
def convLawsUptoCard : Claim7 := { stood := { row := convLawsUptoRow, standIns := [], harness := (true, "eed6617f44fb58b0817f24d4da10a4655f557b96ea01da431122e3d1c8998c23"), looks := false }, kinds := [], alts := [], laidByText := true, laidKinds := [.data], laidTests := true, laidLooks := .later }
def ConvLawsUptoCardSaid : Prop := Claim7.holds Tryd.pinned (.plain (OpenSpec.upto convLawsSpec)) convLawsUptoCard

/-- THE SECOND FORM's CARD OF 'abacistlaw13.ConvTells'. -/
def convTellsUptoCard : Claim7 := { stood := { row := convTellsUptoRow, standIns := [], harness := (true, "eed6617f44fb58b0817f24d4da10a4655f557b96ea01da431122e3d1c8998c23"), looks := false }, kinds := [], alts := [], laidByText := true, laidKinds := [.data], laidTests := true, laidLooks := .later }
def ConvTellsUptoCardSaid : Prop := Claim7.holds Tryd.pinned (.plain (OpenSpec.upto convTellsSpec)) convTellsUptoCard

/-- THE SECOND FORM's CARD OF 'abacistlaw13.ConvMuls'. -/
def convMulsUptoCard : Claim7 := { stood := { row := convMulsUptoRow, standIns := [], harness := (true, "eed6617f44fb58b0817f24d4da10a4655f557b96ea01da431122e3d1c8998c23"), looks := false }, kinds := [], alts := [], laidByText := true, laidKinds := [.data], laidTests := true, laidLooks := .later }
def ConvMulsUptoCardSaid : Prop := Claim7.holds Tryd.pinned (.plain (OpenSpec.upto convMulsSpec)) convMulsUptoCard
end Rows
end Go.Proofs.YtjooodbjbidjiaaDoor
