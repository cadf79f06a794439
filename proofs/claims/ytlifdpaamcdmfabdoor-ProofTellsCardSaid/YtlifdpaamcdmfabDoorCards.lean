/-
  DERIVED. GIVEN WITH THE SEED: THE CARDS: each row of YtlifdpaamcdmfabDoorRows.lean that lists a variable, with what it lists TIED to the program's text (the seventh form; the later family's looks); each row that meets fmt, with fmt's text TOLD by the authors' own Lean function (tested against real Go, not proved from fmt's source: count such statements apart). THE CARD IS WHAT COUNTS. Prove the row's statement (the work); the ties are given (YtlifdpaamcdmfabDoorTie.lean); close each card by the builder's one call (the guide's Derived/Test/ToyasCard.lean, 'card_holds'). Laid BY PROGRAM, IN A SANDBOX (cutbox-door.mjs). By AI agents, Wed Nov 11 2026. No macro, syntax, notation, axiom, sorry.
-/
import Derived.Test.YtlifdpaamcdmfabDoorRows
import GoSem.ClaimSeven
namespace Go.Proofs.YtlifdpaamcdmfabDoor
namespace Rows

/-- THE TIED CARD OF 'abacistlaw09.HalvesBack'. -/
def halvesBackCard : Claim7 := { stood := { row := halvesBackRow, standIns := [], harness := (true, "8d7da7231a9a8749e613dbe6a8d10dc19489c75d3d178d8e41301208a233c13e"), looks := false }, kinds := [], alts := [], laidByText := true, laidKinds := [.data], laidTests := true, laidLooks := .later }
def HalvesBackCardSaid : Prop := Claim7.holds Tryd.pinned (.plain (OpenSpec.ofChange halvesBackSpec)) halvesBackCard

/-- THE TIED CARD OF 'abacistlaw09.HalvesLinear'. -/
def halvesLinearCard : Claim7 := { stood := { row := halvesLinearRow, standIns := [], harness := (true, "8d7da7231a9a8749e613dbe6a8d10dc19489c75d3d178d8e41301208a233c13e"), looks := false }, kinds := [], alts := [], laidByText := true, laidKinds := [.data], laidTests := true, laidLooks := .later }
def HalvesLinearCardSaid : Prop := Claim7.holds Tryd.pinned (.plain (OpenSpec.ofChange halvesLinearSpec)) halvesLinearCard

/-- THE TIED CARD OF 'abacistlaw09.HalvesMuls'. -/
def halvesMulsCard : Claim7 := { stood := { row := halvesMulsRow, standIns := [], harness := (true, "8d7da7231a9a8749e613dbe6a8d10dc19489c75d3d178d8e41301208a233c13e"), looks := false }, kinds := [], alts := [], laidByText := true, laidKinds := [.data], laidTests := true, laidLooks := .later }
def HalvesMulsCardSaid : Prop := Claim7.holds Tryd.pinned (.plain (OpenSpec.ofChange halvesMulsSpec)) halvesMulsCard

/-- THE TIED CARD OF 'abacistlaw09.HalvesWings'. -/
def halvesWingsCard : Claim7 := { stood := { row := halvesWingsRow, standIns := [], harness := (true, "8d7da7231a9a8749e613dbe6a8d10dc19489c75d3d178d8e41301208a233c13e"), looks := false }, kinds := [], alts := [], laidByText := true, laidKinds := [.data], laidTests := true, laidLooks := .later }
def HalvesWingsCardSaid : Prop := Claim7.holds Tryd.pinned (.plain (OpenSpec.ofChange halvesWingsSpec)) halvesWingsCard

/-- THE TIED CARD OF 'abacistlaw09.HalvesRun'. -/
def halvesRunCard : Claim7 := { stood := { row := halvesRunRow, standIns := [], harness := (true, "8d7da7231a9a8749e613dbe6a8d10dc19489c75d3d178d8e41301208a233c13e"), looks := false }, kinds := [], alts := [], laidByText := true, laidKinds := [.data], laidTests := true, laidLooks := .later }
def HalvesRunCardSaid : Prop := Claim7.holds Tryd.pinned (.plain (OpenSpec.ofChange halvesRunSpec)) halvesRunCard

/-- THE TIED CARD OF 'abacistlaw28.ProofTrue'. -/
def proofTrueCard : Claim7 := { stood := { row := proofTrueRow, standIns := [], harness := (true, "8d7da7231a9a8749e613dbe6a8d10dc19489c75d3d178d8e41301208a233c13e"), looks := false }, kinds := [], alts := [], laidByText := true, laidKinds := [.data], laidTests := true, laidLooks := .later }
def ProofTrueCardSaid : Prop := Claim7.holds Tryd.pinned (.plain (OpenSpec.ofChange proofTrueSpec)) proofTrueCard

/-- THE TIED CARD OF 'abacistlaw28.ProofTells'. -/
def proofTellsCard : Claim7 := { stood := { row := proofTellsRow, standIns := [], harness := (true, "8d7da7231a9a8749e613dbe6a8d10dc19489c75d3d178d8e41301208a233c13e"), looks := false }, kinds := [], alts := [], laidByText := true, laidKinds := [.data], laidTests := true, laidLooks := .later }
def ProofTellsCardSaid : Prop := Claim7.holds Tryd.pinned (.plain (OpenSpec.ofChange proofTellsSpec)) proofTellsCard

/-- THE TIED CARD OF 'abacistlaw13.ConvLaws'. -/
def convLawsCard : Claim7 := { stood := { row := convLawsRow, standIns := [], harness := (true, "8d7da7231a9a8749e613dbe6a8d10dc19489c75d3d178d8e41301208a233c13e"), looks := false }, kinds := [], alts := [], laidByText := true, laidKinds := [.data], laidTests := true, laidLooks := .later }
def ConvLawsCardSaid : Prop := Claim7.holds Tryd.pinned (.plain (OpenSpec.ofChange convLawsSpec)) convLawsCard

/-- THE TIED CARD OF 'abacistlaw10.QuartersAlike'. -/
def quartersAlikeCard : Claim7 := { stood := { row := quartersAlikeRow, standIns := [], harness := (true, "8d7da7231a9a8749e613dbe6a8d10dc19489c75d3d178d8e41301208a233c13e"), looks := false }, kinds := [], alts := [], laidByText := true, laidKinds := [.data], laidTests := true, laidLooks := .later }
def QuartersAlikeCardSaid : Prop := Claim7.holds Tryd.pinned (.plain (OpenSpec.ofChange quartersAlikeSpec)) quartersAlikeCard

/-- THE TIED CARD OF 'abacistlaw13.ConvTells'. -/
def convTellsCard : Claim7 := { stood := { row := convTellsRow, standIns := [], harness := (true, "8d7da7231a9a8749e613dbe6a8d10dc19489c75d3d178d8e41301208a233c13e"), looks := false }, kinds := [], alts := [], laidByText := true, laidKinds := [.data], laidTests := true, laidLooks := .later }
def ConvTellsCardSaid : Prop := Claim7.holds Tryd.pinned (.plain (OpenSpec.ofChange convTellsSpec)) convTellsCard

/-- THE SECOND FORM's CARD OF 'abacistlaw09.HalvesBack'. -/
def halvesBackUptoCard : Claim7 := { stood := { row := halvesBackUptoRow, standIns := [], harness := (true, "8d7da7231a9a8749e613dbe6a8d10dc19489c75d3d178d8e41301208a233c13e"), looks := false }, kinds := [], alts := [], laidByText := true, laidKinds := [.data], laidTests := true, laidLooks := .later }
def HalvesBackUptoCardSaid : Prop := Claim7.holds Tryd.pinned (.plain (OpenSpec.upto halvesBackSpec)) halvesBackUptoCard

/-- THE SECOND FORM's CARD OF 'abacistlaw09.HalvesLinear'. -/
def halvesLinearUptoCard : Claim7 := { stood := { row := halvesLinearUptoRow, standIns := [], harness := (true, "8d7da7231a9a8749e613dbe6a8d10dc19489c75d3d178d8e41301208a233c13e"), looks := false }, kinds := [], alts := [], laidByText := true, laidKinds := [.data], laidTests := true, laidLooks := .later }
def HalvesLinearUptoCardSaid : Prop := Claim7.holds Tryd.pinned (.plain (OpenSpec.upto halvesLinearSpec)) halvesLinearUptoCard

/-- THE SECOND FORM's CARD OF 'abacistlaw09.HalvesMuls'. -/
def halvesMulsUptoCard : Claim7 := { stood := { row := halvesMulsUptoRow, standIns := [], harness := (true, "8d7da7231a9a8749e613dbe6a8d10dc19489c75d3d178d8e41301208a233c13e"), looks := false }, kinds := [], alts := [], laidByText := true, laidKinds := [.data], laidTests := true, laidLooks := .later }
def HalvesMulsUptoCardSaid : Prop := Claim7.holds Tryd.pinned (.plain (OpenSpec.upto halvesMulsSpec)) halvesMulsUptoCard

/-- THE SECOND FORM's CARD OF 'abacistlaw09.HalvesWings'. -/
def halvesWingsUptoCard : Claim7 := { stood := { row := halvesWingsUptoRow, standIns := [], harness := (true, "8d7da7231a9a8749e613dbe6a8d10dc19489c75d3d178d8e41301208a233c13e"), looks := false }, kinds := [], alts := [], laidByText := true, laidKinds := [.data], laidTests := true, laidLooks := .later }
def HalvesWingsUptoCardSaid : Prop := Claim7.holds Tryd.pinned (.plain (OpenSpec.upto halvesWingsSpec)) halvesWingsUptoCard

/-- THE SECOND FORM's CARD OF 'abacistlaw09.HalvesRun'. -/
def halvesRunUptoCard : Claim7 := { stood := { row := halvesRunUptoRow, standIns := [], harness := (true, "8d7da7231a9a8749e613dbe6a8d10dc19489c75d3d178d8e41301208a233c13e"), looks := false }, kinds := [], alts := [], laidByText := true, laidKinds := [.data], laidTests := true, laidLooks := .later }
def HalvesRunUptoCardSaid : Prop := Claim7.holds Tryd.pinned (.plain (OpenSpec.upto halvesRunSpec)) halvesRunUptoCard

/-- THE SECOND FORM's CARD OF 'abacistlaw28.ProofTrue'. -/
def proofTrueUptoCard : Claim7 := { stood := { row := proofTrueUptoRow, standIns := [], harness := (true, "8d7da7231a9a8749e613dbe6a8d10dc19489c75d3d178d8e41301208a233c13e"), looks := false }, kinds := [], alts := [], laidByText := true, laidKinds := [.data], laidTests := true, laidLooks := .later }
def ProofTrueUptoCardSaid : Prop := Claim7.holds Tryd.pinned (.plain (OpenSpec.upto proofTrueSpec)) proofTrueUptoCard

/-- THE SECOND FORM's CARD OF 'abacistlaw28.ProofTells'. -/
def proofTellsUptoCard : Claim7 := { stood := { row := proofTellsUptoRow, standIns := [], harness := (true, "8d7da7231a9a8749e613dbe6a8d10dc19489c75d3d178d8e41301208a233c13e"), looks := false }, kinds := [], alts := [], laidByText := true, laidKinds := [.data], laidTests := true, laidLooks := .later }
def ProofTellsUptoCardSaid : Prop := Claim7.holds Tryd.pinned (.plain (OpenSpec.upto proofTellsSpec)) proofTellsUptoCard

/-- THE SECOND FORM's CARD OF 'abacistlaw13.ConvLaws'. -/
def convLawsUptoCard : Claim7 := { stood := { row := convLawsUptoRow, standIns := [], harness := (true, "8d7da7231a9a8749e613dbe6a8d10dc19489c75d3d178d8e41301208a233c13e"), looks := false }, kinds := [], alts := [], laidByText := true, laidKinds := [.data], laidTests := true, laidLooks := .later }
def ConvLawsUptoCardSaid : Prop := Claim7.holds Tryd.pinned (.plain (OpenSpec.upto convLawsSpec)) convLawsUptoCard

/-- THE SECOND FORM's CARD OF 'abacistlaw10.QuartersAlike'. -/
def quartersAlikeUptoCard : Claim7 := { stood := { row := quartersAlikeUptoRow, standIns := [], harness := (true, "8d7da7231a9a8749e613dbe6a8d10dc19489c75d3d178d8e41301208a233c13e"), looks := false }, kinds := [], alts := [], laidByText := true, laidKinds := [.data], laidTests := true, laidLooks := .later }
def QuartersAlikeUptoCardSaid : Prop := Claim7.holds Tryd.pinned (.plain (OpenSpec.upto quartersAlikeSpec)) quartersAlikeUptoCard

/-- THE SECOND FORM's CARD OF 'abacistlaw13.ConvTells'. -/
def convTellsUptoCard : Claim7 := { stood := { row := convTellsUptoRow, standIns := [], harness := (true, "8d7da7231a9a8749e613dbe6a8d10dc19489c75d3d178d8e41301208a233c13e"), looks := false }, kinds := [], alts := [], laidByText := true, laidKinds := [.data], laidTests := true, laidLooks := .later }
def ConvTellsUptoCardSaid : Prop := Claim7.holds Tryd.pinned (.plain (OpenSpec.upto convTellsSpec)) convTellsUptoCard
end Rows
end Go.Proofs.YtlifdpaamcdmfabDoor
