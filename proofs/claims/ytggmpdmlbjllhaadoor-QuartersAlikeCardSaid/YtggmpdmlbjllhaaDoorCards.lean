/-
  DERIVED. GIVEN WITH THE SEED: THE CARDS: each row of YtggmpdmlbjllhaaDoorRows.lean that lists a variable, with what it lists TIED to the program's text (the seventh form; the later family's looks); each row that meets fmt, with fmt's text TOLD by the authors' own Lean function (tested against real Go, not proved from fmt's source: count such statements apart). THE CARD IS WHAT COUNTS. Prove the row's statement (the work); the ties are given (YtggmpdmlbjllhaaDoorTie.lean); close each card by the builder's one call (the guide's Derived/Test/ToyasCard.lean, 'card_holds'). Laid BY PROGRAM, IN A SANDBOX (cutbox-door.mjs). By AI agents, Wed Nov 11 2026. No macro, syntax, notation, axiom, sorry.
-/
import Derived.Test.YtggmpdmlbjllhaaDoorRows
import GoSem.ClaimSeven
namespace Go.Proofs.YtggmpdmlbjllhaaDoor
namespace Rows

/-- THE TIED CARD OF 'abacistlaw09.HalvesBack'. -/
def halvesBackCard : Claim7 := { stood := { row := halvesBackRow, standIns := [], harness := (true, "1a0281f5efe8459425469d93863d9152b841f7398d50a09128b83eaf55ce8f30"), looks := false }, kinds := [], alts := [], laidByText := true, laidKinds := [.data], laidTests := true, laidLooks := .later }
def HalvesBackCardSaid : Prop := Claim7.holds Tryd.pinned (.plain (OpenSpec.ofChange halvesBackSpec)) halvesBackCard

/-- THE TIED CARD OF 'abacistlaw09.HalvesLinear'. -/
def halvesLinearCard : Claim7 := { stood := { row := halvesLinearRow, standIns := [], harness := (true, "1a0281f5efe8459425469d93863d9152b841f7398d50a09128b83eaf55ce8f30"), looks := false }, kinds := [], alts := [], laidByText := true, laidKinds := [.data], laidTests := true, laidLooks := .later }
def HalvesLinearCardSaid : Prop := Claim7.holds Tryd.pinned (.plain (OpenSpec.ofChange halvesLinearSpec)) halvesLinearCard

/-- THE TIED CARD OF 'abacistlaw09.HalvesMuls'. -/
def halvesMulsCard : Claim7 := { stood := { row := halvesMulsRow, standIns := [], harness := (true, "1a0281f5efe8459425469d93863d9152b841f7398d50a09128b83eaf55ce8f30"), looks := false }, kinds := [], alts := [], laidByText := true, laidKinds := [.data], laidTests := true, laidLooks := .later }
def HalvesMulsCardSaid : Prop := Claim7.holds Tryd.pinned (.plain (OpenSpec.ofChange halvesMulsSpec)) halvesMulsCard

/-- THE TIED CARD OF 'abacistlaw09.HalvesWings'. -/
def halvesWingsCard : Claim7 := { stood := { row := halvesWingsRow, standIns := [], harness := (true, "1a0281f5efe8459425469d93863d9152b841f7398d50a09128b83eaf55ce8f30"), looks := false }, kinds := [], alts := [], laidByText := true, laidKinds := [.data], laidTests := true, laidLooks := .later }
def HalvesWingsCardSaid : Prop := Claim7.holds Tryd.pinned (.plain (OpenSpec.ofChange halvesWingsSpec)) halvesWingsCard

/-- THE TIED CARD OF 'abacistlaw09.HalvesRun'. -/
def halvesRunCard : Claim7 := { stood := { row := halvesRunRow, standIns := [], harness := (true, "1a0281f5efe8459425469d93863d9152b841f7398d50a09128b83eaf55ce8f30"), looks := false }, kinds := [], alts := [], laidByText := true, laidKinds := [.data], laidTests := true, laidLooks := .later }
def HalvesRunCardSaid : Prop := Claim7.holds Tryd.pinned (.plain (OpenSpec.ofChange halvesRunSpec)) halvesRunCard

/-- THE TIED CARD OF 'abacistlaw10.QuartersAlike'. -/
def quartersAlikeCard : Claim7 := { stood := { row := quartersAlikeRow, standIns := [], harness := (true, "1a0281f5efe8459425469d93863d9152b841f7398d50a09128b83eaf55ce8f30"), looks := false }, kinds := [], alts := [], laidByText := true, laidKinds := [.data], laidTests := true, laidLooks := .later }
def QuartersAlikeCardSaid : Prop := Claim7.holds Tryd.pinned (.plain (OpenSpec.ofChange quartersAlikeSpec)) quartersAlikeCard

/-- THE SECOND FORM's CARD OF 'abacistlaw09.HalvesBack'. -/
def halvesBackUptoCard : Claim7 := { stood := { row := halvesBackUptoRow, standIns := [], harness := (true, "1a0281f5efe8459425469d93863d9152b841f7398d50a09128b83eaf55ce8f30"), looks := false }, kinds := [], alts := [], laidByText := true, laidKinds := [.data], laidTests := true, laidLooks := .later }
def HalvesBackUptoCardSaid : Prop := Claim7.holds Tryd.pinned (.plain (OpenSpec.upto halvesBackSpec)) halvesBackUptoCard

/-- THE SECOND FORM's CARD OF 'abacistlaw09.HalvesLinear'. -/
def halvesLinearUptoCard : Claim7 := { stood := { row := halvesLinearUptoRow, standIns := [], harness := (true, "1a0281f5efe8459425469d93863d9152b841f7398d50a09128b83eaf55ce8f30"), looks := false }, kinds := [], alts := [], laidByText := true, laidKinds := [.data], laidTests := true, laidLooks := .later }
def HalvesLinearUptoCardSaid : Prop := Claim7.holds Tryd.pinned (.plain (OpenSpec.upto halvesLinearSpec)) halvesLinearUptoCard

/-- THE SECOND FORM's CARD OF 'abacistlaw09.HalvesMuls'. -/
def halvesMulsUptoCard : Claim7 := { stood := { row := halvesMulsUptoRow, standIns := [], harness := (true, "1a0281f5efe8459425469d93863d9152b841f7398d50a09128b83eaf55ce8f30"), looks := false }, kinds := [], alts := [], laidByText := true, laidKinds := [.data], laidTests := true, laidLooks := .later }
def HalvesMulsUptoCardSaid : Prop := Claim7.holds Tryd.pinned (.plain (OpenSpec.upto halvesMulsSpec)) halvesMulsUptoCard

/-- THE SECOND FORM's CARD OF 'abacistlaw09.HalvesWings'. -/
def halvesWingsUptoCard : Claim7 := { stood := { row := halvesWingsUptoRow, standIns := [], harness := (true, "1a0281f5efe8459425469d93863d9152b841f7398d50a09128b83eaf55ce8f30"), looks := false }, kinds := [], alts := [], laidByText := true, laidKinds := [.data], laidTests := true, laidLooks := .later }
def HalvesWingsUptoCardSaid : Prop := Claim7.holds Tryd.pinned (.plain (OpenSpec.upto halvesWingsSpec)) halvesWingsUptoCard

/-- THE SECOND FORM's CARD OF 'abacistlaw09.HalvesRun'. -/
def halvesRunUptoCard : Claim7 := { stood := { row := halvesRunUptoRow, standIns := [], harness := (true, "1a0281f5efe8459425469d93863d9152b841f7398d50a09128b83eaf55ce8f30"), looks := false }, kinds := [], alts := [], laidByText := true, laidKinds := [.data], laidTests := true, laidLooks := .later }
def HalvesRunUptoCardSaid : Prop := Claim7.holds Tryd.pinned (.plain (OpenSpec.upto halvesRunSpec)) halvesRunUptoCard

/-- THE SECOND FORM's CARD OF 'abacistlaw10.QuartersAlike'. -/
def quartersAlikeUptoCard : Claim7 := { stood := { row := quartersAlikeUptoRow, standIns := [], harness := (true, "1a0281f5efe8459425469d93863d9152b841f7398d50a09128b83eaf55ce8f30"), looks := false }, kinds := [], alts := [], laidByText := true, laidKinds := [.data], laidTests := true, laidLooks := .later }
def QuartersAlikeUptoCardSaid : Prop := Claim7.holds Tryd.pinned (.plain (OpenSpec.upto quartersAlikeSpec)) quartersAlikeUptoCard
end Rows
end Go.Proofs.YtggmpdmlbjllhaaDoor
