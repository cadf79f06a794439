/-
  DERIVED. GIVEN WITH THE SEED: THE CARDS: each row of YtnmjomcpkckihaaDoorRows.lean that lists a variable, with what it lists TIED to the program's text (the seventh form; the later family's looks); each row that meets fmt, with fmt's text TOLD by the authors' own Lean function (tested against real Go, not proved from fmt's source: count such statements apart). THE CARD IS WHAT COUNTS. Prove the row's statement (the work); the ties are given (YtnmjomcpkckihaaDoorTie.lean); close each card by the builder's one call (the guide's Derived/Test/ToyasCard.lean, 'card_holds'). Laid BY PROGRAM, IN A SANDBOX (cutbox-door.mjs). By AI agents, Wed Nov 11 2026. No macro, syntax, notation, axiom, sorry.
-/
import Derived.Test.YtnmjomcpkckihaaDoorRows
import GoSem.ClaimSeven
namespace Go.Proofs.YtnmjomcpkckihaaDoor
namespace Rows

/-- THE TIED CARD OF 'abacistlaw29.ChirpValues'. -/
def chirpValuesCard : Claim7 := { stood := { row := chirpValuesRow, standIns := [], harness := (true, "f291f103bde356af82c94902159d24ef5bf764516c6b744c401ed268de0e1a62"), looks := false }, kinds := [], alts := [], laidByText := true, laidKinds := [.data], laidTests := true, laidLooks := .later }
def ChirpValuesCardSaid : Prop := Claim7.holds Tryd.pinned (.plain (OpenSpec.ofChange chirpValuesSpec)) chirpValuesCard

/-- THE TIED CARD OF 'abacistlaw29.ChirpLengths'. -/
def chirpLengthsCard : Claim7 := { stood := { row := chirpLengthsRow, standIns := [], harness := (true, "f291f103bde356af82c94902159d24ef5bf764516c6b744c401ed268de0e1a62"), looks := false }, kinds := [], alts := [], laidByText := true, laidKinds := [.data, .data], laidTests := true, laidLooks := .later }
def ChirpLengthsCardSaid : Prop := Claim7.holds Tryd.pinned (.plain (OpenSpec.ofChange chirpLengthsSpec)) chirpLengthsCard

/-- THE TIED CARD OF 'abacistlaw29.ChirpTwos'. -/
def chirpTwosCard : Claim7 := { stood := { row := chirpTwosRow, standIns := [], harness := (true, "f291f103bde356af82c94902159d24ef5bf764516c6b744c401ed268de0e1a62"), looks := false }, kinds := [], alts := [], laidByText := true, laidKinds := [.data, .data], laidTests := true, laidLooks := .later }
def ChirpTwosCardSaid : Prop := Claim7.holds Tryd.pinned (.plain (OpenSpec.ofChange chirpTwosSpec)) chirpTwosCard

/-- THE TIED CARD OF 'abacistlaw29.ChirpRuns'. -/
def chirpRunsCard : Claim7 := { stood := { row := chirpRunsRow, standIns := [], harness := (true, "f291f103bde356af82c94902159d24ef5bf764516c6b744c401ed268de0e1a62"), looks := false }, kinds := [], alts := [], laidByText := true, laidKinds := [.data, .data], laidTests := true, laidLooks := .later }
def ChirpRunsCardSaid : Prop := Claim7.holds Tryd.pinned (.plain (OpenSpec.ofChange chirpRunsSpec)) chirpRunsCard

/-- THE SECOND FORM's CARD OF 'abacistlaw29.ChirpValues'. -/
def chirpValuesUptoCard : Claim7 := { stood := { row := chirpValuesUptoRow, standIns := [], harness := (true, "f291f103bde356af82c94902159d24ef5bf764516c6b744c401ed268de0e1a62"), looks := false }, kinds := [], alts := [], laidByText := true, laidKinds := [.data], laidTests := true, laidLooks := .later }
def ChirpValuesUptoCardSaid : Prop := Claim7.holds Tryd.pinned (.plain (OpenSpec.upto chirpValuesSpec)) chirpValuesUptoCard

/-- THE SECOND FORM's CARD OF 'abacistlaw29.ChirpLengths'. -/
def chirpLengthsUptoCard : Claim7 := { stood := { row := chirpLengthsUptoRow, standIns := [], harness := (true, "f291f103bde356af82c94902159d24ef5bf764516c6b744c401ed268de0e1a62"), looks := false }, kinds := [], alts := [], laidByText := true, laidKinds := [.data, .data], laidTests := true, laidLooks := .later }
def ChirpLengthsUptoCardSaid : Prop := Claim7.holds Tryd.pinned (.plain (OpenSpec.upto chirpLengthsSpec)) chirpLengthsUptoCard

/-- THE SECOND FORM's CARD OF 'abacistlaw29.ChirpTwos'. -/
def chirpTwosUptoCard : Claim7 := { stood := { row := chirpTwosUptoRow, standIns := [], harness := (true, "f291f103bde356af82c94902159d24ef5bf764516c6b744c401ed268de0e1a62"), looks := false }, kinds := [], alts := [], laidByText := true, laidKinds := [.data, .data], laidTests := true, laidLooks := .later }
def ChirpTwosUptoCardSaid : Prop := Claim7.holds Tryd.pinned (.plain (OpenSpec.upto chirpTwosSpec)) chirpTwosUptoCard

/-- THE SECOND FORM's CARD OF 'abacistlaw29.ChirpRuns'. -/
def chirpRunsUptoCard : Claim7 := { stood := { row := chirpRunsUptoRow, standIns := [], harness := (true, "f291f103bde356af82c94902159d24ef5bf764516c6b744c401ed268de0e1a62"), looks := false }, kinds := [], alts := [], laidByText := true, laidKinds := [.data, .data], laidTests := true, laidLooks := .later }
def ChirpRunsUptoCardSaid : Prop := Claim7.holds Tryd.pinned (.plain (OpenSpec.upto chirpRunsSpec)) chirpRunsUptoCard
end Rows
end Go.Proofs.YtnmjomcpkckihaaDoor
