/-
  DERIVED. GIVEN WITH THE SEED: THE CARDS: each row of YtdnmoefdonanbaaDoorRows.lean that lists a variable, with what it lists TIED to the program's text (the seventh form; the later family's looks); each row that meets fmt, with fmt's text TOLD by the authors' own Lean function (tested against real Go, not proved from fmt's source: count such statements apart). THE CARD IS WHAT COUNTS. Prove the row's statement (the work); the ties are given (YtdnmoefdonanbaaDoorTie.lean); close each card by the builder's one call (the guide's Derived/Test/ToyasCard.lean, 'card_holds'). Laid BY PROGRAM, IN A SANDBOX (cutbox-door.mjs). By AI agents, Wed Nov 11 2026. No macro, syntax, notation, axiom, sorry.
-/
import Derived.Test.YtdnmoefdonanbaaDoorRows
import GoSem.ClaimSeven
namespace Go.Proofs.YtdnmoefdonanbaaDoor
namespace Rows

/-- THE TIED CARD OF 'abacistlaw28.ProofWhole'. -/
def proofWholeCard : Claim7 := { stood := { row := proofWholeRow, standIns := [], harness := (true, "fb818295b18d17b4cfb976d2c63d054acf5e0a5e98cbffa27baac3f4a95aad50"), looks := false }, kinds := [], alts := [], laidByText := true, laidKinds := [.data], laidTests := true, laidLooks := .later }
def ProofWholeCardSaid : Prop := Claim7.holds Tryd.pinned (.plain (OpenSpec.ofChange proofWholeSpec)) proofWholeCard

/-- THE TIED CARD OF 'abacistlaw28.ProofTells'. -/
def proofTellsCard : Claim7 := { stood := { row := proofTellsRow, standIns := [], harness := (true, "fb818295b18d17b4cfb976d2c63d054acf5e0a5e98cbffa27baac3f4a95aad50"), looks := false }, kinds := [], alts := [], laidByText := true, laidKinds := [.data], laidTests := true, laidLooks := .later }
def ProofTellsCardSaid : Prop := Claim7.holds Tryd.pinned (.plain (OpenSpec.ofChange proofTellsSpec)) proofTellsCard

/-- THE SECOND FORM's CARD OF 'abacistlaw28.ProofWhole'. -/
def proofWholeUptoCard : Claim7 := { stood := { row := proofWholeUptoRow, standIns := [], harness := (true, "fb818295b18d17b4cfb976d2c63d054acf5e0a5e98cbffa27baac3f4a95aad50"), looks := false }, kinds := [], alts := [], laidByText := true, laidKinds := [.data], laidTests := true, laidLooks := .later }
def ProofWholeUptoCardSaid : Prop := Claim7.holds Tryd.pinned (.plain (OpenSpec.upto proofWholeSpec)) proofWholeUptoCard

/-- THE SECOND FORM's CARD OF 'abacistlaw28.ProofTells'. -/
def proofTellsUptoCard : Claim7 := { stood := { row := proofTellsUptoRow, standIns := [], harness := (true, "fb818295b18d17b4cfb976d2c63d054acf5e0a5e98cbffa27baac3f4a95aad50"), looks := false }, kinds := [], alts := [], laidByText := true, laidKinds := [.data], laidTests := true, laidLooks := .later }
def ProofTellsUptoCardSaid : Prop := Claim7.holds Tryd.pinned (.plain (OpenSpec.upto proofTellsSpec)) proofTellsUptoCard
end Rows
end Go.Proofs.YtdnmoefdonanbaaDoor
