/-
  DERIVED. GIVEN WITH THE SEED: THE CARDS: each row of YtkpnjjacbhicgaaDoorRows.lean that lists a variable, with what it lists TIED to the program's text (the seventh form; the later family's looks); each row that meets fmt, with fmt's text TOLD by the authors' own Lean function (tested against real Go, not proved from fmt's source: count such statements apart). THE CARD IS WHAT COUNTS. Prove the row's statement (the work); the ties are given (YtkpnjjacbhicgaaDoorTie.lean); close each card by the builder's one call (the guide's Derived/Test/ToyasCard.lean, 'card_holds'). Laid BY PROGRAM, IN A SANDBOX (cutbox-door.mjs). By AI agents, Wed Nov 11 2026. No macro, syntax, notation, axiom, sorry.
-/
import Derived.Test.YtkpnjjacbhicgaaDoorRows
import GoSem.ClaimSeven
namespace Go.Proofs.YtkpnjjacbhicgaaDoor
namespace Rows

/-- THE TIED CARD OF 'ferrymanlaw21.RelayProofs'. -/
def relayProofsCard : Claim7 := { stood := { row := relayProofsRow, standIns := [], harness := (true, "0c886bad34c8a3331927f21c5039372987f1dac579f42c796f71926781026ccf"), looks := false }, kinds := [], alts := [], laidByText := true, laidKinds := [.data], laidTests := true, laidLooks := .later }
def RelayProofsCardSaid : Prop := Claim7.holds Tryd.pinned (.plain (OpenSpec.ofChange relayProofsSpec)) relayProofsCard

/-- THE SECOND FORM's CARD OF 'ferrymanlaw21.RelayProofs'. -/
def relayProofsUptoCard : Claim7 := { stood := { row := relayProofsUptoRow, standIns := [], harness := (true, "0c886bad34c8a3331927f21c5039372987f1dac579f42c796f71926781026ccf"), looks := false }, kinds := [], alts := [], laidByText := true, laidKinds := [.data], laidTests := true, laidLooks := .later }
def RelayProofsUptoCardSaid : Prop := Claim7.holds Tryd.pinned (.plain (OpenSpec.upto relayProofsSpec)) relayProofsUptoCard
end Rows
end Go.Proofs.YtkpnjjacbhicgaaDoor
