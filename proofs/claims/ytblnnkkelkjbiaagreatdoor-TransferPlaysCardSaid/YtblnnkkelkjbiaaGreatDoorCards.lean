/-
  DERIVED. GIVEN WITH THE SEED: THE CARDS: each row of YtblnnkkelkjbiaaGreatDoorRows.lean that lists a variable, with what it lists TIED to the program's text (the seventh form; the later family's looks); each row that meets fmt, with fmt's text TOLD by the authors' own Lean function (tested against real Go, not proved from fmt's source: count such statements apart). THE CARD IS WHAT COUNTS. Prove the row's statement (the work); the ties are given (YtblnnkkelkjbiaaGreatDoorTie.lean); close each card by the builder's one call (the guide's Derived/Test/ToyasCard.lean, 'card_holds'). Laid BY PROGRAM, IN A SANDBOX (cutbox-door.mjs). By AI agents, Wed Nov 11 2026. No macro, syntax, notation, axiom, sorry.
-/
import Derived.Test.YtblnnkkelkjbiaaGreatDoorRows
import GoSem.ClaimSeven
namespace Go.Proofs.YtblnnkkelkjbiaaGreatDoor
namespace Rows

/-- THE TIED CARD OF 'ferrymanlaw14.TransferPlays'. -/
def transferPlaysCard : Claim7 := { stood := { row := transferPlaysRow, standIns := [], harness := (true, "ac0d659a98c9797f4a0e3c03bb5bae76dec86723368030dde5378003a2086028"), looks := true }, kinds := [], alts := [], laidByText := true, laidKinds := [.handle], laidTests := true, laidLooks := .later }
def TransferPlaysCardSaid : Prop := Claim7.holds Tryz.pinned (.plain (OpenSpec.ofChange transferPlaysSpec)) transferPlaysCard

/-- THE SECOND FORM's CARD OF 'ferrymanlaw14.TransferPlays'. -/
def transferPlaysUptoCard : Claim7 := { stood := { row := transferPlaysUptoRow, standIns := [], harness := (true, "ac0d659a98c9797f4a0e3c03bb5bae76dec86723368030dde5378003a2086028"), looks := true }, kinds := [], alts := [], laidByText := true, laidKinds := [.handle], laidTests := true, laidLooks := .later }
def TransferPlaysUptoCardSaid : Prop := Claim7.holds Tryz.pinned (.plain (OpenSpec.upto transferPlaysSpec)) transferPlaysUptoCard
end Rows
end Go.Proofs.YtblnnkkelkjbiaaGreatDoor
