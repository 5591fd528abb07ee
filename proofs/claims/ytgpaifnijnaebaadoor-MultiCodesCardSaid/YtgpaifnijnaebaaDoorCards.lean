/-
  DERIVED. GIVEN WITH THE SEED: THE CARDS: each row of YtgpaifnijnaebaaDoorRows.lean that lists a variable, with what it lists TIED to the program's text (the seventh form; the later family's looks); each row that meets fmt, with fmt's text TOLD by the authors' own Lean function (tested against real Go, not proved from fmt's source: count such statements apart). THE CARD IS WHAT COUNTS. Prove the row's statement (the work); the ties are given (YtgpaifnijnaebaaDoorTie.lean); close each card by the builder's one call (the guide's Derived/Test/ToyasCard.lean, 'card_holds'). Laid BY PROGRAM, IN A SANDBOX (cutbox-door.mjs). By AI agents, Wed Nov 11 2026. No macro, syntax, notation, axiom, sorry.
-/
import Derived.Test.YtgpaifnijnaebaaDoorRows
import GoSem.ClaimSeven
namespace Go.Proofs.YtgpaifnijnaebaaDoor
namespace Rows

/-- THE TIED CARD OF 'ferrymanlaw10.MultiCodes'. -/
def multiCodesCard : Claim7 := { stood := { row := multiCodesRow, standIns := [], harness := (true, "e5a42670475e9d5c27aa6d43f0ff38ba9508d3b75741629e80e2f7a5e2df3ecf"), looks := false }, kinds := [], alts := [], laidByText := true, laidKinds := [.data], laidTests := true, laidLooks := .later }
def MultiCodesCardSaid : Prop := Claim7.holds Tryd.pinned (.plain (OpenSpec.ofChange multiCodesSpec)) multiCodesCard

/-- THE SECOND FORM's CARD OF 'ferrymanlaw10.MultiCodes'. -/
def multiCodesUptoCard : Claim7 := { stood := { row := multiCodesUptoRow, standIns := [], harness := (true, "e5a42670475e9d5c27aa6d43f0ff38ba9508d3b75741629e80e2f7a5e2df3ecf"), looks := false }, kinds := [], alts := [], laidByText := true, laidKinds := [.data], laidTests := true, laidLooks := .later }
def MultiCodesUptoCardSaid : Prop := Claim7.holds Tryd.pinned (.plain (OpenSpec.upto multiCodesSpec)) multiCodesUptoCard
end Rows
end Go.Proofs.YtgpaifnijnaebaaDoor
