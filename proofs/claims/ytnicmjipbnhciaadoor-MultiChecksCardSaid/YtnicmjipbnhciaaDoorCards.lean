/-
  DERIVED. GIVEN WITH THE SEED: THE CARDS: each row of YtnicmjipbnhciaaDoorRows.lean that lists a variable, with what it lists TIED to the program's text (the seventh form; the later family's looks); each row that meets fmt, with fmt's text TOLD by the authors' own Lean function (tested against real Go, not proved from fmt's source: count such statements apart). THE CARD IS WHAT COUNTS. Prove the row's statement (the work); the ties are given (YtnicmjipbnhciaaDoorTie.lean); close each card by the builder's one call (the guide's Derived/Test/ToyasCard.lean, 'card_holds'). Laid BY PROGRAM, IN A SANDBOX (cutbox-door.mjs). By AI agents, Wed Nov 11 2026. No macro, syntax, notation, axiom, sorry.
-/
import Derived.Test.YtnicmjipbnhciaaDoorRows
import GoSem.ClaimSeven
namespace Go.Proofs.YtnicmjipbnhciaaDoor
namespace Rows

/-- THE TIED CARD OF 'ferrymanlaw09.ProofNil'. -/
def proofNilCard : Claim7 := { stood := { row := proofNilRow, standIns := [], harness := (true, "94c5f2586414e44b908874465afe95b399aa35dbd4dec7bea2ab0dab59b7c248"), looks := true }, kinds := [], alts := [], laidByText := true, laidKinds := [.data, .handle], laidTests := true, laidLooks := .later }
def ProofNilCardSaid : Prop := Claim7.holds Tryd.pinned (.plain (OpenSpec.ofChange proofNilSpec)) proofNilCard

/-- THE TIED CARD OF 'ferrymanlaw09.ProofMakes'. -/
def proofMakesCard : Claim7 := { stood := { row := proofMakesRow, standIns := [], harness := (true, "94c5f2586414e44b908874465afe95b399aa35dbd4dec7bea2ab0dab59b7c248"), looks := true }, kinds := [], alts := [], laidByText := true, laidKinds := [.data, .data, .handle], laidTests := true, laidLooks := .later }
def ProofMakesCardSaid : Prop := Claim7.holds Tryd.pinned (.plain (OpenSpec.ofChange proofMakesSpec)) proofMakesCard

/-- THE TIED CARD OF 'ferrymanlaw09.ProofNone'. -/
def proofNoneCard : Claim7 := { stood := { row := proofNoneRow, standIns := [], harness := (true, "94c5f2586414e44b908874465afe95b399aa35dbd4dec7bea2ab0dab59b7c248"), looks := true }, kinds := [], alts := [], laidByText := true, laidKinds := [.data, .data, .handle], laidTests := true, laidLooks := .later }
def ProofNoneCardSaid : Prop := Claim7.holds Tryd.pinned (.plain (OpenSpec.ofChange proofNoneSpec)) proofNoneCard

/-- THE TIED CARD OF 'ferrymanlaw09.ProofVerifies'. -/
def proofVerifiesCard : Claim7 := { stood := { row := proofVerifiesRow, standIns := [], harness := (true, "94c5f2586414e44b908874465afe95b399aa35dbd4dec7bea2ab0dab59b7c248"), looks := true }, kinds := [], alts := [], laidByText := true, laidKinds := [.data, .data, .handle], laidTests := true, laidLooks := .later }
def ProofVerifiesCardSaid : Prop := Claim7.holds Tryd.pinned (.plain (OpenSpec.ofChange proofVerifiesSpec)) proofVerifiesCard

/-- THE TIED CARD OF 'ferrymanlaw09.ProofGaps'. -/
def proofGapsCard : Claim7 := { stood := { row := proofGapsRow, standIns := [], harness := (true, "94c5f2586414e44b908874465afe95b399aa35dbd4dec7bea2ab0dab59b7c248"), looks := true }, kinds := [], alts := [], laidByText := true, laidKinds := [.data, .data, .handle], laidTests := true, laidLooks := .later }
def ProofGapsCardSaid : Prop := Claim7.holds Tryd.pinned (.plain (OpenSpec.ofChange proofGapsSpec)) proofGapsCard

/-- THE TIED CARD OF 'ferrymanlaw09.ProofCodes'. -/
def proofCodesCard : Claim7 := { stood := { row := proofCodesRow, standIns := [], harness := (true, "94c5f2586414e44b908874465afe95b399aa35dbd4dec7bea2ab0dab59b7c248"), looks := true }, kinds := [], alts := [], laidByText := true, laidKinds := [.data, .handle], laidTests := true, laidLooks := .later }
def ProofCodesCardSaid : Prop := Claim7.holds Tryd.pinned (.plain (OpenSpec.ofChange proofCodesSpec)) proofCodesCard

/-- THE TIED CARD OF 'ferrymanlaw09.ProofGapCodes'. -/
def proofGapCodesCard : Claim7 := { stood := { row := proofGapCodesRow, standIns := [], harness := (true, "94c5f2586414e44b908874465afe95b399aa35dbd4dec7bea2ab0dab59b7c248"), looks := true }, kinds := [], alts := [], laidByText := true, laidKinds := [.data, .handle], laidTests := true, laidLooks := .later }
def ProofGapCodesCardSaid : Prop := Claim7.holds Tryd.pinned (.plain (OpenSpec.ofChange proofGapCodesSpec)) proofGapCodesCard

/-- THE TIED CARD OF 'ferrymanlaw10.MultiMakes'. -/
def multiMakesCard : Claim7 := { stood := { row := multiMakesRow, standIns := [], harness := (true, "94c5f2586414e44b908874465afe95b399aa35dbd4dec7bea2ab0dab59b7c248"), looks := true }, kinds := [], alts := [], laidByText := true, laidKinds := [.data, .data], laidTests := true, laidLooks := .later }
def MultiMakesCardSaid : Prop := Claim7.holds Tryd.pinned (.plain (OpenSpec.ofChange multiMakesSpec)) multiMakesCard

/-- THE TIED CARD OF 'ferrymanlaw10.MultiSame'. -/
def multiSameCard : Claim7 := { stood := { row := multiSameRow, standIns := [], harness := (true, "94c5f2586414e44b908874465afe95b399aa35dbd4dec7bea2ab0dab59b7c248"), looks := true }, kinds := [], alts := [], laidByText := true, laidKinds := [.data], laidTests := true, laidLooks := .later }
def MultiSameCardSaid : Prop := Claim7.holds Tryd.pinned (.plain (OpenSpec.ofChange multiSameSpec)) multiSameCard

/-- THE TIED CARD OF 'ferrymanlaw10.MultiMany'. -/
def multiManyCard : Claim7 := { stood := { row := multiManyRow, standIns := [], harness := (true, "94c5f2586414e44b908874465afe95b399aa35dbd4dec7bea2ab0dab59b7c248"), looks := true }, kinds := [], alts := [], laidByText := true, laidKinds := [.data], laidTests := true, laidLooks := .later }
def MultiManyCardSaid : Prop := Claim7.holds Tryd.pinned (.plain (OpenSpec.ofChange multiManySpec)) multiManyCard

/-- THE TIED CARD OF 'ferrymanlaw10.MultiNil'. -/
def multiNilCard : Claim7 := { stood := { row := multiNilRow, standIns := [], harness := (true, "94c5f2586414e44b908874465afe95b399aa35dbd4dec7bea2ab0dab59b7c248"), looks := true }, kinds := [], alts := [], laidByText := true, laidKinds := [.data, .handle], laidTests := true, laidLooks := .later }
def MultiNilCardSaid : Prop := Claim7.holds Tryd.pinned (.plain (OpenSpec.ofChange multiNilSpec)) multiNilCard

/-- THE TIED CARD OF 'ferrymanlaw10.MultiChecks'. -/
def multiChecksCard : Claim7 := { stood := { row := multiChecksRow, standIns := [], harness := (true, "94c5f2586414e44b908874465afe95b399aa35dbd4dec7bea2ab0dab59b7c248"), looks := true }, kinds := [], alts := [], laidByText := true, laidKinds := [.data, .data, .handle], laidTests := true, laidLooks := .later }
def MultiChecksCardSaid : Prop := Claim7.holds Tryd.pinned (.plain (OpenSpec.ofChange multiChecksSpec)) multiChecksCard

/-- THE SECOND FORM's CARD OF 'ferrymanlaw09.ProofNil'. -/
def proofNilUptoCard : Claim7 := { stood := { row := proofNilUptoRow, standIns := [], harness := (true, "94c5f2586414e44b908874465afe95b399aa35dbd4dec7bea2ab0dab59b7c248"), looks := true }, kinds := [], alts := [], laidByText := true, laidKinds := [.data, .handle], laidTests := true, laidLooks := .later }
def ProofNilUptoCardSaid : Prop := Claim7.holds Tryd.pinned (.plain (OpenSpec.upto proofNilSpec)) proofNilUptoCard

/-- THE SECOND FORM's CARD OF 'ferrymanlaw09.ProofMakes'. -/
def proofMakesUptoCard : Claim7 := { stood := { row := proofMakesUptoRow, standIns := [], harness := (true, "94c5f2586414e44b908874465afe95b399aa35dbd4dec7bea2ab0dab59b7c248"), looks := true }, kinds := [], alts := [], laidByText := true, laidKinds := [.data, .data, .handle], laidTests := true, laidLooks := .later }
def ProofMakesUptoCardSaid : Prop := Claim7.holds Tryd.pinned (.plain (OpenSpec.upto proofMakesSpec)) proofMakesUptoCard

/-- THE SECOND FORM's CARD OF 'ferrymanlaw09.ProofNone'. -/
def proofNoneUptoCard : Claim7 := { stood := { row := proofNoneUptoRow, standIns := [], harness := (true, "94c5f2586414e44b908874465afe95b399aa35dbd4dec7bea2ab0dab59b7c248"), looks := true }, kinds := [], alts := [], laidByText := true, laidKinds := [.data, .data, .handle], laidTests := true, laidLooks := .later }
def ProofNoneUptoCardSaid : Prop := Claim7.holds Tryd.pinned (.plain (OpenSpec.upto proofNoneSpec)) proofNoneUptoCard

/-- THE SECOND FORM's CARD OF 'ferrymanlaw09.ProofVerifies'. -/
def proofVerifiesUptoCard : Claim7 := { stood := { row := proofVerifiesUptoRow, standIns := [], harness := (true, "94c5f2586414e44b908874465afe95b399aa35dbd4dec7bea2ab0dab59b7c248"), looks := true }, kinds := [], alts := [], laidByText := true, laidKinds := [.data, .data, .handle], laidTests := true, laidLooks := .later }
def ProofVerifiesUptoCardSaid : Prop := Claim7.holds Tryd.pinned (.plain (OpenSpec.upto proofVerifiesSpec)) proofVerifiesUptoCard

/-- THE SECOND FORM's CARD OF 'ferrymanlaw09.ProofGaps'. -/
def proofGapsUptoCard : Claim7 := { stood := { row := proofGapsUptoRow, standIns := [], harness := (true, "94c5f2586414e44b908874465afe95b399aa35dbd4dec7bea2ab0dab59b7c248"), looks := true }, kinds := [], alts := [], laidByText := true, laidKinds := [.data, .data, .handle], laidTests := true, laidLooks := .later }
def ProofGapsUptoCardSaid : Prop := Claim7.holds Tryd.pinned (.plain (OpenSpec.upto proofGapsSpec)) proofGapsUptoCard

/-- THE SECOND FORM's CARD OF 'ferrymanlaw09.ProofCodes'. -/
def proofCodesUptoCard : Claim7 := { stood := { row := proofCodesUptoRow, standIns := [], harness := (true, "94c5f2586414e44b908874465afe95b399aa35dbd4dec7bea2ab0dab59b7c248"), looks := true }, kinds := [], alts := [], laidByText := true, laidKinds := [.data, .handle], laidTests := true, laidLooks := .later }
def ProofCodesUptoCardSaid : Prop := Claim7.holds Tryd.pinned (.plain (OpenSpec.upto proofCodesSpec)) proofCodesUptoCard

/-- THE SECOND FORM's CARD OF 'ferrymanlaw09.ProofGapCodes'. -/
def proofGapCodesUptoCard : Claim7 := { stood := { row := proofGapCodesUptoRow, standIns := [], harness := (true, "94c5f2586414e44b908874465afe95b399aa35dbd4dec7bea2ab0dab59b7c248"), looks := true }, kinds := [], alts := [], laidByText := true, laidKinds := [.data, .handle], laidTests := true, laidLooks := .later }
def ProofGapCodesUptoCardSaid : Prop := Claim7.holds Tryd.pinned (.plain (OpenSpec.upto proofGapCodesSpec)) proofGapCodesUptoCard

/-- THE SECOND FORM's CARD OF 'ferrymanlaw10.MultiMakes'. -/
def multiMakesUptoCard : Claim7 := { stood := { row := multiMakesUptoRow, standIns := [], harness := (true, "94c5f2586414e44b908874465afe95b399aa35dbd4dec7bea2ab0dab59b7c248"), looks := true }, kinds := [], alts := [], laidByText := true, laidKinds := [.data, .data], laidTests := true, laidLooks := .later }
def MultiMakesUptoCardSaid : Prop := Claim7.holds Tryd.pinned (.plain (OpenSpec.upto multiMakesSpec)) multiMakesUptoCard

/-- THE SECOND FORM's CARD OF 'ferrymanlaw10.MultiSame'. -/
def multiSameUptoCard : Claim7 := { stood := { row := multiSameUptoRow, standIns := [], harness := (true, "94c5f2586414e44b908874465afe95b399aa35dbd4dec7bea2ab0dab59b7c248"), looks := true }, kinds := [], alts := [], laidByText := true, laidKinds := [.data], laidTests := true, laidLooks := .later }
def MultiSameUptoCardSaid : Prop := Claim7.holds Tryd.pinned (.plain (OpenSpec.upto multiSameSpec)) multiSameUptoCard

/-- THE SECOND FORM's CARD OF 'ferrymanlaw10.MultiMany'. -/
def multiManyUptoCard : Claim7 := { stood := { row := multiManyUptoRow, standIns := [], harness := (true, "94c5f2586414e44b908874465afe95b399aa35dbd4dec7bea2ab0dab59b7c248"), looks := true }, kinds := [], alts := [], laidByText := true, laidKinds := [.data], laidTests := true, laidLooks := .later }
def MultiManyUptoCardSaid : Prop := Claim7.holds Tryd.pinned (.plain (OpenSpec.upto multiManySpec)) multiManyUptoCard

/-- THE SECOND FORM's CARD OF 'ferrymanlaw10.MultiNil'. -/
def multiNilUptoCard : Claim7 := { stood := { row := multiNilUptoRow, standIns := [], harness := (true, "94c5f2586414e44b908874465afe95b399aa35dbd4dec7bea2ab0dab59b7c248"), looks := true }, kinds := [], alts := [], laidByText := true, laidKinds := [.data, .handle], laidTests := true, laidLooks := .later }
def MultiNilUptoCardSaid : Prop := Claim7.holds Tryd.pinned (.plain (OpenSpec.upto multiNilSpec)) multiNilUptoCard

/-- THE SECOND FORM's CARD OF 'ferrymanlaw10.MultiChecks'. -/
def multiChecksUptoCard : Claim7 := { stood := { row := multiChecksUptoRow, standIns := [], harness := (true, "94c5f2586414e44b908874465afe95b399aa35dbd4dec7bea2ab0dab59b7c248"), looks := true }, kinds := [], alts := [], laidByText := true, laidKinds := [.data, .data, .handle], laidTests := true, laidLooks := .later }
def MultiChecksUptoCardSaid : Prop := Claim7.holds Tryd.pinned (.plain (OpenSpec.upto multiChecksSpec)) multiChecksUptoCard
end Rows
end Go.Proofs.YtnicmjipbnhciaaDoor
