/-
  DERIVED. GIVEN WITH THE SEED: THE PROGRAM's TIES (one call each: nine closed facts by the kernel) AND EACH ROW's TIE, after the 31st guide's Derived/Test/Toyas{Tie, Card}.lean. No idea stands in it: it is a product of the set-up. Laid BY PROGRAM, IN A SANDBOX (cutbox-door.mjs). By AI agents, Wed Nov 11 2026. No macro, syntax, notation, axiom, sorry.
-/
import Derived.Test.YtnicmjipbnhciaaDoorRows
import Derived.LaidByTextLater
import Derived.SevenTiedAt
import Derived.LaidSub
import Derived.LaidOnce
namespace Go.Proofs.YtnicmjipbnhciaaDoor
open Go
set_option maxRecDepth 100000
theorem seatTie1 : Tryd.prog.laidByTextLater [("ferryman/ferrymanref01.roots", Rows.laid_ferryman_ferrymanref01_roots), ("ferryman/sha.words", Rows.laid_ferryman_sha_words), ("errors.errorType", Rows.laid_errors_errorType)] [.data, .data, .handle] true :=
  Program.laidByTextLater_by_one 26 8 65 (by kernel_rfl) (by kernel_rfl) (by kernel_rfl) (by kernel_rfl) (by kernel_rfl) (by kernel_rfl) (fun _ _ => by kernel_rfl)
theorem noOwnUnsafe : Tryd.pinned.checked.prog.headLifts.contains "ownunsafe" = false := by kernel_rfl
theorem tie : Tryd.prog.laidByTextLater [("ferryman/sha.words", Rows.laid_ferryman_sha_words), ("errors.errorType", Rows.laid_errors_errorType)] [.data, .handle] true :=
  Program.laidByTextLater.sub seatTie1 ["ferryman/sha.words", "errors.errorType"] (by kernel_rfl) (by kernel_rfl)
theorem proofNil_row_tie : Rows.proofNilRow.laidByTextAt .later Tryd.pinned [.data, .handle] true :=
  OpenClaim.laidByTextAt_later rfl rfl tie noOwnUnsafe
theorem proofCodes_row_tie : Rows.proofCodesRow.laidByTextAt .later Tryd.pinned [.data, .handle] true :=
  OpenClaim.laidByTextAt_later rfl rfl tie noOwnUnsafe
theorem proofGapCodes_row_tie : Rows.proofGapCodesRow.laidByTextAt .later Tryd.pinned [.data, .handle] true :=
  OpenClaim.laidByTextAt_later rfl rfl tie noOwnUnsafe
theorem multiNil_row_tie : Rows.multiNilRow.laidByTextAt .later Tryd.pinned [.data, .handle] true :=
  OpenClaim.laidByTextAt_later rfl rfl tie noOwnUnsafe
theorem tie2 : Tryd.prog.laidByTextLater [("ferryman/ferrymanref01.roots", Rows.laid_ferryman_ferrymanref01_roots), ("ferryman/sha.words", Rows.laid_ferryman_sha_words), ("errors.errorType", Rows.laid_errors_errorType)] [.data, .data, .handle] true :=
  Program.laidByTextLater.sub seatTie1 ["ferryman/ferrymanref01.roots", "ferryman/sha.words", "errors.errorType"] (by kernel_rfl) (by kernel_rfl)
theorem proofMakes_row_tie : Rows.proofMakesRow.laidByTextAt .later Tryd.pinned [.data, .data, .handle] true :=
  OpenClaim.laidByTextAt_later rfl rfl tie2 noOwnUnsafe
theorem proofNone_row_tie : Rows.proofNoneRow.laidByTextAt .later Tryd.pinned [.data, .data, .handle] true :=
  OpenClaim.laidByTextAt_later rfl rfl tie2 noOwnUnsafe
theorem proofVerifies_row_tie : Rows.proofVerifiesRow.laidByTextAt .later Tryd.pinned [.data, .data, .handle] true :=
  OpenClaim.laidByTextAt_later rfl rfl tie2 noOwnUnsafe
theorem proofGaps_row_tie : Rows.proofGapsRow.laidByTextAt .later Tryd.pinned [.data, .data, .handle] true :=
  OpenClaim.laidByTextAt_later rfl rfl tie2 noOwnUnsafe
theorem multiChecks_row_tie : Rows.multiChecksRow.laidByTextAt .later Tryd.pinned [.data, .data, .handle] true :=
  OpenClaim.laidByTextAt_later rfl rfl tie2 noOwnUnsafe
theorem tie3 : Tryd.prog.laidByTextLater [("ferryman/ferrymanref01.roots", Rows.laid_ferryman_ferrymanref01_roots), ("ferryman/sha.words", Rows.laid_ferryman_sha_words)] [.data, .data] true :=
  Program.laidByTextLater.sub seatTie1 ["ferryman/ferrymanref01.roots", "ferryman/sha.words"] (by kernel_rfl) (by kernel_rfl)
theorem multiMakes_row_tie : Rows.multiMakesRow.laidByTextAt .later Tryd.pinned [.data, .data] true :=
  OpenClaim.laidByTextAt_later rfl rfl tie3 noOwnUnsafe
theorem tie4 : Tryd.prog.laidByTextLater [("ferryman/sha.words", Rows.laid_ferryman_sha_words)] [.data] true :=
  Program.laidByTextLater.sub seatTie1 ["ferryman/sha.words"] (by kernel_rfl) (by kernel_rfl)
theorem multiSame_row_tie : Rows.multiSameRow.laidByTextAt .later Tryd.pinned [.data] true :=
  OpenClaim.laidByTextAt_later rfl rfl tie4 noOwnUnsafe
theorem multiMany_row_tie : Rows.multiManyRow.laidByTextAt .later Tryd.pinned [.data] true :=
  OpenClaim.laidByTextAt_later rfl rfl tie4 noOwnUnsafe
theorem proofNilUpto_row_tie : Rows.proofNilUptoRow.laidByTextAt .later Tryd.pinned [.data, .handle] true :=
  OpenClaim.laidByTextAt_later rfl rfl tie noOwnUnsafe
theorem proofMakesUpto_row_tie : Rows.proofMakesUptoRow.laidByTextAt .later Tryd.pinned [.data, .data, .handle] true :=
  OpenClaim.laidByTextAt_later rfl rfl tie2 noOwnUnsafe
theorem proofNoneUpto_row_tie : Rows.proofNoneUptoRow.laidByTextAt .later Tryd.pinned [.data, .data, .handle] true :=
  OpenClaim.laidByTextAt_later rfl rfl tie2 noOwnUnsafe
theorem proofVerifiesUpto_row_tie : Rows.proofVerifiesUptoRow.laidByTextAt .later Tryd.pinned [.data, .data, .handle] true :=
  OpenClaim.laidByTextAt_later rfl rfl tie2 noOwnUnsafe
theorem proofGapsUpto_row_tie : Rows.proofGapsUptoRow.laidByTextAt .later Tryd.pinned [.data, .data, .handle] true :=
  OpenClaim.laidByTextAt_later rfl rfl tie2 noOwnUnsafe
theorem proofCodesUpto_row_tie : Rows.proofCodesUptoRow.laidByTextAt .later Tryd.pinned [.data, .handle] true :=
  OpenClaim.laidByTextAt_later rfl rfl tie noOwnUnsafe
theorem proofGapCodesUpto_row_tie : Rows.proofGapCodesUptoRow.laidByTextAt .later Tryd.pinned [.data, .handle] true :=
  OpenClaim.laidByTextAt_later rfl rfl tie noOwnUnsafe
theorem multiMakesUpto_row_tie : Rows.multiMakesUptoRow.laidByTextAt .later Tryd.pinned [.data, .data] true :=
  OpenClaim.laidByTextAt_later rfl rfl tie3 noOwnUnsafe
theorem multiSameUpto_row_tie : Rows.multiSameUptoRow.laidByTextAt .later Tryd.pinned [.data] true :=
  OpenClaim.laidByTextAt_later rfl rfl tie4 noOwnUnsafe
theorem multiManyUpto_row_tie : Rows.multiManyUptoRow.laidByTextAt .later Tryd.pinned [.data] true :=
  OpenClaim.laidByTextAt_later rfl rfl tie4 noOwnUnsafe
theorem multiNilUpto_row_tie : Rows.multiNilUptoRow.laidByTextAt .later Tryd.pinned [.data, .handle] true :=
  OpenClaim.laidByTextAt_later rfl rfl tie noOwnUnsafe
theorem multiChecksUpto_row_tie : Rows.multiChecksUptoRow.laidByTextAt .later Tryd.pinned [.data, .data, .handle] true :=
  OpenClaim.laidByTextAt_later rfl rfl tie2 noOwnUnsafe
end Go.Proofs.YtnicmjipbnhciaaDoor
