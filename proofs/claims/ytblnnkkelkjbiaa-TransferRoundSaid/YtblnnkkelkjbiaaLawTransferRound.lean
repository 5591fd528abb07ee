/- The law TransferRound: whatever it is given, it answers true and leaves what it was given as it was. No condition. -/
import Derived.Test.YtblnnkkelkjbiaaTransferRoundA
import Derived.Test.YtblnnkkelkjbiaaRows
import Derived.Test.YtblnnkkelkjbiaaTransferRoundM3
import Derived.WalkKit
import Derived.ProofKit
import Derived.OpenShut
import Derived.ShutString
import Derived.ChangeOld
import Derived.Below
import Derived.SizedLaws
set_option linter.unusedVariables false
set_option maxRecDepth 100000
namespace Go.Proofs.Ytblnnkkelkjbiaa.transferRound
open Go.ChangeShapes Go.WideShapes Go.ChangeAt Go.RowKit Go.Proofs.Ytblnnkkelkjbiaa.E Go.Proofs.Ytblnnkkelkjbiaa.X
open Go.ChangeMaps (open_string shut_string)
theorem over : Rows.transferRoundRow.holds Try.pinned (OpenSpec.ofChange Rows.transferRoundSpec) :=
  OpenClaim.holds_of_wide 3 Try.f3 rfl rfl rfl rfl rfl rfl rfl ⟨rfl, rfl, rfl, rfl, rfl⟩ rfl rfl rfl rfl rfl (by kernel_rfl) Try.func3 (by kernel_rfl)
    (of_decide_eq_true (by kernel_rfl)) (by unfold Func.isWrapper; first | (rw [if_pos (by decide +kernel)]; kernel_rfl) | (rw [if_neg (by decide +kernel)]; exact ⟨rfl, rfl⟩))
    (fun os started H enc _ => lifted os started H enc)
theorem proved : Rows.TransferRoundSaid := over
end Go.Proofs.Ytblnnkkelkjbiaa.transferRound
namespace Go.Proofs.Ytblnnkkelkjbiaa
/-- The row, under a short name, for the claim. -/
theorem transferRound_holds : Rows.TransferRoundSaid := transferRound.proved
end Go.Proofs.Ytblnnkkelkjbiaa
