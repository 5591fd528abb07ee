/- The law TransferPlays: whatever it is given, it answers true and leaves what it was given as it was. The package variables that it reads lie as the program lays them. -/
import Derived.Test.YtblnnkkelkjbiaaGreatDoorTransferPlaysA
import Derived.Test.YtblnnkkelkjbiaaGreatDoorRows
import Derived.Test.YtblnnkkelkjbiaaGreatDoorCards
import Derived.Test.YtblnnkkelkjbiaaGreatDoorTie
import Derived.Test.YtblnnkkelkjbiaaGreatDoorTransferPlaysM4
import Derived.WalkKit
import Derived.ProofKit
import Derived.OpenShut
import Derived.ShutString
import Derived.ChangeOld
import Derived.Below
import Derived.SizedLaws
import Derived.LaidMore
import Derived.LaidHandle
import Derived.Stop.Joined
import Derived.SevenTiedAt
import Derived.Handed
import Derived.ChangeSame
import Derived.ChangeVars
import Derived.JoinedOf
import Derived.RowKit
import Derived.LaidLaws
set_option linter.unusedVariables false
set_option maxRecDepth 100000
namespace Go.Proofs.YtblnnkkelkjbiaaGreatDoor.transferPlays
open Go.ChangeShapes Go.WideShapes Go.ChangeAt Go.RowKit Go.Proofs.YtblnnkkelkjbiaaGreatDoor.E Go.Proofs.YtblnnkkelkjbiaaGreatDoor.X
open Go.ChangeMaps (open_string shut_string)
theorem over : Rows.transferPlaysRow.holds Tryz.pinned (OpenSpec.ofChange Rows.transferPlaysSpec) :=
  OpenClaim.holds_of_wide 3 Tryz.f3 rfl rfl rfl rfl rfl rfl rfl ⟨rfl, rfl, rfl, rfl, rfl⟩ rfl rfl rfl rfl rfl (by kernel_rfl) Tryz.func3 (by kernel_rfl)
    (of_decide_eq_true (by kernel_rfl)) (by unfold Func.isWrapper; first | (rw [if_pos (by decide +kernel)]; kernel_rfl) | (rw [if_neg (by decide +kernel)]; exact ⟨rfl, rfl⟩))
    (fun os started H enc _ => lifted os started H enc)

end Go.Proofs.YtblnnkkelkjbiaaGreatDoor.transferPlays
