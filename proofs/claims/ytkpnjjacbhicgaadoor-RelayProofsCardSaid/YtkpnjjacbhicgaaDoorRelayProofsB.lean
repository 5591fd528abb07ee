/- The law RelayProofs: whatever it is given, it answers true and leaves what it was given as it was. The package variables that it reads lie as the program lays them. -/
import Derived.Test.YtkpnjjacbhicgaaDoorRelayProofsA
import Derived.Test.YtkpnjjacbhicgaaDoorRows
import Derived.Test.YtkpnjjacbhicgaaDoorCards
import Derived.Test.YtkpnjjacbhicgaaDoorTie
import Derived.Test.YtkpnjjacbhicgaaDoorRelayProofsM5
import Derived.WalkKit
import Derived.ProofKit
import Derived.OpenShut
import Derived.ShutString
import Derived.ChangeOld
import Derived.Below
import Derived.SizedLaws
import Derived.LaidMore
import Derived.LaidHandle
import Derived.Stop.Joined
import Derived.SevenTiedAt
import Derived.Handed
import Derived.ChangeSame
import Derived.ChangeVars
import Derived.JoinedOf
import Derived.RowKit
import Derived.LaidLaws
set_option linter.unusedVariables false
set_option maxRecDepth 100000
namespace Go.Proofs.YtkpnjjacbhicgaaDoor.relayProofs
open Go.ChangeShapes Go.WideShapes Go.ChangeAt Go.RowKit Go.Proofs.YtkpnjjacbhicgaaDoor.E Go.Proofs.YtkpnjjacbhicgaaDoor.X
open Go.ChangeMaps (open_string shut_string)
theorem over : Rows.relayProofsRow.holds Tryd.pinned (OpenSpec.ofChange Rows.relayProofsSpec) :=
  OpenClaim.holds_of_wide 3 Tryd.f3 rfl rfl rfl rfl rfl rfl rfl ⟨rfl, rfl, rfl, rfl, rfl⟩ rfl rfl rfl rfl rfl (by kernel_rfl) Tryd.func3 (by kernel_rfl)
    (of_decide_eq_true (by kernel_rfl)) (by unfold Func.isWrapper; first | (rw [if_pos (by decide +kernel)]; kernel_rfl) | (rw [if_neg (by decide +kernel)]; exact ⟨rfl, rfl⟩))
    (fun os started H enc _ => lifted os started H enc)

end Go.Proofs.YtkpnjjacbhicgaaDoor.relayProofs
