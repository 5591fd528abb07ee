/- The law RelayProofs: whatever it is given, it answers true and leaves what it was given as it was. The package variables that it reads lie as the program lays them. -/
import Derived.Test.YtkpnjjacbhicgaaDoorRelayProofsB
import Derived.Test.YtkpnjjacbhicgaaDoorRows
import Derived.Test.YtkpnjjacbhicgaaDoorCards
import Derived.Test.YtkpnjjacbhicgaaDoorTie
import Derived.Test.YtkpnjjacbhicgaaDoorRelayProofsM5
import Derived.WalkKit
import Derived.ProofKit
import Derived.OpenShut
import Derived.ShutString
import Derived.ChangeOld
import Derived.Below
import Derived.SizedLaws
import Derived.LaidMore
import Derived.LaidHandle
import Derived.Stop.Joined
import Derived.SevenTiedAt
import Derived.Handed
import Derived.ChangeSame
import Derived.ChangeVars
import Derived.JoinedOf
import Derived.RowKit
import Derived.LaidLaws
set_option linter.unusedVariables false
set_option maxRecDepth 100000
namespace Go.Proofs.YtkpnjjacbhicgaaDoor.relayProofs
open Go.ChangeShapes Go.WideShapes Go.ChangeAt Go.RowKit Go.Proofs.YtkpnjjacbhicgaaDoor.E Go.Proofs.YtkpnjjacbhicgaaDoor.X
open Go.ChangeMaps (open_string shut_string)
theorem card : Rows.RelayProofsCardSaid :=
  Claim7.holds_tied_plain_at .later [] [.data] true (true, "0c886bad34c8a3331927f21c5039372987f1dac579f42c796f71926781026ccf") false
    over (fun _ h => by cases h) (by kernel_rfl) (fun _ h => by cases h) relayProofs_row_tie rfl ⟨rfl, rfl⟩ (by kernel_rfl) rfl
    (fun f fn hf hfn => by
      obtain rfl : f = 3 := Option.some.inj ((show Tryd.prog.funcNamed "ferryman/ferrymanlaw21.RelayProofs" = some 3 by kernel_rfl).symm.trans hf) |>.symm
      obtain rfl : fn = Tryd.f3 := (Option.some.inj (Tryd.func3.symm.trans hfn)).symm
      exact ⟨by kernel_rfl, fun j t ht => by
        rw [Tryd.params3] at ht
        have hall : (Tryd.f3.params.toList.all fun t => !Tryd.prog.wantsStandIn t) = true := by kernel_rfl
        rw [Tryd.params3] at hall
        have := List.all_eq_true.1 hall t (by rw [Array.mem_toList_iff]; exact Array.mem_of_getElem? ht)
        have h2 : Tryd.prog.wantsStandIn t = false := by simpa using this
        exact h2⟩)
    (by kernel_rfl)
end Go.Proofs.YtkpnjjacbhicgaaDoor.relayProofs
namespace Go.Proofs.YtkpnjjacbhicgaaDoor
/-- The card, under a short name, for the claim. -/
theorem relayProofs_holds : Rows.RelayProofsCardSaid := relayProofs.card
end Go.Proofs.YtkpnjjacbhicgaaDoor