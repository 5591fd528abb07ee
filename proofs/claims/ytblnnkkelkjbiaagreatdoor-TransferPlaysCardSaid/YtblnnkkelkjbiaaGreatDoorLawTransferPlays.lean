/- The law TransferPlays: whatever it is given, it answers true and leaves what it was given as it was. The package variables that it reads lie as the program lays them. -/
import Derived.Test.YtblnnkkelkjbiaaGreatDoorTransferPlaysB
import Derived.Test.YtblnnkkelkjbiaaGreatDoorRows
import Derived.Test.YtblnnkkelkjbiaaGreatDoorCards
import Derived.Test.YtblnnkkelkjbiaaGreatDoorTie
import Derived.Test.YtblnnkkelkjbiaaGreatDoorTransferPlaysM4
import Derived.WalkKit
import Derived.ProofKit
import Derived.OpenShut
import Derived.ShutString
import Derived.ChangeOld
import Derived.Below
import Derived.SizedLaws
import Derived.LaidMore
import Derived.LaidHandle
import Derived.Stop.Joined
import Derived.SevenTiedAt
import Derived.Handed
import Derived.ChangeSame
import Derived.ChangeVars
import Derived.JoinedOf
import Derived.RowKit
import Derived.LaidLaws
set_option linter.unusedVariables false
set_option maxRecDepth 100000
namespace Go.Proofs.YtblnnkkelkjbiaaGreatDoor.transferPlays
open Go.ChangeShapes Go.WideShapes Go.ChangeAt Go.RowKit Go.Proofs.YtblnnkkelkjbiaaGreatDoor.E Go.Proofs.YtblnnkkelkjbiaaGreatDoor.X
open Go.ChangeMaps (open_string shut_string)
theorem card : Rows.TransferPlaysCardSaid :=
  Claim7.holds_tied_plain_at .later [] [.handle] true (true, "ac0d659a98c9797f4a0e3c03bb5bae76dec86723368030dde5378003a2086028") true
    over (fun _ h => by cases h) (by kernel_rfl) (fun _ h => by cases h) transferPlays_row_tie rfl ⟨rfl, rfl⟩ (by kernel_rfl) rfl
    (fun f fn hf hfn => by
      obtain rfl : f = 3 := Option.some.inj ((show Tryz.prog.funcNamed "ferryman/ferrymanlaw14.TransferPlays" = some 3 by kernel_rfl).symm.trans hf) |>.symm
      obtain rfl : fn = Tryz.f3 := (Option.some.inj (Tryz.func3.symm.trans hfn)).symm
      exact ⟨by kernel_rfl, fun j t ht => by
        rw [Tryz.params3] at ht
        have hall : (Tryz.f3.params.toList.all fun t => !Tryz.prog.wantsStandIn t) = true := by kernel_rfl
        rw [Tryz.params3] at hall
        have := List.all_eq_true.1 hall t (by rw [Array.mem_toList_iff]; exact Array.mem_of_getElem? ht)
        have h2 : Tryz.prog.wantsStandIn t = false := by simpa using this
        exact h2⟩)
    (by kernel_rfl)
end Go.Proofs.YtblnnkkelkjbiaaGreatDoor.transferPlays
namespace Go.Proofs.YtblnnkkelkjbiaaGreatDoor
/-- The card, under a short name, for the claim. -/
theorem transferPlays_holds : Rows.TransferPlaysCardSaid := transferPlays.card
end Go.Proofs.YtblnnkkelkjbiaaGreatDoor