/- The law BankSums: whatever it is given, it answers true and leaves what it was given as it was. The package variables that it reads lie as the program lays them. -/
import Derived.Test.YtblnnkkelkjbiaaDoorBankSumsB
import Derived.Test.YtblnnkkelkjbiaaDoorRows
import Derived.Test.YtblnnkkelkjbiaaDoorCards
import Derived.Test.YtblnnkkelkjbiaaDoorTie
import Derived.Test.YtblnnkkelkjbiaaDoorBankSumsM3
import Derived.WalkKit
import Derived.ProofKit
import Derived.OpenShut
import Derived.ShutString
import Derived.ChangeOld
import Derived.Below
import Derived.SizedLaws
import Derived.LaidMore
import Derived.LaidHandle
import Derived.Stop.Joined
import Derived.SevenTiedAt
import Derived.Handed
import Derived.ChangeSame
import Derived.ChangeVars
import Derived.JoinedOf
import Derived.RowKit
import Derived.LaidLaws
set_option linter.unusedVariables false
set_option maxRecDepth 100000
namespace Go.Proofs.YtblnnkkelkjbiaaDoor.bankSums
open Go.ChangeShapes Go.WideShapes Go.ChangeAt Go.RowKit Go.Proofs.YtblnnkkelkjbiaaDoor.E Go.Proofs.YtblnnkkelkjbiaaDoor.X
open Go.ChangeMaps (open_string shut_string)
theorem card : Rows.BankSumsCardSaid :=
  Claim7.holds_tied_plain_at .later [] [.handle] true (true, "7780b127f4e44c327e5048176ac83edcca81e2201c1a5950fec45e47ddbd8d26") true
    over (fun _ h => by cases h) (by kernel_rfl) (fun _ h => by cases h) bankSums_row_tie rfl ⟨rfl, rfl⟩ (by kernel_rfl) rfl
    (fun f fn hf hfn => by
      obtain rfl : f = 4 := Option.some.inj ((show Tryd.prog.funcNamed "ferryman/ferrymanlaw12.BankSums" = some 4 by kernel_rfl).symm.trans hf) |>.symm
      obtain rfl : fn = Tryd.f4 := (Option.some.inj (Tryd.func4.symm.trans hfn)).symm
      exact ⟨by kernel_rfl, fun j t ht => by
        rw [Tryd.params4] at ht
        have hall : (Tryd.f4.params.toList.all fun t => !Tryd.prog.wantsStandIn t) = true := by kernel_rfl
        rw [Tryd.params4] at hall
        have := List.all_eq_true.1 hall t (by rw [Array.mem_toList_iff]; exact Array.mem_of_getElem? ht)
        have h2 : Tryd.prog.wantsStandIn t = false := by simpa using this
        exact h2⟩)
    (by kernel_rfl)
end Go.Proofs.YtblnnkkelkjbiaaDoor.bankSums
namespace Go.Proofs.YtblnnkkelkjbiaaDoor
/-- The card, under a short name, for the claim. -/
theorem bankSums_holds : Rows.BankSumsCardSaid := bankSums.card
end Go.Proofs.YtblnnkkelkjbiaaDoor