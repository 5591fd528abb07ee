/- The law MultiChecks: whatever it is given, it answers true and leaves what it was given as it was. The package variables that it reads lie as the program lays them. -/
import Derived.Test.YtnicmjipbnhciaaDoorMultiChecksB
import Derived.Test.YtnicmjipbnhciaaDoorRows
import Derived.Test.YtnicmjipbnhciaaDoorCards
import Derived.Test.YtnicmjipbnhciaaDoorTie
import Derived.Test.YtnicmjipbnhciaaDoorMultiChecksM6
import Derived.WalkKit
import Derived.ProofKit
import Derived.OpenShut
import Derived.ShutString
import Derived.ChangeOld
import Derived.Below
import Derived.SizedLaws
import Derived.LaidMore
import Derived.LaidHandle
import Derived.Stop.Joined
import Derived.SevenTiedAt
import Derived.Handed
import Derived.ChangeSame
import Derived.ChangeVars
import Derived.JoinedOf
import Derived.RowKit
import Derived.LaidLaws
set_option linter.unusedVariables false
set_option maxRecDepth 100000
namespace Go.Proofs.YtnicmjipbnhciaaDoor.multiChecks
open Go.ChangeShapes Go.WideShapes Go.ChangeAt Go.RowKit Go.Proofs.YtnicmjipbnhciaaDoor.E Go.Proofs.YtnicmjipbnhciaaDoor.X
open Go.ChangeMaps (open_string shut_string)
theorem card : Rows.MultiChecksCardSaid :=
  Claim7.holds_tied_plain_at .later [] [.data, .data, .handle] true (true, "94c5f2586414e44b908874465afe95b399aa35dbd4dec7bea2ab0dab59b7c248") true
    over (fun _ h => by cases h) (by kernel_rfl) (fun _ h => by cases h) multiChecks_row_tie rfl ⟨rfl, rfl⟩ (by kernel_rfl) rfl
    (fun f fn hf hfn => by
      obtain rfl : f = 14 := Option.some.inj ((show Tryd.prog.funcNamed "ferryman/ferrymanlaw10.MultiChecks" = some 14 by kernel_rfl).symm.trans hf) |>.symm
      obtain rfl : fn = Tryd.f14 := (Option.some.inj (Tryd.func14.symm.trans hfn)).symm
      exact ⟨by kernel_rfl, fun j t ht => by
        rw [Tryd.params14] at ht
        have hall : (Tryd.f14.params.toList.all fun t => !Tryd.prog.wantsStandIn t) = true := by kernel_rfl
        rw [Tryd.params14] at hall
        have := List.all_eq_true.1 hall t (by rw [Array.mem_toList_iff]; exact Array.mem_of_getElem? ht)
        have h2 : Tryd.prog.wantsStandIn t = false := by simpa using this
        exact h2⟩)
    (by kernel_rfl)
end Go.Proofs.YtnicmjipbnhciaaDoor.multiChecks
namespace Go.Proofs.YtnicmjipbnhciaaDoor
/-- The card, under a short name, for the claim. -/
theorem multiChecks_holds : Rows.MultiChecksCardSaid := multiChecks.card
end Go.Proofs.YtnicmjipbnhciaaDoor