/-
  DERIVED. GIVEN WITH THE SEED: THE CARDS: each row of YtblnnkkelkjbiaaDoorRows.lean that lists a variable, with what it lists TIED to the program's text (the seventh form; the later family's looks); each row that meets fmt, with fmt's text TOLD by the authors' own Lean function (tested against real Go, not proved from fmt's source: count such statements apart). THE CARD IS WHAT COUNTS. Prove the row's statement (the work); the ties are given (YtblnnkkelkjbiaaDoorTie.lean); close each card by the builder's one call (the guide's Derived/Test/ToyasCard.lean, 'card_holds'). Laid BY PROGRAM, IN A SANDBOX (cutbox-door.mjs). By AI agents, Wed Nov 11 2026. No macro, syntax, notation, axiom, sorry.
-/
import Derived.Test.YtblnnkkelkjbiaaDoorRows
import GoSem.ClaimSeven
namespace Go.Proofs.YtblnnkkelkjbiaaDoor
namespace Rows

/-- THE TIED CARD OF 'ferrymanlaw12.BankPlays'. -/
def bankPlaysCard : Claim7 := { stood := { row := bankPlaysRow, standIns := [], harness := (true, "7780b127f4e44c327e5048176ac83edcca81e2201c1a5950fec45e47ddbd8d26"), looks := true }, kinds := [], alts := [], laidByText := true, laidKinds := [.handle], laidTests := true, laidLooks := .later }
def BankPlaysCardSaid : Prop := Claim7.holds Tryd.pinned (.plain (OpenSpec.ofChange bankPlaysSpec)) bankPlaysCard

/-- THE TIED CARD OF 'ferrymanlaw12.BankSums'. -/
def bankSumsCard : Claim7 := { stood := { row := bankSumsRow, standIns := [], harness := (true, "7780b127f4e44c327e5048176ac83edcca81e2201c1a5950fec45e47ddbd8d26"), looks := true }, kinds := [], alts := [], laidByText := true, laidKinds := [.handle], laidTests := true, laidLooks := .later }
def BankSumsCardSaid : Prop := Claim7.holds Tryd.pinned (.plain (OpenSpec.ofChange bankSumsSpec)) bankSumsCard

/-- THE TIED CARD OF 'ferrymanlaw12.BankBack'. -/
def bankBackCard : Claim7 := { stood := { row := bankBackRow, standIns := [], harness := (true, "7780b127f4e44c327e5048176ac83edcca81e2201c1a5950fec45e47ddbd8d26"), looks := true }, kinds := [], alts := [], laidByText := true, laidKinds := [.handle], laidTests := true, laidLooks := .later }
def BankBackCardSaid : Prop := Claim7.holds Tryd.pinned (.plain (OpenSpec.ofChange bankBackSpec)) bankBackCard

/-- THE TIED CARD OF 'ferrymanlaw12.BankNil'. -/
def bankNilCard : Claim7 := { stood := { row := bankNilRow, standIns := [], harness := (true, "7780b127f4e44c327e5048176ac83edcca81e2201c1a5950fec45e47ddbd8d26"), looks := true }, kinds := [], alts := [], laidByText := true, laidKinds := [.handle], laidTests := true, laidLooks := .later }
def BankNilCardSaid : Prop := Claim7.holds Tryd.pinned (.plain (OpenSpec.ofChange bankNilSpec)) bankNilCard

/-- THE TIED CARD OF 'ferrymanlaw12.BankFails'. -/
def bankFailsCard : Claim7 := { stood := { row := bankFailsRow, standIns := [], harness := (true, "7780b127f4e44c327e5048176ac83edcca81e2201c1a5950fec45e47ddbd8d26"), looks := true }, kinds := [], alts := [], laidByText := true, laidKinds := [.handle], laidTests := true, laidLooks := .later }
def BankFailsCardSaid : Prop := Claim7.holds Tryd.pinned (.plain (OpenSpec.ofChange bankFailsSpec)) bankFailsCard

/-- THE SECOND FORM's CARD OF 'ferrymanlaw12.BankPlays'. -/
def bankPlaysUptoCard : Claim7 := { stood := { row := bankPlaysUptoRow, standIns := [], harness := (true, "7780b127f4e44c327e5048176ac83edcca81e2201c1a5950fec45e47ddbd8d26"), looks := true }, kinds := [], alts := [], laidByText := true, laidKinds := [.handle], laidTests := true, laidLooks := .later }
def BankPlaysUptoCardSaid : Prop := Claim7.holds Tryd.pinned (.plain (OpenSpec.upto bankPlaysSpec)) bankPlaysUptoCard

/-- THE SECOND FORM's CARD OF 'ferrymanlaw12.BankSums'. -/
def bankSumsUptoCard : Claim7 := { stood := { row := bankSumsUptoRow, standIns := [], harness := (true, "7780b127f4e44c327e5048176ac83edcca81e2201c1a5950fec45e47ddbd8d26"), looks := true }, kinds := [], alts := [], laidByText := true, laidKinds := [.handle], laidTests := true, laidLooks := .later }
def BankSumsUptoCardSaid : Prop := Claim7.holds Tryd.pinned (.plain (OpenSpec.upto bankSumsSpec)) bankSumsUptoCard

/-- THE SECOND FORM's CARD OF 'ferrymanlaw12.BankBack'. -/
def bankBackUptoCard : Claim7 := { stood := { row := bankBackUptoRow, standIns := [], harness := (true, "7780b127f4e44c327e5048176ac83edcca81e2201c1a5950fec45e47ddbd8d26"), looks := true }, kinds := [], alts := [], laidByText := true, laidKinds := [.handle], laidTests := true, laidLooks := .later }
def BankBackUptoCardSaid : Prop := Claim7.holds Tryd.pinned (.plain (OpenSpec.upto bankBackSpec)) bankBackUptoCard

/-- THE SECOND FORM's CARD OF 'ferrymanlaw12.BankNil'. -/
def bankNilUptoCard : Claim7 := { stood := { row := bankNilUptoRow, standIns := [], harness := (true, "7780b127f4e44c327e5048176ac83edcca81e2201c1a5950fec45e47ddbd8d26"), looks := true }, kinds := [], alts := [], laidByText := true, laidKinds := [.handle], laidTests := true, laidLooks := .later }
def BankNilUptoCardSaid : Prop := Claim7.holds Tryd.pinned (.plain (OpenSpec.upto bankNilSpec)) bankNilUptoCard

/-- THE SECOND FORM's CARD OF 'ferrymanlaw12.BankFails'. -/
def bankFailsUptoCard : Claim7 := { stood := { row := bankFailsUptoRow, standIns := [], harness := (true, "7780b127f4e44c327e5048176ac83edcca81e2201c1a5950fec45e47ddbd8d26"), looks := true }, kinds := [], alts := [], laidByText := true, laidKinds := [.handle], laidTests := true, laidLooks := .later }
def BankFailsUptoCardSaid : Prop := Claim7.holds Tryd.pinned (.plain (OpenSpec.upto bankFailsSpec)) bankFailsUptoCard
end Rows
end Go.Proofs.YtblnnkkelkjbiaaDoor
