/-
  NARROWER THAN 'FOR EVERY INPUT', by the rows' own cells (each row's printed sentence says how): BankPlays: laid · BankSums: laid · BankBack: laid · BankNil: laid · BankFails: laid.
  DERIVED. THE GIVEN ROWS OF THIS SEAT. 5 by the template 'for every input the law returns true; each argument reads behind the call as it read before'; 0 by the template 'total and deterministic' (their statements: YtblnnkkelkjbiaaDoorTotals.lean).
  GIVEN WITH THE SEED: the statements are not yours to turn. If you find one false, say at which input.
  Laid BY PROGRAM, IN A SANDBOX (cutbox-rows.mjs): the forced cells as the released guide's own fill.sh prints them over the translation 8f9f6492a26054ab… (all of the seat's roots in one cut). By AI agents, Wed Nov 11 2026. No macro, syntax, notation, axiom, sorry.
-/
import Derived.Test.YtblnnkkelkjbiaaDoorChecked
import GoSem.Claim
import GoSem.ClaimJoined
import GoSem.ClaimMapViews
import Derived.JoinedTies
import Derived.KernelRfl
namespace Go.Proofs.YtblnnkkelkjbiaaDoor
/- THE CELL 'sum', in the pinned program and in every row, IS THE sha256 OF THE DUMP (.gsa) THAT YtblnnkkelkjbiaaDoorProg.lean LOADS. Nothing in Lean hashes anything: it is a label: what it is worth is what the hold of that sum in a sandbox is worth. -/
noncomputable def Tryd.pinned : Pinned := { name := "ytblnnkkelkjbiaadoor", sum := "8f9f6492a26054abb09c1fc6cb997ce1a0b3ce69240297d0ed89912cbd4ac1f8", checked := Tryd.checked }
namespace Rows
def none {H : Type} : Left H := { results := [], args := [] }

/- WHAT THE LISTED PACKAGE-LEVEL VARIABLES READ AS WHEN THE CALL BEGINS. Each datum BY PROGRAM (the guide's laid-datum.mjs) off the statement by which the dump's own 'gosem.cut.vars' lays the variable. In a bare row this is a premise. The card (YtblnnkkelkjbiaaDoorCards.lean) ties it to the program's text. -/
def laid_errors_errorType {H : Type} : DataW H := .iface "internal/reflectlite.rtype" (.agg [.ptr (.lit (.string [101, 114, 114, 111, 114]))])

/-- 'ferrymanlaw12.BankPlays': WHATEVER THE INPUT: true; the input reads as it did. -/
def bankPlaysSpec : ChangeSpec := { name := "bankPlays", fn := fun _ => fun
  | [d] => { results := [.lit (.bool true)], args := [d] }
  | _ => none }
def bankPlaysRow : OpenClaim := { program := "ytblnnkkelkjbiaadoor", sum := "8f9f6492a26054abb09c1fc6cb997ce1a0b3ce69240297d0ed89912cbd4ac1f8", func := "ferryman/ferrymanlaw12.BankPlays", spec := "bankPlays", inPlace := ["internal/bytealg.IndexByteString", "internal/bytealg.IndexString", "internal/reflectlite.ValueOf", "(internal/reflectlite.Value).Type", "(internal/reflectlite.Value).IsNil", "internal/reflectlite.TypeOf", "(internal/reflectlite.Value).Elem", "(internal/reflectlite.Value).Set"], unfollowed := true, recurses := true, named := ["internal/bytealg.MaxLen", "errors.errorType"], plainKeys := false, apart := false, laid := [("errors.errorType", laid_errors_errorType)] }
def BankPlaysSaid : Prop := bankPlaysRow.holds Tryd.pinned (OpenSpec.ofChange bankPlaysSpec)

/-- ITS FALSE NEIGHBOUR: 'it returns false'. Refute it at one input. -/
def bankPlaysWrong : ChangeSpec := { name := "bankPlays", fn := fun _ => fun
  | [d] => { results := [.lit (.bool false)], args := [d] }
  | _ => none }
def BankPlaysWrongFalsely : Prop := bankPlaysRow.holds Tryd.pinned (OpenSpec.ofChange bankPlaysWrong)

/-- 'ferrymanlaw12.BankSums': WHATEVER THE INPUT: true; the input reads as it did. -/
def bankSumsSpec : ChangeSpec := { name := "bankSums", fn := fun _ => fun
  | [d1, d2] => { results := [.lit (.bool true)], args := [d1, d2] }
  | _ => none }
def bankSumsRow : OpenClaim := { program := "ytblnnkkelkjbiaadoor", sum := "8f9f6492a26054abb09c1fc6cb997ce1a0b3ce69240297d0ed89912cbd4ac1f8", func := "ferryman/ferrymanlaw12.BankSums", spec := "bankSums", inPlace := ["internal/bytealg.IndexByteString", "internal/bytealg.IndexString", "internal/reflectlite.ValueOf", "(internal/reflectlite.Value).Type", "(internal/reflectlite.Value).IsNil", "internal/reflectlite.TypeOf", "(internal/reflectlite.Value).Elem", "(internal/reflectlite.Value).Set"], unfollowed := true, recurses := true, named := ["internal/bytealg.MaxLen", "errors.errorType"], plainKeys := false, apart := false, laid := [("errors.errorType", laid_errors_errorType)] }
def BankSumsSaid : Prop := bankSumsRow.holds Tryd.pinned (OpenSpec.ofChange bankSumsSpec)

/-- ITS FALSE NEIGHBOUR: 'it returns false'. Refute it at one input. -/
def bankSumsWrong : ChangeSpec := { name := "bankSums", fn := fun _ => fun
  | [d1, d2] => { results := [.lit (.bool false)], args := [d1, d2] }
  | _ => none }
def BankSumsWrongFalsely : Prop := bankSumsRow.holds Tryd.pinned (OpenSpec.ofChange bankSumsWrong)

/-- 'ferrymanlaw12.BankBack': WHATEVER THE INPUT: true; the input reads as it did. -/
def bankBackSpec : ChangeSpec := { name := "bankBack", fn := fun _ => fun
  | [d1, d2, d3, d4, d5] => { results := [.lit (.bool true)], args := [d1, d2, d3, d4, d5] }
  | _ => none }
def bankBackRow : OpenClaim := { program := "ytblnnkkelkjbiaadoor", sum := "8f9f6492a26054abb09c1fc6cb997ce1a0b3ce69240297d0ed89912cbd4ac1f8", func := "ferryman/ferrymanlaw12.BankBack", spec := "bankBack", inPlace := ["internal/bytealg.IndexByteString", "internal/bytealg.IndexString", "internal/reflectlite.ValueOf", "(internal/reflectlite.Value).Type", "(internal/reflectlite.Value).IsNil", "internal/reflectlite.TypeOf", "(internal/reflectlite.Value).Elem", "(internal/reflectlite.Value).Set"], unfollowed := true, recurses := true, named := ["internal/bytealg.MaxLen", "errors.errorType"], plainKeys := false, apart := false, laid := [("errors.errorType", laid_errors_errorType)] }
def BankBackSaid : Prop := bankBackRow.holds Tryd.pinned (OpenSpec.ofChange bankBackSpec)

/-- ITS FALSE NEIGHBOUR: 'it returns false'. Refute it at one input. -/
def bankBackWrong : ChangeSpec := { name := "bankBack", fn := fun _ => fun
  | [d1, d2, d3, d4, d5] => { results := [.lit (.bool false)], args := [d1, d2, d3, d4, d5] }
  | _ => none }
def BankBackWrongFalsely : Prop := bankBackRow.holds Tryd.pinned (OpenSpec.ofChange bankBackWrong)

/-- 'ferrymanlaw12.BankNil': WHATEVER THE INPUT: true; the input reads as it did. -/
def bankNilSpec : ChangeSpec := { name := "bankNil", fn := fun _ => fun
  | [d1, d2, d3, d4] => { results := [.lit (.bool true)], args := [d1, d2, d3, d4] }
  | _ => none }
def bankNilRow : OpenClaim := { program := "ytblnnkkelkjbiaadoor", sum := "8f9f6492a26054abb09c1fc6cb997ce1a0b3ce69240297d0ed89912cbd4ac1f8", func := "ferryman/ferrymanlaw12.BankNil", spec := "bankNil", inPlace := ["internal/bytealg.IndexByteString", "internal/bytealg.IndexString", "internal/reflectlite.ValueOf", "(internal/reflectlite.Value).Type", "(internal/reflectlite.Value).IsNil", "internal/reflectlite.TypeOf", "(internal/reflectlite.Value).Elem", "(internal/reflectlite.Value).Set"], unfollowed := true, recurses := true, named := ["internal/bytealg.MaxLen", "errors.errorType"], plainKeys := false, apart := false, laid := [("errors.errorType", laid_errors_errorType)] }
def BankNilSaid : Prop := bankNilRow.holds Tryd.pinned (OpenSpec.ofChange bankNilSpec)

/-- ITS FALSE NEIGHBOUR: 'it returns false'. Refute it at one input. -/
def bankNilWrong : ChangeSpec := { name := "bankNil", fn := fun _ => fun
  | [d1, d2, d3, d4] => { results := [.lit (.bool false)], args := [d1, d2, d3, d4] }
  | _ => none }
def BankNilWrongFalsely : Prop := bankNilRow.holds Tryd.pinned (OpenSpec.ofChange bankNilWrong)

/-- 'ferrymanlaw12.BankFails': WHATEVER THE INPUT: true; the input reads as it did. -/
def bankFailsSpec : ChangeSpec := { name := "bankFails", fn := fun _ => fun
  | [d1, d2, d3, d4, d5, d6] => { results := [.lit (.bool true)], args := [d1, d2, d3, d4, d5, d6] }
  | _ => none }
def bankFailsRow : OpenClaim := { program := "ytblnnkkelkjbiaadoor", sum := "8f9f6492a26054abb09c1fc6cb997ce1a0b3ce69240297d0ed89912cbd4ac1f8", func := "ferryman/ferrymanlaw12.BankFails", spec := "bankFails", inPlace := ["internal/bytealg.IndexByteString", "internal/bytealg.IndexString", "internal/reflectlite.ValueOf", "(internal/reflectlite.Value).Type", "(internal/reflectlite.Value).IsNil", "internal/reflectlite.TypeOf", "(internal/reflectlite.Value).Elem", "(internal/reflectlite.Value).Set"], unfollowed := true, recurses := true, named := ["internal/bytealg.MaxLen", "errors.errorType"], plainKeys := false, apart := false, laid := [("errors.errorType", laid_errors_errorType)] }
def BankFailsSaid : Prop := bankFailsRow.holds Tryd.pinned (OpenSpec.ofChange bankFailsSpec)

/-- ITS FALSE NEIGHBOUR: 'it returns false'. Refute it at one input. -/
def bankFailsWrong : ChangeSpec := { name := "bankFails", fn := fun _ => fun
  | [d1, d2, d3, d4, d5, d6] => { results := [.lit (.bool false)], args := [d1, d2, d3, d4, d5, d6] }
  | _ => none }
def BankFailsWrongFalsely : Prop := bankFailsRow.holds Tryd.pinned (OpenSpec.ofChange bankFailsWrong)

/- THE SECOND FORM. 'bulk': how many values and letters a reading holds, each counted each time it is reached (what is shared counts as often as it is met; a slice's spare places count too). A statement '..UptoSaid' is the law's where the arguments, and the package variables that the reading takes, are together of bulk at most 1048576: NARROWER than '..Said'. Prove '..Said' where nothing that the law and all that it calls make is longer than what came in: it says more and counts as full. Else prove '..UptoSaid'. A law counts once. -/
mutual
def uptoBulk {H : Type} : DataW H → Nat
  | .lit (.string bytes) => bytes.length + 1
  | .lit _ => 1
  | .nil => 1
  | .ptr d => uptoBulk d + 1
  | .slice elems spare => uptoBulkAll elems + uptoBulkAll spare + 1
  | .agg parts => uptoBulkAll parts + 1
  | .iface _ d => uptoBulk d + 1
  | .map entries => uptoBulkEntries entries + 1
  | .held _ => 1
def uptoBulkAll {H : Type} : List (DataW H) → Nat
  | [] => 0
  | d :: r => uptoBulk d + uptoBulkAll r
def uptoBulkEntries {H : Type} : List (Lit × DataW H) → Nat
  | [] => 0
  | x :: r => uptoBulkEntry x + uptoBulkEntries r
def uptoBulkEntry {H : Type} : Lit × DataW H → Nat
  | (.string bytes, d) => bytes.length + uptoBulk d + 1
  | (_, d) => uptoBulk d + 1
 end
def uptoSmall : (H : Type) → List (DataW H) → Bool := fun _ ds => decide (uptoBulkAll ds ≤ 1048576)
def OpenSpec.upto (s : _root_.Go.ChangeSpec) : _root_.Go.OpenSpec := { _root_.Go.OpenSpec.ofChange s with cond := some uptoSmall }

/-- 'ferrymanlaw12.BankPlays', WHERE WHAT IT READS IS OF BULK AT MOST 1048576: true; the input reads as it did. -/
def bankPlaysUptoRow : OpenClaim := { program := "ytblnnkkelkjbiaadoor", sum := "8f9f6492a26054abb09c1fc6cb997ce1a0b3ce69240297d0ed89912cbd4ac1f8", func := "ferryman/ferrymanlaw12.BankPlays", spec := "bankPlays", inPlace := ["internal/bytealg.IndexByteString", "internal/bytealg.IndexString", "internal/reflectlite.ValueOf", "(internal/reflectlite.Value).Type", "(internal/reflectlite.Value).IsNil", "internal/reflectlite.TypeOf", "(internal/reflectlite.Value).Elem", "(internal/reflectlite.Value).Set"], unfollowed := true, recurses := true, named := ["internal/bytealg.MaxLen", "errors.errorType"], plainKeys := false, apart := false, laid := [("errors.errorType", laid_errors_errorType)], narrowed := true }
def BankPlaysUptoSaid : Prop := bankPlaysUptoRow.holds Tryd.pinned (OpenSpec.upto bankPlaysSpec)

/-- 'ferrymanlaw12.BankSums', WHERE WHAT IT READS IS OF BULK AT MOST 1048576: true; the input reads as it did. -/
def bankSumsUptoRow : OpenClaim := { program := "ytblnnkkelkjbiaadoor", sum := "8f9f6492a26054abb09c1fc6cb997ce1a0b3ce69240297d0ed89912cbd4ac1f8", func := "ferryman/ferrymanlaw12.BankSums", spec := "bankSums", inPlace := ["internal/bytealg.IndexByteString", "internal/bytealg.IndexString", "internal/reflectlite.ValueOf", "(internal/reflectlite.Value).Type", "(internal/reflectlite.Value).IsNil", "internal/reflectlite.TypeOf", "(internal/reflectlite.Value).Elem", "(internal/reflectlite.Value).Set"], unfollowed := true, recurses := true, named := ["internal/bytealg.MaxLen", "errors.errorType"], plainKeys := false, apart := false, laid := [("errors.errorType", laid_errors_errorType)], narrowed := true }
def BankSumsUptoSaid : Prop := bankSumsUptoRow.holds Tryd.pinned (OpenSpec.upto bankSumsSpec)

/-- 'ferrymanlaw12.BankBack', WHERE WHAT IT READS IS OF BULK AT MOST 1048576: true; the input reads as it did. -/
def bankBackUptoRow : OpenClaim := { program := "ytblnnkkelkjbiaadoor", sum := "8f9f6492a26054abb09c1fc6cb997ce1a0b3ce69240297d0ed89912cbd4ac1f8", func := "ferryman/ferrymanlaw12.BankBack", spec := "bankBack", inPlace := ["internal/bytealg.IndexByteString", "internal/bytealg.IndexString", "internal/reflectlite.ValueOf", "(internal/reflectlite.Value).Type", "(internal/reflectlite.Value).IsNil", "internal/reflectlite.TypeOf", "(internal/reflectlite.Value).Elem", "(internal/reflectlite.Value).Set"], unfollowed := true, recurses := true, named := ["internal/bytealg.MaxLen", "errors.errorType"], plainKeys := false, apart := false, laid := [("errors.errorType", laid_errors_errorType)], narrowed := true }
def BankBackUptoSaid : Prop := bankBackUptoRow.holds Tryd.pinned (OpenSpec.upto bankBackSpec)

/-- 'ferrymanlaw12.BankNil', WHERE WHAT IT READS IS OF BULK AT MOST 1048576: true; the input reads as it did. -/
def bankNilUptoRow : OpenClaim := { program := "ytblnnkkelkjbiaadoor", sum := "8f9f6492a26054abb09c1fc6cb997ce1a0b3ce69240297d0ed89912cbd4ac1f8", func := "ferryman/ferrymanlaw12.BankNil", spec := "bankNil", inPlace := ["internal/bytealg.IndexByteString", "internal/bytealg.IndexString", "internal/reflectlite.ValueOf", "(internal/reflectlite.Value).Type", "(internal/reflectlite.Value).IsNil", "internal/reflectlite.TypeOf", "(internal/reflectlite.Value).Elem", "(internal/reflectlite.Value).Set"], unfollowed := true, recurses := true, named := ["internal/bytealg.MaxLen", "errors.errorType"], plainKeys := false, apart := false, laid := [("errors.errorType", laid_errors_errorType)], narrowed := true }
def BankNilUptoSaid : Prop := bankNilUptoRow.holds Tryd.pinned (OpenSpec.upto bankNilSpec)

/-- 'ferrymanlaw12.BankFails', WHERE WHAT IT READS IS OF BULK AT MOST 1048576: true; the input reads as it did. -/
def bankFailsUptoRow : OpenClaim := { program := "ytblnnkkelkjbiaadoor", sum := "8f9f6492a26054abb09c1fc6cb997ce1a0b3ce69240297d0ed89912cbd4ac1f8", func := "ferryman/ferrymanlaw12.BankFails", spec := "bankFails", inPlace := ["internal/bytealg.IndexByteString", "internal/bytealg.IndexString", "internal/reflectlite.ValueOf", "(internal/reflectlite.Value).Type", "(internal/reflectlite.Value).IsNil", "internal/reflectlite.TypeOf", "(internal/reflectlite.Value).Elem", "(internal/reflectlite.Value).Set"], unfollowed := true, recurses := true, named := ["internal/bytealg.MaxLen", "errors.errorType"], plainKeys := false, apart := false, laid := [("errors.errorType", laid_errors_errorType)], narrowed := true }
def BankFailsUptoSaid : Prop := bankFailsUptoRow.holds Tryd.pinned (OpenSpec.upto bankFailsSpec)

end Rows
end Go.Proofs.YtblnnkkelkjbiaaDoor
