/-
  No cell of these rows narrows 'for every input' (looked for: loops, veiled, ifaces, maps, wideKeys, modest, calm, conditions, laid).
  DERIVED. THE GIVEN ROWS OF THIS SEAT. 3 by the template 'for every input the law returns true; each argument reads behind the call as it read before'; 0 by the template 'total and deterministic' (their statements: YtblnnkkelkjbiaaTotals.lean).
  GIVEN WITH THE SEED: the statements are not yours to turn. If you find one false, say at which input.
  Laid BY PROGRAM, IN A SANDBOX (cutbox-rows.mjs): the forced cells as the released guide's own fill.sh prints them over the translation e0183cfb35e18df7… (all of the seat's roots in one cut). By AI agents, Wed Nov 11 2026. No macro, syntax, notation, axiom, sorry.
-/
import Derived.Test.YtblnnkkelkjbiaaChecked
import GoSem.Claim
import GoSem.ClaimJoined
import GoSem.ClaimMapViews
import Derived.JoinedTies
import Derived.KernelRfl
namespace Go.Proofs.Ytblnnkkelkjbiaa
/- THE CELL 'sum', in the pinned program and in every row, IS THE sha256 OF THE DUMP (.gsa) THAT YtblnnkkelkjbiaaProg.lean LOADS. Nothing in Lean hashes anything: it is a label: what it is worth is what the hold of that sum in a sandbox is worth. -/
noncomputable def Try.pinned : Pinned := { name := "ytblnnkkelkjbiaa", sum := "e0183cfb35e18df7746935c8343aebd46cf53d7ed7a4315f4210e2699d08e1e6", checked := Try.checked }
namespace Rows
def none {H : Type} : Left H := { results := [], args := [] }

/-- 'ferrymanlaw14.TransferRound': WHATEVER THE INPUT: true; the input reads as it did. -/
def transferRoundSpec : ChangeSpec := { name := "transferRound", fn := fun _ => fun
  | [d1, d2, d3] => { results := [.lit (.bool true)], args := [d1, d2, d3] }
  | _ => none }
def transferRoundRow : OpenClaim := { program := "ytblnnkkelkjbiaa", sum := "e0183cfb35e18df7746935c8343aebd46cf53d7ed7a4315f4210e2699d08e1e6", func := "ferryman/ferrymanlaw14.TransferRound", spec := "transferRound", inPlace := ["internal/bytealg.IndexByteString", "internal/bytealg.IndexString"], unfollowed := true, recurses := true, named := ["internal/bytealg.MaxLen"], plainKeys := false, apart := false }
def TransferRoundSaid : Prop := transferRoundRow.holds Try.pinned (OpenSpec.ofChange transferRoundSpec)

/-- ITS FALSE NEIGHBOUR: 'it returns false'. Refute it at one input. -/
def transferRoundWrong : ChangeSpec := { name := "transferRound", fn := fun _ => fun
  | [d1, d2, d3] => { results := [.lit (.bool false)], args := [d1, d2, d3] }
  | _ => none }
def TransferRoundWrongFalsely : Prop := transferRoundRow.holds Try.pinned (OpenSpec.ofChange transferRoundWrong)

/-- 'ferrymanlaw14.TransferBack': WHATEVER THE INPUT: true; the input reads as it did. -/
def transferBackSpec : ChangeSpec := { name := "transferBack", fn := fun _ => fun
  | [d1, d2] => { results := [.lit (.bool true)], args := [d1, d2] }
  | _ => none }
def transferBackRow : OpenClaim := { program := "ytblnnkkelkjbiaa", sum := "e0183cfb35e18df7746935c8343aebd46cf53d7ed7a4315f4210e2699d08e1e6", func := "ferryman/ferrymanlaw14.TransferBack", spec := "transferBack", inPlace := ["internal/bytealg.IndexByteString", "internal/bytealg.IndexString"], unfollowed := true, recurses := true, named := ["internal/bytealg.MaxLen"], plainKeys := false, apart := false }
def TransferBackSaid : Prop := transferBackRow.holds Try.pinned (OpenSpec.ofChange transferBackSpec)

/-- ITS FALSE NEIGHBOUR: 'it returns false'. Refute it at one input. -/
def transferBackWrong : ChangeSpec := { name := "transferBack", fn := fun _ => fun
  | [d1, d2] => { results := [.lit (.bool false)], args := [d1, d2] }
  | _ => none }
def TransferBackWrongFalsely : Prop := transferBackRow.holds Try.pinned (OpenSpec.ofChange transferBackWrong)

/-- 'ferrymanlaw14.TransferFails': WHATEVER THE INPUT: true; the input reads as it did. -/
def transferFailsSpec : ChangeSpec := { name := "transferFails", fn := fun _ => fun
  | [d1, d2, d3] => { results := [.lit (.bool true)], args := [d1, d2, d3] }
  | _ => none }
def transferFailsRow : OpenClaim := { program := "ytblnnkkelkjbiaa", sum := "e0183cfb35e18df7746935c8343aebd46cf53d7ed7a4315f4210e2699d08e1e6", func := "ferryman/ferrymanlaw14.TransferFails", spec := "transferFails", inPlace := ["internal/bytealg.IndexByteString", "internal/bytealg.IndexString"], unfollowed := true, recurses := true, named := ["internal/bytealg.MaxLen"], plainKeys := false, apart := false }
def TransferFailsSaid : Prop := transferFailsRow.holds Try.pinned (OpenSpec.ofChange transferFailsSpec)

/-- ITS FALSE NEIGHBOUR: 'it returns false'. Refute it at one input. -/
def transferFailsWrong : ChangeSpec := { name := "transferFails", fn := fun _ => fun
  | [d1, d2, d3] => { results := [.lit (.bool false)], args := [d1, d2, d3] }
  | _ => none }
def TransferFailsWrongFalsely : Prop := transferFailsRow.holds Try.pinned (OpenSpec.ofChange transferFailsWrong)

/- THE SECOND FORM. 'bulk': how many values and letters a reading holds, each counted each time it is reached (what is shared counts as often as it is met; a slice's spare places count too). A statement '..UptoSaid' is the law's where the arguments, and the package variables that the reading takes, are together of bulk at most 1048576: NARROWER than '..Said'. Prove '..Said' where nothing that the law and all that it calls make is longer than what came in: it says more and counts as full. Else prove '..UptoSaid'. A law counts once. -/
mutual
def uptoBulk {H : Type} : DataW H → Nat
  | .lit (.string bytes) => bytes.length + 1
  | .lit _ => 1
  | .nil => 1
  | .ptr d => uptoBulk d + 1
  | .slice elems spare => uptoBulkAll elems + uptoBulkAll spare + 1
  | .agg parts => uptoBulkAll parts + 1
  | .iface _ d => uptoBulk d + 1
  | .map entries => uptoBulkEntries entries + 1
  | .held _ => 1
def uptoBulkAll {H : Type} : List (DataW H) → Nat
  | [] => 0
  | d :: r => uptoBulk d + uptoBulkAll r
def uptoBulkEntries {H : Type} : List (Lit × DataW H) → Nat
  | [] => 0
  | x :: r => uptoBulkEntry x + uptoBulkEntries r
def uptoBulkEntry {H : Type} : Lit × DataW H → Nat
  | (.string bytes, d) => bytes.length + uptoBulk d + 1
  | (_, d) => uptoBulk d + 1
 end
def uptoSmall : (H : Type) → List (DataW H) → Bool := fun _ ds => decide (uptoBulkAll ds ≤ 1048576)
def OpenSpec.upto (s : _root_.Go.ChangeSpec) : _root_.Go.OpenSpec := { _root_.Go.OpenSpec.ofChange s with cond := some uptoSmall }

/-- 'ferrymanlaw14.TransferRound', WHERE WHAT IT READS IS OF BULK AT MOST 1048576: true; the input reads as it did. -/
def transferRoundUptoRow : OpenClaim := { program := "ytblnnkkelkjbiaa", sum := "e0183cfb35e18df7746935c8343aebd46cf53d7ed7a4315f4210e2699d08e1e6", func := "ferryman/ferrymanlaw14.TransferRound", spec := "transferRound", inPlace := ["internal/bytealg.IndexByteString", "internal/bytealg.IndexString"], unfollowed := true, recurses := true, named := ["internal/bytealg.MaxLen"], plainKeys := false, apart := false, narrowed := true }
def TransferRoundUptoSaid : Prop := transferRoundUptoRow.holds Try.pinned (OpenSpec.upto transferRoundSpec)

/-- 'ferrymanlaw14.TransferBack', WHERE WHAT IT READS IS OF BULK AT MOST 1048576: true; the input reads as it did. -/
def transferBackUptoRow : OpenClaim := { program := "ytblnnkkelkjbiaa", sum := "e0183cfb35e18df7746935c8343aebd46cf53d7ed7a4315f4210e2699d08e1e6", func := "ferryman/ferrymanlaw14.TransferBack", spec := "transferBack", inPlace := ["internal/bytealg.IndexByteString", "internal/bytealg.IndexString"], unfollowed := true, recurses := true, named := ["internal/bytealg.MaxLen"], plainKeys := false, apart := false, narrowed := true }
def TransferBackUptoSaid : Prop := transferBackUptoRow.holds Try.pinned (OpenSpec.upto transferBackSpec)

/-- 'ferrymanlaw14.TransferFails', WHERE WHAT IT READS IS OF BULK AT MOST 1048576: true; the input reads as it did. -/
def transferFailsUptoRow : OpenClaim := { program := "ytblnnkkelkjbiaa", sum := "e0183cfb35e18df7746935c8343aebd46cf53d7ed7a4315f4210e2699d08e1e6", func := "ferryman/ferrymanlaw14.TransferFails", spec := "transferFails", inPlace := ["internal/bytealg.IndexByteString", "internal/bytealg.IndexString"], unfollowed := true, recurses := true, named := ["internal/bytealg.MaxLen"], plainKeys := false, apart := false, narrowed := true }
def TransferFailsUptoSaid : Prop := transferFailsUptoRow.holds Try.pinned (OpenSpec.upto transferFailsSpec)

end Rows
end Go.Proofs.Ytblnnkkelkjbiaa
