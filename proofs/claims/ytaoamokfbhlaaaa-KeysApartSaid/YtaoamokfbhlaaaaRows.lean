/-
  No cell of these rows narrows 'for every input' (looked for: loops, veiled, ifaces, maps, wideKeys, modest, calm, conditions, laid).
  DERIVED. THE GIVEN ROWS OF THIS SEAT. 7 by the template 'for every input the law returns true; each argument reads behind the call as it read before'; 0 by the template 'total and deterministic' (their statements: YtaoamokfbhlaaaaTotals.lean).
  GIVEN WITH THE SEED: the statements are not yours to turn. If you find one false, say at which input.
  Laid BY PROGRAM, IN A SANDBOX (cutbox-rows.mjs): the forced cells as the released guide's own fill.sh prints them over the translation bc568718c1590de4… (all of the seat's roots in one cut). By AI agents, Wed Nov 11 2026. No macro, syntax, notation, axiom, sorry.
-/
import Derived.Test.YtaoamokfbhlaaaaChecked
import GoSem.Claim
import GoSem.ClaimJoined
import GoSem.ClaimMapViews
import Derived.JoinedTies
import Derived.KernelRfl
namespace Go.Proofs.Ytaoamokfbhlaaaa
/- THE CELL 'sum', in the pinned program and in every row, IS THE sha256 OF THE DUMP (.gsa) THAT YtaoamokfbhlaaaaProg.lean LOADS. Nothing in Lean hashes anything: it is a label: what it is worth is what the hold of that sum in a sandbox is worth. -/
noncomputable def Try.pinned : Pinned := { name := "ytaoamokfbhlaaaa", sum := "bc568718c1590de49af690cb1b099af52d7e17654c2c5201fb975108a67500e6", checked := Try.checked }
namespace Rows
def none {H : Type} : Left H := { results := [], args := [] }

/-- 'ferrymanlaw17.KeysApart': WHATEVER THE INPUT: true; the input reads as it did. -/
def keysApartSpec : ChangeSpec := { name := "keysApart", fn := fun _ => fun
  | [d1, d2, d3, d4] => { results := [.lit (.bool true)], args := [d1, d2, d3, d4] }
  | _ => none }
def keysApartRow : OpenClaim := { program := "ytaoamokfbhlaaaa", sum := "bc568718c1590de49af690cb1b099af52d7e17654c2c5201fb975108a67500e6", func := "ferryman/ferrymanlaw17.KeysApart", spec := "keysApart", apart := false }
def KeysApartSaid : Prop := keysApartRow.holds Try.pinned (OpenSpec.ofChange keysApartSpec)

/-- ITS FALSE NEIGHBOUR: 'it returns false'. Refute it at one input. -/
def keysApartWrong : ChangeSpec := { name := "keysApart", fn := fun _ => fun
  | [d1, d2, d3, d4] => { results := [.lit (.bool false)], args := [d1, d2, d3, d4] }
  | _ => none }
def KeysApartWrongFalsely : Prop := keysApartRow.holds Try.pinned (OpenSpec.ofChange keysApartWrong)

/-- 'ferrymanlaw17.KeysAll': WHATEVER THE INPUT: true; the input reads as it did. -/
def keysAllSpec : ChangeSpec := { name := "keysAll", fn := fun _ => fun
  | [d1, d2, d3, d4] => { results := [.lit (.bool true)], args := [d1, d2, d3, d4] }
  | _ => none }
def keysAllRow : OpenClaim := { program := "ytaoamokfbhlaaaa", sum := "bc568718c1590de49af690cb1b099af52d7e17654c2c5201fb975108a67500e6", func := "ferryman/ferrymanlaw17.KeysAll", spec := "keysAll", apart := false }
def KeysAllSaid : Prop := keysAllRow.holds Try.pinned (OpenSpec.ofChange keysAllSpec)

/-- ITS FALSE NEIGHBOUR: 'it returns false'. Refute it at one input. -/
def keysAllWrong : ChangeSpec := { name := "keysAll", fn := fun _ => fun
  | [d1, d2, d3, d4] => { results := [.lit (.bool false)], args := [d1, d2, d3, d4] }
  | _ => none }
def KeysAllWrongFalsely : Prop := keysAllRow.holds Try.pinned (OpenSpec.ofChange keysAllWrong)

/-- 'ferrymanlaw17.KeysNums': WHATEVER THE INPUT: true; the input reads as it did. -/
def keysNumsSpec : ChangeSpec := { name := "keysNums", fn := fun _ => fun
  | [d1, d2] => { results := [.lit (.bool true)], args := [d1, d2] }
  | _ => none }
def keysNumsRow : OpenClaim := { program := "ytaoamokfbhlaaaa", sum := "bc568718c1590de49af690cb1b099af52d7e17654c2c5201fb975108a67500e6", func := "ferryman/ferrymanlaw17.KeysNums", spec := "keysNums", apart := false }
def KeysNumsSaid : Prop := keysNumsRow.holds Try.pinned (OpenSpec.ofChange keysNumsSpec)

/-- ITS FALSE NEIGHBOUR: 'it returns false'. Refute it at one input. -/
def keysNumsWrong : ChangeSpec := { name := "keysNums", fn := fun _ => fun
  | [d1, d2] => { results := [.lit (.bool false)], args := [d1, d2] }
  | _ => none }
def KeysNumsWrongFalsely : Prop := keysNumsRow.holds Try.pinned (OpenSpec.ofChange keysNumsWrong)

/-- 'ferrymanlaw21.RelayPicks': WHATEVER THE INPUT: true; the input reads as it did. -/
def relayPicksSpec : ChangeSpec := { name := "relayPicks", fn := fun _ => fun
  | [d1, d2, d3] => { results := [.lit (.bool true)], args := [d1, d2, d3] }
  | _ => none }
def relayPicksRow : OpenClaim := { program := "ytaoamokfbhlaaaa", sum := "bc568718c1590de49af690cb1b099af52d7e17654c2c5201fb975108a67500e6", func := "ferryman/ferrymanlaw21.RelayPicks", spec := "relayPicks", unfollowed := true, recurses := true, apart := false }
def RelayPicksSaid : Prop := relayPicksRow.holds Try.pinned (OpenSpec.ofChange relayPicksSpec)

/-- ITS FALSE NEIGHBOUR: 'it returns false'. Refute it at one input. -/
def relayPicksWrong : ChangeSpec := { name := "relayPicks", fn := fun _ => fun
  | [d1, d2, d3] => { results := [.lit (.bool false)], args := [d1, d2, d3] }
  | _ => none }
def RelayPicksWrongFalsely : Prop := relayPicksRow.holds Try.pinned (OpenSpec.ofChange relayPicksWrong)

/-- 'ferrymanlaw21.RelayApart': WHATEVER THE INPUT: true; the input reads as it did. -/
def relayApartSpec : ChangeSpec := { name := "relayApart", fn := fun _ => fun
  | [d1, d2] => { results := [.lit (.bool true)], args := [d1, d2] }
  | _ => none }
def relayApartRow : OpenClaim := { program := "ytaoamokfbhlaaaa", sum := "bc568718c1590de49af690cb1b099af52d7e17654c2c5201fb975108a67500e6", func := "ferryman/ferrymanlaw21.RelayApart", spec := "relayApart", unfollowed := true, recurses := true, apart := false }
def RelayApartSaid : Prop := relayApartRow.holds Try.pinned (OpenSpec.ofChange relayApartSpec)

/-- ITS FALSE NEIGHBOUR: 'it returns false'. Refute it at one input. -/
def relayApartWrong : ChangeSpec := { name := "relayApart", fn := fun _ => fun
  | [d1, d2] => { results := [.lit (.bool false)], args := [d1, d2] }
  | _ => none }
def RelayApartWrongFalsely : Prop := relayApartRow.holds Try.pinned (OpenSpec.ofChange relayApartWrong)

/-- 'ferrymanlaw21.RelayOrder': WHATEVER THE INPUT: true; the input reads as it did. -/
def relayOrderSpec : ChangeSpec := { name := "relayOrder", fn := fun _ => fun
  | [d1, d2, d3] => { results := [.lit (.bool true)], args := [d1, d2, d3] }
  | _ => none }
def relayOrderRow : OpenClaim := { program := "ytaoamokfbhlaaaa", sum := "bc568718c1590de49af690cb1b099af52d7e17654c2c5201fb975108a67500e6", func := "ferryman/ferrymanlaw21.RelayOrder", spec := "relayOrder", unfollowed := true, recurses := true, apart := false }
def RelayOrderSaid : Prop := relayOrderRow.holds Try.pinned (OpenSpec.ofChange relayOrderSpec)

/-- ITS FALSE NEIGHBOUR: 'it returns false'. Refute it at one input. -/
def relayOrderWrong : ChangeSpec := { name := "relayOrder", fn := fun _ => fun
  | [d1, d2, d3] => { results := [.lit (.bool false)], args := [d1, d2, d3] }
  | _ => none }
def RelayOrderWrongFalsely : Prop := relayOrderRow.holds Try.pinned (OpenSpec.ofChange relayOrderWrong)

/-- 'ferrymanlaw21.RelayKeys': WHATEVER THE INPUT: true; the input reads as it did. -/
def relayKeysSpec : ChangeSpec := { name := "relayKeys", fn := fun _ => fun
  | [d1, d2, d3] => { results := [.lit (.bool true)], args := [d1, d2, d3] }
  | _ => none }
def relayKeysRow : OpenClaim := { program := "ytaoamokfbhlaaaa", sum := "bc568718c1590de49af690cb1b099af52d7e17654c2c5201fb975108a67500e6", func := "ferryman/ferrymanlaw21.RelayKeys", spec := "relayKeys", unfollowed := true, recurses := true, apart := false }
def RelayKeysSaid : Prop := relayKeysRow.holds Try.pinned (OpenSpec.ofChange relayKeysSpec)

/-- ITS FALSE NEIGHBOUR: 'it returns false'. Refute it at one input. -/
def relayKeysWrong : ChangeSpec := { name := "relayKeys", fn := fun _ => fun
  | [d1, d2, d3] => { results := [.lit (.bool false)], args := [d1, d2, d3] }
  | _ => none }
def RelayKeysWrongFalsely : Prop := relayKeysRow.holds Try.pinned (OpenSpec.ofChange relayKeysWrong)

/- THE SECOND FORM. 'bulk': how many values and letters a reading holds, each counted each time it is reached (what is shared counts as often as it is met; a slice's spare places count too). A statement '..UptoSaid' is the law's where the arguments, and the package variables that the reading takes, are together of bulk at most 1048576: NARROWER than '..Said'. Prove '..Said' where nothing that the law and all that it calls make is longer than what came in: it says more and counts as full. Else prove '..UptoSaid'. A law counts once. -/
mutual
def uptoBulk {H : Type} : DataW H → Nat
  | .lit (.string bytes) => bytes.length + 1
  | .lit _ => 1
  | .nil => 1
  | .ptr d => uptoBulk d + 1
  | .slice elems spare => uptoBulkAll elems + uptoBulkAll spare + 1
  | .agg parts => uptoBulkAll parts + 1
  | .iface _ d => uptoBulk d + 1
  | .map entries => uptoBulkEntries entries + 1
  | .held _ => 1
def uptoBulkAll {H : Type} : List (DataW H) → Nat
  | [] => 0
  | d :: r => uptoBulk d + uptoBulkAll r
def uptoBulkEntries {H : Type} : List (Lit × DataW H) → Nat
  | [] => 0
  | x :: r => uptoBulkEntry x + uptoBulkEntries r
def uptoBulkEntry {H : Type} : Lit × DataW H → Nat
  | (.string bytes, d) => bytes.length + uptoBulk d + 1
  | (_, d) => uptoBulk d + 1
 end
def uptoSmall : (H : Type) → List (DataW H) → Bool := fun _ ds => decide (uptoBulkAll ds ≤ 1048576)
def OpenSpec.upto (s : _root_.Go.ChangeSpec) : _root_.Go.OpenSpec := { _root_.Go.OpenSpec.ofChange s with cond := some uptoSmall }

/-- 'ferrymanlaw17.KeysApart', WHERE WHAT IT READS IS OF BULK AT MOST 1048576: true; the input reads as it did. -/
def keysApartUptoRow : OpenClaim := { program := "ytaoamokfbhlaaaa", sum := "bc568718c1590de49af690cb1b099af52d7e17654c2c5201fb975108a67500e6", func := "ferryman/ferrymanlaw17.KeysApart", spec := "keysApart", apart := false, narrowed := true }
def KeysApartUptoSaid : Prop := keysApartUptoRow.holds Try.pinned (OpenSpec.upto keysApartSpec)

/-- 'ferrymanlaw17.KeysAll', WHERE WHAT IT READS IS OF BULK AT MOST 1048576: true; the input reads as it did. -/
def keysAllUptoRow : OpenClaim := { program := "ytaoamokfbhlaaaa", sum := "bc568718c1590de49af690cb1b099af52d7e17654c2c5201fb975108a67500e6", func := "ferryman/ferrymanlaw17.KeysAll", spec := "keysAll", apart := false, narrowed := true }
def KeysAllUptoSaid : Prop := keysAllUptoRow.holds Try.pinned (OpenSpec.upto keysAllSpec)

/-- 'ferrymanlaw17.KeysNums', WHERE WHAT IT READS IS OF BULK AT MOST 1048576: true; the input reads as it did. -/
def keysNumsUptoRow : OpenClaim := { program := "ytaoamokfbhlaaaa", sum := "bc568718c1590de49af690cb1b099af52d7e17654c2c5201fb975108a67500e6", func := "ferryman/ferrymanlaw17.KeysNums", spec := "keysNums", apart := false, narrowed := true }
def KeysNumsUptoSaid : Prop := keysNumsUptoRow.holds Try.pinned (OpenSpec.upto keysNumsSpec)

/-- 'ferrymanlaw21.RelayPicks', WHERE WHAT IT READS IS OF BULK AT MOST 1048576: true; the input reads as it did. -/
def relayPicksUptoRow : OpenClaim := { program := "ytaoamokfbhlaaaa", sum := "bc568718c1590de49af690cb1b099af52d7e17654c2c5201fb975108a67500e6", func := "ferryman/ferrymanlaw21.RelayPicks", spec := "relayPicks", unfollowed := true, recurses := true, apart := false, narrowed := true }
def RelayPicksUptoSaid : Prop := relayPicksUptoRow.holds Try.pinned (OpenSpec.upto relayPicksSpec)

/-- 'ferrymanlaw21.RelayApart', WHERE WHAT IT READS IS OF BULK AT MOST 1048576: true; the input reads as it did. -/
def relayApartUptoRow : OpenClaim := { program := "ytaoamokfbhlaaaa", sum := "bc568718c1590de49af690cb1b099af52d7e17654c2c5201fb975108a67500e6", func := "ferryman/ferrymanlaw21.RelayApart", spec := "relayApart", unfollowed := true, recurses := true, apart := false, narrowed := true }
def RelayApartUptoSaid : Prop := relayApartUptoRow.holds Try.pinned (OpenSpec.upto relayApartSpec)

/-- 'ferrymanlaw21.RelayOrder', WHERE WHAT IT READS IS OF BULK AT MOST 1048576: true; the input reads as it did. -/
def relayOrderUptoRow : OpenClaim := { program := "ytaoamokfbhlaaaa", sum := "bc568718c1590de49af690cb1b099af52d7e17654c2c5201fb975108a67500e6", func := "ferryman/ferrymanlaw21.RelayOrder", spec := "relayOrder", unfollowed := true, recurses := true, apart := false, narrowed := true }
def RelayOrderUptoSaid : Prop := relayOrderUptoRow.holds Try.pinned (OpenSpec.upto relayOrderSpec)

/-- 'ferrymanlaw21.RelayKeys', WHERE WHAT IT READS IS OF BULK AT MOST 1048576: true; the input reads as it did. -/
def relayKeysUptoRow : OpenClaim := { program := "ytaoamokfbhlaaaa", sum := "bc568718c1590de49af690cb1b099af52d7e17654c2c5201fb975108a67500e6", func := "ferryman/ferrymanlaw21.RelayKeys", spec := "relayKeys", unfollowed := true, recurses := true, apart := false, narrowed := true }
def RelayKeysUptoSaid : Prop := relayKeysUptoRow.holds Try.pinned (OpenSpec.upto relayKeysSpec)

end Rows
end Go.Proofs.Ytaoamokfbhlaaaa
