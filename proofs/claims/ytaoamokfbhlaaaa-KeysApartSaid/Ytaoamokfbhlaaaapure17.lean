/- Plain words of layer 17: numbers as bytes. -/
import Derived.Test.YtaoamokfbhlaaaaE5
set_option linter.unusedVariables false
set_option linter.unusedSimpArgs false
namespace Go.Proofs.Ytaoamokfbhlaaaa.E
open Go

/-- The byte of n that stands k places behind the greatest. -/
def byteAt (n : UInt64) (k : Nat) : UInt8 := (n >>> (56 - 8 * k).toUInt64).toUInt8
def eight (n : UInt64) : List UInt8 := (List.range 8).map (byteAt n)
theorem eight_len (n : UInt64) : (eight n).length = 8 := by simp [eight]
def eightTo (n : UInt64) (k : Nat) : List UInt8 := (List.range k).map (byteAt n)
theorem eightTo_succ (n : UInt64) (k : Nat) : eightTo n k ++ [byteAt n k] = eightTo n (k + 1) := by simp [eightTo, List.range_succ]
theorem eightTo_len (n : UInt64) (k : Nat) : (eightTo n k).length = k := by simp [eightTo]
/-- A channel's key, and a number's. -/
def head17 (kind : UInt8) (channel : Int) : List UInt8 := [kind, 47, (48 + ofI channel % 10).toUInt8]
def ofL (kind : UInt8) (channel : Int) (ns : List UInt64) : List UInt8 := head17 kind channel ++ ns.flatMap fun n => 47 :: eight n
def ofTo (kind : UInt8) (channel : Int) (ns : List UInt64) (k : Nat) : List UInt8 := ofL kind channel (ns.take k)
theorem ofTo_succ (kind : UInt8) (channel : Int) (ns : List UInt64) (k : Nat) (hk : k < ns.length) : (ofTo kind channel ns k ++ [47]) ++ eight (ns[k]'hk) = ofTo kind channel ns (k + 1) := by
  unfold ofTo ofL
  rw [List.take_succ_eq_append_getElem hk, List.flatMap_append]
  simp only [List.flatMap_cons, List.flatMap_nil, List.append_nil, List.append_assoc, List.cons_append, List.nil_append]
theorem ofTo_all (kind : UInt8) (channel : Int) (ns : List UInt64) : ofTo kind channel ns ns.length = ofL kind channel ns := by
  unfold ofTo; rw [List.take_length]
def numTo (b : List UInt8) (k : Nat) : UInt64 := (b.take k).foldl (fun n c => n <<< (8 : Nat).toUInt64 ||| c.toUInt64) 0
theorem numTo_succ (b : List UInt8) (k : Nat) (hk : k < b.length) : numTo b k <<< (8 : Nat).toUInt64 ||| (b[k]'hk).toUInt64 = numTo b (k + 1) := by
  unfold numTo
  rw [List.take_succ_eq_append_getElem hk, List.foldl_append]
  rfl
def valueL (b : List UInt8) : UInt64 × Int := if b.length = 8 then (numTo b b.length, 0) else (0, 7)
def purse (p q : List UInt8) : List UInt8 := [98, 47] ++ p ++ [47] ++ q
end Go.Proofs.Ytaoamokfbhlaaaa.E
