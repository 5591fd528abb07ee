/- Plain words of layer 21: which keys show packets. -/
import Derived.Test.Ytaoamokfbhlaaaapure21c
import Derived.Test.Ytaoamokfbhlaaaapure17b
set_option linter.unusedVariables false
set_option linter.unusedSimpArgs false
namespace Go.Proofs.Ytaoamokfbhlaaaa.E
open Go

def keyL (kd : UInt8) (o : Bool) (p : Packet) : Option (List UInt8) :=
  if kd = 2 then some (ofL 99 p.channel [p.seq]) else if kd = 3 then some (ofL 97 p.channel [p.seq]) else if kd = 4 then (if o = true then some (ofL 110 p.channel []) else some (ofL 119 p.channel [(p.seq - 1) / 64])) else none
def keysL (kd : UInt8) (o : Bool) (l : List Packet) : List (List UInt8) := l.filterMap (keyL kd o)
theorem keysL_some {kd : UInt8} {o : Bool} {l : List Packet} {k : Nat} {b : List UInt8} (hk : k < l.length) (h : keyL kd o l[k] = some b) : keysL kd o (l.take k) ++ [b] = keysL kd o (l.take (k + 1)) := by
  unfold keysL
  rw [List.take_succ_eq_append_getElem hk, List.filterMap_append, List.filterMap_cons, h]
  rfl
theorem keysL_none {kd : UInt8} {o : Bool} {l : List Packet} {k : Nat} (hk : k < l.length) (h : keyL kd o l[k] = none) : keysL kd o (l.take k) = keysL kd o (l.take (k + 1)) := by
  unfold keysL
  rw [List.take_succ_eq_append_getElem hk, List.filterMap_append, List.filterMap_cons, h]
  simp
theorem keysL_len (kd : UInt8) (o : Bool) (l : List Packet) : (keysL kd o l).length ≤ l.length := List.length_filterMap_le _ _
theorem keysL_lenk (kd : UInt8) (o : Bool) (l : List Packet) (k : Nat) : (keysL kd o (l.take k)).length ≤ k := Nat.le_trans (keysL_len _ _ _) (List.length_take_le _ _)
def psL (l : List Event) (k : Nat) : List Packet := (l.take k).map Event.packet
theorem psL_len (l : List Event) (k : Nat) : (psL l k).length ≤ k := by
  unfold psL
  rw [List.length_map]
  exact List.length_take_le _ _
theorem psL_succ {l : List Event} {k : Nat} (hk : k < l.length) : psL l k ++ [l[k].packet] = psL l (k + 1) := map_step _ _ _ _
theorem wantL_some {kd : UInt8} {o : Bool} {l : List Event} {k : Nat} {b : List UInt8} (hk : k < l.length) (h : keyL kd o l[k].packet = some b) : keysL kd o (psL l k) ++ [b] = keysL kd o (psL l (k + 1)) := by
  rw [← psL_succ hk]
  unfold keysL
  rw [List.filterMap_append, List.filterMap_cons, h]
  rfl
theorem wantL_none {kd : UInt8} {o : Bool} {l : List Event} {k : Nat} (hk : k < l.length) (h : keyL kd o l[k].packet = none) : keysL kd o (psL l k) = keysL kd o (psL l (k + 1)) := by
  rw [← psL_succ hk]
  unfold keysL
  rw [List.filterMap_append, List.filterMap_cons, h]
  simp
theorem keysL_psl (kd : UInt8) (o : Bool) (l : List Event) (k : Nat) : (keysL kd o (psL l k)).length ≤ k := Nat.le_trans (keysL_len _ _ _) (psL_len _ _)
end Go.Proofs.Ytaoamokfbhlaaaa.E
