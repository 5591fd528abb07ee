/- Plain words of layer 21: packets, events, what is to be carried. -/
import Derived.Test.Ytaoamokfbhlaaaapure17
set_option linter.unusedVariables false
set_option linter.unusedSimpArgs false
namespace Go.Proofs.Ytaoamokfbhlaaaa.E
open Go

structure Packet where
  channel : Int
  seq : UInt64
  timeout : UInt64
  denom : List UInt8
  amount : UInt64
  src : List UInt8
  dst : List UInt8
  deriving DecidableEq
structure Ack where
  ok : Bool
  code : Int
  deriving DecidableEq
structure Event where
  kind : UInt8
  packet : Packet
  ack : Ack
  deriving DecidableEq
structure Small where
  kind : UInt8
  channel : UInt8
  seq : UInt8
  late : Bool
  ok : Bool
  deriving DecidableEq

def encPacket (p : Packet) : List Value := [iv p.channel, uv p.seq, uv p.timeout, sv p.denom, uv p.amount, sv p.src, sv p.dst]
def encAck (a : Ack) : List Value := [.bool a.ok, iv a.code]
def encEvent (e : Event) : List Value := [bv e.kind, iv e.packet.channel, uv e.packet.seq, uv e.packet.timeout, sv e.packet.denom, uv e.packet.amount, sv e.packet.src, sv e.packet.dst, .bool e.ack.ok, iv e.ack.code]
def encSmall (e : Small) : List Value := [bv e.kind, bv e.channel, bv e.seq, .bool e.late, .bool e.ok]
def tPacket : Ty Packet := Ty.flat encPacket 7 80 (fun _ => rfl) (fun _ v hv => by simp [encPacket] at hv; rcases hv with h | h | h | h | h | h | h <;> subst h <;> rfl)
def tAck : Ty Ack := Ty.flat encAck 2 16 (fun _ => rfl) (fun _ v hv => by simp [encAck] at hv; rcases hv with h | h <;> subst h <;> rfl)
def tEvent : Ty Event := Ty.flat encEvent 10 104 (fun _ => rfl) (fun _ v hv => by simp [encEvent] at hv; rcases hv with h | h | h | h | h | h | h | h | h | h <;> subst h <;> rfl)
def tSmall : Ty Small := Ty.flat encSmall 5 5 (fun _ => rfl) (fun _ v hv => by simp [encSmall] at hv; rcases hv with h | h | h | h | h <;> subst h <;> rfl)
def tKind : Ty UInt8 := tU8

def idxI : Option Nat → Int
  | some i => (i : Int)
  | none => -1
theorem idxI_at {α : Type} (p : α → Bool) (l : List α) (k : Nat) (hk : k < l.length) (hb : ∀ j (hj : j < l.length), j < k → p l[j] = false) (h : p l[k] = true) : idxI (l.findIdx? p) = (k : Int) := by
  have : l.findIdx? p = some k := by
    rw [List.findIdx?_eq_some_iff_getElem]
    exact ⟨hk, h, fun j hj => by rw [hb j (by omega) hj]; simp⟩
  rw [this]; rfl
theorem idxI_none {α : Type} (p : α → Bool) (l : List α) (hb : ∀ j (hj : j < l.length), j < l.length → p l[j] = false) : idxI (l.findIdx? p) = -1 := by
  have : l.findIdx? p = none := by
    rw [List.findIdx?_eq_none_iff]
    intro x hx
    obtain ⟨j, hj, rfl⟩ := List.getElem_of_mem hx
    exact hb j hj hj
  rw [this]; rfl
theorem before_succ {α : Type} {p : α → Bool} {l : List α} {k : Nat} (hk : k < l.length) (hb : ∀ j (hj : j < l.length), j < k → p l[j] = false) (h : p l[k] = false) : ∀ j (hj : j < l.length), j < k + 1 → p l[j] = false := by
  intro j hj hlt
  by_cases e : j = k
  · subst e; exact h
  · exact hb j hj (by omega)

theorem idxI_ge (l : List UInt8) (x : UInt8) : decide (idxI (l.findIdx? (fun y => decide (x = y))) ≥ ((0 : Nat) : Int)) = l.contains x := by
  cases h : l.findIdx? (fun y => decide (x = y)) with
  | none =>
    rw [List.findIdx?_eq_none_iff] at h
    have : l.contains x = false := by
      rw [← Bool.not_eq_true, List.contains_iff_mem]
      intro hx
      have := h x hx
      simp at this
    rw [this]
    decide
  | some i =>
    rw [List.findIdx?_eq_some_iff_getElem] at h
    obtain ⟨hi, h1, _⟩ := h
    have : l.contains x = true := by
      rw [List.contains_iff_mem]
      have h2 : x = l[i] := by simpa using h1
      rw [h2]; exact List.getElem_mem hi
    rw [this]
    simp [idxI]

theorem keep_yes {α : Type} (p : α → Bool) (l : List α) (k : Nat) (hk : k < l.length) (h : p (l[k]'hk) = true) : (l.take k).filter p ++ [l[k]'hk] = (l.take (k + 1)).filter p := by
  rw [List.take_succ_eq_append_getElem hk, List.filter_append, List.filter_cons, if_pos h, List.filter_nil]
theorem keep_no {α : Type} (p : α → Bool) (l : List α) (k : Nat) (hk : k < l.length) (h : p (l[k]'hk) = false) : (l.take k).filter p = (l.take (k + 1)).filter p := by
  rw [List.take_succ_eq_append_getElem hk, List.filter_append, List.filter_cons, h]
  simp

def isOf (kinds : List UInt8) (p : Packet) (e : Event) : Bool := kinds.contains e.kind && decide (e.packet = p)
def sameL (l : List Event) (p : Packet) (kinds : List UInt8) : Option Event := l.find? (isOf kinds p)
def sentL (l : List Event) (c : Int) : List Packet := (l.filter (fun e => decide (e.kind = 1) && decide (e.packet.channel = c))).map Event.packet
def zeroEvent : Event := ⟨0, ⟨0, 0, 0, [], 0, [], []⟩, ⟨false, 0⟩⟩
def sameE (l : List Event) (p : Packet) (kinds : List UInt8) : Event := (sameL l p kinds).getD zeroEvent
theorem idxI_neg {α : Type} (p : α → Bool) (l : List α) (h : idxI (l.findIdx? p) < 0) : l.find? p = none := by
  cases e : l.findIdx? p with
  | some i => rw [e] at h; simp [idxI] at h; omega
  | none =>
    rw [List.findIdx?_eq_none_iff] at e
    rw [List.find?_eq_none]
    intro x hx
    rw [e x hx]; simp
theorem idxI_pos {α : Type} (p : α → Bool) (l : List α) (h : ¬ idxI (l.findIdx? p) < 0) : ∃ k, ∃ hk : k < l.length, idxI (l.findIdx? p) = (k : Int) ∧ l.find? p = some l[k] := by
  cases e : l.findIdx? p with
  | none => rw [e] at h; simp [idxI] at h
  | some i =>
    rw [List.findIdx?_eq_some_iff_getElem] at e
    obtain ⟨hi, h1, h2⟩ := e
    refine ⟨i, hi, rfl, ?_⟩
    rw [List.find?_eq_some_iff_getElem]
    exact ⟨h1, i, hi, rfl, fun j hj => by simpa using h2 j hj⟩
theorem map_step {α β : Type} (f : α → β) (l : List α) (k : Nat) (hk : k < l.length) : (l.take k).map f ++ [f (l[k]'hk)] = (l.take (k + 1)).map f := by
  rw [List.take_succ_eq_append_getElem hk, List.map_append]; rfl
def toReceive (a b : List Event) (c : Int) : List Packet := (sentL a c).filter fun p => (sameL b p [2]).isNone
def toTimeout (a : List Event) (c : Int) : List Packet := (sentL a c).filter fun p => (sameL a p [3, 4]).isNone && !decide (p.timeout = 0)
def answers (a b : List Event) (p : Packet) : Bool := (sameL b p [2]).isSome && (sameL a p [3, 4]).isNone
def toAnswer (a b : List Event) (c : Int) : List Packet := (sentL a c).filter (answers a b)
def ackOf (b : List Event) (p : Packet) : Ack := ((sameL b p [2]).map Event.ack).getD ⟨false, 0⟩
theorem sentL_len (l : List Event) (c : Int) : (sentL l c).length ≤ l.length := by
  unfold sentL
  rw [List.length_map]
  exact List.length_filter_le _ _
def toldA (o : Option Event) : Ack := (o.map Event.ack).getD ⟨false, 0⟩
theorem isOf_no1 {kd : UInt8} {p : Packet} {e : Event} (h : ¬ e.kind = kd) : isOf [kd] p e = false := by
  unfold isOf
  have : [kd].contains e.kind = false := by simp [h]
  rw [this]; rfl
theorem isOf_no2 {kd : UInt8} {p : Packet} {e : Event} (h : ¬ e.packet = p) : isOf [kd] p e = false := by
  unfold isOf
  rw [decide_eq_false h, Bool.and_false]
theorem isOf_yes {kd : UInt8} {p : Packet} {e : Event} (h : e.kind = kd) (h2 : e.packet = p) : isOf [kd] p e = true := by
  unfold isOf
  have : [kd].contains e.kind = true := by simp [h]
  rw [this, decide_eq_true h2]; rfl
theorem told_at (l : List Event) (p : Packet) (kd : UInt8) (k : Nat) (hk : k < l.length) (hb : ∀ j (hj : j < l.length), j < k → isOf [kd] p l[j] = false) (h : isOf [kd] p l[k] = true) : sameL l p [kd] = some l[k] := by
  unfold sameL
  rw [List.find?_eq_some_iff_getElem]
  exact ⟨h, k, hk, rfl, fun j hj => by rw [hb j (by omega) hj]; rfl⟩
theorem told_none (l : List Event) (p : Packet) (kd : UInt8) (hb : ∀ j (hj : j < l.length), j < l.length → isOf [kd] p l[j] = false) : sameL l p [kd] = none := by
  unfold sameL
  rw [List.find?_eq_none]
  intro x hx
  obtain ⟨j, hj, rfl⟩ := List.getElem_of_mem hx
  rw [hb j hj hj]; simp
def overL (l : List Event) (p : Packet) : Bool := (sameL l p [3]).isSome || (sameL l p [4]).isSome
theorem over_yes {l : List Event} {p : Packet} (h : (sameL l p [3]).isSome = true) : true = overL l p := by unfold overL; rw [h]; rfl
theorem over_no {l : List Event} {p : Packet} (h : (sameL l p [3]).isSome = false) : (sameL l p [4]).isSome = overL l p := by unfold overL; rw [h]; rfl
theorem over_eq (l : List Event) (p : Packet) : overL l p = (sameL l p [3, 4]).isSome := by
  unfold overL sameL
  rw [Bool.eq_iff_iff]
  simp only [Bool.or_eq_true, List.find?_isSome, isOf, List.contains_iff_mem, List.mem_cons, List.not_mem_nil, or_false, Bool.and_eq_true, decide_eq_true_eq]
  constructor
  · rintro (⟨x, h1, h2⟩ | ⟨x, h1, h2⟩)
    · exact ⟨x, h1, .inl h2.1, h2.2⟩
    · exact ⟨x, h1, .inr h2.1, h2.2⟩
  · rintro ⟨x, h1, h2 | h2, h3⟩
    · exact .inl ⟨x, h1, h2, h3⟩
    · exact .inr ⟨x, h1, h2, h3⟩
theorem ack_same (b : List Event) (p : Packet) : (sameE b p [2]).ack = ackOf b p := by
  unfold sameE ackOf
  cases sameL b p [2] <;> rfl
theorem answers_yes {a b : List Event} {p : Packet} (h1 : (sameL b p [2]).isSome = true) (h2 : (!(sameL a p [3, 4]).isSome) = true) : answers a b p = true := by
  unfold answers
  rw [h1]
  cases h : sameL a p [3, 4] with
  | none => rfl
  | some e => rw [h] at h2; simp at h2
theorem answers_no1 {a b : List Event} {p : Packet} (h1 : (sameL b p [2]).isSome = false) : answers a b p = false := by
  unfold answers
  rw [h1]; rfl
theorem answers_no2 {a b : List Event} {p : Packet} (h2 : (!(sameL a p [3, 4]).isSome) = false) : answers a b p = false := by
  unfold answers
  cases h : sameL a p [3, 4] with
  | none => rw [h] at h2; simp at h2
  | some e => simp
theorem ack_yes {x : Ack} (a b : List Event) (l : List Packet) (k : Nat) (hk : k < l.length) (h : answers a b l[k] = true ∧ x = ackOf b l[k]) : ((l.take k).filter (answers a b)).map (ackOf b) ++ [x] = ((l.take (k + 1)).filter (answers a b)).map (ackOf b) := by
  rw [← keep_yes _ _ _ hk h.1, List.map_append, h.2]; rfl
theorem ack_no (a b : List Event) (l : List Packet) (k : Nat) (hk : k < l.length) (h : answers a b l[k] = false) : ((l.take k).filter (answers a b)).map (ackOf b) = ((l.take (k + 1)).filter (answers a b)).map (ackOf b) := by
  rw [← keep_no _ _ _ hk h]
end Go.Proofs.Ytaoamokfbhlaaaa.E
