/- Plain words of layer 21: the document's answer, and the law's small events. -/
import Derived.Test.Ytaoamokfbhlaaaapure21
import Derived.Test.YtaoamokfbhlaaaaE9
set_option linter.unusedVariables false
set_option linter.unusedSimpArgs false
namespace Go.Proofs.Ytaoamokfbhlaaaa.E
open Go

def takeC (kd : UInt8) (la lb : List Event) (p : Packet) : Bool :=
  (decide (kd = 2) && !(sameL lb p [2]).isSome) || (decide (kd = 3) && (sameL lb p [2]).isSome && !overL la p) || (decide (kd = 4) && !decide (p.timeout = 0) && !overL la p)
def toCarry (kd : UInt8) (la lb : List Event) (c : Int) : List Packet := (sentL la c).filter (takeC kd la lb)
theorem sentL_skip {l : List Event} {c : Int} {k : Nat} (hk : k < l.length) (h : (decide (l[k].kind = 1) && decide (l[k].packet.channel = c)) = false) : sentL (l.take k) c = sentL (l.take (k + 1)) c := by
  unfold sentL
  rw [← keep_no (fun e => decide (e.kind = 1) && decide (e.packet.channel = c)) l k hk h]
theorem sentL_take {l : List Event} {c : Int} {k : Nat} (hk : k < l.length) (h1 : l[k].kind = 1) (h2 : l[k].packet.channel = c) : sentL (l.take k) c ++ [l[k].packet] = sentL (l.take (k + 1)) c := by
  unfold sentL
  rw [← keep_yes (fun e => decide (e.kind = 1) && decide (e.packet.channel = c)) l k hk (by simp [h1, h2]), List.map_append]
  rfl
theorem carry_skip1 {f : Packet → Bool} {l : List Event} {c : Int} {k : Nat} (hk : k < l.length) (h : ¬ l[k].kind = 1) : (sentL (l.take k) c).filter f = (sentL (l.take (k + 1)) c).filter f := by
  rw [sentL_skip hk (by simp [h])]
theorem carry_skip2 {f : Packet → Bool} {l : List Event} {c : Int} {k : Nat} (hk : k < l.length) (h : ¬ l[k].packet.channel = c) : (sentL (l.take k) c).filter f = (sentL (l.take (k + 1)) c).filter f := by
  rw [sentL_skip hk (by simp [h])]
theorem carry_no {f : Packet → Bool} {l : List Event} {c : Int} {k : Nat} (hk : k < l.length) (h1 : l[k].kind = 1) (h2 : l[k].packet.channel = c) (h : f l[k].packet = false) : (sentL (l.take k) c).filter f = (sentL (l.take (k + 1)) c).filter f := by
  rw [← sentL_take hk h1 h2, List.filter_append]
  simp [h]
theorem carry_yes {f : Packet → Bool} {l : List Event} {c : Int} {k : Nat} (hk : k < l.length) (h1 : l[k].kind = 1) (h2 : l[k].packet.channel = c) (h : f l[k].packet = true) : (sentL (l.take k) c).filter f ++ [l[k].packet] = (sentL (l.take (k + 1)) c).filter f := by
  rw [← sentL_take hk h1 h2, List.filter_append]
  simp [h]
theorem carryA_yes {f : Packet → Bool} {g : Packet → Ack} {l : List Event} {c : Int} {k : Nat} (hk : k < l.length) (h1 : l[k].kind = 1) (h2 : l[k].packet.channel = c) (h : f l[k].packet = true) : ((sentL (l.take k) c).filter f).map g ++ [g l[k].packet] = ((sentL (l.take (k + 1)) c).filter f).map g := by
  rw [← carry_yes hk h1 h2 h, List.map_append]
  rfl
theorem carry_len {f : Packet → Bool} (l : List Event) (c : Int) (k : Nat) : ((sentL (l.take k) c).filter f).length ≤ k := by
  have h1 := List.length_filter_le f (sentL (l.take k) c)
  have h2 := sentL_len (l.take k) c
  have h3 := List.length_take_le k l
  omega
def convE (e : Small) : Event := ⟨1 + e.kind % 4, ⟨((e.channel % 2).toNat : Int), (e.seq % 6).toUInt64, if e.late then 9 else 0, [], 5, [], []⟩, ⟨e.ok, 0⟩⟩
def evs (l : List Small) : List Event := (l.take 61).map convE
def inL (l : List Packet) (p : Packet) : Bool := l.any (fun y => decide (y = p))
theorem inL_yes {l : List Packet} {p : Packet} {k : Nat} (hk : k < l.length) (h : l[k] = p) : inL l p = true := by
  unfold inL
  rw [List.any_eq_true]
  exact ⟨l[k], List.getElem_mem hk, by simp [h]⟩
theorem inL_no {l : List Packet} {p : Packet} (hb : ∀ j (hj : j < l.length), j < l.length → decide (l[j] = p) = false) : inL l p = false := by
  unfold inL
  rw [List.any_eq_false]
  intro x hx
  obtain ⟨j, hj, rfl⟩ := List.getElem_of_mem hx
  rw [hb j hj hj]; simp
theorem upto_succ {l m : List Packet} {k : Nat} (h1 : k < l.length) (h2 : k < m.length) (hb : ∀ j, j < k → l[j]? = m[j]?) (h : l[k] = m[k]) : ∀ j, j < k + 1 → l[j]? = m[j]? := by
  intro j hj
  by_cases e : j = k
  · subst e; rw [List.getElem?_eq_getElem h1, List.getElem?_eq_getElem h2, h]
  · exact hb j (by omega)
theorem all_upto {l m : List Packet} (hl : l.length = m.length) (hb : ∀ j, j < l.length → l[j]? = m[j]?) : true = decide (l = m) := by
  refine (decide_eq_true ?_).symm
  refine List.ext_getElem? fun j => ?_
  by_cases h : j < l.length
  · exact hb j h
  · rw [List.getElem?_eq_none (by omega), List.getElem?_eq_none (by omega)]
theorem not_len {l m : List Packet} (hl : ¬ l.length = m.length) : false = decide (l = m) := (decide_eq_false (fun e => hl (by rw [e]))).symm
theorem not_at {l m : List Packet} {k : Nat} (h1 : k < l.length) (h2 : k < m.length) (h : ¬ l[k] = m[k]) : false = decide (l = m) := by
  refine (decide_eq_false (fun e => ?_)).symm
  subst e; exact h rfl
theorem evs_step {l : List Small} {k : Nat} (hk : k < l.length) {e : Event} (h : e = convE l[k]) : (l.take k).map convE ++ [e] = (l.take (k + 1)).map convE := by
  subst h
  exact map_step convE l k hk
theorem evs_end {l : List Small} {k : Nat} (h : k = l.length ∨ k = 61) (h2 : k ≤ l.length) (h3 : k ≤ 61) : (l.take k).map convE = evs l := by
  unfold evs
  rcases h with h | h
  · subst h
    rw [List.take_length, List.take_of_length_le h3]
  · subst h; rfl
theorem evs_len (l : List Small) : (evs l).length ≤ 61 := by
  unfold evs
  rw [List.length_map, List.length_take]
  omega
theorem evs_lenk (l : List Small) : (evs l).length ≤ 1000 := Nat.le_trans (evs_len l) (by decide)
end Go.Proofs.Ytaoamokfbhlaaaa.E
