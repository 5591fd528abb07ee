/- Plain laws of layer 21: what is to be carried. -/
import Derived.Test.Ytaoamokfbhlaaaapure21b
set_option linter.unusedVariables false
set_option linter.unusedSimpArgs false
namespace Go.Proofs.Ytaoamokfbhlaaaa.E
open Go

theorem pick_r (a b : List Event) (c : Int) : toReceive a b c = toCarry 2 a b c := by
  unfold toReceive toCarry
  congr 1
  funext p
  unfold takeC
  cases sameL b p [2] <;> simp
theorem pick_a (a b : List Event) (c : Int) : toAnswer a b c = toCarry 3 a b c := by
  unfold toAnswer toCarry
  congr 1
  funext p
  unfold takeC answers
  rw [over_eq]
  cases sameL b p [2] <;> cases sameL a p [3, 4] <;> simp
theorem pick_t (a b : List Event) (c : Int) : toTimeout a c = toCarry 4 a b c := by
  unfold toTimeout toCarry
  congr 1
  funext p
  unfold takeC
  rw [over_eq]
  cases sameL a p [3, 4] <;> simp
theorem pick_k (a b : List Event) (c : Int) : (toAnswer a b c).map (ackOf b) = (toCarry 3 a b c).map (fun p => toldA (sameL b p [2])) := by
  rw [pick_a]; rfl
theorem pick_kat {a b : List Event} {c : Int} {k : Nat} (h1 : k < ((toAnswer a b c).map (ackOf b)).length) (h2 : k < ((toCarry 3 a b c).map (fun p => toldA (sameL b p [2]))).length) : ((toAnswer a b c).map (ackOf b))[k] = ((toCarry 3 a b c).map (fun p => toldA (sameL b p [2])))[k] :=
  List.getElem_of_eq (pick_k a b c) h1
theorem pick_kl (a b : List Event) (c : Int) : ((toAnswer a b c).map (ackOf b)).length = ((toCarry 3 a b c).map (fun p => toldA (sameL b p [2]))).length := by rw [pick_k]

theorem inL_mem {l : List Packet} {p : Packet} : inL l p = true ↔ p ∈ l := by
  unfold inL
  rw [List.any_eq_true]
  constructor
  · rintro ⟨x, h1, h2⟩
    have : x = p := by simpa using h2
    subst this; exact h1
  · intro h; exact ⟨p, h, by simp⟩
theorem inL_false {l : List Packet} {p : Packet} (h : p ∉ l) : inL l p = false := by
  cases e : inL l p with
  | false => rfl
  | true => exact absurd (inL_mem.1 e) h
theorem apart_at {a b : List Event} {c : Int} {k : Nat} (h : k < (toReceive a b c).length) : inL (toAnswer a b c) (toReceive a b c)[k] = false := by
  refine inL_false fun h2 => ?_
  have h1 := List.getElem_mem h
  generalize (toReceive a b c)[k] = p at *
  unfold toReceive at h1
  unfold toAnswer at h2
  rw [List.mem_filter] at h1 h2
  unfold answers at h2
  have e1 := h1.2
  have e2 := h2.2
  cases h3 : sameL b p [2] with
  | none => rw [h3] at e2; simp at e2
  | some x => rw [h3] at e1; simp at e1
theorem late_at {a : List Event} {c : Int} {k : Nat} (h : k < (toTimeout a c).length) : decide ((toTimeout a c)[k].timeout = 0) = false := by
  have h1 := List.getElem_mem h
  generalize (toTimeout a c)[k] = p at *
  unfold toTimeout at h1
  rw [List.mem_filter] at h1
  have e1 := h1.2
  simp at e1
  exact decide_eq_false e1.2
theorem either_at {a b : List Event} {c : Int} {k : Nat} (h : k < (toTimeout a c).length) (hn : inL (toReceive a b c) (toTimeout a c)[k] = false) : inL (toAnswer a b c) (toTimeout a c)[k] = true := by
  have h1 := List.getElem_mem h
  generalize (toTimeout a c)[k] = p at *
  unfold toTimeout at h1
  rw [List.mem_filter] at h1
  rw [inL_mem]
  unfold toAnswer
  rw [List.mem_filter]
  refine ⟨h1.1, ?_⟩
  have e1 := h1.2
  unfold answers
  cases h3 : sameL b p [2] with
  | some x => 
    cases h4 : sameL a p [3, 4] with
    | none => rfl
    | some y => rw [h4] at e1; simp at e1
  | none =>
    have : p ∈ toReceive a b c := by
      unfold toReceive
      rw [List.mem_filter]
      exact ⟨h1.1, by rw [h3]; rfl⟩
    rw [inL_mem.2 this] at hn
    exact absurd hn (by decide)
theorem order_at {a b : List Event} {c : Int} {k j : Nat} (hk : k = a.length) (hj : j < [toReceive a b c, toAnswer a b c, toTimeout a c].length) : List.Sublist (([toReceive a b c, toAnswer a b c, toTimeout a c][j]).drop 0) ((sentL (a.take k) c).drop 0) := by
  subst hk
  rw [List.take_length, List.drop_zero, List.drop_zero]
  match j, hj with
  | 0, _ => exact List.filter_sublist
  | 1, _ => exact List.filter_sublist
  | 2, _ => exact List.filter_sublist
theorem sub_lt {l m : List Packet} {q i : Nat} (hq : q < l.length) (h : List.Sublist (l.drop q) (m.drop i)) : i < m.length := by
  have := h.length_le
  rw [List.length_drop, List.length_drop] at this
  omega
theorem sub_skip {l m : List Packet} {q i : Nat} (hq : q < l.length) (hi : i < m.length) (h : List.Sublist (l.drop q) (m.drop i)) (hn : ¬ m[i] = l[q]) : List.Sublist (l.drop q) (m.drop (i + 1)) := by
  rw [List.drop_eq_getElem_cons hq, List.drop_eq_getElem_cons hi] at h
  rw [List.drop_eq_getElem_cons hq]
  rcases List.sublist_cons_iff.1 h with h | ⟨r, e, _⟩
  · exact h
  · injection e with e _
    exact absurd e.symm hn
theorem sub_take {l m : List Packet} {q i : Nat} (hq : q < l.length) (hi : i < m.length) (h : List.Sublist (l.drop q) (m.drop i)) : List.Sublist (l.drop (q + 1)) (m.drop (i + 1)) := by
  rw [List.drop_eq_getElem_cons hq, List.drop_eq_getElem_cons hi] at h
  exact h.tail
theorem sentL_len61 (a : List Small) (c : Int) (k : Nat) : (sentL ((evs a).take k) c).length ≤ 61 :=
  Nat.le_trans (sentL_len _ _) (by have := evs_len a; have := List.length_take_le' k (evs a); omega)
end Go.Proofs.Ytaoamokfbhlaaaa.E
