/- From a row's arguments to the engine's words. -/
import Derived.Test.YtaoamokfbhlaaaaE7
import Derived.OpenShut
import Derived.Laws.BytesArg
set_option linter.unusedVariables false
set_option linter.unusedSimpArgs false
namespace Go.Proofs.Ytaoamokfbhlaaaa.E
open Go Go.RowKit

/-- At the begin all that is in memory is settled. -/
def sig0 (w : World) : Nat → Nat := fun b => match w.heap[b]? with | some (.cells c _ _) => c.size | _ => 0

theorem sig0_lt {w : World} {b o : Nat} {v : Value} (h : w.cell? ⟨b, o, none⟩ = some v) : o < sig0 w b := by
  unfold World.cell? at h
  unfold sig0
  split at h
  · rename_i c e f hb
    simp only [] at hb
    rw [hb]
    simp only [Option.isSome_none, Bool.false_eq_true, if_false] at h
    exact (Array.getElem?_eq_some_iff.1 h).1
  · simp at h

theorem wf_u64 {a : Int} (h : (Lit.int .u64 a).wf = true) : ∃ n : UInt64, a = (n.toNat : Int) := by
  have h' : 0 ≤ a ∧ a ≤ 18446744073709551615 := by
    have := h
    simp only [Lit.wf, IntKind.min, IntKind.max, IntKind.signed, IntKind.bits, decide_eq_true_eq, Bool.and_eq_true] at this
    simpa using this
  refine ⟨UInt64.ofNat a.toNat, ?_⟩
  rw [UInt64.toNat_ofNat']
  have h2 : (2 ^ 64 : Nat) = 18446744073709551616 := by decide
  rw [h2]; omega
theorem wf_u8 {a : Int} (h : (Lit.int .u8 a).wf = true) : ∃ n : UInt8, a = (n.toNat : Int) := by
  have h' : 0 ≤ a ∧ a ≤ 255 := by
    have := h
    simp only [Lit.wf, IntKind.min, IntKind.max, IntKind.signed, IntKind.bits, decide_eq_true_eq, Bool.and_eq_true] at this
    simpa using this
  refine ⟨UInt8.ofNat a.toNat, ?_⟩
  rw [UInt8.toNat_ofNat']
  omega
theorem wf_i64 {a : Int} (h : (Lit.int .i64 a).wf = true) : -9223372036854775808 ≤ a ∧ a < 9223372036854775808 := by
  have h' : -9223372036854775808 ≤ a ∧ a ≤ 9223372036854775807 := by
    have := h
    simp only [Lit.wf, IntKind.min, IntKind.max, IntKind.signed, IntKind.bits, decide_eq_true_eq, Bool.and_eq_true] at this
    simpa using this
  omega
theorem ba_eta (a : ByteArray) : (⟨a.data.toList.toArray⟩ : ByteArray) = a := by cases a; simp
theorem ba_len (a : ByteArray) (h : a.size ≤ 140737488351232) : a.data.toList.length ≤ 140737488355328 := by
  have : a.data.toList.length = a.size := by rw [Array.length_toList]; rfl
  omega
theorem sv_of (a : ByteArray) : Value.string a = sv a.data.toList := by unfold sv; rw [ba_eta]
end Go.Proofs.Ytaoamokfbhlaaaa.E
