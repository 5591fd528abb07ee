/- What the law ProofCodes needs: the engine, the walks of what it reaches, plain laws; part 4. -/
import Derived.Test.YtnicmjipbnhciaaDoorProofCodesM3
import Derived.Test.YtnicmjipbnhciaaDoorProg
import Derived.WalkKit
import Derived.LaidEql
import Derived.Stop.Asserts
import Derived.RowKitTokens
set_option linter.unnecessarySimpa false
set_option linter.deprecated false
set_option linter.unusedVariables false
set_option linter.unusedSimpArgs false
set_option maxRecDepth 100000
namespace Go.Proofs.YtnicmjipbnhciaaDoor.X
open Go Go.RowKit Go.Proofs Go.Proofs.YtnicmjipbnhciaaDoor.E
def pcE (b : List UInt8) : Int := if b.length < 2 + ((b.getD 0 0).toNat * 256 + (b.getD 1 0).toNat) then 4 else 0
def pcV (b : List UInt8) : List UInt8 := if b.length < 2 + ((b.getD 0 0).toNat * 256 + (b.getD 1 0).toNat) then [] else (b.drop 2).take ((b.getD 0 0).toNat * 256 + (b.getD 1 0).toNat)
def pcR (b : List UInt8) : List UInt8 := if b.length < 2 + ((b.getD 0 0).toNat * 256 + (b.getD 1 0).toNat) then [] else (b.drop 2).drop ((b.getD 0 0).toNat * 256 + (b.getD 1 0).toNat)
def pcB (b : List UInt8) : Bool := if b.length < 2 + ((b.getD 0 0).toNat * 256 + (b.getD 1 0).toNat) then false else true
theorem toN (x y : Nat) : (2 + ((x : Int) * 256 + (y : Int))).toNat = 2 + (x * 256 + y) := by omega
theorem or_256 (x y : UInt8) : ((x.toNat : Int) * 256).toNat ||| y.toNat = x.toNat * 256 + y.toNat := by
  have h := y.toNat_lt
  have e : ((x.toNat : Int) * 256).toNat = x.toNat <<< 8 := by rw [Nat.shiftLeft_eq]; omega
  rw [e, ← Nat.shiftLeft_add_eq_or_of_lt h, Nat.shiftLeft_eq]
noncomputable def c116 : Code := (Tryd.f116.body).getD .skip
theorem piece_ok (b : List UInt8) (h : b.length ≤ 900000) : FOk EN 116 ⟨[.rd 5 b], [.n 0], Unit, fun _ => ([.rd 5 b, .rd 5 (pcV b), .rd 5 (pcR b)], .t [.n 1, .n 2, .i (pcE b)]), fun _ => True⟩ := by
 refine v_fun Tryd.f116 c116 MX (fun ν F σ w => ?_) Tryd.func116
 refine v_nl ?_
 refine v_if (decide ((↑b.length : Int) < 2)) True trivial (fun h1 => ?_) (fun h1 => ?_)
 ·have h1 := of_decide_eq_true h1
  exact v_ret () [1, 1] ((4 = pcE b) ∧ (b = b) ∧ ([] = pcV b) ∧ ([] = pcR b)) ⟨(by (simp only [pcE, pcV, pcR, or_256, List.length_drop, Int.toNat_natCast]; (repeat first | rw [if_pos (by omega)] | rw [if_neg (by omega)]); done)), rfl, (by (simp only [pcE, pcV, pcR, or_256, List.length_drop, Int.toNat_natCast]; (repeat first | rw [if_pos (by omega)] | rw [if_neg (by omega)]); done)), (by (simp only [pcE, pcV, pcR, or_256, List.length_drop, Int.toNat_natCast]; (repeat first | rw [if_pos (by omega)] | rw [if_neg (by omega)]); done))⟩ trivial
 ·have h1 := of_decide_eq_false h1
  refine v_plan (.fs [0, 1, 2, 3, 4, 5, 6, 7, 8, 9, 10] .e) [] True trivial ?_
  refine v_if (decide ((↑(List.drop 2 b).length : Int) < (↑(((↑(b.getD 0 0).toNat : Int) * 256).toNat ||| (↑(b.getD 1 0).toNat : Int).toNat) : Int))) (((0 : Int) ≤ (0 : Int) ∧ (0 : Int) < (↑b.length : Int)) ∧ (I64 (↑(b.getD 0 0).toNat * 256)) ∧ ((8 : UInt64) < (64 : UInt64)) ∧ ((0 : Int) ≤ (1 : Int) ∧ (1 : Int) < (↑b.length : Int)) ∧ (0 ≤ (↑(b.getD 0 0).toNat : Int) * 256 ∧ (↑(b.getD 0 0).toNat : Int) * 256 < 9223372036854775808 ∧ 0 ≤ (↑(b.getD 1 0).toNat : Int) ∧ (↑(b.getD 1 0).toNat : Int) < 9223372036854775808) ∧ ((0 : Int) ≤ (2 : Int) ∧ (2 : Int) ≤ (↑b.length : Int))) ⟨(by omega), (by (have := UInt8.toNat_lt (b.getD (0 : Nat) (0 : UInt8)); unfold I64; omega)), (by decide), (by omega), (by (have := UInt8.toNat_lt (b.getD (0 : Nat) (0 : UInt8)); have := UInt8.toNat_lt (b.getD (1 : Nat) (0 : UInt8)); omega)), (by omega)⟩ (fun h2 => ?_) (fun h2 => ?_)
  ·have h2 := of_decide_eq_true h2
   exact v_ret () [1, 1] ((4 = pcE b) ∧ (b = b) ∧ ([] = pcV b) ∧ ([] = pcR b)) ⟨(by (simp only [pcE, pcV, pcR, or_256, List.length_drop, Int.toNat_natCast] at *; (repeat first | rw [if_pos (by omega)] | rw [if_neg (by omega)]); first | done | rfl | omega | (simp; done) | (simp; omega) | simp_all)), rfl, (by (simp only [pcE, pcV, pcR, or_256, List.length_drop, Int.toNat_natCast] at *; (repeat first | rw [if_pos (by omega)] | rw [if_neg (by omega)]); first | done | rfl | omega | (simp; done) | (simp; omega) | simp_all)), (by (simp only [pcE, pcV, pcR, or_256, List.length_drop, Int.toNat_natCast] at *; (repeat first | rw [if_pos (by omega)] | rw [if_neg (by omega)]); first | done | rfl | omega | (simp; done) | (simp; omega) | simp_all))⟩ trivial
  ·have h2 := of_decide_eq_false h2
   refine v_plan (.fs [0, 1, 2, 3, 4, 5, 6, 7, 8] .e) [] True trivial ?_
   exact v_ret () [5, 6] ((0 ≤ (↑(((↑(b.getD 0 0).toNat : Int) * 256).toNat ||| (↑(b.getD 1 0).toNat : Int).toNat) : Int) ∧ (↑(((↑(b.getD 0 0).toNat : Int) * 256).toNat ||| (↑(b.getD 1 0).toNat : Int).toNat) : Int) ≤ (↑(List.drop 2 b).length : Int)) ∧ (0 ≤ (↑(((↑(b.getD 0 0).toNat : Int) * 256).toNat ||| (↑(b.getD 1 0).toNat : Int).toNat) : Int) ∧ (↑(((↑(b.getD 0 0).toNat : Int) * 256).toNat ||| (↑(b.getD 1 0).toNat : Int).toNat) : Int) ≤ (↑(List.drop 2 b).length : Int)) ∧ (0 = pcE b) ∧ (b = b) ∧ (List.take (↑(((↑(b.getD 0 0).toNat : Int) * 256).toNat ||| (↑(b.getD 1 0).toNat : Int).toNat) : Int).toNat (List.drop 2 b) = pcV b) ∧ (List.drop (↑(((↑(b.getD 0 0).toNat : Int) * 256).toNat ||| (↑(b.getD 1 0).toNat : Int).toNat) : Int).toNat (List.drop 2 b) = pcR b)) ⟨(by omega), (by omega), (by (simp only [pcE, pcV, pcR, or_256, List.length_drop, Int.toNat_natCast] at *; (repeat first | rw [if_pos (by omega)] | rw [if_neg (by omega)]); first | done | rfl | omega | (simp; done) | (simp; omega) | simp_all)), rfl, (by (simp only [pcE, pcV, pcR, or_256, List.length_drop, Int.toNat_natCast] at *; (repeat first | rw [if_pos (by omega)] | rw [if_neg (by omega)]); first | done | rfl | omega | (simp; done) | (simp; omega) | simp_all)), (by (simp only [pcE, pcV, pcR, or_256, List.length_drop, Int.toNat_natCast]; (repeat first | rw [if_pos (by omega)] | rw [if_neg (by omega)]); first | rfl | omega | (simp; done) | (simp; omega)))⟩ trivial
noncomputable def c118 : Code := (Tryd.f118.body).getD .skip
theorem piecer_ok (b : List UInt8) (h : b.length ≤ 900000) : FOk EN 118 ⟨[.rd 5 b], [.n 0], Unit, fun _ => ([.rd 5 b, .rd 5 (pcV b), .rd 5 (pcR b)], .t [.n 1, .n 2, .b (pcB b)]), fun _ => True⟩ := by
 refine v_fun Tryd.f118 c118 MX (fun ν F σ w => ?_) Tryd.func118
 refine v_nl ?_
 refine v_plan (.fs [0, 1, 2, 3, 4, 5, 6, 7, 8, 9, 10, 11, 12, 13, 14, 15, 16, 17, 18] .e) [] True trivial ?_
 refine v_guard 9 (decide ((↑b.length : Int) < 2)) True trivial (fun h1 => ?_) (fun h1 => ?_)
 ·have h1 := of_decide_eq_true h1
  exact v_ret () [1, 1] ((false = pcB b) ∧ (b = b) ∧ ([] = pcV b) ∧ ([] = pcR b)) ⟨(by (simp only [pcB, pcV, pcR, List.drop_drop, List.drop_take, Nat.add_sub_cancel_left, toN]; (repeat first | rw [if_pos (by omega)] | rw [if_neg (by omega)]); done)), rfl, (by (simp only [pcB, pcV, pcR, List.drop_drop, List.drop_take, Nat.add_sub_cancel_left, toN]; (repeat first | rw [if_pos (by omega)] | rw [if_neg (by omega)]); done)), (by (simp only [pcB, pcV, pcR, List.drop_drop, List.drop_take, Nat.add_sub_cancel_left, toN]; (repeat first | rw [if_pos (by omega)] | rw [if_neg (by omega)]); done))⟩ trivial
 ·have h1 := of_decide_eq_false h1
  refine v_if (decide ((↑b.length : Int) - 2 < (↑(b.getD 0 0).toNat : Int) * 256 + (↑(b.getD 1 0).toNat : Int))) ((I64 (↑b.length - 2)) ∧ ((0 : Int) ≤ (0 : Int) ∧ (0 : Int) < (↑b.length : Int)) ∧ (I64 (↑(b.getD 0 0).toNat * 256)) ∧ ((0 : Int) ≤ (1 : Int) ∧ (1 : Int) < (↑b.length : Int)) ∧ (I64 (↑(b.getD 0 0).toNat * 256 + ↑(b.getD 1 0).toNat))) ⟨(by (unfold I64; omega)), (by omega), (by (have := UInt8.toNat_lt (b.getD (0 : Nat) (0 : UInt8)); unfold I64; omega)), (by omega), (by (have := UInt8.toNat_lt (b.getD (0 : Nat) (0 : UInt8)); have := UInt8.toNat_lt (b.getD (1 : Nat) (0 : UInt8)); unfold I64; omega))⟩ (fun h2 => ?_) (fun h2 => ?_)
  ·have h2 := of_decide_eq_true h2
   exact v_ret () [1, 1] ((false = pcB b) ∧ (b = b) ∧ ([] = pcV b) ∧ ([] = pcR b)) ⟨(by (simp only [pcB, pcV, pcR, List.drop_drop, List.drop_take, Nat.add_sub_cancel_left, toN]; (repeat first | rw [if_pos (by omega)] | rw [if_neg (by omega)]); done)), rfl, (by (simp only [pcB, pcV, pcR, List.drop_drop, List.drop_take, Nat.add_sub_cancel_left, toN]; (repeat first | rw [if_pos (by omega)] | rw [if_neg (by omega)]); done)), (by (simp only [pcB, pcV, pcR, List.drop_drop, List.drop_take, Nat.add_sub_cancel_left, toN]; (repeat first | rw [if_pos (by omega)] | rw [if_neg (by omega)]); done))⟩ trivial
  ·have h2 := of_decide_eq_false h2
   refine v_plan (.fs [0, 1, 2, 3, 4, 5, 6, 7, 8, 9, 10] .e) [] True trivial ?_
   refine v_plan (.fs [0, 1, 2, 3, 4, 5, 6, 7, 8, 9, 10] .e) [] (((0 : Int) ≤ (0 : Int) ∧ (0 : Int) < (↑b.length : Int)) ∧ (I64 (↑(b.getD 0 0).toNat * 256)) ∧ ((0 : Int) ≤ (1 : Int) ∧ (1 : Int) < (↑b.length : Int)) ∧ (I64 (↑(b.getD 0 0).toNat * 256 + ↑(b.getD 1 0).toNat))) ⟨(by omega), (by (unfold I64; omega)), (by omega), (by (unfold I64; omega))⟩ ?_
   exact v_ret () [6, 7] ((I64 (2 + (↑(b.getD 0 0).toNat * 256 + ↑(b.getD 1 0).toNat))) ∧ ((0 : Int) ≤ (2 : Int) ∧ (2 : Int) ≤ (2 : Int) + ((↑(b.getD (0 : Nat) (0 : UInt8)).toNat : Int) * (256 : Int) + (↑(b.getD (1 : Nat) (0 : UInt8)).toNat : Int)) ∧ (2 : Int) + ((↑(b.getD (0 : Nat) (0 : UInt8)).toNat : Int) * (256 : Int) + (↑(b.getD (1 : Nat) (0 : UInt8)).toNat : Int)) ≤ (↑b.length : Int)) ∧ (I64 (2 + (↑(b.getD 0 0).toNat * 256 + ↑(b.getD 1 0).toNat))) ∧ (0 ≤ 2 + ((↑(b.getD 0 0).toNat : Int) * 256 + (↑(b.getD 1 0).toNat : Int)) ∧ 2 + ((↑(b.getD 0 0).toNat : Int) * 256 + (↑(b.getD 1 0).toNat : Int)) ≤ (↑b.length : Int)) ∧ (true = pcB b) ∧ (b = b) ∧ (List.drop 2 (List.take (2 + ((↑(b.getD 0 0).toNat : Int) * 256 + (↑(b.getD 1 0).toNat : Int))).toNat b) = pcV b) ∧ (List.drop (2 + ((↑(b.getD 0 0).toNat : Int) * 256 + (↑(b.getD 1 0).toNat : Int))).toNat b = pcR b)) ⟨(by (unfold I64; omega)), (by omega), (by (unfold I64; omega)), (by omega), (by (simp only [pcB, pcV, pcR, List.drop_drop, List.drop_take, Nat.add_sub_cancel_left, toN]; (repeat first | rw [if_pos (by omega)] | rw [if_neg (by omega)]); done)), rfl, (by (simp only [pcB, pcV, pcR, List.drop_drop, List.drop_take, Nat.add_sub_cancel_left, toN]; (repeat first | rw [if_pos (by omega)] | rw [if_neg (by omega)]); done)), (by (simp only [pcB, pcV, pcR, List.drop_drop, List.drop_take, Nat.add_sub_cancel_left, toN]; (repeat first | rw [if_pos (by omega)] | rw [if_neg (by omega)]); done))⟩ trivial
noncomputable def c114 : Code := (Tryd.f114.body).getD .skip
def eightTo (n : UInt64) : Nat → List UInt8
  | 0 => []
  | k + 1 => eightTo n k ++ [(n >>> (56 - 8 * (k : Int)).toNat.toUInt64).toUInt8]
theorem eightTo_len (n : UInt64) : ∀ k, (eightTo n k).length = k
  | 0 => rfl
  | k + 1 => by unfold eightTo; have := eightTo_len n k; simp; omega
theorem eight_ok (n : UInt64) : FOk EN 114 ⟨[], [.u n], Unit, fun _ => ([.ow 5 (eightTo n 8)], .n 0), fun _ => True⟩ := by
 refine v_fun Tryd.f114 c114 MX (fun ν F σ w => ?_) Tryd.func114
 refine v_nl ?_
 refine v_loop (fun k : Nat => ([(3, .n 1), (4, .i k)], [.ow 5 (eightTo n k)])) (fun k => k ≤ 8) (fun k => 8 - k) 0 [0] (((0 : Int) = (↑(0 : Nat) : Int)) ∧ ([] = eightTo n 0)) ⟨rfl, rfl⟩ (by decide) (fun k hk1 => ?_)
 have hl := eightTo_len n k
 refine v_if (decide ((↑k : Int) < 8)) True trivial (fun h2 => ?_) (fun h2 => ?_)
 ·have h2 := of_decide_eq_true h2
  exact v_back (k + 1) [3] ((I64 (8 * ↑k)) ∧ (I64 (56 - 8 * ↑k)) ∧ (0 ≤ 56 - 8 * (↑k : Int) ∧ 56 - 8 * (↑k : Int) < 64) ∧ ((eightTo n k).length + 1 ≤ 1000000) ∧ (I64 (↑k + 1)) ∧ ((↑k : Int) + 1 = (↑(k + 1) : Int)) ∧ (eightTo n k ++ [(n >>> (56 - 8 * (↑k : Int)).toNat.toUInt64).toUInt8] = eightTo n (k + 1))) ⟨(by (unfold I64; omega)), (by (unfold I64; omega)), (by omega), (by omega), (by (unfold I64; omega)), rfl, rfl⟩ (show k + 1 ≤ 8 ∧ 8 - (k + 1) < 8 - k from (by omega))
 ·have h2 := of_decide_eq_false h2
  refine v_leave (.ex 0) True trivial ?_
  exact v_ret () [1] ((eightTo n k = eightTo n 8)) (by (congr 1; omega)) trivial
def dropZ : List UInt8 → List UInt8
  | [] => []
  | x :: l => if x = 0 then dropZ l else x :: l
theorem dropZ_step {a k : List UInt8} (h : a = dropZ k) (h1 : (0 : Int) < k.length) (h2 : k.getD 0 0 = 0) : a = dropZ (k.drop 1) ∧ (k.drop 1).length < k.length := by
  cases k with
  | nil => simp at h1
  | cons x l =>
    have h2 : x = 0 := h2
    rw [h]; simp [dropZ, h2]
theorem dropZ_s1 {a k : List UInt8} (h : a = dropZ k) (h2 : ¬ k.getD 0 0 = 0) : k = a := by
  cases k with
  | nil => exact h.symm
  | cons x l =>
    have h2 : ¬ x = 0 := h2
    rw [h]; simp [dropZ, h2]
theorem dropZ_s2 {a k : List UInt8} (h : a = dropZ k) (h2 : ¬ (0 : Int) < k.length) : k = a := by
  cases k with
  | nil => exact h.symm
  | cons x l => simp at h2
noncomputable def c85 : Code := (Tryd.f85.body).getD .skip
theorem numr_ok (n : UInt64) : FOk EN 85 ⟨[], [.u n], Unit, fun _ => ([.rd 5 (dropZ (eightTo n 8))], .n 0), fun _ => True⟩ := by
 refine v_fun Tryd.f85 c85 MX (fun ν F σ w => ?_) Tryd.func85
 refine v_nl ?_
 refine v_call _ [] (eight_ok (n)) ((n = n)) rfl (fun g1 p2 => ?_)
 have p2 : True := p2
 refine v_loop (fun k : List UInt8 => ([(3, .n 2)], [.rd 5 k])) (fun k => dropZ (eightTo n 8) = dropZ k) (fun k => k.length) (eightTo n 8) [1] ((eightTo n 8 = eightTo n 8)) rfl rfl (fun k hk3 => ?_)
 refine v_guard 9 (decide (0 < (↑k.length : Int))) True trivial (fun h4 => ?_) (fun h4 => ?_)
 ·have h4 := of_decide_eq_true h4
  refine v_if (decide (k.getD 0 0 = 0)) (((0 : Int) ≤ (0 : Int) ∧ (0 : Int) < (↑k.length : Int))) (by omega) (fun h5 => ?_) (fun h5 => ?_)
  ·have h5 := of_decide_eq_true h5
   exact v_back (List.drop 1 k) [4] (((0 : Int) ≤ (1 : Int) ∧ (1 : Int) ≤ (↑k.length : Int)) ∧ (List.drop 1 k = List.drop 1 k)) ⟨(by omega), rfl⟩ (show dropZ (eightTo n 8) = dropZ (List.drop 1 k) ∧ (List.drop 1 k).length < k.length from (by exact dropZ_step ‹_› ‹_› ‹_›))
  ·have h5 := of_decide_eq_false h5
   refine v_leave (.ex 0) True trivial ?_
   exact v_ret () [2] ((k = dropZ (eightTo n 8))) (by exact dropZ_s1 ‹_› ‹_›) trivial
 ·have h4 := of_decide_eq_false h4
  refine v_leave (.ex 0) True trivial ?_
  exact v_ret () [2] ((k = dropZ (eightTo n 8))) (by exact dropZ_s2 ‹_› ‹_›) trivial
noncomputable def c84 : Code := (Tryd.f84.body).getD .skip
def putR (b : List UInt8) (tag : UInt8) (v : List UInt8) : List UInt8 := if v.length = 0 then b else b ++ [tag, ofI8 ((v.length : Int) / 256), ofI8 ((v.length : Int) % 256)] ++ v
theorem putr_ok (b : List UInt8) (tag : UInt8) (v : List UInt8) (h : b.length + v.length ≤ 900000) : FOk EN 84 ⟨[.rd 5 b, .rd 5 v], [.n 0, .c tag, .n 1], Unit, fun _ => ([.rd 5 b, .rd 5 v, .rd 5 (putR b tag v)], .n 2), fun _ => True⟩ := by
 refine v_fun Tryd.f84 c84 MX (fun ν F σ w => ?_) Tryd.func84
 refine v_nl ?_
 refine v_if (decide ((↑v.length : Int) = 0)) True trivial (fun h1 => ?_) (fun h1 => ?_)
 ·have h1 := of_decide_eq_true h1
  exact v_ret () [0] ((b = b) ∧ (v = v) ∧ (b = putR b tag v)) ⟨rfl, rfl, (by (simp only [putR, List.nil_append]; (repeat first | rw [if_pos (by omega)] | rw [if_neg (by omega)]); done))⟩ trivial
 ·have h1 := of_decide_eq_false h1
  exact v_ret () [7] ((0 + b.length ≤ 1000000) ∧ ((0 : Int) ≤ (↑v.length : Int) ∧ (↑v.length : Int) < (9223372036854775808 : Int) ∧ (0 : Int) < (256 : Int)) ∧ ((0 : Int) ≤ (↑v.length : Int) ∧ (0 : Int) < (256 : Int)) ∧ (([] ++ b).length + 3 ≤ 1000000) ∧ (([] ++ b ++ [tag, ofI8 ((↑v.length : Int) / 256), ofI8 ((↑v.length : Int) % 256)]).length + v.length ≤ 1000000) ∧ (b = b) ∧ (v = v) ∧ ([] ++ b ++ [tag, ofI8 (↑v.length / 256), ofI8 (↑v.length % 256)] ++ v = putR b tag v)) ⟨(by omega), (by omega), (by omega), (by (simp; omega)), (by (simp; omega)), rfl, rfl, (by (simp only [putR, List.nil_append]; (repeat first | rw [if_pos (by omega)] | rw [if_neg (by omega)]); done))⟩ trivial
def valE (b : List UInt8) : Int := if 8 < b.length then 7 else if 0 < b.length ∧ b.getD 0 0 = 0 then 7 else 0
def valTo (b : List UInt8) : Nat → UInt64
  | 0 => 0
  | k + 1 => valTo b k <<< 8 ||| (b.getD k 0).toUInt64
def valV (b : List UInt8) : UInt64 := if 8 < b.length then 0 else if 0 < b.length ∧ b.getD 0 0 = 0 then 0 else valTo b b.length
noncomputable def c117 : Code := (Tryd.f117.body).getD .skip
theorem value_ok (b : List UInt8) : FOk EN 117 ⟨[.rd 5 b], [.n 0], Unit, fun _ => ([.rd 5 b], .t [.u (valV b), .i (valE b)]), fun _ => True⟩ := by
 refine v_fun Tryd.f117 c117 MX (fun ν F σ w => ?_) Tryd.func117
 refine v_nl ?_
 refine v_guard 10 (decide (8 < (↑b.length : Int))) True trivial (fun h1 => ?_) (fun h1 => ?_)
 ·have h1 := of_decide_eq_true h1
  exact v_ret () [] ((0 = valV b) ∧ (7 = valE b) ∧ (b = b)) ⟨(by (simp only [valE, valV, valTo]; (repeat first | rw [if_pos (by omega)] | rw [if_neg (by omega)]); done)), (by (simp only [valE, valV, valTo]; (repeat first | rw [if_pos (by omega)] | rw [if_neg (by omega)]); done)), rfl⟩ trivial
 ·have h1 := of_decide_eq_false h1
  refine v_guard 14 (decide (0 < (↑b.length : Int))) True trivial (fun h2 => ?_) (fun h2 => ?_)
  ·have h2 := of_decide_eq_true h2
   refine v_if (decide (b.getD 0 0 = 0)) (((0 : Int) ≤ (0 : Int) ∧ (0 : Int) < (↑b.length : Int))) (by omega) (fun h3 => ?_) (fun h3 => ?_)
   ·have h3 := of_decide_eq_true h3
    exact v_ret () [] ((0 = valV b) ∧ (7 = valE b) ∧ (b = b)) ⟨(by (simp only [valE, valV, valTo] at *; (repeat first | rw [if_pos (by omega)] | rw [if_neg (by omega)]); first | done | rfl | omega | (simp; done) | (simp; omega) | simp_all)), (by (simp only [valE, valV, valTo] at *; (repeat first | rw [if_pos (by omega)] | rw [if_neg (by omega)]); first | done | rfl | omega | (simp; done) | (simp; omega) | simp_all)), rfl⟩ trivial
   ·have h3 := of_decide_eq_false h3
    refine v_loop (fun k : Nat => ([(23, .i k), (4, .u (valTo b k))], [])) (fun k => k ≤ b.length) (fun k => b.length - k) 0 [] (((0 : Int) = (↑(0 : Nat) : Int)) ∧ (0 = valTo b 0)) ⟨rfl, rfl⟩ (by omega) (fun k hk4 => ?_)
    refine v_if (decide ((↑k : Int) < (↑b.length : Int))) True trivial (fun h5 => ?_) (fun h5 => ?_)
    ·have h5 := of_decide_eq_true h5
     exact v_back (k + 1) [] ((0 ≤ (↑k : Int) ∧ (↑k : Int) < (↑b.length : Int)) ∧ ((8 : UInt64) < (64 : UInt64)) ∧ (I64 (↑k + 1)) ∧ ((↑k : Int) + 1 = (↑(k + 1) : Int)) ∧ (valTo b k <<< 8 ||| (b.getD (↑k : Int).toNat 0).toUInt64 = valTo b (k + 1))) ⟨(by omega), (by decide), (by (unfold I64; omega)), rfl, rfl⟩ (show k + 1 ≤ b.length ∧ b.length - (k + 1) < b.length - k from (by omega))
    ·have h5 := of_decide_eq_false h5
     refine v_leave (.ex 0) True trivial ?_
     exact v_ret () [] ((valTo b k = valV b) ∧ (0 = valE b) ∧ (b = b)) ⟨(by (obtain rfl : k = b.length := (by omega); simp only [valV]; rw [if_neg (by omega), if_neg (fun q => absurd q.2 ‹_›)])), (by (simp only [valE, valV, valTo] at *; (repeat first | rw [if_pos (by omega)] | rw [if_neg (by omega)]); first | done | rfl | omega | (simp; done) | (simp; omega) | simp_all)), rfl⟩ trivial
  ·have h2 := of_decide_eq_false h2
   refine v_loop (fun k : Nat => ([(23, .i k), (4, .u (valTo b k))], [])) (fun k => k ≤ b.length) (fun k => b.length - k) 0 [] (((0 : Int) = (↑(0 : Nat) : Int)) ∧ (0 = valTo b 0)) ⟨rfl, rfl⟩ (by omega) (fun k hk6 => ?_)
   refine v_if (decide ((↑k : Int) < (↑b.length : Int))) True trivial (fun h7 => ?_) (fun h7 => ?_)
   ·have h7 := of_decide_eq_true h7
    omega
   ·have h7 := of_decide_eq_false h7
    refine v_leave (.ex 0) True trivial ?_
    exact v_ret () [] ((valTo b k = valV b) ∧ (0 = valE b) ∧ (b = b)) ⟨(by (simp only [valE, valV, valTo] at *; (repeat first | rw [if_pos (by omega)] | rw [if_neg (by omega)]); first | done | rfl | omega | (simp; done) | (simp; omega) | simp_all)), (by (simp only [valE, valV, valTo]; (repeat first | rw [if_pos (by omega)] | rw [if_neg (by omega)]); done)), rfl⟩ trivial
def valRTo (b : List UInt8) : Nat → UInt64
  | 0 => 0
  | k + 1 => valRTo b k * 256 + (b.getD k 0).toUInt64
def valRV (b : List UInt8) : UInt64 := if 8 < b.length then 0 else if 0 < b.length ∧ b.getD 0 0 = 0 then 0 else valRTo b b.length
def valB (b : List UInt8) : Bool := if 8 < b.length then false else if 0 < b.length ∧ b.getD 0 0 = 0 then false else true
noncomputable def c119 : Code := (Tryd.f119.body).getD .skip
theorem valuer_ok (b : List UInt8) : FOk EN 119 ⟨[.rd 5 b], [.n 0], Unit, fun _ => ([.rd 5 b], .t [.u (valRV b), .b (valB b)]), fun _ => True⟩ := by
 refine v_fun Tryd.f119 c119 MX (fun ν F σ w => ?_) Tryd.func119
 refine v_nl ?_
 refine v_guard 9 (decide (8 < (↑b.length : Int))) True trivial (fun h1 => ?_) (fun h1 => ?_)
 ·have h1 := of_decide_eq_true h1
  exact v_ret () [] ((0 = valRV b) ∧ (false = valB b) ∧ (b = b)) ⟨(by (simp only [valB, valRV, valRTo]; (repeat first | rw [if_pos (by omega)] | rw [if_neg (by omega)]); done)), (by (simp only [valB, valRV, valRTo]; (repeat first | rw [if_pos (by omega)] | rw [if_neg (by omega)]); done)), rfl⟩ trivial
 ·have h1 := of_decide_eq_false h1
  refine v_guard 13 (decide (0 < (↑b.length : Int))) True trivial (fun h2 => ?_) (fun h2 => ?_)
  ·have h2 := of_decide_eq_true h2
   refine v_if (decide (b.getD 0 0 = 0)) (((0 : Int) ≤ (0 : Int) ∧ (0 : Int) < (↑b.length : Int))) (by omega) (fun h3 => ?_) (fun h3 => ?_)
   ·have h3 := of_decide_eq_true h3
    exact v_ret () [] ((0 = valRV b) ∧ (false = valB b) ∧ (b = b)) ⟨(by (simp only [valB, valRV, valRTo] at *; (repeat first | rw [if_pos (by omega)] | rw [if_neg (by omega)]); first | done | rfl | omega | (simp; done) | (simp; omega) | simp_all)), (by (simp only [valB, valRV, valRTo] at *; (repeat first | rw [if_pos (by omega)] | rw [if_neg (by omega)]); first | done | rfl | omega | (simp; done) | (simp; omega) | simp_all)), rfl⟩ trivial
   ·have h3 := of_decide_eq_false h3
    refine v_loop (fun k : Nat => ([(5, .i k), (4, .u (valRTo b k))], [])) (fun k => k ≤ b.length) (fun k => b.length - k) 0 [] (((0 : Int) = (↑(0 : Nat) : Int)) ∧ (0 = valRTo b 0)) ⟨rfl, rfl⟩ (by omega) (fun k hk4 => ?_)
    refine v_if (decide ((↑k : Int) < (↑b.length : Int))) True trivial (fun h5 => ?_) (fun h5 => ?_)
    ·have h5 := of_decide_eq_true h5
     exact v_back (k + 1) [] ((0 ≤ (↑k : Int) ∧ (↑k : Int) < (↑b.length : Int)) ∧ (I64 (↑k + 1)) ∧ ((↑k : Int) + 1 = (↑(k + 1) : Int)) ∧ (valRTo b k * 256 + (b.getD (↑k : Int).toNat 0).toUInt64 = valRTo b (k + 1))) ⟨(by omega), (by (unfold I64; omega)), rfl, rfl⟩ (show k + 1 ≤ b.length ∧ b.length - (k + 1) < b.length - k from (by omega))
    ·have h5 := of_decide_eq_false h5
     refine v_leave (.ex 0) True trivial ?_
     exact v_ret () [] ((valRTo b k = valRV b) ∧ (true = valB b) ∧ (b = b)) ⟨(by (obtain rfl : k = b.length := (by omega); simp only [valRV]; rw [if_neg (by omega), if_neg (fun q => absurd q.2 ‹_›)])), (by (simp only [valB, valRV, valRTo] at *; (repeat first | rw [if_pos (by omega)] | rw [if_neg (by omega)]); first | done | rfl | omega | (simp; done) | (simp; omega) | simp_all)), rfl⟩ trivial
  ·have h2 := of_decide_eq_false h2
   refine v_loop (fun k : Nat => ([(5, .i k), (4, .u (valRTo b k))], [])) (fun k => k ≤ b.length) (fun k => b.length - k) 0 [] (((0 : Int) = (↑(0 : Nat) : Int)) ∧ (0 = valRTo b 0)) ⟨rfl, rfl⟩ (by omega) (fun k hk6 => ?_)
   refine v_if (decide ((↑k : Int) < (↑b.length : Int))) True trivial (fun h7 => ?_) (fun h7 => ?_)
   ·have h7 := of_decide_eq_true h7
    omega
   ·have h7 := of_decide_eq_false h7
    refine v_leave (.ex 0) True trivial ?_
    exact v_ret () [] ((valRTo b k = valRV b) ∧ (true = valB b) ∧ (b = b)) ⟨(by (simp only [valB, valRV, valRTo] at *; (repeat first | rw [if_pos (by omega)] | rw [if_neg (by omega)]); first | done | rfl | omega | (simp; done) | (simp; omega) | simp_all)), (by (simp only [valB, valRV, valRTo]; (repeat first | rw [if_pos (by omega)] | rw [if_neg (by omega)]); done)), rfl⟩ trivial
theorem pcR_len (b : List UInt8) : (pcR b).length ≤ b.length := by unfold pcR; split <;> simp
theorem pcVR_len (b : List UInt8) : (pcV b).length + (pcR b).length ≤ b.length := by unfold pcR pcV; split <;> simp; omega
theorem drop1_lt {b : List UInt8} (h : ¬ b.length = 0) : (b.drop 1).length < b.length := by simp; omega
def parse (out : List Field) (b : List UInt8) : List Field × Int :=
  if h : b.length = 0 then (out, 0)
  else if pcE (b.drop 1) ≠ 0 then ([], pcE (b.drop 1))
  else if (pcV (b.drop 1)).length = 0 then ([], 6)
  else if 0 < out.length ∧ b.getD 0 0 ≤ (out.getD ((out.length : Int) - 1).toNat ⟨0, []⟩).tag then ([], 5)
  else parse (out ++ [⟨b.getD 0 0, pcV (b.drop 1)⟩]) (pcR (b.drop 1))
termination_by b.length
decreasing_by exact Nat.lt_of_le_of_lt (pcR_len _) (drop1_lt h)
theorem parse_a {X : List Field × Int} {out : List Field} {b b0 : List UInt8} (hk : X = parse out b ∧ out.length + b.length ≤ b0.length) (h : ¬ (0 : Int) < b.length) : out = X.1 ∧ 0 = X.2 := by rw [hk.1, parse, dif_pos (by omega)]; exact ⟨rfl, rfl⟩
theorem parse_b {X : List Field × Int} {out : List Field} {b b0 : List UInt8} (hk : X = parse out b ∧ out.length + b.length ≤ b0.length) (h : (0 : Int) < b.length) (h1 : pcE (b.drop 1) ≠ 0) : [] = X.1 ∧ pcE (b.drop 1) = X.2 := by rw [hk.1, parse, dif_neg (by omega), if_pos h1]; exact ⟨rfl, rfl⟩
theorem parse_c {X : List Field × Int} {out : List Field} {b b0 : List UInt8} (hk : X = parse out b ∧ out.length + b.length ≤ b0.length) (h : (0 : Int) < b.length) (h1 : ¬ pcE (b.drop 1) ≠ 0) (h2 : ((pcV (b.drop 1)).length : Int) = 0) : [] = X.1 ∧ 6 = X.2 := by rw [hk.1, parse, dif_neg (by omega), if_neg h1, if_pos (by omega)]; exact ⟨rfl, rfl⟩
theorem parse_d {X : List Field × Int} {out : List Field} {b b0 : List UInt8} (hk : X = parse out b ∧ out.length + b.length ≤ b0.length) (h : (0 : Int) < b.length) (h1 : ¬ pcE (b.drop 1) ≠ 0) (h2 : ¬ ((pcV (b.drop 1)).length : Int) = 0) (h3 : (0 : Int) < out.length) (h4 : b.getD 0 0 ≤ (out.getD ((out.length : Int) - 1).toNat ⟨0, []⟩).tag) : [] = X.1 ∧ 5 = X.2 := by rw [hk.1, parse, dif_neg (by omega), if_neg h1, if_neg (by omega), if_pos ⟨by omega, h4⟩]; exact ⟨rfl, rfl⟩
theorem parse_e {X : List Field × Int} {out : List Field} {b b0 : List UInt8} (hk : X = parse out b ∧ out.length + b.length ≤ b0.length) (h : (0 : Int) < b.length) (h1 : ¬ pcE (b.drop 1) ≠ 0) (h2 : ¬ ((pcV (b.drop 1)).length : Int) = 0) (h3 : ¬ ((0 : Int) < out.length ∧ b.getD 0 0 ≤ (out.getD ((out.length : Int) - 1).toNat ⟨0, []⟩).tag)) :
    (X = parse (out ++ [⟨b.getD 0 0, pcV (b.drop 1)⟩]) (pcR (b.drop 1)) ∧ (out ++ [(⟨b.getD 0 0, pcV (b.drop 1)⟩ : Field)]).length + (pcR (b.drop 1)).length ≤ b0.length) ∧ (pcR (b.drop 1)).length < b.length := by
  have e := pcR_len (b.drop 1)
  have e2 : (b.drop 1).length < b.length := drop1_lt (by omega)
  refine ⟨⟨?_, ?_⟩, by omega⟩
  · rw [hk.1, parse, dif_neg (by omega), if_neg h1, if_neg (by omega), if_neg (by intro q; exact h3 ⟨by omega, q.2⟩)]
  · have := hk.2; simp only [List.length_append, List.length_cons, List.length_nil] at *; omega
theorem pcV_bd {b : List UInt8} {out : List Field} {b0 : List UInt8} {X : Prop} (hk : X ∧ out.length + b.length ≤ b0.length) (h : b0.length ≤ 900000) : 0 + (pcV (b.drop 1)).length ≤ 1000000 := by
  have := pcVR_len (b.drop 1); have := hk.2; simp only [List.length_drop] at *; omega
noncomputable def c87 : Code := (Tryd.f87.body).getD .skip
theorem parse_ok (b : List UInt8) (h : b.length ≤ 900000) : FOk EN 87 ⟨[.rd 5 b], [.n 0], Unit, fun _ => ([.rd 5 b, .ow 167 (parse [] b).1], .t [.n 1, .i (parse [] b).2]), fun _ => True⟩ := by
 refine v_fun Tryd.f87 c87 MX (fun ν F σ w => ?_) Tryd.func87
 refine v_nl ?_
 refine v_loop (fun k : List Field × List UInt8 => ([(4, .n 2), (0, .n 3)], [.ow 167 k.1, .rd 5 k.2])) (fun k => parse [] b = parse k.1 k.2 ∧ k.1.length + k.2.length ≤ b.length) (fun k => k.2.length) ([], b) [1, 0] ((Eq (α := List Field) [] []) ∧ (b = b)) ⟨rfl, rfl⟩ (by exact ⟨rfl, by simp⟩) (fun k hk1 => ?_)
 refine v_if (decide (0 < (↑k.snd.length : Int))) True trivial (fun h2 => ?_) (fun h2 => ?_)
 ·have h2 := of_decide_eq_true h2
  refine v_call _ [5] (piece_ok (List.drop 1 k.snd) (by (simp; omega))) (((0 : Int) ≤ (0 : Int) ∧ (0 : Int) < (↑k.snd.length : Int)) ∧ ((0 : Int) ≤ (1 : Int) ∧ (1 : Int) ≤ (↑k.snd.length : Int)) ∧ (List.drop 1 k.snd = List.drop 1 k.snd)) ⟨(by omega), (by omega), rfl⟩ (fun g3 p4 => ?_)
  have p4 : True := p4
  refine v_if (decide (pcE (List.drop 1 k.snd) ≠ 0)) True trivial (fun h5 => ?_) (fun h5 => ?_)
  ·have h5 := of_decide_eq_true h5
   refine v_leave .rt True trivial ?_
   exact v_ret () [1] ((pcE (List.drop 1 k.snd) = (parse [] b).snd) ∧ (b = b) ∧ ([] = (parse [] b).fst)) ⟨(by exact (parse_b ‹_› ‹_› ‹_›).2), rfl, (by exact (parse_b ‹_› ‹_› ‹_›).1)⟩ trivial
  ·have h5 := of_decide_eq_false h5
   refine v_if (decide ((↑(pcV (List.drop 1 k.snd)).length : Int) = 0)) True trivial (fun h6 => ?_) (fun h6 => ?_)
   ·have h6 := of_decide_eq_true h6
    refine v_leave .rt True trivial ?_
    exact v_ret () [1] ((6 = (parse [] b).snd) ∧ (b = b) ∧ ([] = (parse [] b).fst)) ⟨(by exact (parse_c ‹_› ‹_› ‹_› ‹_›).2), rfl, (by exact (parse_c ‹_› ‹_› ‹_› ‹_›).1)⟩ trivial
   ·have h6 := of_decide_eq_false h6
    refine v_guard 34 (decide (0 < (↑k.fst.length : Int))) True trivial (fun h7 => ?_) (fun h7 => ?_)
    ·have h7 := of_decide_eq_true h7
     refine v_if (decide (k.snd.getD 0 0 ≤ (k.fst.getD ((↑k.fst.length : Int) - 1).toNat (Field.mk 0 [])).tag)) ((I64 (↑k.fst.length - 1)) ∧ (0 ≤ (↑k.fst.length : Int) - 1 ∧ (↑k.fst.length : Int) - 1 < (↑k.fst.length : Int))) ⟨(by (unfold I64; omega)), (by omega)⟩ (fun h8 => ?_) (fun h8 => ?_)
     ·have h8 := of_decide_eq_true h8
      refine v_leave .rt True trivial ?_
      exact v_ret () [1] ((5 = (parse [] b).snd) ∧ (b = b) ∧ ([] = (parse [] b).fst)) ⟨(by exact (parse_d ‹_› ‹_› ‹_› ‹_› ‹_› ‹_›).2), rfl, (by exact (parse_d ‹_› ‹_› ‹_› ‹_› ‹_› ‹_›).1)⟩ trivial
     ·have h8 := of_decide_eq_false h8
      exact v_back ((k.fst ++ [Field.mk (k.snd.getD 0 0) (pcV (List.drop 1 k.snd))], pcR (List.drop 1 k.snd))) [13, 7] ((0 + (pcV (List.drop 1 k.snd)).length ≤ 1000000) ∧ (k.fst.length + 1 ≤ 1000000) ∧ (k.fst ++ [Field.mk (k.snd.getD 0 0) ([] ++ pcV (List.drop 1 k.snd))] = k.fst ++ [Field.mk (k.snd.getD 0 0) (pcV (List.drop 1 k.snd))]) ∧ (pcR (List.drop 1 k.snd) = pcR (List.drop 1 k.snd))) ⟨(by exact pcV_bd ‹_› ‹_›), (by omega), rfl, rfl⟩ (show (parse [] b = parse (k.fst ++ [Field.mk (k.snd.getD 0 0) (pcV (List.drop 1 k.snd))]) (pcR (List.drop 1 k.snd)) ∧ (k.fst ++ [Field.mk (k.snd.getD 0 0) (pcV (List.drop 1 k.snd))]).length + (pcR (List.drop 1 k.snd)).length ≤ b.length) ∧ (pcR (List.drop 1 k.snd)).length < k.snd.length from (by exact parse_e ‹_› ‹_› ‹_› ‹_› (fun q => absurd q.2 ‹_›)))
    ·have h7 := of_decide_eq_false h7
     exact v_back ((k.fst ++ [Field.mk (k.snd.getD 0 0) (pcV (List.drop 1 k.snd))], pcR (List.drop 1 k.snd))) [11, 7] ((0 + (pcV (List.drop 1 k.snd)).length ≤ 1000000) ∧ (k.fst.length + 1 ≤ 1000000) ∧ (k.fst ++ [Field.mk (k.snd.getD 0 0) ([] ++ pcV (List.drop 1 k.snd))] = k.fst ++ [Field.mk (k.snd.getD 0 0) (pcV (List.drop 1 k.snd))]) ∧ (pcR (List.drop 1 k.snd) = pcR (List.drop 1 k.snd))) ⟨(by exact pcV_bd ‹_› ‹_›), (by omega), rfl, rfl⟩ (show (parse [] b = parse (k.fst ++ [Field.mk (k.snd.getD 0 0) (pcV (List.drop 1 k.snd))]) (pcR (List.drop 1 k.snd)) ∧ (k.fst ++ [Field.mk (k.snd.getD 0 0) (pcV (List.drop 1 k.snd))]).length + (pcR (List.drop 1 k.snd)).length ≤ b.length) ∧ (pcR (List.drop 1 k.snd)).length < k.snd.length from (by exact parse_e ‹_› ‹_› ‹_› ‹_› (fun q => absurd q.1 ‹_›)))
 ·have h2 := of_decide_eq_false h2
  refine v_leave (.ex 0) True trivial ?_
  exact v_ret () [2] ((0 = (parse [] b).snd) ∧ (b = b) ∧ (k.fst = (parse [] b).fst)) ⟨(by exact (parse_a ‹_› ‹_›).2), rfl, (by exact (parse_a ‹_› ‹_›).1)⟩ trivial
inductive Tr where
  | leaf (k v : List UInt8)
  | node (l r : Tr)
def z32 : List UInt8 := List.replicate 32 0
def nsum (h : Int) (s : UInt64) (k v l r : List UInt8) : List UInt8 :=
  if h = 0 then sum256 ([0, ofI8 (k.length : Int)] ++ k ++ sum256 v) else sum256 ([1, ofI8 h] ++ eightTo s 8 ++ l ++ r)
namespace Tr
def height : Tr → Int
  | leaf _ _ => 0
  | node l r => 1 + max l.height r.height
def size : Tr → UInt64
  | leaf _ _ => 1
  | node l r => l.size + r.size
def least : Tr → List UInt8
  | leaf k _ => k
  | node l _ => l.least
def key : Tr → List UInt8
  | leaf k _ => k
  | node _ r => r.least
def hash : Tr → List UInt8
  | leaf k v => nsum 0 1 k v z32 z32
  | node l r => nsum (1 + max l.height r.height) (l.size + r.size) r.least [] l.hash r.hash
end Tr
def lfC (k v : List UInt8) (b : Nat) : List SV := [.n b, .n (b + 1), .i 0, .u 1, .h 32 z32, .h 32 z32, .h 32 (Tr.leaf k v).hash, .v (.pointer none), .v (.pointer none)]
def ndC (l r : Tr) (b : Nat) : List SV := [.n b, .v (.slice none 0 0), .i (Tr.node l r).height, .u (Tr.node l r).size, .h 32 l.hash, .h 32 r.hash, .h 32 (Tr.node l r).hash, .p (b + 1) 0, .p (b + 2) 0]
def ns3 (x y z : Value) : NV := fun n => match n with | 0 => x | 1 => y | 2 => z | _ => .bool false
def At (σ : Nat → Nat) (w : World) : Tr → Value → Prop
  | .leaf k v, x => ∃ b o kv vv, x = .pointer (some ⟨b, o, none⟩) ∧ Rd tU8 σ w kv k ∧ Rd tU8 σ w vv v ∧ Seg σ w b o (denC (ns3 kv vv (.bool false)) (lfC k v 0))
  | .node l r, x => ∃ b o kv lv rv, x = .pointer (some ⟨b, o, none⟩) ∧ Rd tU8 σ w kv (Tr.node l r).key ∧ At σ w l lv ∧ At σ w r rv ∧ Seg σ w b o (denC (ns3 kv lv rv) (ndC l r 0))
theorem At.ptr {σ : Nat → Nat} {w : World} {t : Tr} {x : Value} (h : At σ w t x) : ∃ b o, x = .pointer (some ⟨b, o, none⟩) := by
  cases t with
  | leaf k v => obtain ⟨b, o, _, _, e, _⟩ := h; exact ⟨b, o, e⟩
  | node l r => obtain ⟨b, o, _, _, _, e, _⟩ := h; exact ⟨b, o, e⟩
theorem At.step {M : Nat → Prop} {σ σ' : Nat → Nat} {w w' : World} (st : Stp M σ w σ' w') : ∀ {t : Tr} {x : Value}, At σ w t x → At σ' w' t x
  | .leaf _ _, _, ⟨b, o, kv, vv, e, h1, h2, h3⟩ => ⟨b, o, kv, vv, e, h1.step st, h2.step st, h3.step st⟩
  | .node l r, _, ⟨b, o, kv, lv, rv, e, h1, h2, h3, h4⟩ => ⟨b, o, kv, lv, rv, e, h1.step st, At.step st h2, At.step st h3, h4.step st⟩
def PT (t : Tr) : PP := ⟨fun σ w v => At σ w t v, fun st h => h.step st⟩
theorem rd_one {σ : Nat → Nat} {w : World} {v : Value} {xs : List UInt8} (h : Rd tU8 σ w v xs) : v.oneCell' = true := by obtain ⟨a, c, e, _⟩ := h.form; subst e; rfl
theorem ns3_one {x y z : Value} (hx : x.oneCell' = true) (hy : y.oneCell' = true) (hz : z.oneCell' = true) : ∀ n, (ns3 x y z n).oneCell' = true
  | 0 => hx
  | 1 => hy
  | 2 => hz
  | _ + 3 => rfl
theorem open_leaf (k v : List UInt8) : Opens (G := GT) (PT (.leaf k v)) (fun _ => [.rd 5 k, .rd 5 v]) (lfC k v) := by
  rintro base σ w x ⟨b, o, kv, vv, e, h1, h2, h3⟩
  refine ⟨ns3 kv vv (.bool false), ns3_one (rd_one h1) (rd_one h2) rfl, fun ν hν => ⟨fun i en hi => ?_, b, o, e, ?_⟩⟩
  · match i, hi with
    | 0, hi => simp only [List.getElem?_cons_zero, Option.some.injEq] at hi; subst hi; exact h1
    | 1, hi => simp only [List.getElem?_cons_succ, List.getElem?_cons_zero, Option.some.injEq] at hi; subst hi; exact h2
    | i + 2, hi => simp at hi
  · have e0 := hν 0 (by simp)
    have e1 := hν 1 (by simp)
    simp only [Nat.add_zero] at e0
    simpa [lfC, denC, den, e0, e1] using h3
theorem open_node (l r : Tr) : Opens (G := GT) (PT (.node l r)) (fun _ => [.rd 5 (Tr.node l r).key, .pn (PT l) false false, .pn (PT r) false false]) (ndC l r) := by
  rintro base σ w x ⟨b, o, kv, lv, rv, e, h1, h2, h3, h4⟩
  obtain ⟨lb, lo, le⟩ := h2.ptr
  obtain ⟨rb, ro, re⟩ := h3.ptr
  refine ⟨ns3 kv lv rv, ns3_one (rd_one h1) (by rw [le]; rfl) (by rw [re]; rfl), fun ν hν => ⟨fun i en hi => ?_, b, o, e, ?_⟩⟩
  · match i, hi with
    | 0, hi => simp only [List.getElem?_cons_zero, Option.some.injEq] at hi; subst hi; exact h1
    | 1, hi => simp only [List.getElem?_cons_succ, List.getElem?_cons_zero, Option.some.injEq] at hi; subst hi; exact ⟨h2, by simp, fun _ => ⟨lb, lo, le⟩⟩
    | 2, hi => simp only [List.getElem?_cons_succ, List.getElem?_cons_zero, Option.some.injEq] at hi; subst hi; exact ⟨h3, by simp, fun _ => ⟨rb, ro, re⟩⟩
    | i + 3, hi => simp at hi
  · have e0 := hν 0 (by simp)
    have e1 := hν 1 (by simp)
    have e2 := hν 2 (by simp)
    simp only [Nat.add_zero] at e0
    simpa [ndC, denC, den, e0, e1, e2, Tr.key] using h4
theorem close_leaf (k v : List UInt8) : Closes (G := GT) (PT (.leaf k v)) [.rd 5 k, .rd 5 v] (lfC k v 0) := by
  intro ν σ w x b hE e hS
  refine ⟨b, 0, ν 0, ν 1, e, hE 0 _ rfl, hE 1 _ rfl, ?_⟩
  simpa [lfC, denC, den, ns3] using hS
theorem close_node (l r : Tr) : Closes (G := GT) (PT (.node l r)) [.rd 5 (Tr.node l r).key, .pn (PT l) false false, .pn (PT r) false false] (ndC l r 0) := by
  intro ν σ w x b hE e hS
  refine ⟨b, 0, ν 0, ν 1, ν 2, e, hE 0 _ rfl, (hE 1 _ rfl).1, (hE 2 _ rfl).1, ?_⟩
  simpa [ndC, denC, den, ns3] using hS
noncomputable def c133 : Code := (Tryd.f133.body).getD .skip
theorem eightTo_set (n : UInt64) (k : Nat) (h : k < 8) : ((eightTo n k ++ List.replicate (8 - k) 0).set k (n >>> (56 - 8 * (k : Int)).toNat.toUInt64).toUInt8) = eightTo n (k + 1) ++ List.replicate (8 - (k + 1)) 0 := by
  have hl := eightTo_len n k
  rw [List.set_append_right _ _ (by omega), hl, Nat.sub_self, show 8 - k = (8 - (k + 1)) + 1 by omega, List.replicate_succ, List.set_cons_zero, eightTo, List.append_assoc]
  rfl
theorem size_ok (n : UInt64) : FOk EN 133 ⟨[], [.u n], Unit, fun _ => ([.rd 5 (eightTo n 8)], .n 0), fun _ => True⟩ := by
 refine v_fun Tryd.f133 c133 MX (fun ν F σ w => ?_) Tryd.func133
 refine v_nl ?_
 refine v_loop (fun k : Nat => ([(3, .p 2 0), (5, .i k)], [.bx 266 [.h 8 (eightTo n k ++ List.replicate (8 - k) 0)]])) (fun k => k ≤ 8) (fun k => 8 - k) 0 [1] (((0 : Int) = (↑(0 : Nat) : Int)) ∧ (List.replicate 8 0 = eightTo n 0 ++ List.replicate (8 - 0) 0)) ⟨rfl, rfl⟩ (by decide) (fun k hk1 => ?_)
 have hl := eightTo_len n k
 refine v_if (decide ((↑k : Int) < 8)) True trivial (fun h2 => ?_) (fun h2 => ?_)
 ·have h2 := of_decide_eq_true h2
  exact v_back (k + 1) [2] ((I64 (8 * ↑k)) ∧ (I64 (56 - 8 * ↑k)) ∧ (0 ≤ 56 - 8 * (↑k : Int) ∧ 56 - 8 * (↑k : Int) < 64) ∧ ((0 : Int) ≤ (↑k : Int) ∧ (↑k : Int) < (↑(8 : Nat) : Int)) ∧ (0 + (↑k : Int).toNat < 8) ∧ (0 + (↑k : Int).toNat < (eightTo n k ++ List.replicate (8 - k) 0).length) ∧ (I64 (↑k + 1)) ∧ ((↑k : Int) + 1 = (↑(k + 1) : Int)) ∧ ((eightTo n k ++ List.replicate (8 - k) 0).set (0 + (↑k : Int).toNat) (n >>> (56 - 8 * (↑k : Int)).toNat.toUInt64).toUInt8 = eightTo n (k + 1) ++ List.replicate (8 - (k + 1)) 0)) ⟨(by (unfold I64; omega)), (by (unfold I64; omega)), (by omega), (by omega), (by omega), (by (simp; omega)), (by (unfold I64; omega)), rfl, (by (simpa using eightTo_set n k (by omega)))⟩ (show k + 1 ≤ 8 ∧ 8 - (k + 1) < 8 - k from (by omega))
 ·have h2 := of_decide_eq_false h2
  refine v_leave (.ex 0) True trivial ?_
  exact v_ret () [3] (((eightTo n k ++ List.replicate (8 - k) 0).length = 8 ∧ 8 ≤ 1000000) ∧ (eightTo n k ++ List.replicate (8 - k) 0 = eightTo n 8)) ⟨(by (simp; omega)), (by (obtain rfl : k = 8 := (by omega); simp))⟩ trivial
noncomputable def c109 : Code := (Tryd.f109.body).getD .skip
theorem thash_ok (h : Int) (s : UInt64) (k v l r : List UInt8) (h0 : 0 ≤ h ∧ h < 1000) (hk : k.length ≤ 1000) (hv : v.length ≤ 1000) (hl : l.length = 32) (hr : r.length = 32) :
  FOk EN 109 ⟨[.pr wordsP, .rd 5 k, .rd 5 v], [.a [.n 1, .n 2, .i h, .u s, .h 32 l, .h 32 r]], Unit, fun _ => ([.pr wordsP, .rd 5 k, .rd 5 v], .a [.h 32 (nsum h s k v l r)]), fun _ => True⟩ := by
 refine v_fun Tryd.f109 c109 MX (fun ν F σ w => ?_) Tryd.func109
 refine v_nl ?_
 refine v_if (decide (h = 0)) True trivial (fun h1 => ?_) (fun h1 => ?_)
 ·have h1 := of_decide_eq_true h1
  refine v_call _ [0, 6] (sum_ok ([v]) (by (simp; omega))) ((wordsP = wordsP) ∧ ([v] = [v])) ⟨rfl, rfl⟩ (fun g2 p3 => ?_)
  have p3 : True := p3
  refine v_close 7 [] (close_top [] ([SV.h 32 (sum256 [v].flatten)])) ((sum256 [v].flatten = sum256 [v].flatten)) rfl ?_
  refine v_plan (.fs [0, 1, 2, 3, 5, 6, 7] (.o 4 (.o 8 (.o 9 (.o 10 .e))))) [4, 6] True trivial ?_
  refine v_call _ [0, 10] (sum_ok ([[0, ofI8 ↑k.length], k, sum256 [v].flatten]) (by (simp [sum256_len, eightTo_len]; omega))) (((sum256 [v].flatten).length = 32 ∧ 32 ≤ 1000000) ∧ (wordsP = wordsP) ∧ ([[0, ofI8 ↑k.length], k, sum256 [v].flatten] = [[0, ofI8 ↑k.length], k, sum256 [v].flatten])) ⟨(by (simp [sum256_len, eightTo_len]; done)), rfl, rfl⟩ (fun g4 p5 => ?_)
  have p5 : True := p5
  exact v_ret () [] ((sum256 [[0, ofI8 ↑k.length], k, sum256 [v].flatten].flatten = nsum h s k v l r) ∧ (wordsP = wordsP) ∧ (k = k) ∧ (v = v)) ⟨(by (simp only [nsum]; (repeat first | rw [if_pos (by omega)] | rw [if_neg (by omega)]); first | rfl | omega | (simp; done) | (simp; omega))), rfl, rfl, rfl⟩ trivial
 ·have h1 := of_decide_eq_false h1
  refine v_close 4 [1, 2] (close_top [.no, .no] ([SV.n 0, SV.n 1, SV.i h, SV.u s, SV.h 32 l, SV.h 32 r])) ((h = h) ∧ (s = s) ∧ (l = l) ∧ (r = r)) ⟨rfl, rfl, rfl, rfl⟩ ?_
  refine v_join [21, 22, 23, 24, 25, 26, 27, 28, 29, 30, 31, 32, 33, 2] [5] (fun _ : Unit => ([(2, SV.p 6 0)], [Ent.bx 52 [SV.h 32 (sum256 [[1, ofI8 h], eightTo s 8, l, r].flatten)]])) (fun _ => True) ?_ (fun _ _ => ?_) True trivial
  ·skip
   refine v_plan (.fs [0, 1, 2, 4, 5, 7, 8, 9, 10] (.c 3 (.o 6 (.o 11 (.o 12 (.o 13 .e)))) (.o 6 (.o 3 (.o 11 (.o 12 (.o 13 .e))))))) [] True trivial ?_
   refine v_pick ((l.length = 32 ∧ 32 ≤ 1000000) ∧ (r.length = 32 ∧ 32 ≤ 1000000)) ⟨(by omega), (by omega)⟩ ?_ ?_
   ·skip
    refine v_call _ [] (size_ok (s)) ((s = s)) rfl (fun g6 p7 => ?_)
    have p7 : True := p7
    refine v_call _ [0, 10] (sum_ok ([[1, ofI8 h], eightTo s 8, l, r]) (by (simp [sum256_len, eightTo_len]; omega))) ((wordsP = wordsP) ∧ ([[1, ofI8 h], eightTo s 8, l, r] = [[1, ofI8 h], eightTo s 8, l, r])) ⟨rfl, rfl⟩ (fun g8 p9 => ?_)
    have p9 : True := p9
    exact v_back (()) [5] ((sum256 [[1, ofI8 h], eightTo s 8, l, r].flatten = sum256 [[1, ofI8 h], eightTo s 8, l, r].flatten)) rfl (show True from trivial)
   ·skip
    refine v_call _ [] (size_ok (s)) ((s = s)) rfl (fun g10 p11 => ?_)
    have p11 : True := p11
    refine v_call _ [0, 10] (sum_ok ([[1, ofI8 h], eightTo s 8, l, r]) (by (simp [sum256_len, eightTo_len]; omega))) ((wordsP = wordsP) ∧ ([[1, ofI8 h], eightTo s 8, l, r] = [[1, ofI8 h], eightTo s 8, l, r])) ⟨rfl, rfl⟩ (fun g12 p13 => ?_)
    have p13 : True := p13
    exact v_back (()) [5] ((sum256 [[1, ofI8 h], eightTo s 8, l, r].flatten = sum256 [[1, ofI8 h], eightTo s 8, l, r].flatten)) rfl (show True from trivial)
  ·skip
   exact v_ret () [] ((sum256 [[1, ofI8 h], eightTo s 8, l, r].flatten = nsum h s k v l r) ∧ (wordsP = wordsP) ∧ (k = k) ∧ (v = v)) ⟨(by (simp [nsum, *])), rfl, rfl, rfl⟩ trivial
noncomputable def c128 : Code := (Tryd.f128.body).getD .skip
theorem leaf_ok (k v : List UInt8) (hk : k.length ≤ 1000) (hv : v.length ≤ 1000) : FOk EN 128 ⟨[.pr wordsP, .rd 5 k, .rd 5 v], [.n 1, .n 2], Unit, fun _ => ([.pr wordsP, .rd 5 k, .rd 5 v, .pn (PT (.leaf k v)) false false], .p 3 0), fun _ => True⟩ := by
 refine v_fun Tryd.f128 c128 MX (fun ν F σ w => ?_) Tryd.func128
 refine v_nl ?_
 refine v_call _ [1] (clone_ok (k) (by omega)) ((k = k)) rfl (fun g1 p2 => ?_)
 have p2 : True := p2
 refine v_call _ [2] (clone_ok (v) (by omega)) ((v = v)) rfl (fun g3 p4 => ?_)
 have p4 : True := p4
 refine v_call _ [0, 4, 5] (thash_ok (0) (1) (k) (v) (List.replicate 32 0) (List.replicate 32 0) (by decide) ‹_› ‹_› rfl rfl) (((0 : Int) = (0 : Int)) ∧ ((1 : UInt64) = (1 : UInt64)) ∧ (List.replicate (32 : Nat) (0 : UInt8) = List.replicate (32 : Nat) (0 : UInt8)) ∧ (List.replicate (32 : Nat) (0 : UInt8) = List.replicate (32 : Nat) (0 : UInt8)) ∧ (wordsP = wordsP) ∧ (k = k) ∧ (v = v)) ⟨rfl, rfl, rfl, rfl, rfl, rfl, rfl⟩ (fun g5 p6 => ?_)
 have p6 : True := p6
 refine v_close 6 [4, 5] (close_leaf (k) (v)) (((0 : Int) = (0 : Int)) ∧ ((1 : UInt64) = (1 : UInt64)) ∧ (List.replicate 32 0 = z32) ∧ (List.replicate 32 0 = z32) ∧ (nsum 0 1 k v (List.replicate 32 0) (List.replicate 32 0) = (Tr.leaf k v).hash) ∧ (Value.pointer none = Value.pointer none) ∧ (Value.pointer none = Value.pointer none) ∧ (k = k) ∧ (v = v)) ⟨rfl, rfl, rfl, rfl, rfl, rfl, rfl, rfl, rfl⟩ ?_
 exact v_ret () [6] ((wordsP = wordsP) ∧ (k = k) ∧ (v = v) ∧ (PLe (PT (Tr.leaf k v)) (PT (Tr.leaf k v))) ∧ (false = false)) ⟨rfl, rfl, rfl, fun _ _ _ h => h, rfl⟩ trivial
def Tr.next : Tr → Tr
  | .leaf a b => .leaf a b
  | .node l _ => l
def Tr.depth : Tr → Nat
  | .leaf _ _ => 0
  | .node l r => l.depth + r.depth + 1
noncomputable def c140 : Code := (Tryd.f140.body).getD .skip
theorem least_ok (t : Tr) : FOk EN 140 ⟨[.pn (PT t) false false], [.p 0 0], Unit, fun _ => ([.pn (PT t) false false, .rd 5 t.least], .n 1), fun _ => True⟩ := by
 refine v_fun Tryd.f140 c140 MX (fun ν F σ w => ?_) Tryd.func140
 refine v_nl ?_
 refine v_loop (fun k : Tr => ([(0, .p 2 0)], [.pn (PT k) false false])) (fun k => t.least = k.least) (fun k => k.depth) t [0] ((PT t = PT t) ∧ (false = false)) ⟨rfl, rfl⟩ rfl (fun k hk1 => ?_)
 cases k with
 | leaf a b =>
  refine v_open 2 (open_leaf (a) (b)) ((false = false) ∧ (PT (Tr.leaf a b) = PT (Tr.leaf a b))) ⟨rfl, rfl⟩ ?_
  refine v_leave (.ex 0) True trivial ?_
  exact v_ret () [3] ((PT t = PT t) ∧ (false = false) ∧ (a = t.least)) ⟨rfl, rfl, (by exact hk1.symm)⟩ trivial
 | node l r =>
  refine v_open 2 (open_node (l) (r)) ((false = false) ∧ (PT (l.node r) = PT (l.node r))) ⟨rfl, rfl⟩ ?_
  refine v_if (!false) True trivial (fun h2 => ?_) (fun h2 => ?_)
  ·have h2 := (nt h2)
   exact v_back ((l.node r).next) [4] ((PT l = PT (l.node r).next) ∧ (false = false)) ⟨rfl, rfl⟩ (show t.least = (l.node r).next.least ∧ (l.node r).next.depth < (l.node r).depth from (by exact ⟨hk1, by simp only [Tr.next, Tr.depth]; omega⟩))
  ·have h2 := (nf h2)
   contradiction
namespace Tr
def value : Tr → List UInt8
  | leaf _ v => v
  | node _ _ => []
def lh : Tr → List UInt8
  | leaf _ _ => z32
  | node l _ => l.hash
def rh : Tr → List UInt8
  | leaf _ _ => z32
  | node _ r => r.hash
end Tr
def anyC (t : Tr) (b : Nat) : List SV := [.n b, .n (b + 1), .i t.height, .u t.size, .h 32 t.lh, .h 32 t.rh, .h 32 t.hash, .p (b + 2) 0, .p (b + 3) 0]
def ns4 (x y z u : Value) : NV := fun n => match n with | 0 => x | 1 => y | 2 => z | 3 => u | _ => .bool false
theorem ns4_one {x y z u : Value} (hx : x.oneCell' = true) (hy : y.oneCell' = true) (hz : z.oneCell' = true) (hu : u.oneCell' = true) : ∀ n, (ns4 x y z u n).oneCell' = true
  | 0 => hx
  | 1 => hy
  | 2 => hz
  | 3 => hu
  | _ + 4 => rfl
theorem open_any (t : Tr) : Opens (G := GT) (PT t) (fun _ => [.rd 5 t.key, .rd 5 t.value, .no, .no]) (anyC t) := by
  rintro base σ w x h
  have main : ∀ (kv vv lv rv : Value) (b o : Nat), x = .pointer (some ⟨b, o, none⟩) → Rd tU8 σ w kv t.key → Rd tU8 σ w vv t.value → lv.oneCell' = true → rv.oneCell' = true → Seg σ w b o (denC (ns4 kv vv lv rv) (anyC t 0)) →
      ∃ f : NV, (∀ n, (f n).oneCell' = true) ∧ ∀ ν : NV, (∀ i, i < 4 → ν (base + i) = f i) → (∀ (i : Nat) (en : Ent GT), [Ent.rd 5 t.key, .rd 5 t.value, .no, .no][i]? = some en → en.holds ν (fun _ => False) σ w (f i)) ∧ ∃ b o, x = .pointer (some ⟨b, o, none⟩) ∧ Seg σ w b o (denC ν (anyC t base)) := by
    intro kv vv lv rv b o e h1 h2 h3 h4 h5
    refine ⟨ns4 kv vv lv rv, ns4_one (rd_one h1) (rd_one h2) h3 h4, fun ν hν => ⟨fun i en hi => ?_, b, o, e, ?_⟩⟩
    · match i, hi with
      | 0, hi => simp only [List.getElem?_cons_zero, Option.some.injEq] at hi; subst hi; exact h1
      | 1, hi => simp only [List.getElem?_cons_succ, List.getElem?_cons_zero, Option.some.injEq] at hi; subst hi; exact h2
      | 2, hi => simp only [List.getElem?_cons_succ, List.getElem?_cons_zero, Option.some.injEq] at hi; subst hi; trivial
      | 3, hi => simp only [List.getElem?_cons_succ, List.getElem?_cons_zero, Option.some.injEq] at hi; subst hi; trivial
      | i + 4, hi => simp at hi
    · have e0 := hν 0 (by simp)
      have e1 := hν 1 (by simp)
      have e2 := hν 2 (by simp)
      have e3 := hν 3 (by simp)
      simp only [Nat.add_zero] at e0
      simpa [anyC, denC, den, e0, e1, e2, e3] using h5
  cases t with
  | leaf k v =>
    obtain ⟨b, o, kv, vv, e, h1, h2, h3⟩ := h
    refine main kv vv (.pointer none) (.pointer none) b o e h1 h2 rfl rfl ?_
    simpa [lfC, anyC, denC, den, ns3, ns4, Tr.height, Tr.size, Tr.lh, Tr.rh, padd] using h3
  | node l r =>
    obtain ⟨b, o, kv, lv, rv, e, h1, h2, h3, h4⟩ := h
    obtain ⟨lb, lo, le⟩ := h2.ptr
    obtain ⟨rb, ro, re⟩ := h3.ptr
    refine main kv (.slice none 0 0) lv rv b o e h1 ⟨none, 0, rfl, Nat.le_refl _, Nat.zero_le _, .inl rfl⟩ (by rw [le]; rfl) (by rw [re]; rfl) ?_
    simpa [ndC, anyC, denC, den, ns3, ns4, Tr.lh, Tr.rh] using h4
/-- What the trees here keep to. -/
def Tr.Ok (t : Tr) : Prop := 0 ≤ t.height ∧ t.height < 900 ∧ t.least.length ≤ 1000 ∧ t.hash.length = 32
noncomputable def c130 : Code := (Tryd.f130.body).getD .skip
theorem inner_ok (l r : Tr) (hl : l.Ok) (hr : r.Ok) : FOk EN 130 ⟨[.pr wordsP, .pn (PT l) false false, .pn (PT r) false false], [.p 1 0, .p 2 0], Unit, fun _ => ([.pr wordsP, .pn (PT l) false false, .pn (PT r) false false, .pn (PT (.node l r)) false false], .p 3 0), fun _ => True⟩ := by
 refine v_fun Tryd.f130 c130 MX (fun ν F σ w => ?_) Tryd.func130
 refine v_nl ?_
 refine v_open 1 (open_any (l)) ((PT l = PT l)) rfl ?_
 refine v_open 2 (open_any (r)) ((PT r = PT r)) rfl ?_
 refine v_plan (.fs [0, 1, 3, 4, 5, 6, 7, 8, 9, 10, 11, 12, 13, 14, 15, 16, 17, 18, 19, 20, 21, 22, 23, 24, 25, 26, 27, 28, 29, 30, 31, 32, 33] (.o 2 (.fs [34, 35, 36] (.o 37 .e)))) [] True trivial ?_
 refine v_call _ [2] (least_ok (r)) ((I64 (1 + if l.height < r.height then r.height else l.height)) ∧ (PLe (PT r) (PT r)) ∧ (false = false)) ⟨(by (have h1 := hl; have h2 := hr; unfold Tr.Ok at h1 h2; unfold I64; omega)), fun _ _ _ h => h, rfl⟩ (fun g1 p2 => ?_)
 have p2 : True := p2
 refine v_call _ [0, 13, 3] (thash_ok (1 + if l.height < r.height then r.height else l.height) (l.size + r.size) (r.least) ([]) (l.hash) (r.hash) (by (have h1 := hl; have h2 := hr; unfold Tr.Ok at h1 h2; omega)) (by (have h1 := hl; have h2 := hr; unfold Tr.Ok at h1 h2; omega)) (by decide) (by (have h1 := hl; have h2 := hr; unfold Tr.Ok at h1 h2; omega)) (by (have h1 := hl; have h2 := hr; unfold Tr.Ok at h1 h2; omega))) (((1 + if l.height < r.height then r.height else l.height) = 1 + if l.height < r.height then r.height else l.height) ∧ (l.size + r.size = l.size + r.size) ∧ (l.hash = l.hash) ∧ (r.hash = r.hash) ∧ (wordsP = wordsP) ∧ (r.least = r.least) ∧ (Eq (α := List UInt8) [] [])) ⟨rfl, rfl, rfl, rfl, rfl, rfl, rfl⟩ (fun g3 p4 => ?_)
 have p4 : True := p4
 refine v_close 4 [13, 1, 2] (close_node (l) (r)) ((Value.slice none 0 0 = Value.slice none 0 0) ∧ ((1 + if l.height < r.height then r.height else l.height) = (l.node r).height) ∧ (l.size + r.size = (l.node r).size) ∧ (l.hash = l.hash) ∧ (r.hash = r.hash) ∧ (nsum (1 + if l.height < r.height then r.height else l.height) (l.size + r.size) r.least [] l.hash r.hash = (l.node r).hash) ∧ (r.least = (l.node r).key) ∧ (PLe (PT l) (PT l)) ∧ (false = false) ∧ (PLe (PT r) (PT r)) ∧ (false = false)) ⟨rfl, (by (congr 1; omega)), rfl, rfl, rfl, (by (congr 1; omega)), rfl, fun _ _ _ h => h, rfl, fun _ _ _ h => h, rfl⟩ ?_
 exact v_ret () [4] ((wordsP = wordsP) ∧ (PLe (PT l) (PT l)) ∧ (false = false) ∧ (PLe (PT r) (PT r)) ∧ (false = false) ∧ (PLe (PT (l.node r)) (PT (l.node r))) ∧ (false = false)) ⟨rfl, fun _ _ _ h => h, rfl, fun _ _ _ h => h, rfl, fun _ _ _ h => h, rfl⟩ trivial
namespace Tr
/-- Keys and values are short. -/
def Ks : Tr → Prop
  | leaf k v => k.length ≤ 1000 ∧ v.length ≤ 1000
  | node l r => l.Ks ∧ r.Ks
theorem height_nn : ∀ t : Tr, 0 ≤ t.height
  | leaf _ _ => Int.le_refl _
  | node l r => by have := height_nn l; simp only [height]; omega
theorem nsum_len (h : Int) (s : UInt64) (k v l r : List UInt8) : (nsum h s k v l r).length = 32 := by unfold nsum; split <;> exact sum256_len _
theorem hash_len : ∀ t : Tr, t.hash.length = 32
  | leaf _ _ => nsum_len ..
  | node _ _ => nsum_len ..
theorem least_le : ∀ {t : Tr}, t.Ks → t.least.length ≤ 1000
  | leaf _ _, h => h.1
  | node l _, h => least_le (t := l) h.1
theorem ok {t : Tr} (h : t.Ks) (hh : t.height < 900) : t.Ok := ⟨t.height_nn, hh, least_le h, t.hash_len⟩
theorem node_lt {l r : Tr} {n : Int} (h1 : l.height < n) (h2 : r.height < n) : (node l r).height < n + 1 := by simp only [height]; omega
end Tr
noncomputable def c129 : Code := (Tryd.f129.body).getD .skip
theorem bal0_aux (l r : Tr) (hl : l.Ok) (hr : r.Ok) (h1 : ¬ l.height > r.height + 1) (h2 : ¬ r.height > l.height + 1) : FOk EN 129 ⟨[.pr wordsP, .pn (PT l) false false, .pn (PT r) false false], [.p 1 0, .p 2 0], Unit, fun _ => ([.pr wordsP, .pn (PT l) false false, .pn (PT r) false false, .pn (PT (.node l r)) false false], .p 3 0), fun _ => True⟩ := by
 refine v_fun Tryd.f129 c129 MX (fun ν F σ w => ?_) Tryd.func129
 refine v_nl ?_
 refine v_open 1 (open_any (l)) ((PT l = PT l)) rfl ?_
 refine v_open 2 (open_any (r)) ((PT r = PT r)) rfl ?_
 refine v_plan (.fs [0, 1, 2, 3, 4, 5, 6, 7, 8, 9, 10, 11, 12] .e) [] True trivial ?_
 refine v_if (decide (r.height + 1 < l.height)) ((I64 (r.height + 1))) (by (have h1 := hl; have h2 := hr; unfold Tr.Ok at h1 h2; unfold I64; omega)) (fun h1 => ?_) (fun h1 => ?_)
 ·have h1 := of_decide_eq_true h1
  omega
 ·have h1 := of_decide_eq_false h1
  refine v_plan (.fs [0, 1, 2, 3, 4, 5, 6, 7, 8, 9, 10, 11, 12] .e) [] True trivial ?_
  refine v_if (decide (l.height + 1 < r.height)) ((I64 (l.height + 1))) (by (have h1 := hl; have h2 := hr; unfold Tr.Ok at h1 h2; unfold I64; omega)) (fun h2 => ?_) (fun h2 => ?_)
  ·have h2 := of_decide_eq_true h2
   omega
  ·have h2 := of_decide_eq_false h2
   refine v_call _ [0, 1, 2] (inner_ok (l) (r) ‹_› ‹_›) ((wordsP = wordsP) ∧ (PLe (PT l) (PT l)) ∧ (false = false) ∧ (PLe (PT r) (PT r)) ∧ (false = false)) ⟨rfl, fun _ _ _ h => h, rfl, fun _ _ _ h => h, rfl⟩ (fun g3 p4 => ?_)
   have p4 : True := p4
   exact v_ret () [12] ((wordsP = wordsP) ∧ (PLe (PT l) (PT l)) ∧ (false = false) ∧ (PLe (PT r) (PT r)) ∧ (false = false) ∧ (PT (l.node r) = PT (l.node r)) ∧ (false = false)) ⟨rfl, fun _ _ _ h => h, rfl, fun _ _ _ h => h, rfl, rfl, rfl⟩ trivial
theorem bal1_aux (a b r : Tr) (hl : (Tr.node a b).Ok) (ha : a.Ok) (hb : b.Ok) (hbr : (Tr.node b r).Ok) (hr : r.Ok) (h1 : (Tr.node a b).height > r.height + 1) (h2 : ¬ a.height < b.height) : FOk EN 129 ⟨[.pr wordsP, .pn (PT (.node a b)) false false, .pn (PT r) false false], [.p 1 0, .p 2 0], Unit, fun _ => ([.pr wordsP, .pn (PT (.node a b)) false false, .pn (PT r) false false, .pn (PT (.node a (.node b r))) false false], .p 3 0), fun _ => True⟩ := by
 refine v_fun Tryd.f129 c129 MX (fun ν F σ w => ?_) Tryd.func129
 refine v_nl ?_
 refine v_open 1 (open_node (a) (b)) ((PT (a.node b) = PT (a.node b))) rfl ?_
 refine v_open 2 (open_any (r)) ((PT r = PT r)) rfl ?_
 refine v_plan (.fs [0, 1, 2, 3, 4, 5, 6, 7, 8, 9, 10, 11, 12] .e) [] True trivial ?_
 refine v_if (decide (r.height + 1 < (a.node b).height)) ((I64 (r.height + 1))) (by (have h1 := hl; have h2 := hr; unfold Tr.Ok at h1 h2; unfold I64; omega)) (fun h1 => ?_) (fun h1 => ?_)
 ·have h1 := of_decide_eq_true h1
  refine v_open 5 (open_any (a)) ((PT a = PT a)) rfl ?_
  refine v_open 6 (open_any (b)) ((PT b = PT b)) rfl ?_
  refine v_plan (.fs [0, 1, 2, 3, 4, 5, 6, 7, 8, 9, 10, 11, 12, 13, 14, 15, 16] .e) [] True trivial ?_
  refine v_if (decide (a.height < b.height)) True trivial (fun h2 => ?_) (fun h2 => ?_)
  ·have h2 := of_decide_eq_true h2
   omega
  ·have h2 := of_decide_eq_false h2
   refine v_plan (.fs [0, 1, 2, 3, 4, 5, 6, 7, 8] (.o 9 (.o 10 (.fs [11] .e)))) [] True trivial ?_
   refine v_call _ [0, 6, 2] (inner_ok (b) (r) ‹_› ‹_›) ((wordsP = wordsP) ∧ (PLe (PT b) (PT b)) ∧ (false = false) ∧ (PLe (PT r) (PT r)) ∧ (false = false)) ⟨rfl, fun _ _ _ h => h, rfl, fun _ _ _ h => h, rfl⟩ (fun g3 p4 => ?_)
   have p4 : True := p4
   refine v_call _ [0, 5, 19] (inner_ok (a) (b.node r) ‹_› ‹_›) ((wordsP = wordsP) ∧ (PLe (PT a) (PT a)) ∧ (false = false) ∧ (PT (b.node r) = PT (b.node r)) ∧ (false = false)) ⟨rfl, fun _ _ _ h => h, rfl, rfl, rfl⟩ (fun g5 p6 => ?_)
   have p6 : True := p6
   exact v_ret () [20] ((wordsP = wordsP) ∧ (PLe (PT (a.node b)) (PT (a.node b))) ∧ (false = false) ∧ (PLe (PT r) (PT r)) ∧ (false = false) ∧ (PT (a.node (b.node r)) = PT (a.node (b.node r))) ∧ (false = false)) ⟨rfl, fun _ _ _ h => h, rfl, fun _ _ _ h => h, rfl, rfl, rfl⟩ trivial
 ·have h1 := of_decide_eq_false h1
  omega
theorem bal2_aux (a c d r : Tr) (hl : (Tr.node a (.node c d)).Ok) (ha : a.Ok) (hb : (Tr.node c d).Ok) (hc : c.Ok) (hd : d.Ok) (hac : (Tr.node a c).Ok) (hdr : (Tr.node d r).Ok) (hr : r.Ok) (h1 : (Tr.node a (.node c d)).height > r.height + 1) (h2 : a.height < (Tr.node c d).height) : FOk EN 129 ⟨[.pr wordsP, .pn (PT (.node a (.node c d))) false false, .pn (PT r) false false], [.p 1 0, .p 2 0], Unit, fun _ => ([.pr wordsP, .pn (PT (.node a (.node c d))) false false, .pn (PT r) false false, .pn (PT (.node (.node a c) (.node d r))) false false], .p 3 0), fun _ => True⟩ := by
 refine v_fun Tryd.f129 c129 MX (fun ν F σ w => ?_) Tryd.func129
 refine v_nl ?_
 refine v_open 1 (open_node (a) (c.node d)) ((PT (a.node (c.node d)) = PT (a.node (c.node d)))) rfl ?_
 refine v_open 2 (open_any (r)) ((PT r = PT r)) rfl ?_
 refine v_plan (.fs [0, 1, 2, 3, 4, 5, 6, 7, 8, 9, 10, 11, 12] .e) [] True trivial ?_
 refine v_if (decide (r.height + 1 < (a.node (c.node d)).height)) ((I64 (r.height + 1))) (by (have h1 := hl; have h2 := hr; unfold Tr.Ok at h1 h2; unfold I64; omega)) (fun h1 => ?_) (fun h1 => ?_)
 ·have h1 := of_decide_eq_true h1
  refine v_open 5 (open_any (a)) ((PT a = PT a)) rfl ?_
  refine v_open 6 (open_node (c) (d)) ((PT (c.node d) = PT (c.node d))) rfl ?_
  refine v_plan (.fs [0, 1, 2, 3, 4, 5, 6, 7, 8, 9, 10, 11, 12, 13, 14, 15, 16] .e) [] True trivial ?_
  refine v_if (decide (a.height < (c.node d).height)) True trivial (fun h2 => ?_) (fun h2 => ?_)
  ·have h2 := of_decide_eq_true h2
   refine v_plan (.fs [0, 1, 2, 3, 4, 5, 6, 7, 8, 9, 10, 12, 13, 14, 15, 16, 17, 18, 19] (.o 11 (.o 20 (.o 21 (.fs [22] .e))))) [] True trivial ?_
   refine v_call _ [0, 5, 16] (inner_ok (a) (c) ‹_› ‹_›) ((wordsP = wordsP) ∧ (PLe (PT a) (PT a)) ∧ (false = false) ∧ (PT c = PT c) ∧ (false = false)) ⟨rfl, fun _ _ _ h => h, rfl, rfl, rfl⟩ (fun g3 p4 => ?_)
   have p4 : True := p4
   refine v_call _ [0, 17, 2] (inner_ok (d) (r) ‹_› ‹_›) ((wordsP = wordsP) ∧ (PT d = PT d) ∧ (false = false) ∧ (PLe (PT r) (PT r)) ∧ (false = false)) ⟨rfl, rfl, rfl, fun _ _ _ h => h, rfl⟩ (fun g5 p6 => ?_)
   have p6 : True := p6
   refine v_call _ [0, 18, 19] (inner_ok (a.node c) (d.node r) ‹_› ‹_›) ((wordsP = wordsP) ∧ (PT (a.node c) = PT (a.node c)) ∧ (false = false) ∧ (PT (d.node r) = PT (d.node r)) ∧ (false = false)) ⟨rfl, rfl, rfl, rfl, rfl⟩ (fun g7 p8 => ?_)
   have p8 : True := p8
   exact v_ret () [20] ((wordsP = wordsP) ∧ (PLe (PT (a.node (c.node d))) (PT (a.node (c.node d)))) ∧ (false = false) ∧ (PLe (PT r) (PT r)) ∧ (false = false) ∧ (PT ((a.node c).node (d.node r)) = PT ((a.node c).node (d.node r))) ∧ (false = false)) ⟨rfl, fun _ _ _ h => h, rfl, fun _ _ _ h => h, rfl, rfl, rfl⟩ trivial
  ·have h2 := of_decide_eq_false h2
   omega
 ·have h1 := of_decide_eq_false h1
  omega
theorem bal3_aux (l a b : Tr) (hr : (Tr.node a b).Ok) (ha : a.Ok) (hb : b.Ok) (hla : (Tr.node l a).Ok) (hl : l.Ok) (h0 : ¬ l.height > (Tr.node a b).height + 1) (h1 : (Tr.node a b).height > l.height + 1) (h2 : ¬ b.height < a.height) : FOk EN 129 ⟨[.pr wordsP, .pn (PT l) false false, .pn (PT (.node a b)) false false], [.p 1 0, .p 2 0], Unit, fun _ => ([.pr wordsP, .pn (PT l) false false, .pn (PT (.node a b)) false false, .pn (PT (.node (.node l a) b)) false false], .p 3 0), fun _ => True⟩ := by
 refine v_fun Tryd.f129 c129 MX (fun ν F σ w => ?_) Tryd.func129
 refine v_nl ?_
 refine v_open 1 (open_any (l)) ((PT l = PT l)) rfl ?_
 refine v_open 2 (open_node (a) (b)) ((PT (a.node b) = PT (a.node b))) rfl ?_
 refine v_plan (.fs [0, 1, 2, 3, 4, 5, 6, 7, 8, 9, 10, 11, 12] .e) [] True trivial ?_
 refine v_if (decide ((a.node b).height + 1 < l.height)) ((I64 ((a.node b).height + 1))) (by (have h1 := hl; have h2 := hr; unfold Tr.Ok at h1 h2; unfold I64; omega)) (fun h1 => ?_) (fun h1 => ?_)
 ·have h1 := of_decide_eq_true h1
  omega
 ·have h1 := of_decide_eq_false h1
  refine v_plan (.fs [0, 1, 2, 3, 4, 5, 6, 7, 8, 9, 10, 11, 12] .e) [] True trivial ?_
  refine v_if (decide (l.height + 1 < (a.node b).height)) ((I64 (l.height + 1))) (by (have h1 := hl; have h2 := hr; unfold Tr.Ok at h1 h2; unfold I64; omega)) (fun h2 => ?_) (fun h2 => ?_)
  ·have h2 := of_decide_eq_true h2
   refine v_open 10 (open_any (b)) ((PT b = PT b)) rfl ?_
   refine v_open 9 (open_any (a)) ((PT a = PT a)) rfl ?_
   refine v_plan (.fs [0, 1, 2, 3, 4, 5, 6, 7, 8, 9, 10, 11, 12, 13, 14, 15, 16] .e) [] True trivial ?_
   refine v_if (decide (b.height < a.height)) True trivial (fun h3 => ?_) (fun h3 => ?_)
   ·have h3 := of_decide_eq_true h3
    omega
   ·have h3 := of_decide_eq_false h3
    refine v_plan (.fs [0, 1, 2, 3, 4, 6, 7, 8, 9] (.o 5 (.o 10 (.fs [11] .e)))) [] True trivial ?_
    refine v_call _ [0, 1, 9] (inner_ok (l) (a) ‹_› ‹_›) ((wordsP = wordsP) ∧ (PLe (PT l) (PT l)) ∧ (false = false) ∧ (PLe (PT a) (PT a)) ∧ (false = false)) ⟨rfl, fun _ _ _ h => h, rfl, fun _ _ _ h => h, rfl⟩ (fun g4 p5 => ?_)
    have p5 : True := p5
    refine v_call _ [0, 19, 10] (inner_ok (l.node a) (b) ‹_› ‹_›) ((wordsP = wordsP) ∧ (PT (l.node a) = PT (l.node a)) ∧ (false = false) ∧ (PLe (PT b) (PT b)) ∧ (false = false)) ⟨rfl, rfl, rfl, fun _ _ _ h => h, rfl⟩ (fun g6 p7 => ?_)
    have p7 : True := p7
    exact v_ret () [20] ((wordsP = wordsP) ∧ (PLe (PT l) (PT l)) ∧ (false = false) ∧ (PLe (PT (a.node b)) (PT (a.node b))) ∧ (false = false) ∧ (PT ((l.node a).node b) = PT ((l.node a).node b)) ∧ (false = false)) ⟨rfl, fun _ _ _ h => h, rfl, fun _ _ _ h => h, rfl, rfl, rfl⟩ trivial
  ·have h2 := of_decide_eq_false h2
   omega
theorem bal4_aux (l c d b : Tr) (hr : (Tr.node (.node c d) b).Ok) (ha : (Tr.node c d).Ok) (hb : b.Ok) (hc : c.Ok) (hd : d.Ok) (hlc : (Tr.node l c).Ok) (hdb : (Tr.node d b).Ok) (hl : l.Ok) (h0 : ¬ l.height > (Tr.node (.node c d) b).height + 1) (h1 : (Tr.node (.node c d) b).height > l.height + 1) (h2 : b.height < (Tr.node c d).height) : FOk EN 129 ⟨[.pr wordsP, .pn (PT l) false false, .pn (PT (.node (.node c d) b)) false false], [.p 1 0, .p 2 0], Unit, fun _ => ([.pr wordsP, .pn (PT l) false false, .pn (PT (.node (.node c d) b)) false false, .pn (PT (.node (.node l c) (.node d b))) false false], .p 3 0), fun _ => True⟩ := by
 refine v_fun Tryd.f129 c129 MX (fun ν F σ w => ?_) Tryd.func129
 refine v_nl ?_
 refine v_open 1 (open_any (l)) ((PT l = PT l)) rfl ?_
 refine v_open 2 (open_node (c.node d) (b)) ((PT ((c.node d).node b) = PT ((c.node d).node b))) rfl ?_
 refine v_plan (.fs [0, 1, 2, 3, 4, 5, 6, 7, 8, 9, 10, 11, 12] .e) [] True trivial ?_
 refine v_if (decide (((c.node d).node b).height + 1 < l.height)) ((I64 (((c.node d).node b).height + 1))) (by (have h1 := hl; have h2 := hr; unfold Tr.Ok at h1 h2; unfold I64; omega)) (fun h1 => ?_) (fun h1 => ?_)
 ·have h1 := of_decide_eq_true h1
  omega
 ·have h1 := of_decide_eq_false h1
  refine v_plan (.fs [0, 1, 2, 3, 4, 5, 6, 7, 8, 9, 10, 11, 12] .e) [] True trivial ?_
  refine v_if (decide (l.height + 1 < ((c.node d).node b).height)) ((I64 (l.height + 1))) (by (have h1 := hl; have h2 := hr; unfold Tr.Ok at h1 h2; unfold I64; omega)) (fun h2 => ?_) (fun h2 => ?_)
  ·have h2 := of_decide_eq_true h2
   refine v_open 10 (open_any (b)) ((PT b = PT b)) rfl ?_
   refine v_open 9 (open_node (c) (d)) ((PT (c.node d) = PT (c.node d))) rfl ?_
   refine v_plan (.fs [0, 1, 2, 3, 4, 5, 6, 7, 8, 9, 10, 11, 12, 13, 14, 15, 16] .e) [] True trivial ?_
   refine v_if (decide (b.height < (c.node d).height)) True trivial (fun h3 => ?_) (fun h3 => ?_)
   ·have h3 := of_decide_eq_true h3
    refine v_plan (.fs [0, 1, 2, 3, 4, 5, 6, 7, 9, 10, 11, 12, 13, 14, 15, 16, 17, 18, 19] (.o 8 (.o 20 (.o 21 (.fs [22] .e))))) [] True trivial ?_
    refine v_call _ [0, 1, 16] (inner_ok (l) (c) ‹_› ‹_›) ((wordsP = wordsP) ∧ (PLe (PT l) (PT l)) ∧ (false = false) ∧ (PT c = PT c) ∧ (false = false)) ⟨rfl, fun _ _ _ h => h, rfl, rfl, rfl⟩ (fun g4 p5 => ?_)
    have p5 : True := p5
    refine v_call _ [0, 17, 10] (inner_ok (d) (b) ‹_› ‹_›) ((wordsP = wordsP) ∧ (PT d = PT d) ∧ (false = false) ∧ (PLe (PT b) (PT b)) ∧ (false = false)) ⟨rfl, rfl, rfl, fun _ _ _ h => h, rfl⟩ (fun g6 p7 => ?_)
    have p7 : True := p7
    refine v_call _ [0, 18, 19] (inner_ok (l.node c) (d.node b) ‹_› ‹_›) ((wordsP = wordsP) ∧ (PT (l.node c) = PT (l.node c)) ∧ (false = false) ∧ (PT (d.node b) = PT (d.node b)) ∧ (false = false)) ⟨rfl, rfl, rfl, rfl, rfl⟩ (fun g8 p9 => ?_)
    have p9 : True := p9
    exact v_ret () [20] ((wordsP = wordsP) ∧ (PLe (PT l) (PT l)) ∧ (false = false) ∧ (PLe (PT ((c.node d).node b)) (PT ((c.node d).node b))) ∧ (false = false) ∧ (PT ((l.node c).node (d.node b)) = PT ((l.node c).node (d.node b))) ∧ (false = false)) ⟨rfl, fun _ _ _ h => h, rfl, fun _ _ _ h => h, rfl, rfl, rfl⟩ trivial
   ·have h3 := of_decide_eq_false h3
    omega
  ·have h2 := of_decide_eq_false h2
   omega
namespace Tr
def bal (l r : Tr) : Tr :=
  if l.height > r.height + 1 then match l with
    | leaf _ _ => node l r
    | node a b => if a.height < b.height then match b with
      | leaf _ _ => node l r
      | node c d => node (node a c) (node d r)
      else node a (node b r)
  else if r.height > l.height + 1 then match r with
    | leaf _ _ => node l r
    | node a b => if b.height < a.height then match a with
      | leaf _ _ => node l r
      | node c d => node (node l c) (node d b)
      else node (node l a) b
  else node l r
end Tr
theorem bal_ok (l r : Tr) (hl : l.Ks) (hr : r.Ks) (hl9 : l.height < 800) (hr9 : r.height < 800) : FOk EN 129 ⟨[.pr wordsP, .pn (PT l) false false, .pn (PT r) false false], [.p 1 0, .p 2 0], Unit, fun _ => ([.pr wordsP, .pn (PT l) false false, .pn (PT r) false false, .pn (PT (l.bal r)) false false], .p 3 0), fun _ => True⟩ := by
  have nn := Tr.height_nn
  unfold Tr.bal
  by_cases h1 : l.height > r.height + 1
  · rw [if_pos h1]
    cases l with
    | leaf k v => have := nn r; simp only [Tr.height] at h1; omega
    | node a b =>
      have ea : a.height < 800 := by simp only [Tr.height] at hl9; omega
      have eb : b.height < 800 := by simp only [Tr.height] at hl9; omega
      have oa := Tr.ok hl.1 (by omega)
      have ob := Tr.ok hl.2 (by omega)
      have ol := Tr.ok hl (by omega)
      have orr := Tr.ok hr (by omega)
      by_cases h2 : a.height < b.height
      · simp only [if_pos h2]
        cases b with
        | leaf k v => have := nn a; simp only [Tr.height] at h2; omega
        | node c d =>
          have ec : c.height < 800 := by simp only [Tr.height] at eb; omega
          have ed : d.height < 800 := by simp only [Tr.height] at eb; omega
          have hb := hl.2
          exact bal2_aux a c d r ol oa ob (Tr.ok hb.1 (by omega)) (Tr.ok hb.2 (by omega)) (Tr.ok ⟨hl.1, hb.1⟩ (Int.lt_trans (Tr.node_lt ea ec) (by decide))) (Tr.ok ⟨hb.2, hr⟩ (Int.lt_trans (Tr.node_lt ed hr9) (by decide))) orr h1 h2
      · simp only [if_neg h2]
        exact bal1_aux a b r ol oa ob (Tr.ok ⟨hl.2, hr⟩ (Int.lt_trans (Tr.node_lt eb hr9) (by decide))) orr h1 h2
  · rw [if_neg h1]
    by_cases h3 : r.height > l.height + 1
    · rw [if_pos h3]
      cases r with
      | leaf k v => have := nn l; simp only [Tr.height] at h3; omega
      | node a b =>
        have ea : a.height < 800 := by simp only [Tr.height] at hr9; omega
        have eb : b.height < 800 := by simp only [Tr.height] at hr9; omega
        have oa := Tr.ok hr.1 (by omega)
        have ob := Tr.ok hr.2 (by omega)
        have ol := Tr.ok hl (by omega)
        have orr := Tr.ok hr (by omega)
        by_cases h2 : b.height < a.height
        · simp only [if_pos h2]
          cases a with
          | leaf k v => have := nn b; simp only [Tr.height] at h2; omega
          | node c d =>
            have ec : c.height < 800 := by simp only [Tr.height] at ea; omega
            have ed : d.height < 800 := by simp only [Tr.height] at ea; omega
            have hb := hr.1
            exact bal4_aux l c d b orr oa ob (Tr.ok hb.1 (by omega)) (Tr.ok hb.2 (by omega)) (Tr.ok ⟨hl, hb.1⟩ (Int.lt_trans (Tr.node_lt hl9 ec) (by decide))) (Tr.ok ⟨hb.2, hr.2⟩ (Int.lt_trans (Tr.node_lt ed eb) (by decide))) ol h1 h3 h2
        · simp only [if_neg h2]
          exact bal3_aux l a b orr oa ob (Tr.ok ⟨hl, hr.1⟩ (Int.lt_trans (Tr.node_lt hl9 ea) (by decide))) ol h1 h3 h2
    · rw [if_neg h3]
      exact bal0_aux l r (Tr.ok hl (by omega)) (Tr.ok hr (by omega)) h1 h3
namespace Tr
def put (k v : List UInt8) : Tr → Tr
  | leaf a b => if Lib.compareBytes k a < 0 then node (leaf k v) (leaf a b) else if 0 < Lib.compareBytes k a then node (leaf a b) (leaf k v) else leaf k v
  | node l r => if Lib.compareBytes k r.least < 0 then (l.put k v).bal r else l.bal (r.put k v)
theorem bal_Ks {l r : Tr} (h1 : l.Ks) (h2 : r.Ks) : (l.bal r).Ks := by
  unfold bal
  split
  · cases l with
    | leaf a b => exact ⟨h1, h2⟩
    | node a b =>
      dsimp only
      split
      · cases b with
        | leaf c d => exact ⟨h1, h2⟩
        | node c d => exact ⟨⟨h1.1, h1.2.1⟩, h1.2.2, h2⟩
      · exact ⟨h1.1, h1.2, h2⟩
  · split
    · cases r with
      | leaf a b => exact ⟨h1, h2⟩
      | node a b =>
        dsimp only
        split
        · cases a with
          | leaf c d => exact ⟨h1, h2⟩
          | node c d => exact ⟨⟨h1, h2.1.1⟩, h2.1.2, h2.2⟩
        · exact ⟨⟨h1, h2.1⟩, h2.2⟩
    · exact ⟨h1, h2⟩
theorem bal_height (l r : Tr) : (l.bal r).height ≤ 1 + max l.height r.height := by
  unfold bal
  split
  · cases l with
    | leaf a b => exact Int.le_refl _
    | node a b =>
      dsimp only
      split
      · cases b with
        | leaf c d => exact Int.le_refl _
        | node c d => simp only [height] at *; omega
      · simp only [height] at *; omega
  · split
    · cases r with
      | leaf a b => exact Int.le_refl _
      | node a b =>
        dsimp only
        split
        · cases a with
          | leaf c d => exact Int.le_refl _
          | node c d => simp only [height] at *; omega
        · simp only [height] at *; omega
    · exact Int.le_refl _
theorem put_Ks {k v : List UInt8} (hk : k.length ≤ 1000 ∧ v.length ≤ 1000) : ∀ {t : Tr}, t.Ks → (t.put k v).Ks
  | leaf a b, h => by unfold put; split; exact ⟨hk, h⟩; split; exact ⟨h, hk⟩; exact hk
  | node l r, h => by unfold put; split; exact bal_Ks (put_Ks hk h.1) h.2; exact bal_Ks h.1 (put_Ks hk h.2)
theorem put_height (k v : List UInt8) : ∀ t : Tr, (t.put k v).height ≤ t.height + 1
  | leaf a b => by unfold put; split; simp [height]; split; simp [height]; simp [height]
  | node l r => by
    have h1 := put_height k v l; have h2 := put_height k v r
    unfold put; split
    · have := bal_height (l.put k v) r; simp only [height]; omega
    · have := bal_height l (r.put k v); simp only [height]; omega
end Tr
noncomputable def c101 : Code := (Tryd.f101.body).getD .skip
theorem putnil_ok (k v : List UInt8) (hk : k.length ≤ 1000) (hv : v.length ≤ 1000) : FOk EN 101 ⟨[.pr wordsP, .rd 5 k, .rd 5 v], [.v (.pointer none), .n 1, .n 2], Unit, fun _ => ([.pr wordsP, .rd 5 k, .rd 5 v, .pn (PT (.leaf k v)) false false], .p 3 0), fun _ => True⟩ := by
 refine v_fun Tryd.f101 c101 MX (fun ν F σ w => ?_) Tryd.func101
 refine v_nl ?_
 refine v_call _ [0, 1, 2] (leaf_ok (k) (v) ‹_› ‹_›) ((wordsP = wordsP) ∧ (k = k) ∧ (v = v)) ⟨rfl, rfl, rfl⟩ (fun g1 p2 => ?_)
 have p2 : True := p2
 exact v_ret () [4] ((wordsP = wordsP) ∧ (k = k) ∧ (v = v) ∧ (PT (Tr.leaf k v) = PT (Tr.leaf k v)) ∧ (false = false)) ⟨rfl, rfl, rfl, rfl, rfl⟩ trivial
theorem put_leaf_aux (k v a b : List UInt8) (hk : k.length ≤ 1000) (hv : v.length ≤ 1000) (hab : (Tr.leaf a b).Ks) : FOk EN 101 ⟨[.pr wordsP, .rd 5 k, .rd 5 v, .pn (PT (.leaf a b)) false false], [.p 3 0, .n 1, .n 2], Unit, fun _ => ([.pr wordsP, .rd 5 k, .rd 5 v, .pn (PT (.leaf a b)) false false, .pn (PT ((Tr.leaf a b).put k v)) false false], .p 4 0), fun _ => True⟩ := by
 refine v_fun Tryd.f101 c101 MX (fun ν F σ w => ?_) Tryd.func101
 refine v_nl ?_
 refine v_if (false) True trivial (fun h1 => ?_) (fun h1 => ?_)
 ·skip
  contradiction
 ·skip
  refine v_open 3 (open_leaf (a) (b)) ((false = false) ∧ (PT (Tr.leaf a b) = PT (Tr.leaf a b))) ⟨rfl, rfl⟩ ?_
  refine v_call _ [1, 5] (bcmp_ok (k) (a)) ((k = k) ∧ (a = a)) ⟨rfl, rfl⟩ (fun g2 p3 => ?_)
  have p3 : True := p3
  refine v_guard 27 (decide ((0 : Int) < (0 : Int))) True trivial (fun h4 => ?_) (fun h4 => ?_)
  ·have h4 := of_decide_eq_true h4
   omega
  ·have h4 := of_decide_eq_false h4
   refine v_if (decide ((0 : Int) < (0 : Int))) True trivial (fun h5 => ?_) (fun h5 => ?_)
   ·have h5 := of_decide_eq_true h5
    omega
   ·have h5 := of_decide_eq_false h5
    refine v_if (decide (Lib.compareBytes k a < 0)) True trivial (fun h6 => ?_) (fun h6 => ?_)
    ·have h6 := of_decide_eq_true h6
     refine v_call _ [0, 1, 2] (leaf_ok (k) (v) ‹_› ‹_›) ((wordsP = wordsP) ∧ (k = k) ∧ (v = v)) ⟨rfl, rfl, rfl⟩ (fun g7 p8 => ?_)
     have p8 : True := p8
     refine v_call _ [0, 7, 3] (inner_ok (Tr.leaf k v) (Tr.leaf a b) (by exact Tr.ok (by first | exact hab | exact ⟨hk, hv⟩) (by simp only [Tr.height]; decide)) (by exact Tr.ok (by first | exact hab | exact ⟨hk, hv⟩) (by simp only [Tr.height]; decide))) ((wordsP = wordsP) ∧ (PT (Tr.leaf k v) = PT (Tr.leaf k v)) ∧ (false = false) ∧ (PLe (PT (Tr.leaf a b)) (PT (Tr.leaf a b))) ∧ (false = false)) ⟨rfl, rfl, rfl, fun _ _ _ h => h, rfl⟩ (fun g9 p10 => ?_)
     have p10 : True := p10
     exact v_ret () [8] ((wordsP = wordsP) ∧ (k = k) ∧ (v = v) ∧ (PLe (PT (Tr.leaf a b)) (PT (Tr.leaf a b))) ∧ (false = false) ∧ (PT ((Tr.leaf k v).node (Tr.leaf a b)) = PT (Tr.put k v (Tr.leaf a b))) ∧ (false = false)) ⟨rfl, rfl, rfl, fun _ _ _ h => h, rfl, (by (simp only [Tr.put]; (repeat first | rw [if_pos (by omega)] | rw [if_neg (by omega)]); done)), rfl⟩ trivial
    ·have h6 := of_decide_eq_false h6
     refine v_if (decide (0 < Lib.compareBytes k a)) True trivial (fun h11 => ?_) (fun h11 => ?_)
     ·have h11 := of_decide_eq_true h11
      refine v_call _ [0, 1, 2] (leaf_ok (k) (v) ‹_› ‹_›) ((wordsP = wordsP) ∧ (k = k) ∧ (v = v)) ⟨rfl, rfl, rfl⟩ (fun g12 p13 => ?_)
      have p13 : True := p13
      refine v_call _ [0, 3, 7] (inner_ok (Tr.leaf a b) (Tr.leaf k v) (by exact Tr.ok (by first | exact hab | exact ⟨hk, hv⟩) (by simp only [Tr.height]; decide)) (by exact Tr.ok (by first | exact hab | exact ⟨hk, hv⟩) (by simp only [Tr.height]; decide))) ((wordsP = wordsP) ∧ (PLe (PT (Tr.leaf a b)) (PT (Tr.leaf a b))) ∧ (false = false) ∧ (PT (Tr.leaf k v) = PT (Tr.leaf k v)) ∧ (false = false)) ⟨rfl, fun _ _ _ h => h, rfl, rfl, rfl⟩ (fun g14 p15 => ?_)
      have p15 : True := p15
      exact v_ret () [8] ((wordsP = wordsP) ∧ (k = k) ∧ (v = v) ∧ (PLe (PT (Tr.leaf a b)) (PT (Tr.leaf a b))) ∧ (false = false) ∧ (PT ((Tr.leaf a b).node (Tr.leaf k v)) = PT (Tr.put k v (Tr.leaf a b))) ∧ (false = false)) ⟨rfl, rfl, rfl, fun _ _ _ h => h, rfl, (by (simp only [Tr.put]; (repeat first | rw [if_pos (by omega)] | rw [if_neg (by omega)]); done)), rfl⟩ trivial
     ·have h11 := of_decide_eq_false h11
      refine v_call _ [0, 1, 2] (leaf_ok (k) (v) ‹_› ‹_›) ((wordsP = wordsP) ∧ (k = k) ∧ (v = v)) ⟨rfl, rfl, rfl⟩ (fun g16 p17 => ?_)
      have p17 : True := p17
      exact v_ret () [7] ((wordsP = wordsP) ∧ (k = k) ∧ (v = v) ∧ (PLe (PT (Tr.leaf a b)) (PT (Tr.leaf a b))) ∧ (false = false) ∧ (PT (Tr.leaf k v) = PT (Tr.put k v (Tr.leaf a b))) ∧ (false = false)) ⟨rfl, rfl, rfl, fun _ _ _ h => h, rfl, (by (simp only [Tr.put]; (repeat first | rw [if_pos (by omega)] | rw [if_neg (by omega)]); done)), rfl⟩ trivial
theorem put_node_aux (k v : List UInt8) (l r : Tr) (hk : k.length ≤ 1000) (hv : v.length ≤ 1000) (hlr : (Tr.node l r).Ks) (hh : (Tr.node l r).height < 700) (hpos : 0 < (Tr.node l r).height)
  (ihl : FOk EN 101 ⟨[.pr wordsP, .rd 5 k, .rd 5 v, .pn (PT l) false false], [.p 3 0, .n 1, .n 2], Unit, fun _ => ([.pr wordsP, .rd 5 k, .rd 5 v, .pn (PT l) false false, .pn (PT (l.put k v)) false false], .p 4 0), fun _ => True⟩)
  (ihr : FOk EN 101 ⟨[.pr wordsP, .rd 5 k, .rd 5 v, .pn (PT r) false false], [.p 3 0, .n 1, .n 2], Unit, fun _ => ([.pr wordsP, .rd 5 k, .rd 5 v, .pn (PT r) false false, .pn (PT (r.put k v)) false false], .p 4 0), fun _ => True⟩) :
  FOk EN 101 ⟨[.pr wordsP, .rd 5 k, .rd 5 v, .pn (PT (.node l r)) false false], [.p 3 0, .n 1, .n 2], Unit, fun _ => ([.pr wordsP, .rd 5 k, .rd 5 v, .pn (PT (.node l r)) false false, .pn (PT ((Tr.node l r).put k v)) false false], .p 4 0), fun _ => True⟩ := by
 refine v_fun Tryd.f101 c101 MX (fun ν F σ w => ?_) Tryd.func101
 refine v_nl ?_
 refine v_if (false) True trivial (fun h1 => ?_) (fun h1 => ?_)
 ·skip
  contradiction
 ·skip
  refine v_open 3 (open_node (l) (r)) ((false = false) ∧ (PT (l.node r) = PT (l.node r))) ⟨rfl, rfl⟩ ?_
  refine v_call _ [1, 5] (bcmp_ok (k) ((l.node r).key)) ((k = k) ∧ ((l.node r).key = (l.node r).key)) ⟨rfl, rfl⟩ (fun g2 p3 => ?_)
  have p3 : True := p3
  refine v_guard 27 (decide (0 < (l.node r).height)) True trivial (fun h4 => ?_) (fun h4 => ?_)
  ·have h4 := of_decide_eq_true h4
   refine v_if (decide (Lib.compareBytes k (l.node r).key < 0)) True trivial (fun h5 => ?_) (fun h5 => ?_)
   ·have h5 := of_decide_eq_true h5
    refine v_plan (.fs [0, 1, 2, 3, 4, 5, 7, 8, 9, 10] (.o 6 (.o 11 (.fs [12] .e)))) [] True trivial ?_
    refine v_call _ [0, 1, 2, 6] (ihl) ((wordsP = wordsP) ∧ (k = k) ∧ (v = v) ∧ (PT l = PT l) ∧ (false = false)) ⟨rfl, rfl, rfl, rfl, rfl⟩ (fun g6 p7 => ?_)
    have p7 : True := p7
    refine v_call _ [0, 8, 7] (bal_ok (Tr.put k v l) (r) (by exact Tr.put_Ks ⟨hk, hv⟩ hlr.1) (by exact hlr.2) (by (have h1 := Tr.put_height k v l; have h2 := Tr.put_height k v r; simp only [Tr.height] at hh; omega)) (by (have h1 := Tr.put_height k v l; have h2 := Tr.put_height k v r; simp only [Tr.height] at hh; omega))) ((wordsP = wordsP) ∧ (PT (Tr.put k v l) = PT (Tr.put k v l)) ∧ (false = false) ∧ (PT r = PT r) ∧ (false = false)) ⟨rfl, rfl, rfl, rfl, rfl⟩ (fun g8 p9 => ?_)
    have p9 : True := p9
    exact v_ret () [9] ((wordsP = wordsP) ∧ (k = k) ∧ (v = v) ∧ (PLe (PT (l.node r)) (PT (l.node r))) ∧ (false = false) ∧ (PT ((Tr.put k v l).bal r) = PT (Tr.put k v (l.node r))) ∧ (false = false)) ⟨rfl, rfl, rfl, fun _ _ _ h => h, rfl, (by exact congrArg PT (Eq.symm (by rw [Tr.put]; first | exact if_pos ‹_› | exact if_neg ‹_›))), rfl⟩ trivial
   ·have h5 := of_decide_eq_false h5
    refine v_if (decide (0 < (l.node r).height)) True trivial (fun h10 => ?_) (fun h10 => ?_)
    ·have h10 := of_decide_eq_true h10
     refine v_plan (.fs [0, 1, 2, 3, 4, 5, 6, 7, 8, 9] (.o 10 (.o 11 (.fs [12] .e)))) [] True trivial ?_
     refine v_call _ [0, 1, 2, 7] (ihr) ((wordsP = wordsP) ∧ (k = k) ∧ (v = v) ∧ (PT r = PT r) ∧ (false = false)) ⟨rfl, rfl, rfl, rfl, rfl⟩ (fun g11 p12 => ?_)
     have p12 : True := p12
     refine v_call _ [0, 6, 8] (bal_ok (l) (Tr.put k v r) (by exact hlr.1) (by exact Tr.put_Ks ⟨hk, hv⟩ hlr.2) (by (have h1 := Tr.put_height k v l; have h2 := Tr.put_height k v r; simp only [Tr.height] at hh; omega)) (by (have h1 := Tr.put_height k v l; have h2 := Tr.put_height k v r; simp only [Tr.height] at hh; omega))) ((wordsP = wordsP) ∧ (PT l = PT l) ∧ (false = false) ∧ (PT (Tr.put k v r) = PT (Tr.put k v r)) ∧ (false = false)) ⟨rfl, rfl, rfl, rfl, rfl⟩ (fun g13 p14 => ?_)
     have p14 : True := p14
     exact v_ret () [9] ((wordsP = wordsP) ∧ (k = k) ∧ (v = v) ∧ (PLe (PT (l.node r)) (PT (l.node r))) ∧ (false = false) ∧ (PT (l.bal (Tr.put k v r)) = PT (Tr.put k v (l.node r))) ∧ (false = false)) ⟨rfl, rfl, rfl, fun _ _ _ h => h, rfl, (by exact congrArg PT (Eq.symm (by rw [Tr.put]; first | exact if_pos ‹_› | exact if_neg ‹_›))), rfl⟩ trivial
    ·have h10 := of_decide_eq_false h10
     omega
  ·have h4 := of_decide_eq_false h4
   omega
theorem tput_ok (k v : List UInt8) (hk : k.length ≤ 1000) (hv : v.length ≤ 1000) : ∀ (t : Tr), t.Ks → t.height < 700 → FOk EN 101 ⟨[.pr wordsP, .rd 5 k, .rd 5 v, .pn (PT t) false false], [.p 3 0, .n 1, .n 2], Unit, fun _ => ([.pr wordsP, .rd 5 k, .rd 5 v, .pn (PT t) false false, .pn (PT (t.put k v)) false false], .p 4 0), fun _ => True⟩
  | .leaf a b, h, _ => put_leaf_aux k v a b hk hv h
  | .node l r, h, hh => put_node_aux k v l r hk hv h hh (by have h1 := l.height_nn; have h2 := r.height_nn; simp only [Tr.height]; omega) (tput_ok k v hk hv l h.1 (by simp only [Tr.height] at hh; omega)) (tput_ok k v hk hv r h.2 (by simp only [Tr.height] at hh; omega))
namespace Tr
def leaves : Tr → List Pair
  | leaf k v => [⟨k, v⟩]
  | node l r => l.leaves ++ r.leaves
end Tr
noncomputable def c104 : Code := (Tryd.f104.body).getD .skip
theorem walk_leaf_aux (a b : List UInt8) (xs : List Pair) (hab : (Tr.leaf a b).Ks) (hx : xs.length ≤ 900000) : FOk EN 104 ⟨[.pn (PT (.leaf a b)) false false, .ow 46 xs], [.p 0 0, .n 1], Unit, fun _ => ([.pn (PT (.leaf a b)) false false, .no, .ow 46 (xs ++ (Tr.leaf a b).leaves)], .n 2), fun _ => True⟩ := by
 refine v_fun Tryd.f104 c104 MX (fun ν F σ w => ?_) Tryd.func104
 refine v_nl ?_
 refine v_if (false) True trivial (fun h1 => ?_) (fun h1 => ?_)
 ·skip
  contradiction
 ·skip
  refine v_open 0 (open_leaf (a) (b)) ((false = false) ∧ (PT (Tr.leaf a b) = PT (Tr.leaf a b))) ⟨rfl, rfl⟩ ?_
  refine v_if (decide ((0 : Int) = (0 : Int))) True trivial (fun h2 => ?_) (fun h2 => ?_)
  ·have h2 := of_decide_eq_true h2
   refine v_plan (.fs [0, 1, 2, 3, 4, 5, 7, 8, 9, 10, 11] (.o 6 (.o 12 (.fs [13] (.o 14 (.o 15 (.fs [16] .e))))))) [] True trivial ?_
   refine v_call _ [3] (clone_ok (a) (by (have h1 := hab; simp only [Tr.Ks] at h1; omega))) ((a = a)) rfl (fun g3 p4 => ?_)
   have p4 : True := p4
   refine v_call _ [4] (clone_ok (b) (by (have h1 := hab; simp only [Tr.Ks] at h1; omega))) ((b = b)) rfl (fun g5 p6 => ?_)
   have p6 : True := p6
   exact v_ret () [8] ((xs.length + 1 ≤ 1000000) ∧ (PLe (PT (Tr.leaf a b)) (PT (Tr.leaf a b))) ∧ (false = false) ∧ (xs ++ [Pair.mk a b] = xs ++ (Tr.leaf a b).leaves)) ⟨(by omega), fun _ _ _ h => h, rfl, rfl⟩ trivial
  ·have h2 := of_decide_eq_false h2
   omega
theorem walk_node_aux (l r : Tr) (xs : List Pair) (hpos : 0 < (Tr.node l r).height)
  (ihl : FOk EN 104 ⟨[.pn (PT l) false false, .ow 46 xs], [.p 0 0, .n 1], Unit, fun _ => ([.pn (PT l) false false, .no, .ow 46 (xs ++ l.leaves)], .n 2), fun _ => True⟩)
  (ihr : FOk EN 104 ⟨[.pn (PT r) false false, .ow 46 (xs ++ l.leaves)], [.p 0 0, .n 1], Unit, fun _ => ([.pn (PT r) false false, .no, .ow 46 (xs ++ l.leaves ++ r.leaves)], .n 2), fun _ => True⟩) :
  FOk EN 104 ⟨[.pn (PT (.node l r)) false false, .ow 46 xs], [.p 0 0, .n 1], Unit, fun _ => ([.pn (PT (.node l r)) false false, .no, .ow 46 (xs ++ (Tr.node l r).leaves)], .n 2), fun _ => True⟩ := by
 refine v_fun Tryd.f104 c104 MX (fun ν F σ w => ?_) Tryd.func104
 refine v_nl ?_
 refine v_if (false) True trivial (fun h1 => ?_) (fun h1 => ?_)
 ·skip
  contradiction
 ·skip
  refine v_open 0 (open_node (l) (r)) ((false = false) ∧ (PT (l.node r) = PT (l.node r))) ⟨rfl, rfl⟩ ?_
  refine v_if (decide ((l.node r).height = 0)) True trivial (fun h2 => ?_) (fun h2 => ?_)
  ·have h2 := of_decide_eq_true h2
   omega
  ·have h2 := of_decide_eq_false h2
   refine v_plan (.fs [0, 1, 2, 3, 4, 5, 6, 7, 8] (.o 9 (.o 10 (.fs [11] .e)))) [] True trivial ?_
   refine v_call _ [4, 1] (ihl) ((PT l = PT l) ∧ (false = false) ∧ (xs = xs)) ⟨rfl, rfl, rfl⟩ (fun g3 p4 => ?_)
   have p4 : True := p4
   refine v_call _ [5, 6] (ihr) ((PT r = PT r) ∧ (false = false) ∧ (xs ++ l.leaves = xs ++ l.leaves)) ⟨rfl, rfl, rfl⟩ (fun g5 p6 => ?_)
   have p6 : True := p6
   exact v_ret () [7] ((PLe (PT (l.node r)) (PT (l.node r))) ∧ (false = false) ∧ (xs ++ l.leaves ++ r.leaves = xs ++ (l.node r).leaves)) ⟨fun _ _ _ h => h, rfl, (by exact (List.append_assoc ..))⟩ trivial
theorem walk_ok : ∀ (t : Tr) (xs : List Pair), t.Ks → xs.length + t.leaves.length ≤ 900000 → FOk EN 104 ⟨[.pn (PT t) false false, .ow 46 xs], [.p 0 0, .n 1], Unit, fun _ => ([.pn (PT t) false false, .no, .ow 46 (xs ++ t.leaves)], .n 2), fun _ => True⟩
  | .leaf a b, xs, h, hx => walk_leaf_aux a b xs h (by omega)
  | .node l r, xs, h, hx => by
    have e : (Tr.node l r).leaves.length = l.leaves.length + r.leaves.length := by simp [Tr.leaves]
    exact walk_node_aux l r xs (by have h1 := l.height_nn; have h2 := r.height_nn; simp only [Tr.height]; omega) (walk_ok l xs h.1 (by omega)) (walk_ok r _ h.2 (by simp only [List.length_append]; omega))
namespace Tr
/-- Without a key: none: it isn't there. -/
def cut (k : List UInt8) : Tr → Option (Option Tr)
  | leaf a b => if a = k then some none else none
  | node l r => if Lib.compareBytes k r.least < 0 then match l.cut k with
      | none => none
      | some none => some (some r)
      | some (some l') => some (some (l'.bal r))
    else match r.cut k with
      | none => none
      | some none => some (some l)
      | some (some r') => some (some (l.bal r'))
end Tr
noncomputable def c105 : Code := (Tryd.f105.body).getD .skip
theorem cut1_aux (k : List UInt8) (a b : List UInt8) (h : ¬ a = k) : FOk EN 105 ⟨[.pr wordsP, .rd 5 k, .pn (PT (.leaf a b)) false false], [.p 2 0, .n 1], Unit, fun _ => ([.pr wordsP, .rd 5 k, .pn (PT (.leaf a b)) false false], .t [.p 2 0, .b false]), fun _ => True⟩ := by
 refine v_fun Tryd.f105 c105 MX (fun ν F σ w => ?_) Tryd.func105
 refine v_nl ?_
 refine v_guard 11 (false) True trivial (fun h1 => ?_) (fun h1 => ?_)
 ·skip
  contradiction
 ·skip
  refine v_open 2 (open_leaf (a) (b)) ((false = false) ∧ (PT (Tr.leaf a b) = PT (Tr.leaf a b))) ⟨rfl, rfl⟩ ?_
  refine v_guard 18 (decide ((0 : Int) = (0 : Int))) True trivial (fun h2 => ?_) (fun h2 => ?_)
  ·have h2 := of_decide_eq_true h2
   refine v_call _ [4, 1] (beq_ok (a) (k)) ((a = a) ∧ (k = k)) ⟨rfl, rfl⟩ (fun g3 p4 => ?_)
   have p4 : True := p4
   refine v_if (!decide (a = k)) True trivial (fun h5 => ?_) (fun h5 => ?_)
   ·have h5 := of_decide_eq_false (nt h5)
    exact v_ret () [] ((false = false) ∧ (wordsP = wordsP) ∧ (k = k) ∧ (PLe (PT (Tr.leaf a b)) (PT (Tr.leaf a b))) ∧ (false = false)) ⟨rfl, rfl, rfl, fun _ _ _ h => h, rfl⟩ trivial
   ·have h5 := of_decide_eq_true (nf h5)
    contradiction
  ·have h2 := of_decide_eq_false h2
   omega
theorem cut2_aux (k : List UInt8) (a b : List UInt8) (h : a = k) : FOk EN 105 ⟨[.pr wordsP, .rd 5 k, .pn (PT (.leaf a b)) false false], [.p 2 0, .n 1], Unit, fun _ => ([.pr wordsP, .rd 5 k, .pn (PT (.leaf a b)) false false], .t [.v (.pointer none), .b true]), fun _ => True⟩ := by
 refine v_fun Tryd.f105 c105 MX (fun ν F σ w => ?_) Tryd.func105
 refine v_nl ?_
 refine v_guard 11 (false) True trivial (fun h1 => ?_) (fun h1 => ?_)
 ·skip
  contradiction
 ·skip
  refine v_open 2 (open_leaf (a) (b)) ((false = false) ∧ (PT (Tr.leaf a b) = PT (Tr.leaf a b))) ⟨rfl, rfl⟩ ?_
  refine v_guard 18 (decide ((0 : Int) = (0 : Int))) True trivial (fun h2 => ?_) (fun h2 => ?_)
  ·have h2 := of_decide_eq_true h2
   refine v_call _ [4, 1] (beq_ok (a) (k)) ((a = a) ∧ (k = k)) ⟨rfl, rfl⟩ (fun g3 p4 => ?_)
   have p4 : True := p4
   refine v_if (!decide (a = k)) True trivial (fun h5 => ?_) (fun h5 => ?_)
   ·have h5 := of_decide_eq_false (nt h5)
    contradiction
   ·have h5 := of_decide_eq_true (nf h5)
    refine v_if (decide ((0 : Int) = (0 : Int))) True trivial (fun h6 => ?_) (fun h6 => ?_)
    ·have h6 := of_decide_eq_true h6
     exact v_ret () [] ((Value.pointer none = Value.pointer none) ∧ (true = true) ∧ (wordsP = wordsP) ∧ (k = k) ∧ (PLe (PT (Tr.leaf a b)) (PT (Tr.leaf a b))) ∧ (false = false)) ⟨rfl, rfl, rfl, rfl, fun _ _ _ h => h, rfl⟩ trivial
    ·have h6 := of_decide_eq_false h6
     omega
  ·have h2 := of_decide_eq_false h2
   omega
theorem cut3_aux (k : List UInt8) (l r : Tr) (hpos : 0 < (Tr.node l r).height) (hc : Lib.compareBytes k (Tr.node l r).key < 0) (ih : FOk EN 105 ⟨[.pr wordsP, .rd 5 k, .pn (PT l) false false], [.p 2 0, .n 1], Unit, fun _ => ([.pr wordsP, .rd 5 k, .pn (PT l) false false], .t [.p 2 0, .b false]), fun _ => True⟩) : FOk EN 105 ⟨[.pr wordsP, .rd 5 k, .pn (PT (.node l r)) false false], [.p 2 0, .n 1], Unit, fun _ => ([.pr wordsP, .rd 5 k, .pn (PT (.node l r)) false false], .t [.p 2 0, .b false]), fun _ => True⟩ := by
 refine v_fun Tryd.f105 c105 MX (fun ν F σ w => ?_) Tryd.func105
 refine v_nl ?_
 refine v_guard 11 (false) True trivial (fun h1 => ?_) (fun h1 => ?_)
 ·skip
  contradiction
 ·skip
  refine v_open 2 (open_node (l) (r)) ((false = false) ∧ (PT (l.node r) = PT (l.node r))) ⟨rfl, rfl⟩ ?_
  refine v_guard 18 (decide ((l.node r).height = 0)) True trivial (fun h2 => ?_) (fun h2 => ?_)
  ·have h2 := of_decide_eq_true h2
   omega
  ·have h2 := of_decide_eq_false h2
   refine v_if (decide ((l.node r).height = 0)) True trivial (fun h3 => ?_) (fun h3 => ?_)
   ·have h3 := of_decide_eq_true h3
    omega
   ·have h3 := of_decide_eq_false h3
    refine v_plan (.fs [0, 1, 2, 3, 4, 5, 6, 7, 8, 9, 10] .e) [] True trivial ?_
    refine v_call _ [1, 4] (bcmp_ok (k) ((l.node r).key)) ((k = k) ∧ ((l.node r).key = (l.node r).key)) ⟨rfl, rfl⟩ (fun g4 p5 => ?_)
    have p5 : True := p5
    refine v_if (decide (Lib.compareBytes k (l.node r).key < 0)) True trivial (fun h6 => ?_) (fun h6 => ?_)
    ·have h6 := of_decide_eq_true h6
     refine v_call _ [0, 1, 5] (ih) ((wordsP = wordsP) ∧ (k = k) ∧ (PT l = PT l) ∧ (false = false)) ⟨rfl, rfl, rfl, rfl⟩ (fun g7 p8 => ?_)
     have p8 : True := p8
     refine v_if (!false) True trivial (fun h9 => ?_) (fun h9 => ?_)
     ·have h9 := (nt h9)
      exact v_ret () [] ((false = false) ∧ (wordsP = wordsP) ∧ (k = k) ∧ (PLe (PT (l.node r)) (PT (l.node r))) ∧ (false = false)) ⟨rfl, rfl, rfl, fun _ _ _ h => h, rfl⟩ trivial
     ·have h9 := (nf h9)
      contradiction
    ·have h6 := of_decide_eq_false h6
     omega
theorem cut4_aux (k : List UInt8) (l r : Tr) (hpos : 0 < (Tr.node l r).height) (hc : Lib.compareBytes k (Tr.node l r).key < 0) (ih : FOk EN 105 ⟨[.pr wordsP, .rd 5 k, .pn (PT l) false false], [.p 2 0, .n 1], Unit, fun _ => ([.pr wordsP, .rd 5 k, .pn (PT l) false false], .t [.v (.pointer none), .b true]), fun _ => True⟩) : FOk EN 105 ⟨[.pr wordsP, .rd 5 k, .pn (PT (.node l r)) false false], [.p 2 0, .n 1], Unit, fun _ => ([.pr wordsP, .rd 5 k, .pn (PT (.node l r)) false false, .pn (PT r) false false], .t [.p 3 0, .b true]), fun _ => True⟩ := by
 refine v_fun Tryd.f105 c105 MX (fun ν F σ w => ?_) Tryd.func105
 refine v_nl ?_
 refine v_guard 11 (false) True trivial (fun h1 => ?_) (fun h1 => ?_)
 ·skip
  contradiction
 ·skip
  refine v_open 2 (open_node (l) (r)) ((false = false) ∧ (PT (l.node r) = PT (l.node r))) ⟨rfl, rfl⟩ ?_
  refine v_guard 18 (decide ((l.node r).height = 0)) True trivial (fun h2 => ?_) (fun h2 => ?_)
  ·have h2 := of_decide_eq_true h2
   omega
  ·have h2 := of_decide_eq_false h2
   refine v_if (decide ((l.node r).height = 0)) True trivial (fun h3 => ?_) (fun h3 => ?_)
   ·have h3 := of_decide_eq_true h3
    omega
   ·have h3 := of_decide_eq_false h3
    refine v_plan (.fs [0, 1, 2, 3, 4, 5, 6, 7, 8, 9, 10] .e) [] True trivial ?_
    refine v_call _ [1, 4] (bcmp_ok (k) ((l.node r).key)) ((k = k) ∧ ((l.node r).key = (l.node r).key)) ⟨rfl, rfl⟩ (fun g4 p5 => ?_)
    have p5 : True := p5
    refine v_if (decide (Lib.compareBytes k (l.node r).key < 0)) True trivial (fun h6 => ?_) (fun h6 => ?_)
    ·have h6 := of_decide_eq_true h6
     refine v_call _ [0, 1, 5] (ih) ((wordsP = wordsP) ∧ (k = k) ∧ (PT l = PT l) ∧ (false = false)) ⟨rfl, rfl, rfl, rfl⟩ (fun g7 p8 => ?_)
     have p8 : True := p8
     refine v_if (!true) True trivial (fun h9 => ?_) (fun h9 => ?_)
     ·have h9 := (nt h9)
      contradiction
     ·have h9 := (nf h9)
      exact v_ret () [6] ((true = true) ∧ (wordsP = wordsP) ∧ (k = k) ∧ (PLe (PT (l.node r)) (PT (l.node r))) ∧ (false = false) ∧ (PT r = PT r) ∧ (false = false)) ⟨rfl, rfl, rfl, fun _ _ _ h => h, rfl, rfl, rfl⟩ trivial
    ·have h6 := of_decide_eq_false h6
     omega
theorem cut5_aux (k : List UInt8) (l r l2 : Tr) (hpos : 0 < (Tr.node l r).height) (hc : Lib.compareBytes k (Tr.node l r).key < 0) (h1 : l2.Ks) (h2 : r.Ks) (h3 : l2.height < 800) (h4 : r.height < 800) (ih : FOk EN 105 ⟨[.pr wordsP, .rd 5 k, .pn (PT l) false false], [.p 2 0, .n 1], Unit, fun _ => ([.pr wordsP, .rd 5 k, .pn (PT l) false false, .pn (PT l2) false false], .t [.p 3 0, .b true]), fun _ => True⟩) : FOk EN 105 ⟨[.pr wordsP, .rd 5 k, .pn (PT (.node l r)) false false], [.p 2 0, .n 1], Unit, fun _ => ([.pr wordsP, .rd 5 k, .pn (PT (.node l r)) false false, .pn (PT (l2.bal r)) false false], .t [.p 3 0, .b true]), fun _ => True⟩ := by
 refine v_fun Tryd.f105 c105 MX (fun ν F σ w => ?_) Tryd.func105
 refine v_nl ?_
 refine v_guard 11 (false) True trivial (fun h1 => ?_) (fun h1 => ?_)
 ·skip
  contradiction
 ·skip
  refine v_open 2 (open_node (l) (r)) ((false = false) ∧ (PT (l.node r) = PT (l.node r))) ⟨rfl, rfl⟩ ?_
  refine v_guard 18 (decide ((l.node r).height = 0)) True trivial (fun h2 => ?_) (fun h2 => ?_)
  ·have h2 := of_decide_eq_true h2
   omega
  ·have h2 := of_decide_eq_false h2
   refine v_if (decide ((l.node r).height = 0)) True trivial (fun h3 => ?_) (fun h3 => ?_)
   ·have h3 := of_decide_eq_true h3
    omega
   ·have h3 := of_decide_eq_false h3
    refine v_plan (.fs [0, 1, 2, 3, 4, 5, 6, 7, 8, 9, 10] .e) [] True trivial ?_
    refine v_call _ [1, 4] (bcmp_ok (k) ((l.node r).key)) ((k = k) ∧ ((l.node r).key = (l.node r).key)) ⟨rfl, rfl⟩ (fun g4 p5 => ?_)
    have p5 : True := p5
    refine v_if (decide (Lib.compareBytes k (l.node r).key < 0)) True trivial (fun h6 => ?_) (fun h6 => ?_)
    ·have h6 := of_decide_eq_true h6
     refine v_call _ [0, 1, 5] (ih) ((wordsP = wordsP) ∧ (k = k) ∧ (PT l = PT l) ∧ (false = false)) ⟨rfl, rfl, rfl, rfl⟩ (fun g7 p8 => ?_)
     have p8 : True := p8
     refine v_if (!true) True trivial (fun h9 => ?_) (fun h9 => ?_)
     ·have h9 := (nt h9)
      contradiction
     ·have h9 := (nf h9)
      refine v_if (false) True trivial (fun h10 => ?_) (fun h10 => ?_)
      ·skip
       contradiction
      ·skip
       refine v_if (false) True trivial (fun h11 => ?_) (fun h11 => ?_)
       ·skip
        contradiction
       ·skip
        refine v_call _ [0, 7, 6] (bal_ok (l2) (r) ‹_› ‹_› ‹_› ‹_›) ((wordsP = wordsP) ∧ (PT l2 = PT l2) ∧ (false = false) ∧ (PT r = PT r) ∧ (false = false)) ⟨rfl, rfl, rfl, rfl, rfl⟩ (fun g12 p13 => ?_)
        have p13 : True := p13
        exact v_ret () [8] ((true = true) ∧ (wordsP = wordsP) ∧ (k = k) ∧ (PLe (PT (l.node r)) (PT (l.node r))) ∧ (false = false) ∧ (PT (l2.bal r) = PT (l2.bal r)) ∧ (false = false)) ⟨rfl, rfl, rfl, fun _ _ _ h => h, rfl, rfl, rfl⟩ trivial
    ·have h6 := of_decide_eq_false h6
     omega
theorem cut6_aux (k : List UInt8) (l r : Tr) (hpos : 0 < (Tr.node l r).height) (hc : ¬ Lib.compareBytes k (Tr.node l r).key < 0) (ih : FOk EN 105 ⟨[.pr wordsP, .rd 5 k, .pn (PT r) false false], [.p 2 0, .n 1], Unit, fun _ => ([.pr wordsP, .rd 5 k, .pn (PT r) false false], .t [.p 2 0, .b false]), fun _ => True⟩) : FOk EN 105 ⟨[.pr wordsP, .rd 5 k, .pn (PT (.node l r)) false false], [.p 2 0, .n 1], Unit, fun _ => ([.pr wordsP, .rd 5 k, .pn (PT (.node l r)) false false], .t [.p 2 0, .b false]), fun _ => True⟩ := by
 refine v_fun Tryd.f105 c105 MX (fun ν F σ w => ?_) Tryd.func105
 refine v_nl ?_
 refine v_guard 11 (false) True trivial (fun h1 => ?_) (fun h1 => ?_)
 ·skip
  contradiction
 ·skip
  refine v_open 2 (open_node (l) (r)) ((false = false) ∧ (PT (l.node r) = PT (l.node r))) ⟨rfl, rfl⟩ ?_
  refine v_guard 18 (decide ((l.node r).height = 0)) True trivial (fun h2 => ?_) (fun h2 => ?_)
  ·have h2 := of_decide_eq_true h2
   omega
  ·have h2 := of_decide_eq_false h2
   refine v_if (decide ((l.node r).height = 0)) True trivial (fun h3 => ?_) (fun h3 => ?_)
   ·have h3 := of_decide_eq_true h3
    omega
   ·have h3 := of_decide_eq_false h3
    refine v_plan (.fs [0, 1, 2, 3, 4, 5, 6, 7, 8, 9, 10] .e) [] True trivial ?_
    refine v_call _ [1, 4] (bcmp_ok (k) ((l.node r).key)) ((k = k) ∧ ((l.node r).key = (l.node r).key)) ⟨rfl, rfl⟩ (fun g4 p5 => ?_)
    have p5 : True := p5
    refine v_if (decide (Lib.compareBytes k (l.node r).key < 0)) True trivial (fun h6 => ?_) (fun h6 => ?_)
    ·have h6 := of_decide_eq_true h6
     omega
    ·have h6 := of_decide_eq_false h6
     refine v_call _ [0, 1, 6] (ih) ((wordsP = wordsP) ∧ (k = k) ∧ (PT r = PT r) ∧ (false = false)) ⟨rfl, rfl, rfl, rfl⟩ (fun g7 p8 => ?_)
     have p8 : True := p8
     refine v_if (!false) True trivial (fun h9 => ?_) (fun h9 => ?_)
     ·have h9 := (nt h9)
      exact v_ret () [] ((false = false) ∧ (wordsP = wordsP) ∧ (k = k) ∧ (PLe (PT (l.node r)) (PT (l.node r))) ∧ (false = false)) ⟨rfl, rfl, rfl, fun _ _ _ h => h, rfl⟩ trivial
     ·have h9 := (nf h9)
      contradiction
theorem cut7_aux (k : List UInt8) (l r : Tr) (hpos : 0 < (Tr.node l r).height) (hc : ¬ Lib.compareBytes k (Tr.node l r).key < 0) (ih : FOk EN 105 ⟨[.pr wordsP, .rd 5 k, .pn (PT r) false false], [.p 2 0, .n 1], Unit, fun _ => ([.pr wordsP, .rd 5 k, .pn (PT r) false false], .t [.v (.pointer none), .b true]), fun _ => True⟩) : FOk EN 105 ⟨[.pr wordsP, .rd 5 k, .pn (PT (.node l r)) false false], [.p 2 0, .n 1], Unit, fun _ => ([.pr wordsP, .rd 5 k, .pn (PT (.node l r)) false false, .pn (PT l) false false], .t [.p 3 0, .b true]), fun _ => True⟩ := by
 refine v_fun Tryd.f105 c105 MX (fun ν F σ w => ?_) Tryd.func105
 refine v_nl ?_
 refine v_guard 11 (false) True trivial (fun h1 => ?_) (fun h1 => ?_)
 ·skip
  contradiction
 ·skip
  refine v_open 2 (open_node (l) (r)) ((false = false) ∧ (PT (l.node r) = PT (l.node r))) ⟨rfl, rfl⟩ ?_
  refine v_guard 18 (decide ((l.node r).height = 0)) True trivial (fun h2 => ?_) (fun h2 => ?_)
  ·have h2 := of_decide_eq_true h2
   omega
  ·have h2 := of_decide_eq_false h2
   refine v_if (decide ((l.node r).height = 0)) True trivial (fun h3 => ?_) (fun h3 => ?_)
   ·have h3 := of_decide_eq_true h3
    omega
   ·have h3 := of_decide_eq_false h3
    refine v_plan (.fs [0, 1, 2, 3, 4, 5, 6, 7, 8, 9, 10] .e) [] True trivial ?_
    refine v_call _ [1, 4] (bcmp_ok (k) ((l.node r).key)) ((k = k) ∧ ((l.node r).key = (l.node r).key)) ⟨rfl, rfl⟩ (fun g4 p5 => ?_)
    have p5 : True := p5
    refine v_if (decide (Lib.compareBytes k (l.node r).key < 0)) True trivial (fun h6 => ?_) (fun h6 => ?_)
    ·have h6 := of_decide_eq_true h6
     omega
    ·have h6 := of_decide_eq_false h6
     refine v_call _ [0, 1, 6] (ih) ((wordsP = wordsP) ∧ (k = k) ∧ (PT r = PT r) ∧ (false = false)) ⟨rfl, rfl, rfl, rfl⟩ (fun g7 p8 => ?_)
     have p8 : True := p8
     refine v_if (!true) True trivial (fun h9 => ?_) (fun h9 => ?_)
     ·have h9 := (nt h9)
      contradiction
     ·have h9 := (nf h9)
      refine v_if (false) True trivial (fun h10 => ?_) (fun h10 => ?_)
      ·skip
       contradiction
      ·skip
       exact v_ret () [5] ((true = true) ∧ (wordsP = wordsP) ∧ (k = k) ∧ (PLe (PT (l.node r)) (PT (l.node r))) ∧ (false = false) ∧ (PT l = PT l) ∧ (false = false)) ⟨rfl, rfl, rfl, fun _ _ _ h => h, rfl, rfl, rfl⟩ trivial
theorem cut8_aux (k : List UInt8) (l r r2 : Tr) (hpos : 0 < (Tr.node l r).height) (hc : ¬ Lib.compareBytes k (Tr.node l r).key < 0) (h1 : l.Ks) (h2 : r2.Ks) (h3 : l.height < 800) (h4 : r2.height < 800) (ih : FOk EN 105 ⟨[.pr wordsP, .rd 5 k, .pn (PT r) false false], [.p 2 0, .n 1], Unit, fun _ => ([.pr wordsP, .rd 5 k, .pn (PT r) false false, .pn (PT r2) false false], .t [.p 3 0, .b true]), fun _ => True⟩) : FOk EN 105 ⟨[.pr wordsP, .rd 5 k, .pn (PT (.node l r)) false false], [.p 2 0, .n 1], Unit, fun _ => ([.pr wordsP, .rd 5 k, .pn (PT (.node l r)) false false, .pn (PT (l.bal r2)) false false], .t [.p 3 0, .b true]), fun _ => True⟩ := by
 refine v_fun Tryd.f105 c105 MX (fun ν F σ w => ?_) Tryd.func105
 refine v_nl ?_
 refine v_guard 11 (false) True trivial (fun h1 => ?_) (fun h1 => ?_)
 ·skip
  contradiction
 ·skip
  refine v_open 2 (open_node (l) (r)) ((false = false) ∧ (PT (l.node r) = PT (l.node r))) ⟨rfl, rfl⟩ ?_
  refine v_guard 18 (decide ((l.node r).height = 0)) True trivial (fun h2 => ?_) (fun h2 => ?_)
  ·have h2 := of_decide_eq_true h2
   omega
  ·have h2 := of_decide_eq_false h2
   refine v_if (decide ((l.node r).height = 0)) True trivial (fun h3 => ?_) (fun h3 => ?_)
   ·have h3 := of_decide_eq_true h3
    omega
   ·have h3 := of_decide_eq_false h3
    refine v_plan (.fs [0, 1, 2, 3, 4, 5, 6, 7, 8, 9, 10] .e) [] True trivial ?_
    refine v_call _ [1, 4] (bcmp_ok (k) ((l.node r).key)) ((k = k) ∧ ((l.node r).key = (l.node r).key)) ⟨rfl, rfl⟩ (fun g4 p5 => ?_)
    have p5 : True := p5
    refine v_if (decide (Lib.compareBytes k (l.node r).key < 0)) True trivial (fun h6 => ?_) (fun h6 => ?_)
    ·have h6 := of_decide_eq_true h6
     omega
    ·have h6 := of_decide_eq_false h6
     refine v_call _ [0, 1, 6] (ih) ((wordsP = wordsP) ∧ (k = k) ∧ (PT r = PT r) ∧ (false = false)) ⟨rfl, rfl, rfl, rfl⟩ (fun g7 p8 => ?_)
     have p8 : True := p8
     refine v_if (!true) True trivial (fun h9 => ?_) (fun h9 => ?_)
     ·have h9 := (nt h9)
      contradiction
     ·have h9 := (nf h9)
      refine v_if (false) True trivial (fun h10 => ?_) (fun h10 => ?_)
      ·skip
       contradiction
      ·skip
       refine v_if (false) True trivial (fun h11 => ?_) (fun h11 => ?_)
       ·skip
        contradiction
       ·skip
        refine v_call _ [0, 5, 7] (bal_ok (l) (r2) ‹_› ‹_› ‹_› ‹_›) ((wordsP = wordsP) ∧ (PT l = PT l) ∧ (false = false) ∧ (PT r2 = PT r2) ∧ (false = false)) ⟨rfl, rfl, rfl, rfl, rfl⟩ (fun g12 p13 => ?_)
        have p13 : True := p13
        exact v_ret () [8] ((true = true) ∧ (wordsP = wordsP) ∧ (k = k) ∧ (PLe (PT (l.node r)) (PT (l.node r))) ∧ (false = false) ∧ (PT (l.bal r2) = PT (l.bal r2)) ∧ (false = false)) ⟨rfl, rfl, rfl, fun _ _ _ h => h, rfl, rfl, rfl⟩ trivial
namespace Tr
theorem cut_Ks {k : List UInt8} : ∀ {t t' : Tr}, t.Ks → t.cut k = some (some t') → t'.Ks
  | leaf a b, t', h, e => by unfold cut at e; split at e <;> simp at e
  | node l r, t', h, e => by
    unfold cut at e
    split at e
    · split at e
      · simp at e
      · simp at e; subst e; exact h.2
      · rename_i l' hl; simp at e; subst e; exact bal_Ks (cut_Ks h.1 hl) h.2
    · split at e
      · simp at e
      · simp at e; subst e; exact h.1
      · rename_i r' hr; simp at e; subst e; exact bal_Ks h.1 (cut_Ks h.2 hr)
theorem cut_height {k : List UInt8} : ∀ {t t' : Tr}, t.cut k = some (some t') → t'.height ≤ t.height
  | leaf a b, t', e => by unfold cut at e; split at e <;> simp at e
  | node l r, t', e => by
    unfold cut at e
    have h1 := l.height_nn; have h2 := r.height_nn
    split at e
    · split at e
      · simp at e
      · simp at e; subst e; simp only [height]; omega
      · rename_i l' hl; simp at e; subst e; have := bal_height l' r; have := cut_height hl; simp only [height]; omega
    · split at e
      · simp at e
      · simp at e; subst e; simp only [height]; omega
      · rename_i r' hr; simp at e; subst e; have := bal_height l r'; have := cut_height hr; simp only [height]; omega
end Tr
theorem tcut (k : List UInt8) : ∀ (t : Tr), t.Ks → t.height < 700 →
    (t.cut k = none → FOk EN 105 ⟨[.pr wordsP, .rd 5 (k), .pn (PT (t)) false false], [.p 2 0, .n 1], Unit, fun _ => ([.pr wordsP, .rd 5 (k), .pn (PT (t)) false false], .t [.p 2 0, .b false]), fun _ => True⟩) ∧
    (t.cut k = some none → FOk EN 105 ⟨[.pr wordsP, .rd 5 (k), .pn (PT (t)) false false], [.p 2 0, .n 1], Unit, fun _ => ([.pr wordsP, .rd 5 (k), .pn (PT (t)) false false], .t [.v (.pointer none), .b true]), fun _ => True⟩) ∧
    (∀ t', t.cut k = some (some t') → FOk EN 105 ⟨[.pr wordsP, .rd 5 (k), .pn (PT (t)) false false], [.p 2 0, .n 1], Unit, fun _ => ([.pr wordsP, .rd 5 (k), .pn (PT (t)) false false, .pn (PT (t')) false false], .t [.p 3 0, .b true]), fun _ => True⟩)
  | .leaf a b, _, _ => by
    unfold Tr.cut
    refine ⟨fun h => cut1_aux k a b ?_, fun h => cut2_aux k a b ?_, fun t' h => ?_⟩
    · split at h <;> simp_all
    · split at h <;> simp_all
    · split at h <;> simp at h
  | .node l r, hk, hh => by
    have h1 := l.height_nn; have h2 := r.height_nn
    have hpos : 0 < (Tr.node l r).height := by simp only [Tr.height]; omega
    have hl : l.height < 700 := by simp only [Tr.height] at hh; omega
    have hr : r.height < 700 := by simp only [Tr.height] at hh; omega
    obtain ⟨l1, l2, l3⟩ := tcut k l hk.1 hl
    obtain ⟨r1, r2, r3⟩ := tcut k r hk.2 hr
    unfold Tr.cut
    by_cases hc : Lib.compareBytes k r.least < 0
    · rw [if_pos hc]
      cases e : l.cut k with
      | none => exact ⟨fun _ => cut3_aux k l r hpos hc (l1 e), fun h => by simp at h, fun t' h => by simp at h⟩
      | some o => cases o with
        | none => refine ⟨fun h => by simp at h, fun h => by simp at h, fun t' h => ?_⟩; simp at h; subst h; exact cut4_aux k l r hpos hc (l2 e)
        | some x =>
          refine ⟨fun h => by simp at h, fun h => by simp at h, fun t' h => ?_⟩; simp at h; subst h
          exact cut5_aux k l r x hpos hc (Tr.cut_Ks hk.1 e) hk.2 (by have := Tr.cut_height e; omega) (by omega) (l3 x e)
    · rw [if_neg hc]
      cases e : r.cut k with
      | none => exact ⟨fun _ => cut6_aux k l r hpos hc (r1 e), fun h => by simp at h, fun t' h => by simp at h⟩
      | some o => cases o with
        | none => refine ⟨fun h => by simp at h, fun h => by simp at h, fun t' h => ?_⟩; simp at h; subst h; exact cut7_aux k l r hpos hc (r2 e)
        | some x =>
          refine ⟨fun h => by simp at h, fun h => by simp at h, fun t' h => ?_⟩; simp at h; subst h
          exact cut8_aux k l r x hpos hc hk.1 (Tr.cut_Ks hk.2 e) (by omega) (by have := Tr.cut_height e; omega) (r3 x e)
def PTOh (σ : Nat → Nat) (w : World) : Option Tr → Value → Prop
  | none, v => ∃ b o, v = .pointer (some ⟨b, o, none⟩) ∧ Seg σ w b o [.pointer none]
  | some t, v => ∃ b o x, v = .pointer (some ⟨b, o, none⟩) ∧ Seg σ w b o [x] ∧ At σ w t x
def PTO (t : Option Tr) : PP := ⟨fun σ w v => PTOh σ w t v, fun {M σ w σ' w' v} st h => by
  cases t with
  | none => obtain ⟨b, o, e, hs⟩ := h; exact ⟨b, o, e, hs.step st⟩
  | some t => obtain ⟨b, o, x, e, hs, ha⟩ := h; exact ⟨b, o, x, e, hs.step st, ha.step st⟩⟩
theorem open_tn : Opens (G := GT) (PTO none) (fun _ => []) (fun _ => [.v (.pointer none)]) := by
  rintro base σ w x ⟨b, o, e, h⟩
  refine ⟨fun _ => .bool false, fun _ => rfl, fun ν hν => ⟨fun i en hi => by simp at hi, b, o, e, ?_⟩⟩
  simpa [denC, den] using h
theorem open_ts (t : Tr) : Opens (G := GT) (PTO (some t)) (fun _ => [.pn (PT (t)) false false]) (fun b => [.p b 0]) := by
  rintro base σ w x ⟨b, o, y, e, h, ha⟩
  obtain ⟨yb, yo, ye⟩ := ha.ptr
  refine ⟨fun n => if n = 0 then y else .bool false, fun n => by dsimp only; split; rw [ye]; rfl; rfl, fun ν hν => ⟨fun i en hi => ?_, b, o, e, ?_⟩⟩
  · match i, hi with
    | 0, hi => simp only [List.getElem?_cons_zero, Option.some.injEq] at hi; subst hi; exact ⟨ha, by simp, fun _ => ⟨yb, yo, ye⟩⟩
    | i + 1, hi => simp at hi
  · have e0 := hν 0 (by simp)
    simp only [Nat.add_zero, if_true] at e0
    subst ye
    simpa [denC, den, e0, padd] using h
theorem close_tn : Closes (G := GT) (PTO none) [] [.v (.pointer none)] := by
  intro ν σ w x b hE e hS
  exact ⟨b, 0, e, by simpa [denC, den] using hS⟩
theorem close_ts (t : Tr) : Closes (G := GT) (PTO (some t)) [.pn (PT (t)) false false] [.p 0 0] := by
  intro ν σ w x b hE e hS
  have h0 := (hE 0 _ rfl).1
  obtain ⟨yb, yo, ye⟩ := At.ptr h0
  refine ⟨b, 0, ν 0, e, ?_, h0⟩
  rw [ye]
  simpa [denC, den, ye, padd] using hS
theorem al_ptr (p : PP) : AlOk (G := GT) p false false [.pn p false false] (.p 0 0) := fun ν σ w h => by
  obtain ⟨h1, _, h2⟩ := h 0 _ rfl
  obtain ⟨b, o, e⟩ := h2 rfl
  have e2 : den ν (.p 0 0) = ν 0 := by simp only [den, e, padd, Nat.add_zero]
  rw [e2]; exact ⟨h1, fun h => by simp at h, fun _ => ⟨b, o, e⟩⟩
def okO (o : Option Tr) : Prop := ∀ t, o = some t → t.Ks ∧ t.height < 700 ∧ t.depth ≤ 100000
def putO (k v : List UInt8) : Option Tr → Option Tr
  | none => some (.leaf k v)
  | some t => some (t.put k v)
def cutO (k : List UInt8) : Option Tr → Option Tr
  | none => none
  | some t => match t.cut k with | none => some t | some r => r
def wasO (k : List UInt8) : Option Tr → Bool
  | none => false
  | some t => (t.cut k).isSome
def hashO : Option Tr → List UInt8
  | none => sum256 []
  | some t => t.hash
def leavesO : Option Tr → List Pair
  | none => []
  | some t => t.leaves
noncomputable def ccB8_18 : Code := (Tryd.f18.body).getD .skip
theorem new_ok : FOk EN 18 ⟨[.pr wordsP], [], Unit, fun _ => ([.pr wordsP, .pn (PTO none) false false], .p 1 0), fun _ => True⟩ := by
 refine v_fun Tryd.f18 ccB8_18 MX (fun ν F σ w => ?_) Tryd.func18
 refine v_nl ?_
 refine v_close 2 [] (close_tn) ((Value.pointer none = Value.pointer none)) rfl ?_
 exact v_ret () [2] ((wordsP = wordsP) ∧ (PLe (PTO none) (PTO none)) ∧ (false = false)) ⟨rfl, fun _ _ _ h => h, rfl⟩ trivial
noncomputable def ccB8_57 : Code := (Tryd.f57.body).getD .skip
theorem Put1_aux (k v : List UInt8) (h1 : 1 ≤ k.length ∧ k.length ≤ 96) (h2 : v.length ≤ 256) : FOk EN 57 ⟨[.pr wordsP, .rd 5 (k), .rd 5 (v), .pn (PTO none) false false], [.p 3 0, .n 1, .n 2], Unit, fun _ => ([.pr wordsP, .rd 5 (k), .rd 5 (v), .pn (PTO none) false false, .pn (PTO (some (.leaf k v))) false false], .t [.p 4 0, .i 0]), fun _ => True⟩ := by
 refine v_fun Tryd.f57 ccB8_57 MX (fun ν F σ w => ?_) Tryd.func57
 refine v_nl ?_
 refine v_if (false) True trivial (fun h1 => ?_) (fun h1 => ?_)
 ·skip
  contradiction
 ·skip
  refine v_guard 15 (decide ((↑k.length : Int) = 0)) True trivial (fun h2 => ?_) (fun h2 => ?_)
  ·have h2 := of_decide_eq_true h2
   omega
  ·have h2 := of_decide_eq_false h2
   refine v_if (decide (96 < (↑k.length : Int))) True trivial (fun h3 => ?_) (fun h3 => ?_)
   ·have h3 := of_decide_eq_true h3
    omega
   ·have h3 := of_decide_eq_false h3
    refine v_if (decide (256 < (↑v.length : Int))) True trivial (fun h4 => ?_) (fun h4 => ?_)
    ·have h4 := of_decide_eq_true h4
     omega
    ·have h4 := of_decide_eq_false h4
     refine v_open 3 (open_tn) ((false = false) ∧ (PTO none = PTO none)) ⟨rfl, rfl⟩ ?_
     refine v_call _ [0, 1, 2] (putnil_ok (k) (v) (by omega) (by omega)) ((Value.pointer none = Value.pointer none) ∧ (wordsP = wordsP) ∧ (k = k) ∧ (v = v)) ⟨rfl, rfl, rfl, rfl⟩ (fun g5 p6 => ?_)
     have p6 : True := p6
     refine v_close 6 [5] (close_ts (Tr.leaf k v)) ((PT (Tr.leaf k v) = PT (Tr.leaf k v)) ∧ (false = false)) ⟨rfl, rfl⟩ ?_
     exact v_ret () [6] (((0 : Int) = (0 : Int)) ∧ (wordsP = wordsP) ∧ (k = k) ∧ (v = v) ∧ (PLe (PTO none) (PTO none)) ∧ (false = false) ∧ (PLe (PTO (some (Tr.leaf k v))) (PTO (some (Tr.leaf k v)))) ∧ (false = false)) ⟨rfl, rfl, rfl, rfl, fun _ _ _ h => h, rfl, fun _ _ _ h => h, rfl⟩ trivial
theorem Put2_aux (t : Tr) (k v : List UInt8) (ht : t.Ks) (hh : t.height < 700) (h1 : 1 ≤ k.length ∧ k.length ≤ 96) (h2 : v.length ≤ 256) : FOk EN 57 ⟨[.pr wordsP, .rd 5 (k), .rd 5 (v), .pn (PTO (some t)) false false], [.p 3 0, .n 1, .n 2], Unit, fun _ => ([.pr wordsP, .rd 5 (k), .rd 5 (v), .pn (PTO (some t)) false false, .pn (PTO (some (t.put k v))) false false], .t [.p 4 0, .i 0]), fun _ => True⟩ := by
 refine v_fun Tryd.f57 ccB8_57 MX (fun ν F σ w => ?_) Tryd.func57
 refine v_nl ?_
 refine v_if (false) True trivial (fun h1 => ?_) (fun h1 => ?_)
 ·skip
  contradiction
 ·skip
  refine v_guard 15 (decide ((↑k.length : Int) = 0)) True trivial (fun h2 => ?_) (fun h2 => ?_)
  ·have h2 := of_decide_eq_true h2
   omega
  ·have h2 := of_decide_eq_false h2
   refine v_if (decide (96 < (↑k.length : Int))) True trivial (fun h3 => ?_) (fun h3 => ?_)
   ·have h3 := of_decide_eq_true h3
    omega
   ·have h3 := of_decide_eq_false h3
    refine v_if (decide (256 < (↑v.length : Int))) True trivial (fun h4 => ?_) (fun h4 => ?_)
    ·have h4 := of_decide_eq_true h4
     omega
    ·have h4 := of_decide_eq_false h4
     refine v_open 3 (open_ts (t)) ((false = false) ∧ (PTO (some t) = PTO (some t))) ⟨rfl, rfl⟩ ?_
     refine v_call _ [0, 1, 2, 5] (tput_ok (k) (v) (by omega) (by omega) (t) ‹_› ‹_›) ((wordsP = wordsP) ∧ (k = k) ∧ (v = v) ∧ (PT t = PT t) ∧ (false = false)) ⟨rfl, rfl, rfl, rfl, rfl⟩ (fun g5 p6 => ?_)
     have p6 : True := p6
     refine v_close 7 [6] (close_ts (Tr.put k v t)) ((PT (Tr.put k v t) = PT (Tr.put k v t)) ∧ (false = false)) ⟨rfl, rfl⟩ ?_
     exact v_ret () [7] (((0 : Int) = (0 : Int)) ∧ (wordsP = wordsP) ∧ (k = k) ∧ (v = v) ∧ (PLe (PTO (some t)) (PTO (some t))) ∧ (false = false) ∧ (PLe (PTO (some (Tr.put k v t))) (PTO (some (Tr.put k v t)))) ∧ (false = false)) ⟨rfl, rfl, rfl, rfl, fun _ _ _ h => h, rfl, fun _ _ _ h => h, rfl⟩ trivial
theorem Put_ok (o : Option Tr) (k v : List UInt8) (ho : okO o) (h1 : 1 ≤ k.length ∧ k.length ≤ 96) (h2 : v.length ≤ 256) : FOk EN 57 ⟨[.pr wordsP, .rd 5 (k), .rd 5 (v), .pn (PTO o) false false], [.p 3 0, .n 1, .n 2], Unit, fun _ => ([.pr wordsP, .rd 5 (k), .rd 5 (v), .pn (PTO o) false false, .pn (PTO (putO k v o)) false false], .t [.p 4 0, .i 0]), fun _ => True⟩ := by
  cases o with
  | none => exact Put1_aux k v h1 h2
  | some t => exact Put2_aux t k v (ho t rfl).1 (ho t rfl).2.1 h1 h2
noncomputable def ccB9_105 : Code := (Tryd.f105.body).getD .skip
theorem cutnil_ok (k : List UInt8) : FOk EN 105 ⟨[.pr wordsP, .rd 5 (k)], [.v (.pointer none), .n 1], Unit, fun _ => ([.pr wordsP, .rd 5 (k)], .t [.v (.pointer none), .b false]), fun _ => True⟩ := by
 refine v_fun Tryd.f105 ccB9_105 MX (fun ν F σ w => ?_) Tryd.func105
 refine v_nl ?_
 exact v_ret () [] ((Value.pointer none = Value.pointer none) ∧ (false = false) ∧ (wordsP = wordsP) ∧ (k = k)) ⟨rfl, rfl, rfl, rfl⟩ trivial
noncomputable def ccB9_65 : Code := (Tryd.f65.body).getD .skip
theorem Cut1_aux (k : List UInt8) : FOk EN 65 ⟨[.pr wordsP, .rd 5 (k), .pn (PTO none) false false], [.p 2 0, .n 1], Unit, fun _ => ([.pr wordsP, .rd 5 (k), .pn (PTO none) false false, .pn (PTO none) false false], .t [.p 3 0, .b false]), fun _ => True⟩ := by
 refine v_fun Tryd.f65 ccB9_65 MX (fun ν F σ w => ?_) Tryd.func65
 refine v_nl ?_
 refine v_if (false) True trivial (fun h1 => ?_) (fun h1 => ?_)
 ·skip
  contradiction
 ·skip
  refine v_open 2 (open_tn) ((false = false) ∧ (PTO none = PTO none)) ⟨rfl, rfl⟩ ?_
  refine v_call _ [0, 1] (cutnil_ok (k)) ((Value.pointer none = Value.pointer none) ∧ (wordsP = wordsP) ∧ (k = k)) ⟨rfl, rfl, rfl⟩ (fun g2 p3 => ?_)
  have p3 : True := p3
  refine v_close 4 [] (close_tn) ((Value.pointer none = Value.pointer none)) rfl ?_
  exact v_ret () [4] ((false = false) ∧ (wordsP = wordsP) ∧ (k = k) ∧ (PLe (PTO none) (PTO none)) ∧ (false = false) ∧ (PLe (PTO none) (PTO none)) ∧ (false = false)) ⟨rfl, rfl, rfl, fun _ _ _ h => h, rfl, fun _ _ _ h => h, rfl⟩ trivial
theorem Cut2_aux (t : Tr) (k : List UInt8) (ih : FOk EN 105 ⟨[.pr wordsP, .rd 5 (k), .pn (PT (t)) false false], [.p 2 0, .n 1], Unit, fun _ => ([.pr wordsP, .rd 5 (k), .pn (PT (t)) false false], .t [.p 2 0, .b false]), fun _ => True⟩) : FOk EN 65 ⟨[.pr wordsP, .rd 5 (k), .pn (PTO (some t)) false false], [.p 2 0, .n 1], Unit, fun _ => ([.pr wordsP, .rd 5 (k), .pn (PTO (some t)) false false, .pn (PTO (some t)) false false], .t [.p 3 0, .b false]), fun _ => True⟩ := by
 refine v_fun Tryd.f65 ccB9_65 MX (fun ν F σ w => ?_) Tryd.func65
 refine v_nl ?_
 refine v_if (false) True trivial (fun h1 => ?_) (fun h1 => ?_)
 ·skip
  contradiction
 ·skip
  refine v_open 2 (open_ts (t)) ((false = false) ∧ (PTO (some t) = PTO (some t))) ⟨rfl, rfl⟩ ?_
  refine v_call _ [0, 1, 4] (ih) ((wordsP = wordsP) ∧ (k = k) ∧ (PT t = PT t) ∧ (false = false)) ⟨rfl, rfl, rfl, rfl⟩ (fun g2 p3 => ?_)
  have p3 : True := p3
  refine v_close 5 [4] (close_ts (t)) ((PT t = PT t) ∧ (false = false)) ⟨rfl, rfl⟩ ?_
  exact v_ret () [5] ((false = false) ∧ (wordsP = wordsP) ∧ (k = k) ∧ (PLe (PTO (some t)) (PTO (some t))) ∧ (false = false) ∧ (PLe (PTO (some t)) (PTO (some t))) ∧ (false = false)) ⟨rfl, rfl, rfl, fun _ _ _ h => h, rfl, fun _ _ _ h => h, rfl⟩ trivial
theorem Cut3_aux (t : Tr) (k : List UInt8) (ih : FOk EN 105 ⟨[.pr wordsP, .rd 5 (k), .pn (PT (t)) false false], [.p 2 0, .n 1], Unit, fun _ => ([.pr wordsP, .rd 5 (k), .pn (PT (t)) false false], .t [.v (.pointer none), .b true]), fun _ => True⟩) : FOk EN 65 ⟨[.pr wordsP, .rd 5 (k), .pn (PTO (some t)) false false], [.p 2 0, .n 1], Unit, fun _ => ([.pr wordsP, .rd 5 (k), .pn (PTO (some t)) false false, .pn (PTO none) false false], .t [.p 3 0, .b true]), fun _ => True⟩ := by
 refine v_fun Tryd.f65 ccB9_65 MX (fun ν F σ w => ?_) Tryd.func65
 refine v_nl ?_
 refine v_if (false) True trivial (fun h1 => ?_) (fun h1 => ?_)
 ·skip
  contradiction
 ·skip
  refine v_open 2 (open_ts (t)) ((false = false) ∧ (PTO (some t) = PTO (some t))) ⟨rfl, rfl⟩ ?_
  refine v_call _ [0, 1, 4] (ih) ((wordsP = wordsP) ∧ (k = k) ∧ (PT t = PT t) ∧ (false = false)) ⟨rfl, rfl, rfl, rfl⟩ (fun g2 p3 => ?_)
  have p3 : True := p3
  refine v_close 5 [] (close_tn) ((Value.pointer none = Value.pointer none)) rfl ?_
  exact v_ret () [5] ((true = true) ∧ (wordsP = wordsP) ∧ (k = k) ∧ (PLe (PTO (some t)) (PTO (some t))) ∧ (false = false) ∧ (PLe (PTO none) (PTO none)) ∧ (false = false)) ⟨rfl, rfl, rfl, fun _ _ _ h => h, rfl, fun _ _ _ h => h, rfl⟩ trivial
theorem Cut4_aux (t t' : Tr) (k : List UInt8) (ih : FOk EN 105 ⟨[.pr wordsP, .rd 5 (k), .pn (PT (t)) false false], [.p 2 0, .n 1], Unit, fun _ => ([.pr wordsP, .rd 5 (k), .pn (PT (t)) false false, .pn (PT (t')) false false], .t [.p 3 0, .b true]), fun _ => True⟩) : FOk EN 65 ⟨[.pr wordsP, .rd 5 (k), .pn (PTO (some t)) false false], [.p 2 0, .n 1], Unit, fun _ => ([.pr wordsP, .rd 5 (k), .pn (PTO (some t)) false false, .pn (PTO (some t')) false false], .t [.p 3 0, .b true]), fun _ => True⟩ := by
 refine v_fun Tryd.f65 ccB9_65 MX (fun ν F σ w => ?_) Tryd.func65
 refine v_nl ?_
 refine v_if (false) True trivial (fun h1 => ?_) (fun h1 => ?_)
 ·skip
  contradiction
 ·skip
  refine v_open 2 (open_ts (t)) ((false = false) ∧ (PTO (some t) = PTO (some t))) ⟨rfl, rfl⟩ ?_
  refine v_call _ [0, 1, 4] (ih) ((wordsP = wordsP) ∧ (k = k) ∧ (PT t = PT t) ∧ (false = false)) ⟨rfl, rfl, rfl, rfl⟩ (fun g2 p3 => ?_)
  have p3 : True := p3
  refine v_close 6 [5] (close_ts (t')) ((PT t' = PT t') ∧ (false = false)) ⟨rfl, rfl⟩ ?_
  exact v_ret () [6] ((true = true) ∧ (wordsP = wordsP) ∧ (k = k) ∧ (PLe (PTO (some t)) (PTO (some t))) ∧ (false = false) ∧ (PLe (PTO (some t')) (PTO (some t'))) ∧ (false = false)) ⟨rfl, rfl, rfl, fun _ _ _ h => h, rfl, fun _ _ _ h => h, rfl⟩ trivial
theorem Cut_ok (o : Option Tr) (k : List UInt8) (ho : okO o) : FOk EN 65 ⟨[.pr wordsP, .rd 5 (k), .pn (PTO o) false false], [.p 2 0, .n 1], Unit, fun _ => ([.pr wordsP, .rd 5 (k), .pn (PTO o) false false, .pn (PTO (cutO k o)) false false], .t [.p 3 0, .b (wasO k o)]), fun _ => True⟩ := by
  cases o with
  | none => exact Cut1_aux k
  | some t =>
    obtain ⟨h1, h2, h3⟩ := tcut k t (ho t rfl).1 (ho t rfl).2.1
    cases e : t.cut k with
    | none => rw [show cutO k (some t) = some t by simp [cutO, e], show wasO k (some t) = false by simp [wasO, e]]; exact Cut2_aux t k (h1 e)
    | some r =>
      rw [show cutO k (some t) = r by simp [cutO, e], show wasO k (some t) = true by simp [wasO, e]]
      cases r with
      | none => exact Cut3_aux t k (h2 e)
      | some t' => exact Cut4_aux t t' k (h3 t' e)
noncomputable def ccB9_53 : Code := (Tryd.f53.body).getD .skip
theorem Empty_ok : FOk EN 53 ⟨[.pr wordsP], [], Unit, fun _ => ([.pr wordsP], .a [.h 32 (sum256 [])]), fun _ => True⟩ := by
 refine v_fun Tryd.f53 ccB9_53 MX (fun ν F σ w => ?_) Tryd.func53
 refine v_nl ?_
 refine v_call _ [0, 3] (sum_ok ([[]]) (by decide)) ((wordsP = wordsP) ∧ (Eq (α := List (List UInt8)) [[]] [[]])) ⟨rfl, rfl⟩ (fun g1 p2 => ?_)
 have p2 : True := p2
 exact v_ret () [] ((sum256 [[]].flatten = sum256 []) ∧ (wordsP = wordsP)) ⟨rfl, rfl⟩ trivial
noncomputable def ccB9_25 : Code := (Tryd.f25.body).getD .skip
theorem Root1_aux : FOk EN 25 ⟨[.pr wordsP, .pn (PTO none) false false], [.p 1 0], Unit, fun _ => ([.pr wordsP, .pn (PTO none) false false], .a [.h 32 (sum256 [])]), fun _ => True⟩ := by
 refine v_fun Tryd.f25 ccB9_25 MX (fun ν F σ w => ?_) Tryd.func25
 refine v_nl ?_
 refine v_guard 5 (false) True trivial (fun h1 => ?_) (fun h1 => ?_)
 ·skip
  contradiction
 ·skip
  refine v_open 1 (open_tn) ((false = false) ∧ (PTO none = PTO none)) ⟨rfl, rfl⟩ ?_
  refine v_call _ [0] (Empty_ok) ((wordsP = wordsP)) rfl (fun g2 p3 => ?_)
  have p3 : True := p3
  exact v_ret () [] ((sum256 [] = sum256 []) ∧ (wordsP = wordsP) ∧ (PLe (PTO none) (PTO none)) ∧ (false = false)) ⟨rfl, rfl, fun _ _ _ h => h, rfl⟩ trivial
theorem Root2_aux (t : Tr) : FOk EN 25 ⟨[.pr wordsP, .pn (PTO (some t)) false false], [.p 1 0], Unit, fun _ => ([.pr wordsP, .pn (PTO (some t)) false false], .a [.h 32 t.hash]), fun _ => True⟩ := by
 refine v_fun Tryd.f25 ccB9_25 MX (fun ν F σ w => ?_) Tryd.func25
 refine v_nl ?_
 refine v_guard 5 (false) True trivial (fun h1 => ?_) (fun h1 => ?_)
 ·skip
  contradiction
 ·skip
  refine v_open 1 (open_ts (t)) ((false = false) ∧ (PTO (some t) = PTO (some t))) ⟨rfl, rfl⟩ ?_
  refine v_if (false) True trivial (fun h2 => ?_) (fun h2 => ?_)
  ·skip
   contradiction
  ·skip
   refine v_open 4 (open_any (t)) ((false = false) ∧ (PT t = PT t)) ⟨rfl, rfl⟩ ?_
   exact v_ret () [] ((t.hash = t.hash) ∧ (wordsP = wordsP) ∧ (PLe (PTO (some t)) (PTO (some t))) ∧ (false = false)) ⟨rfl, rfl, fun _ _ _ h => h, rfl⟩ trivial
theorem Root_ok (o : Option Tr) : FOk EN 25 ⟨[.pr wordsP, .pn (PTO o) false false], [.p 1 0], Unit, fun _ => ([.pr wordsP, .pn (PTO o) false false], .a [.h 32 (hashO o)]), fun _ => True⟩ := by
  cases o with
  | none => exact Root1_aux
  | some t => exact Root2_aux t
noncomputable def ccB9_104 : Code := (Tryd.f104.body).getD .skip
theorem walknil_ok : FOk EN 104 ⟨[], [.v (.pointer none), .v (.slice none 0 0)], Unit, fun _ => ([], .v (.slice none 0 0)), fun _ => True⟩ := by
 refine v_fun Tryd.f104 ccB9_104 MX (fun ν F σ w => ?_) Tryd.func104
 refine v_nl ?_
 exact v_ret () [] ((Value.slice none 0 0 = Value.slice none 0 0)) rfl trivial
noncomputable def ccB9_62 : Code := (Tryd.f62.body).getD .skip
theorem All1_aux : FOk EN 62 ⟨[.pn (PTO none) false false], [.p 0 0], Unit, fun _ => ([.pn (PTO none) false false, .ow 46 ([])], .n 1), fun _ => True⟩ := by
 refine v_fun Tryd.f62 ccB9_62 MX (fun ν F σ w => ?_) Tryd.func62
 refine v_nl ?_
 refine v_if (false) True trivial (fun h1 => ?_) (fun h1 => ?_)
 ·skip
  contradiction
 ·skip
  refine v_open 0 (open_tn) ((false = false) ∧ (PTO none = PTO none)) ⟨rfl, rfl⟩ ?_
  refine v_call _ [] (walknil_ok) ((Value.pointer none = Value.pointer none) ∧ (Value.slice none 0 0 = Value.slice none 0 0)) ⟨rfl, rfl⟩ (fun g2 p3 => ?_)
  have p3 : True := p3
  exact v_ret () [1] ((PLe (PTO none) (PTO none)) ∧ (false = false) ∧ (Eq (α := List Pair) [] [])) ⟨fun _ _ _ h => h, rfl, rfl⟩ trivial
theorem All2_aux (t : Tr) (h : t.Ks) (hl : t.leaves.length ≤ 900000) : FOk EN 62 ⟨[.pn (PTO (some t)) false false], [.p 0 0], Unit, fun _ => ([.pn (PTO (some t)) false false, .ow 46 (t.leaves)], .n 1), fun _ => True⟩ := by
 refine v_fun Tryd.f62 ccB9_62 MX (fun ν F σ w => ?_) Tryd.func62
 refine v_nl ?_
 refine v_if (false) True trivial (fun h1 => ?_) (fun h1 => ?_)
 ·skip
  contradiction
 ·skip
  refine v_open 0 (open_ts (t)) ((false = false) ∧ (PTO (some t) = PTO (some t))) ⟨rfl, rfl⟩ ?_
  refine v_call _ [2, 1] (walk_ok (t) ([]) ‹_› (by (simp; omega))) ((PT t = PT t) ∧ (false = false) ∧ (Eq (α := List Pair) [] [])) ⟨rfl, rfl, rfl⟩ (fun g2 p3 => ?_)
  have p3 : True := p3
  exact v_ret () [3] ((PLe (PTO (some t)) (PTO (some t))) ∧ (false = false) ∧ ([] ++ t.leaves = t.leaves)) ⟨fun _ _ _ h => h, rfl, rfl⟩ trivial
theorem All_ok (o : Option Tr) (ho : okO o) (hl : (leavesO o).length ≤ 900000) : FOk EN 62 ⟨[.pn (PTO o) false false], [.p 0 0], Unit, fun _ => ([.pn (PTO o) false false, .ow 46 (leavesO o)], .n 1), fun _ => True⟩ := by
  cases o with
  | none => exact All1_aux
  | some t => exact All2_aux t (ho t rfl).1 hl
namespace Tr
def lo : Tr → Tr
  | leaf k v => leaf k v
  | node l _ => l
def ro : Tr → Tr
  | leaf k v => leaf k v
  | node _ r => r
def child (t : Tr) (b : Bool) : Tr := if b then t.ro else t.lo
def at' : Tr → List Bool → Option Tr
  | t, [] => some t
  | leaf _ _, _ :: _ => none
  | node l r, b :: w => if b then r.at' w else l.at' w
theorem height_pos {l r : Tr} : 0 < (node l r).height := by
  have h1 := l.height_nn; have h2 := r.height_nn; simp only [height]; omega
theorem at_leaf {k v : List UInt8} {w : List Bool} {i : Nat} {s : Tr} (h : (leaf k v).at' (w.drop i) = some s) (hi : (i : Int) < w.length) : False := by
  have : w.drop i = w.getD i false :: w.drop (i + 1) := by
    have hl : i < w.length := by omega
    rw [List.drop_eq_getElem_cons hl]
    simp [List.getD_eq_getElem?_getD, hl]
  rw [this] at h; simp [at'] at h
theorem at_leaf' {k v : List UInt8} {w : List Bool} {i : Nat} {s : Tr} {X : Prop} (h : (leaf k v).at' (w.drop i) = some s ∧ X) (hi : (i : Int) < w.length) : False := at_leaf h.1 hi
theorem at_end' {t : Tr} {w : List Bool} {i : Nat} {s : Tr} {X : Prop} (h : t.at' (w.drop i) = some s ∧ X) (hi : ¬ (i : Int) < w.length) : t = s := by
  have h := h.1
  rw [List.drop_of_length_le (by omega)] at h
  cases t <;> simpa [at'] using h
theorem at_node {l r : Tr} {w : List Bool} {i : Nat} {s : Tr} (h : (node l r).at' (w.drop i) = some s) (hi : (i : Int) < w.length) : (w.getD i false = true → r.at' (w.drop (i + 1)) = some s) ∧ (w.getD i false = false → l.at' (w.drop (i + 1)) = some s) := by
  have : w.drop i = w.getD i false :: w.drop (i + 1) := by
    have hl : i < w.length := by omega
    rw [List.drop_eq_getElem_cons hl]
    simp [List.getD_eq_getElem?_getD, hl]
  rw [this] at h
  constructor <;> intro e <;> rw [e] at h <;> simpa [at'] using h
end Tr
noncomputable def ccB10_131 : Code := (Tryd.f131.body).getD .skip
theorem copied_ok (k v l r : List UInt8) (h : Int) (s : UInt64) (hk : k.length ≤ 1000) (hv : v.length ≤ 1000) (hl : l.length = 32) (hr : r.length = 32) : FOk EN 131 ⟨[.rd 5 (k), .rd 5 (v)], [.a [.n 0, .n 1, .i h, .u s, .h 32 l, .h 32 r]], Unit, fun _ => ([.rd 5 (k), .rd 5 (v), .rd 5 (k), .rd 5 (v)], .a [.n 2, .n 3, .i h, .u s, .h 32 l, .h 32 r]), fun _ => True⟩ := by
 refine v_fun Tryd.f131 ccB10_131 MX (fun ν F σ w => ?_) Tryd.func131
 refine v_nl ?_
 refine v_join [3, 4, 5, 6, 7, 8, 9, 10, 1] [3] (fun _ : Unit => ([(1, SV.p 5 0)], [Ent.bx 124 [SV.n 6, SV.n 7, SV.i h, SV.u s, SV.h 32 l, SV.h 32 r], Ent.ow 5 k, Ent.ow 5 v])) (fun _ => True) ?_ (fun _ _ => ?_) True trivial
 ·skip
  refine v_plan (.fs [0, 3] (.c 1 (.c 2 (.o 4 (.fs [6] (.o 5 (.o 7 (.fs [8] (.o 9 .e)))))) (.o 4 (.o 2 (.fs [6] (.o 5 (.o 7 (.fs [8] (.o 9 .e)))))))) (.o 4 (.o 1 (.o 2 (.fs [6] (.o 5 (.o 7 (.fs [8] (.o 9 .e)))))))))) [4] True trivial ?_
  refine v_pick True trivial ?_ ?_
  ·skip
   refine v_pick True trivial ?_ ?_
   ·skip
    refine v_call _ [0] (clone_ok (k) (by omega)) ((k = k)) rfl (fun g1 p2 => ?_)
    have p2 : True := p2
    refine v_call _ [1] (clone_ok (v) (by omega)) ((v = v)) rfl (fun g3 p4 => ?_)
    have p4 : True := p4
    exact v_back (()) [3, 5, 6] ((h = h) ∧ (s = s) ∧ (l = l) ∧ (r = r) ∧ (k = k) ∧ (v = v)) ⟨rfl, rfl, rfl, rfl, rfl, rfl⟩ (show True from trivial)
   ·skip
    refine v_call _ [0] (clone_ok (k) (by omega)) ((k = k)) rfl (fun g5 p6 => ?_)
    have p6 : True := p6
    refine v_call _ [1] (clone_ok (v) (by omega)) ((v = v)) rfl (fun g7 p8 => ?_)
    have p8 : True := p8
    exact v_back (()) [3, 5, 6] ((h = h) ∧ (s = s) ∧ (l = l) ∧ (r = r) ∧ (k = k) ∧ (v = v)) ⟨rfl, rfl, rfl, rfl, rfl, rfl⟩ (show True from trivial)
  ·skip
   refine v_call _ [0] (clone_ok (k) (by omega)) ((k = k)) rfl (fun g9 p10 => ?_)
   have p10 : True := p10
   refine v_call _ [1] (clone_ok (v) (by omega)) ((v = v)) rfl (fun g11 p12 => ?_)
   have p12 : True := p12
   exact v_back (()) [3, 5, 6] ((h = h) ∧ (s = s) ∧ (l = l) ∧ (r = r) ∧ (k = k) ∧ (v = v)) ⟨rfl, rfl, rfl, rfl, rfl, rfl⟩ (show True from trivial)
 ·skip
  exact v_ret () [6, 7] ((h = h) ∧ (s = s) ∧ (l = l) ∧ (r = r) ∧ (k = k) ∧ (v = v) ∧ (k = k) ∧ (v = v)) ⟨rfl, rfl, rfl, rfl, rfl, rfl, rfl, rfl⟩ trivial
noncomputable def ccB10_102 : Code := (Tryd.f102.body).getD .skip
theorem Nodenone_ok (ws : List Bool) : FOk EN 102 ⟨[.rd 4 ws, .pn (PTO none) false false], [.p 1 0, .n 0], Unit, fun _ => ([.rd 4 ws, .pn (PTO none) false false], .t [.a [.v (.slice none 0 0), .v (.slice none 0 0), .i 0, .u 0, .h 32 z32, .h 32 z32], .b false]), fun _ => True⟩ := by
 refine v_fun Tryd.f102 ccB10_102 MX (fun ν F σ w => ?_) Tryd.func102
 refine v_nl ?_
 refine v_guard 11 (false) True trivial (fun h1 => ?_) (fun h1 => ?_)
 ·skip
  contradiction
 ·skip
  refine v_open 1 (open_tn) ((false = false) ∧ (PTO none = PTO none)) ⟨rfl, rfl⟩ ?_
  exact v_ret () [] ((Value.slice none 0 0 = Value.slice none 0 0) ∧ (Value.slice none 0 0 = Value.slice none 0 0) ∧ ((0 : Int) = (0 : Int)) ∧ ((0 : UInt64) = (0 : UInt64)) ∧ (List.replicate 32 0 = z32) ∧ (List.replicate 32 0 = z32) ∧ (false = false) ∧ (ws = ws) ∧ (PLe (PTO none) (PTO none)) ∧ (false = false)) ⟨rfl, rfl, rfl, rfl, rfl, rfl, rfl, rfl, fun _ _ _ h => h, rfl⟩ trivial
theorem chT {l r : Tr} {b : Bool} (h : b = true) : PT r = PT ((Tr.node l r).child b) := by rw [h]; rfl
theorem chF {l r : Tr} {b : Bool} (h : b = false) : PT l = PT ((Tr.node l r).child b) := by rw [h]; rfl
theorem chBT {l r s : Tr} {ws : List Bool} {i : Nat} (hk : (Tr.node l r).at' (ws.drop i) = some s ∧ i ≤ ws.length) (hi : (i : Int) < ws.length) (h : ws.getD i false = true) : (((Tr.node l r).child (ws.getD i false)).at' (ws.drop (i + 1)) = some s ∧ i + 1 ≤ ws.length) ∧ ws.length - (i + 1) < ws.length - i := by
  rw [h]; exact ⟨⟨(Tr.at_node hk.1 hi).1 h, by omega⟩, by omega⟩
theorem chBF {l r s : Tr} {ws : List Bool} {i : Nat} (hk : (Tr.node l r).at' (ws.drop i) = some s ∧ i ≤ ws.length) (hi : (i : Int) < ws.length) (h : ws.getD i false = false) : (((Tr.node l r).child (ws.getD i false)).at' (ws.drop (i + 1)) = some s ∧ i + 1 ≤ ws.length) ∧ ws.length - (i + 1) < ws.length - i := by
  rw [h]; exact ⟨⟨(Tr.at_node hk.1 hi).2 h, by omega⟩, by omega⟩
theorem Node_ok (t s : Tr) (ws : List Bool) (hw : ws.length ≤ 1000000) (hs : t.at' ws = some s) (hk : s.key.length ≤ 1000) (hv : s.value.length ≤ 1000) : FOk EN 102 ⟨[.rd 4 ws, .pn (PTO (some t)) false false], [.p 1 0, .n 0], Unit, fun _ => ([.rd 4 ws, .pn (PTO (some t)) false false, .rd 5 (s.key), .rd 5 (s.value)], .t [.a [.n 2, .n 3, .i s.height, .u s.size, .h 32 s.lh, .h 32 s.rh], .b true]), fun _ => True⟩ := by
 refine v_fun Tryd.f102 ccB10_102 MX (fun ν F σ w => ?_) Tryd.func102
 refine v_nl ?_
 refine v_guard 11 (false) True trivial (fun h1 => ?_) (fun h1 => ?_)
 ·skip
  contradiction
 ·skip
  refine v_open 1 (open_ts (t)) ((false = false) ∧ (PTO (some t) = PTO (some t))) ⟨rfl, rfl⟩ ?_
  refine v_if (false) True trivial (fun h2 => ?_) (fun h2 => ?_)
  ·skip
   contradiction
  ·skip
   refine v_loop (fun k : Nat × Tr => ([(25, .i k.1), (6, .p 5 0)], [.pn (PT (k.2)) false false])) (fun k => k.2.at' (ws.drop k.1) = some s ∧ k.1 ≤ ws.length) (fun k => ws.length - k.1) (0, t) [4] (((0 : Int) = (↑(0 : Nat) : Int)) ∧ (PT t = PT t) ∧ (false = false)) ⟨rfl, rfl, rfl⟩ (by (simp; omega)) (fun k hk3 => ?_)
   obtain ⟨i, t2⟩ := k
   cases t2 with
   | leaf a b =>
    refine v_if (decide ((↑i : Int) < (↑ws.length : Int))) True trivial (fun h4 => ?_) (fun h4 => ?_)
    ·have h4 := of_decide_eq_true h4
     exfalso; exact Tr.at_leaf' ‹_› ‹_›
    ·have h4 := of_decide_eq_false h4
     refine v_leave (.ex 0) True trivial ?_
     refine v_open 5 (open_leaf (a) (b)) ((false = false) ∧ (PT (Tr.leaf a b) = PT (Tr.leaf a b))) ⟨rfl, rfl⟩ ?_
     refine v_call _ [6, 7] (copied_ok (a) (b) (z32) (z32) (0) (1) (by (cases Tr.at_end' ‹_› ‹_›; first | rfl | assumption | exact Tr.hash_len _)) (by (cases Tr.at_end' ‹_› ‹_›; first | rfl | assumption | exact Tr.hash_len _)) rfl rfl) (((0 : Int) = (0 : Int)) ∧ ((1 : UInt64) = (1 : UInt64)) ∧ (z32 = z32) ∧ (z32 = z32) ∧ (a = a) ∧ (b = b)) ⟨rfl, rfl, rfl, rfl, rfl, rfl⟩ (fun g5 p6 => ?_)
     have p6 : True := p6
     exact v_ret () [8, 9] ((0 = s.height) ∧ (1 = s.size) ∧ (z32 = s.lh) ∧ (z32 = s.rh) ∧ (true = true) ∧ (ws = ws) ∧ (PLe (PTO (some t)) (PTO (some t))) ∧ (false = false) ∧ (a = s.key) ∧ (b = s.value)) ⟨(by (cases Tr.at_end' ‹_› ‹_›; first | rfl | assumption | exact Tr.hash_len _)), (by (cases Tr.at_end' ‹_› ‹_›; first | rfl | assumption | exact Tr.hash_len _)), (by (cases Tr.at_end' ‹_› ‹_›; first | rfl | assumption | exact Tr.hash_len _)), (by (cases Tr.at_end' ‹_› ‹_›; first | rfl | assumption | exact Tr.hash_len _)), rfl, rfl, fun _ _ _ h => h, rfl, (by (cases Tr.at_end' ‹_› ‹_›; first | rfl | assumption | exact Tr.hash_len _)), (by (cases Tr.at_end' ‹_› ‹_›; first | rfl | assumption | exact Tr.hash_len _))⟩ trivial
   | node l r =>
    refine v_if (decide ((↑i : Int) < (↑ws.length : Int))) True trivial (fun h7 => ?_) (fun h7 => ?_)
    ·have h7 := of_decide_eq_true h7
     refine v_open 5 (open_node (l) (r)) ((0 ≤ (↑i : Int) ∧ (↑i : Int) < (↑ws.length : Int)) ∧ (false = false) ∧ (PT (l.node r) = PT (l.node r))) ⟨(by omega), rfl, rfl⟩ ?_
     refine v_if (decide ((l.node r).height = 0)) True trivial (fun h8 => ?_) (fun h8 => ?_)
     ·have h8 := of_decide_eq_true h8
      exfalso; (have := Tr.height_pos (l := l) (r := r); omega)
     ·have h8 := of_decide_eq_false h8
      refine v_if (ws.getD (↑i : Int).toNat false) True trivial (fun h9 => ?_) (fun h9 => ?_)
      ·skip
       exact v_back (((i, l.node r).fst + 1, (i, l.node r).snd.child (ws.getD (i, l.node r).fst false))) [9] ((I64 (↑i + 1)) ∧ ((↑i : Int) + 1 = (↑(i + 1) : Int)) ∧ (PT r = PT ((l.node r).child (ws.getD i false))) ∧ (false = false)) ⟨(by (unfold I64; omega)), rfl, (by exact chT ‹_›), rfl⟩ (show (((l.node r).child (ws.getD i false)).at' (List.drop (i + 1) ws) = some s ∧ i + 1 ≤ ws.length) ∧ ws.length - (i + 1) < ws.length - i from (by exact chBT ‹_› ‹_› ‹_›))
      ·skip
       exact v_back (((i, l.node r).fst + 1, (i, l.node r).snd.child (ws.getD (i, l.node r).fst false))) [8] ((I64 (↑i + 1)) ∧ ((↑i : Int) + 1 = (↑(i + 1) : Int)) ∧ (PT l = PT ((l.node r).child (ws.getD i false))) ∧ (false = false)) ⟨(by (unfold I64; omega)), rfl, (by exact chF ‹_›), rfl⟩ (show (((l.node r).child (ws.getD i false)).at' (List.drop (i + 1) ws) = some s ∧ i + 1 ≤ ws.length) ∧ ws.length - (i + 1) < ws.length - i from (by exact chBF ‹_› ‹_› ‹_›))
    ·have h7 := of_decide_eq_false h7
     refine v_leave (.ex 0) True trivial ?_
     refine v_open 5 (open_node (l) (r)) ((false = false) ∧ (PT (l.node r) = PT (l.node r))) ⟨rfl, rfl⟩ ?_
     refine v_call _ [6, 2] (copied_ok ((l.node r).key) ([]) (l.hash) (r.hash) ((l.node r).height) ((l.node r).size) (by (cases Tr.at_end' ‹_› ‹_›; first | rfl | assumption | exact Tr.hash_len _)) (by decide) (by (cases Tr.at_end' ‹_› ‹_›; first | rfl | assumption | exact Tr.hash_len _)) (by (cases Tr.at_end' ‹_› ‹_›; first | rfl | assumption | exact Tr.hash_len _))) (((l.node r).height = (l.node r).height) ∧ ((l.node r).size = (l.node r).size) ∧ (l.hash = l.hash) ∧ (r.hash = r.hash) ∧ ((l.node r).key = (l.node r).key) ∧ (Eq (α := List UInt8) [] [])) ⟨rfl, rfl, rfl, rfl, rfl, rfl⟩ (fun g10 p11 => ?_)
     have p11 : True := p11
     exact v_ret () [9, 10] (((l.node r).height = s.height) ∧ ((l.node r).size = s.size) ∧ (l.hash = s.lh) ∧ (r.hash = s.rh) ∧ (true = true) ∧ (ws = ws) ∧ (PLe (PTO (some t)) (PTO (some t))) ∧ (false = false) ∧ ((l.node r).key = s.key) ∧ ([] = s.value)) ⟨(by (cases Tr.at_end' ‹_› ‹_›; first | rfl | assumption | exact Tr.hash_len _)), (by (cases Tr.at_end' ‹_› ‹_›; first | rfl | assumption | exact Tr.hash_len _)), (by (cases Tr.at_end' ‹_› ‹_›; first | rfl | assumption | exact Tr.hash_len _)), (by (cases Tr.at_end' ‹_› ‹_›; first | rfl | assumption | exact Tr.hash_len _)), rfl, rfl, fun _ _ _ h => h, rfl, (by (cases Tr.at_end' ‹_› ‹_›; first | rfl | assumption | exact Tr.hash_len _)), (by (cases Tr.at_end' ‹_› ‹_›; first | rfl | assumption | exact Tr.hash_len _))⟩ trivial
namespace Tr
def rt (k : List UInt8) (t : Tr) : Bool := decide (0 ≤ Lib.compareBytes k t.key)
def turn (k : List UInt8) (t : Tr) : Turn := ⟨t.height, t.size, t.rt k, if t.rt k then mk32 t.lh else mk32 t.rh⟩
def turns (k : List UInt8) : Tr → List Turn
  | leaf _ _ => []
  | node l r => (node l r).turn k :: (if (node l r).rt k then r.turns k else l.turns k)
def fin (k : List UInt8) : Tr → Tr
  | leaf a b => leaf a b
  | node l r => if (node l r).rt k then r.fin k else l.fin k
end Tr
namespace Tr
theorem at_snoc {b : Bool} : ∀ {t s : Tr} {ws : List Bool}, t.at' ws = some s → 0 < s.height → t.at' (ws ++ [b]) = some (s.child b)
  | leaf _ _, s, [], h, hp => by simp [at'] at h; subst h; simp [height] at hp
  | leaf _ _, s, _ :: _, h, hp => by simp [at'] at h
  | node l r, s, [], h, hp => by simp [at'] at h; subst h; cases b <;> simp [at', child, lo, ro] <;> (first | cases r <;> rfl | cases l <;> rfl)
  | node l r, s, c :: ws, h, hp => by
    simp only [at'] at h
    simp only [List.cons_append, at']
    cases c with
    | true => rw [if_pos rfl] at h ⊢; exact at_snoc h hp
    | false => rw [if_neg (by simp)] at h ⊢; exact at_snoc h hp
theorem leaf_of {s : Tr} (h : s.height = 0) : ∃ a b, s = leaf a b := by
  cases s with
  | leaf a b => exact ⟨a, b, rfl⟩
  | node l r => have := height_pos (l := l) (r := r); omega
theorem turns_in (k : List UInt8) {s : Tr} (h : ¬ s.height = 0) : s.turns k = s.turn k :: (s.child (s.rt k)).turns k ∧ s.fin k = (s.child (s.rt k)).fin k ∧ (s.child (s.rt k)).depth < s.depth ∧ (s.Ks → (s.child (s.rt k)).Ks) := by
  cases s with
  | leaf a b => exact absurd rfl h
  | node l r =>
    simp only [turns, fin, child, lo, ro]
    cases (node l r).rt k
    · exact ⟨rfl, rfl, by simp [depth]; omega, fun h => h.1⟩
    · exact ⟨rfl, rfl, by simp [depth]; omega, fun h => h.2⟩
theorem key_le {s : Tr} (h : s.Ks) : s.key.length ≤ 1000 := by
  cases s with
  | leaf a b => exact h.1
  | node l r => exact least_le h.2
theorem value_le {s : Tr} (h : s.Ks) : s.value.length ≤ 1000 := by
  cases s with
  | leaf a b => exact h.2
  | node l r => simp [value]
end Tr
def DI (k : List UInt8) (t : Tr) (q : List Bool × List Turn × Tr) : Prop := t.at' q.1 = some q.2.2 ∧ q.2.1 ++ q.2.2.turns k = t.turns k ∧ q.2.2.fin k = t.fin k ∧ q.2.2.Ks ∧ q.1.length + q.2.2.depth ≤ t.depth ∧ q.2.1.length = q.1.length
theorem DI.start {k : List UInt8} {t : Tr} (h : t.Ks) : DI k t ([], [], t) := ⟨by cases t <;> rfl, rfl, rfl, h, by simp, rfl⟩
theorem DI.next {k : List UInt8} {t : Tr} {q : List Bool × List Turn × Tr} (h : DI k t q) (h0 : ¬ q.2.2.height = 0) : DI k t (q.1 ++ [q.2.2.rt k], q.2.1 ++ [q.2.2.turn k], q.2.2.child (q.2.2.rt k)) ∧ (q.2.2.child (q.2.2.rt k)).depth < q.2.2.depth := by
  obtain ⟨a1, a2, a3, a4, a5, a6⟩ := h
  obtain ⟨b1, b2, b3, b4⟩ := Tr.turns_in k h0
  have := q.2.2.height_nn
  refine ⟨⟨Tr.at_snoc a1 (by omega), ?_, by rw [← b2]; exact a3, b4 a4, by simp; omega, by simp [a6]⟩, b3⟩
  rw [← a2, b1]; simp
theorem DI.stop {k : List UInt8} {t : Tr} {q : List Bool × List Turn × Tr} (h : DI k t q) (h0 : q.2.2.height = 0) : q.2.2.key = (t.fin k).key ∧ q.2.2.value = (t.fin k).value ∧ q.2.1 = t.turns k := by
  obtain ⟨a1, a2, a3, a4, a5, a6⟩ := h
  obtain ⟨a, b, e⟩ := Tr.leaf_of h0
  rw [e] at a2 a3 ⊢
  simp only [Tr.turns, Tr.fin, List.append_nil] at a2 a3
  rw [← a3]; exact ⟨rfl, rfl, a2⟩
noncomputable def ccC1_59 : Code := (Tryd.f59.body).getD .skip
theorem mk1_ok (k a b l r : List UInt8) (h : Int) (s : UInt64) : FOk EN 59 ⟨[.rd 5 (k), .rd 5 (a), .rd 5 (b), .bx 22 [.n 0]], [.a [.n 1, .n 2, .i h, .u s, .h 32 l, .h 32 r], .p 3 0], Unit, fun _ => ([.rd 5 (k), .rd 5 (a), .rd 5 (b), .bx 22 [.n 0]], .b (decide (0 ≤ Lib.compareBytes k a))), fun _ => True⟩ := by
 refine v_fun Tryd.f59 ccC1_59 MX (fun ν F σ w => ?_) Tryd.func59
 refine v_nl ?_
 refine v_call _ [0, 1] (bcmp_ok (k) (a)) ((k = k) ∧ (a = a)) ⟨rfl, rfl⟩ (fun g1 p2 => ?_)
 have p2 : True := p2
 exact v_ret () [] ((decide (0 ≤ Lib.compareBytes k a) = decide (0 ≤ Lib.compareBytes k a)) ∧ (k = k) ∧ (a = a) ∧ (b = b)) ⟨rfl, rfl, rfl, rfl⟩ trivial
noncomputable def ccC1_58 : Code := (Tryd.f58.body).getD .skip
theorem down_ok (k : List UInt8) (t : Tr) (hk : t.Ks) (hd : t.depth ≤ 100000) : FOk EN 58 ⟨[.rd 5 (k), .bx 22 [.n 0], .pn (PTO (some t)) false false], [.p 2 0, .f 59 [] [.p 1 0]], Unit, fun _ => ([.rd 5 (k), .bx 22 [.n 0], .pn (PTO (some t)) false false, .rd 5 ((t.fin k).key), .rd 5 ((t.fin k).value), .ow 121 (t.turns k)], .t [.a [.n 3, .n 4, .n 5], .b true]), fun _ => True⟩ := by
 refine v_fun Tryd.f58 ccC1_58 MX (fun ν F σ w => ?_) Tryd.func58
 refine v_nl ?_
 refine v_run True trivial ?_
 refine v_nl ?_
 refine v_loop (fun q : List Bool × List Turn × Tr => ([(6, .p 7 0), (7, .n 8)], [.bx 26 [.v (.slice none 0 0), .v (.slice none 0 0), .n 9], .ow 4 q.1, .ow 121 q.2.1])) (fun q => DI k t q) (fun q => q.2.2.depth) ([], [], t) [5, 3, 6] ((Value.slice none 0 0 = Value.slice none 0 0) ∧ (Value.slice none 0 0 = Value.slice none 0 0) ∧ (Eq (α := List Bool) [] []) ∧ (Eq (α := List Turn) [] [])) ⟨rfl, rfl, rfl, rfl⟩ (by exact DI.start hk) (fun q hk1 => ?_)
 have h2 := (‹DI k t q›).1
 have h3 := (‹DI k t q›).2.2.2.1
 have h4 := (‹DI k t q›).2.2.2.2
 refine v_call _ [8, 2] (Node_ok (t) (q.snd.snd) (q.fst) (by omega) (h2) (by exact Tr.key_le h3) (by exact Tr.value_le h3)) ((q.fst = q.fst) ∧ (PTO (some t) = PTO (some t)) ∧ (false = false)) ⟨rfl, rfl, rfl⟩ (fun g2 p3 => ?_)
 have p3 : True := p3
 refine v_if (!true) True trivial (fun h4 => ?_) (fun h4 => ?_)
 ·have h4 := (nt h4)
  contradiction
 ·have h4 := (nf h4)
  refine v_if (decide (q.snd.snd.height = 0)) True trivial (fun h5 => ?_) (fun h5 => ?_)
  ·have h5 := of_decide_eq_true h5
   refine v_plan (.fs [0, 1, 2, 3, 4] (.o 5 (.fs [6] (.o 7 .e)))) [1, 4, 8, 9, 12] True trivial ?_
   refine v_leave .rt True trivial ?_
   exact v_ret () [10, 11, 9] ((true = true) ∧ (k = k) ∧ (PTO (some t) = PTO (some t)) ∧ (false = false) ∧ (q.snd.snd.key = (Tr.fin k t).key) ∧ (q.snd.snd.value = (Tr.fin k t).value) ∧ (q.snd.fst = Tr.turns k t)) ⟨rfl, rfl, rfl, rfl, (by exact (DI.stop ‹_› ‹_›).1), (by exact (DI.stop ‹_› ‹_›).2.1), (by exact (DI.stop ‹_› ‹_›).2.2)⟩ trivial
  ·have h5 := of_decide_eq_false h5
   refine v_call _ [0, 10, 11, 1] (mk1_ok (k) (q.snd.snd.key) (q.snd.snd.value) (q.snd.snd.lh) (q.snd.snd.rh) (q.snd.snd.height) (q.snd.snd.size)) ((q.snd.snd.height = q.snd.snd.height) ∧ (q.snd.snd.size = q.snd.snd.size) ∧ (q.snd.snd.lh = q.snd.snd.lh) ∧ (q.snd.snd.rh = q.snd.snd.rh) ∧ (k = k) ∧ (q.snd.snd.key = q.snd.snd.key) ∧ (q.snd.snd.value = q.snd.snd.value)) ⟨rfl, rfl, rfl, rfl, rfl, rfl, rfl⟩ (fun g6 p7 => ?_)
   have p7 : True := p7
   refine v_if (decide (0 ≤ Lib.compareBytes k q.snd.snd.key)) True trivial (fun h8 => ?_) (fun h8 => ?_)
   ·have h8 := of_decide_eq_true h8
    exact v_back ((q.fst ++ [Tr.rt k q.snd.snd], q.snd.fst ++ [Tr.turn k q.snd.snd], q.snd.snd.child (Tr.rt k q.snd.snd))) [7, 17, 15] ((q.snd.fst.length + 1 ≤ 1000000) ∧ (q.fst.length + 1 ≤ 1000000) ∧ (Value.slice none 0 0 = Value.slice none 0 0) ∧ (Value.slice none 0 0 = Value.slice none 0 0) ∧ (q.fst ++ [decide (0 ≤ Lib.compareBytes k q.snd.snd.key)] = q.fst ++ [Tr.rt k q.snd.snd]) ∧ (q.snd.fst ++ [Turn.mk q.snd.snd.height q.snd.snd.size (decide (0 ≤ Lib.compareBytes k q.snd.snd.key)) (mk32 q.snd.snd.lh)] = q.snd.fst ++ [Tr.turn k q.snd.snd])) ⟨(by omega), (by omega), rfl, rfl, rfl, (by (simp [Tr.turn, Tr.rt, *]; done))⟩ (show DI k t (q.fst ++ [Tr.rt k q.snd.snd], q.snd.fst ++ [Tr.turn k q.snd.snd], q.snd.snd.child (Tr.rt k q.snd.snd)) ∧ (q.snd.snd.child (Tr.rt k q.snd.snd)).depth < q.snd.snd.depth from (by exact DI.next ‹_› ‹_›))
   ·have h8 := of_decide_eq_false h8
    exact v_back ((q.fst ++ [Tr.rt k q.snd.snd], q.snd.fst ++ [Tr.turn k q.snd.snd], q.snd.snd.child (Tr.rt k q.snd.snd))) [7, 17, 15] ((q.snd.fst.length + 1 ≤ 1000000) ∧ (q.fst.length + 1 ≤ 1000000) ∧ (Value.slice none 0 0 = Value.slice none 0 0) ∧ (Value.slice none 0 0 = Value.slice none 0 0) ∧ (q.fst ++ [decide (0 ≤ Lib.compareBytes k q.snd.snd.key)] = q.fst ++ [Tr.rt k q.snd.snd]) ∧ (q.snd.fst ++ [Turn.mk q.snd.snd.height q.snd.snd.size (decide (0 ≤ Lib.compareBytes k q.snd.snd.key)) (mk32 q.snd.snd.rh)] = q.snd.fst ++ [Tr.turn k q.snd.snd])) ⟨(by omega), (by omega), rfl, rfl, rfl, (by (simp [Tr.turn, Tr.rt, *]; done))⟩ (show DI k t (q.fst ++ [Tr.rt k q.snd.snd], q.snd.fst ++ [Tr.turn k q.snd.snd], q.snd.snd.child (Tr.rt k q.snd.snd)) ∧ (q.snd.snd.child (Tr.rt k q.snd.snd)).depth < q.snd.snd.depth from (by exact DI.next ‹_› ‹_›))
def mkP (k : List UInt8) : Option Tr → Proof
  | none => ⟨[], [], []⟩
  | some t => if (t.fin k).key = k then ⟨(t.fin k).key, (t.fin k).value, t.turns k⟩ else ⟨[], [], []⟩
def mkB (k : List UInt8) : Option Tr → Bool
  | none => false
  | some t => decide ((t.fin k).key = k)
theorem downnone_ok (k : List UInt8) : FOk EN 58 ⟨[.rd 5 (k), .bx 22 [.n 0], .pn (PTO none) false false], [.p 2 0, .f 59 [] [.p 1 0]], Unit, fun _ => ([.rd 5 (k), .bx 22 [.n 0], .pn (PTO none) false false], .t [.a [.v (.slice none 0 0), .v (.slice none 0 0), .v (.slice none 0 0)], .b false]), fun _ => True⟩ := by
 refine v_fun Tryd.f58 ccC1_58 MX (fun ν F σ w => ?_) Tryd.func58
 refine v_nl ?_
 refine v_loop (fun q : Unit => ([(6, .p 6 0), (7, .v (.slice none 0 0))], [.bx 26 [.v (.slice none 0 0), .v (.slice none 0 0), .v (.slice none 0 0)]])) (fun q => True) (fun q => 0) () [5] ((Value.slice none 0 0 = Value.slice none 0 0) ∧ (Value.slice none 0 0 = Value.slice none 0 0) ∧ (Value.slice none 0 0 = Value.slice none 0 0) ∧ (Value.slice none 0 0 = Value.slice none 0 0)) ⟨rfl, rfl, rfl, rfl⟩ trivial (fun q hk1 => ?_)
 refine v_call _ [3, 2] (Nodenone_ok ([])) ((Eq (α := List Bool) [] []) ∧ (PTO none = PTO none) ∧ (false = false)) ⟨rfl, rfl, rfl⟩ (fun g2 p3 => ?_)
 have p3 : True := p3
 refine v_if (!false) True trivial (fun h4 => ?_) (fun h4 => ?_)
 ·have h4 := (nt h4)
  refine v_leave .rt True trivial ?_
  exact v_ret () [] ((Value.slice none 0 0 = Value.slice none 0 0) ∧ (Value.slice none 0 0 = Value.slice none 0 0) ∧ (Value.slice none 0 0 = Value.slice none 0 0) ∧ (false = false) ∧ (k = k) ∧ (PTO none = PTO none) ∧ (false = false)) ⟨rfl, rfl, rfl, rfl, rfl, rfl, rfl⟩ trivial
 ·have h4 := (nf h4)
  contradiction
noncomputable def ccC1_16 : Code := (Tryd.f16.body).getD .skip
theorem Make1_aux (k : List UInt8) : FOk EN 16 ⟨[.rd 5 (k), .pn (PTO none) false false], [.p 1 0, .n 0], Unit, fun _ => ([.rd 5 (k), .pn (PTO none) false false, .rd 5 ([]), .rd 5 ([]), .rd 121 []], .t [.a [.n 2, .n 3, .n 4], .b false]), fun _ => True⟩ := by
 refine v_fun Tryd.f16 ccC1_16 MX (fun ν F σ w => ?_) Tryd.func16
 refine v_nl ?_
 refine v_call _ [0, 3, 1] (downnone_ok (k)) ((59 = 59) ∧ (k = k) ∧ (PTO none = PTO none) ∧ (false = false)) ⟨rfl, rfl, rfl, rfl⟩ (fun g1 p2 => ?_)
 have p2 : True := p2
 refine v_guard 16 (!false) True trivial (fun h3 => ?_) (fun h3 => ?_)
 ·have h3 := (nt h3)
  exact v_ret () [2, 2, 2] ((false = false) ∧ (k = k) ∧ (PTO none = PTO none) ∧ (false = false) ∧ (Eq (α := List UInt8) [] []) ∧ (Eq (α := List UInt8) [] []) ∧ (Eq (α := List Turn) [] [])) ⟨rfl, rfl, rfl, rfl, rfl, rfl, rfl⟩ trivial
 ·have h3 := (nf h3)
  contradiction
theorem Make2_aux (t : Tr) (k : List UInt8) (hk : t.Ks) (hd : t.depth ≤ 100000) (he : (t.fin k).key = k) : FOk EN 16 ⟨[.rd 5 (k), .pn (PTO (some t)) false false], [.p 1 0, .n 0], Unit, fun _ => ([.rd 5 (k), .pn (PTO (some t)) false false, .rd 5 ((t.fin k).key), .rd 5 ((t.fin k).value), .rd 121 (t.turns k)], .t [.a [.n 2, .n 3, .n 4], .b true]), fun _ => True⟩ := by
 refine v_fun Tryd.f16 ccC1_16 MX (fun ν F σ w => ?_) Tryd.func16
 refine v_nl ?_
 refine v_call _ [0, 3, 1] (down_ok (k) (t) ‹_› ‹_›) ((59 = 59) ∧ (k = k) ∧ (PTO (some t) = PTO (some t)) ∧ (false = false)) ⟨rfl, rfl, rfl, rfl⟩ (fun g1 p2 => ?_)
 have p2 : True := p2
 refine v_guard 16 (!true) True trivial (fun h3 => ?_) (fun h3 => ?_)
 ·have h3 := (nt h3)
  contradiction
 ·have h3 := (nf h3)
  refine v_call _ [5, 0] (beq_ok ((Tr.fin k t).key) (k)) (((Tr.fin k t).key = (Tr.fin k t).key) ∧ (k = k)) ⟨rfl, rfl⟩ (fun g4 p5 => ?_)
  have p5 : True := p5
  refine v_if (!decide ((Tr.fin k t).key = k)) True trivial (fun h6 => ?_) (fun h6 => ?_)
  ·have h6 := of_decide_eq_false (nt h6)
   contradiction
  ·have h6 := of_decide_eq_true (nf h6)
   exact v_ret () [5, 6, 7] ((true = true) ∧ (k = k) ∧ (PTO (some t) = PTO (some t)) ∧ (false = false) ∧ ((Tr.fin k t).key = (Tr.fin k t).key) ∧ ((Tr.fin k t).value = (Tr.fin k t).value) ∧ (Tr.turns k t = Tr.turns k t)) ⟨rfl, rfl, rfl, rfl, rfl, rfl, rfl⟩ trivial
theorem Make3_aux (t : Tr) (k : List UInt8) (hk : t.Ks) (hd : t.depth ≤ 100000) (he : ¬ (t.fin k).key = k) : FOk EN 16 ⟨[.rd 5 (k), .pn (PTO (some t)) false false], [.p 1 0, .n 0], Unit, fun _ => ([.rd 5 (k), .pn (PTO (some t)) false false, .rd 5 ([]), .rd 5 ([]), .rd 121 []], .t [.a [.n 2, .n 3, .n 4], .b false]), fun _ => True⟩ := by
 refine v_fun Tryd.f16 ccC1_16 MX (fun ν F σ w => ?_) Tryd.func16
 refine v_nl ?_
 refine v_call _ [0, 3, 1] (down_ok (k) (t) ‹_› ‹_›) ((59 = 59) ∧ (k = k) ∧ (PTO (some t) = PTO (some t)) ∧ (false = false)) ⟨rfl, rfl, rfl, rfl⟩ (fun g1 p2 => ?_)
 have p2 : True := p2
 refine v_guard 16 (!true) True trivial (fun h3 => ?_) (fun h3 => ?_)
 ·have h3 := (nt h3)
  contradiction
 ·have h3 := (nf h3)
  refine v_call _ [5, 0] (beq_ok ((Tr.fin k t).key) (k)) (((Tr.fin k t).key = (Tr.fin k t).key) ∧ (k = k)) ⟨rfl, rfl⟩ (fun g4 p5 => ?_)
  have p5 : True := p5
  refine v_if (!decide ((Tr.fin k t).key = k)) True trivial (fun h6 => ?_) (fun h6 => ?_)
  ·have h6 := of_decide_eq_false (nt h6)
   exact v_ret () [2, 2, 2] ((false = false) ∧ (k = k) ∧ (PTO (some t) = PTO (some t)) ∧ (false = false) ∧ (Eq (α := List UInt8) [] []) ∧ (Eq (α := List UInt8) [] []) ∧ (Eq (α := List Turn) [] [])) ⟨rfl, rfl, rfl, rfl, rfl, rfl, rfl⟩ trivial
  ·have h6 := of_decide_eq_true (nf h6)
   contradiction
theorem Make_ok (o : Option Tr) (k : List UInt8) (ho : okO o) : FOk EN 16 ⟨[.rd 5 (k), .pn (PTO o) false false], [.p 1 0, .n 0], Unit, fun _ => ([.rd 5 (k), .pn (PTO o) false false, .rd 5 ((mkP k o).key), .rd 5 ((mkP k o).value), .rd 121 (mkP k o).turns], .t [.a [.n 2, .n 3, .n 4], .b (mkB k o)]), fun _ => True⟩ := by
  cases o with
  | none => exact Make1_aux k
  | some t =>
    by_cases h : (t.fin k).key = k
    · rw [show mkP k (some t) = ⟨(t.fin k).key, (t.fin k).value, t.turns k⟩ by simp [mkP, h], show mkB k (some t) = true by simp [mkB, h]]
      exact Make2_aux t k (ho t rfl).1 (ho t rfl).2.2 h
    · rw [show mkP k (some t) = ⟨[], [], []⟩ by simp [mkP, h], show mkB k (some t) = false by simp [mkB, h]]
      exact Make3_aux t k (ho t rfl).1 (ho t rfl).2.2 h
def gp (o : Option Proof) : Proof := o.getD ⟨[], [], []⟩
theorem gp_some {o : Option Proof} (h : o.isNone = false) : o = some (gp o) := by cases o with | none => simp at h | some x => rfl
theorem open_pf (o : Option Proof) (h : o.isNone = false) : Opens (G := GT) (PPt GT 26 o) (fun _ => [.rd 5 ((gp o).key), .rd 5 ((gp o).value), .rd 121 (gp o).turns]) (fun b => [.n b, .n (b + 1), .n (b + 2)]) := opens_pt (En := EN) (gp_some h) _ _ (fun _ => rfl)
theorem close_pf (k v : List UInt8) (t : List Turn) : Closes (G := GT) (PPt GT 26 (some (⟨k, v, t⟩ : Proof))) [.rd 5 (k), .rd 5 (v), .rd 121 t] [.n 0, .n 1, .n 2] := closes_pt (En := EN) _ _ rfl
def noneG (k : List UInt8) (o : Option Tr) : List Pair → Option Proof × Option Proof → Option (Option Proof × Option Proof)
  | [], g => some g
  | x :: xs, g => if Lib.compareBytes x.key k = 0 then none else if Lib.compareBytes x.key k < 0 then noneG k o xs (some (mkP x.key o), g.2) else if g.2.isNone then noneG k o xs (g.1, some (mkP x.key o)) else noneG k o xs g
def noneR (k : List UInt8) (o : Option Tr) : Option (Option Proof × Option Proof) := noneG k o (leavesO o) (none, none)
theorem drop_cons {α : Type} {l : List α} {i : Nat} {d : α} (hi : (i : Int) < l.length) : l.drop i = l.getD i d :: l.drop (i + 1) := by
  have hl : i < l.length := by omega
  rw [List.drop_eq_getElem_cons hl]
  simp [List.getD_eq_getElem?_getD, hl]
def NI (k : List UInt8) (o : Option Tr) (q : Nat × Option Proof × Option Proof) : Prop := noneG k o ((leavesO o).drop q.1) q.2 = noneR k o ∧ q.1 ≤ (leavesO o).length
section
variable {k : List UInt8} {o : Option Tr} {i : Nat} {l r l' r' : Option Proof}
theorem NI.hit (h : NI k o (i, l, r)) (hi : (i : Int) < (leavesO o).length) (hc : Lib.compareBytes ((leavesO o).getD i ⟨[], []⟩).key k = 0) : noneR k o = none := by
  have h := h.1; rw [drop_cons (d := ⟨[], []⟩) hi, noneG, if_pos hc] at h; exact h.symm
theorem NI.below (h : NI k o (i, l, r)) (hi : (i : Int) < (leavesO o).length) (hc : Lib.compareBytes ((leavesO o).getD i ⟨[], []⟩).key k < 0) : NI k o (i + 1, some (mkP ((leavesO o).getD i ⟨[], []⟩).key o), r) ∧ (leavesO o).length - (i + 1) < (leavesO o).length - i := by
  obtain ⟨h, h2⟩ := h; rw [drop_cons (d := ⟨[], []⟩) hi, noneG, if_neg (by omega), if_pos hc] at h; exact ⟨⟨h, by omega⟩, by omega⟩
theorem NI.above (h : NI k o (i, l, r)) (hi : (i : Int) < (leavesO o).length) (hc : ¬ Lib.compareBytes ((leavesO o).getD i ⟨[], []⟩).key k = 0) (hd : ¬ Lib.compareBytes ((leavesO o).getD i ⟨[], []⟩).key k < 0) (hr : r.isNone = true) : NI k o (i + 1, l, some (mkP ((leavesO o).getD i ⟨[], []⟩).key o)) ∧ (leavesO o).length - (i + 1) < (leavesO o).length - i := by
  obtain ⟨h, h2⟩ := h; rw [drop_cons (d := ⟨[], []⟩) hi, noneG, if_neg (by omega), if_neg (by omega), if_pos hr] at h; exact ⟨⟨h, by omega⟩, by omega⟩
theorem NI.same (h : NI k o (i, l, r)) (hi : (i : Int) < (leavesO o).length) (hc : ¬ Lib.compareBytes ((leavesO o).getD i ⟨[], []⟩).key k = 0) (hd : ¬ Lib.compareBytes ((leavesO o).getD i ⟨[], []⟩).key k < 0) (hr : r.isNone = false) : NI k o (i + 1, l, r) ∧ (leavesO o).length - (i + 1) < (leavesO o).length - i := by
  obtain ⟨h, h2⟩ := h; rw [drop_cons (d := ⟨[], []⟩) hi, noneG, if_neg (by omega), if_neg (by omega), if_neg (by simp [hr])] at h; exact ⟨⟨h, by omega⟩, by omega⟩
theorem NI.stop (h : NI k o (i, l, r)) (hi : ¬ (i : Int) < (leavesO o).length) : noneR k o = some (l, r) := by
  have h := h.1; rw [List.drop_of_length_le (by omega), noneG] at h; exact h.symm
theorem NI.stop' (hs : noneR k o = some (l', r')) (h : NI k o (i, l, r)) (hi : ¬ (i : Int) < (leavesO o).length) : l = l' ∧ r = r' := by
  have := h.stop hi; rw [hs] at this; injection this with this; injection this with a b; exact ⟨a.symm, b.symm⟩
theorem NI.start : NI k o (0, none, none) := ⟨rfl, Nat.zero_le _⟩
end
noncomputable def ccC2_17 : Code := (Tryd.f17.body).getD .skip
theorem None1_aux (o : Option Tr) (k : List UInt8) (ho : okO o) (hl : (leavesO o).length ≤ 900000) (hn : noneR k o = none) : FOk EN 17 ⟨[.rd 5 (k), .pn (PTO o) false false], [.p 1 0, .n 0], Unit, fun _ => ([.rd 5 (k), .pn (PTO o) false false, .pt 26 none, .pt 26 none], .t [.a [.n 2, .n 3], .b false]), fun _ => True⟩ := by
 refine v_fun Tryd.f17 ccC2_17 MX (fun ν F σ w => ?_) Tryd.func17
 refine v_nl ?_
 refine v_call _ [1] (All_ok (o) ‹_› ‹_›) ((PTO o = PTO o) ∧ (false = false)) ⟨rfl, rfl⟩ (fun g1 p2 => ?_)
 have p2 : True := p2
 refine v_al [] (al_pt0 (26)) True trivial ?_
 refine v_loop (fun q : Nat × Option Proof × Option Proof => ([(15, .i q.1), (6, .p 7 0)], [.bx 31 [.n 8, .n 9], .pt 26 q.2.1, .pt 26 q.2.2])) (fun q => NI k o q) (fun q => (leavesO o).length - q.1) (0, none, none) [4, 6, 6] (((0 : Int) = (↑(0 : Nat) : Int)) ∧ (@Eq PP (PPt GT (@OfNat.ofNat Nat (nat_lit 26) (instOfNatNat (nat_lit 26))) (@none Proof)) (PPt GT (@OfNat.ofNat Nat (nat_lit 26) (instOfNatNat (nat_lit 26))) (@none Proof))) ∧ (@Eq PP (PPt GT (@OfNat.ofNat Nat (nat_lit 26) (instOfNatNat (nat_lit 26))) (@none Proof)) (PPt GT (@OfNat.ofNat Nat (nat_lit 26) (instOfNatNat (nat_lit 26))) (@none Proof)))) ⟨rfl, rfl, rfl⟩ (by exact ⟨rfl, Nat.zero_le _⟩) (fun q hk3 => ?_)
 refine v_if (decide ((↑q.fst : Int) < (↑(leavesO o).length : Int))) True trivial (fun h4 => ?_) (fun h4 => ?_)
 ·have h4 := of_decide_eq_true h4
  refine v_call _ [10, 1] (Make_ok (o) (((leavesO o).getD (↑q.fst : Int).toNat (Pair.mk [] [])).key) ‹_›) ((0 ≤ (↑q.fst : Int) ∧ (↑q.fst : Int) < (↑(leavesO o).length : Int)) ∧ (((leavesO o).getD (↑q.fst : Int).toNat (Pair.mk [] [])).key = ((leavesO o).getD (↑q.fst : Int).toNat (Pair.mk [] [])).key) ∧ (PTO o = PTO o) ∧ (false = false)) ⟨(by omega), rfl, rfl, rfl⟩ (fun g5 p6 => ?_)
  have p6 : True := p6
  refine v_call _ [10, 0] (bcmp_ok (((leavesO o).getD (↑q.fst : Int).toNat (Pair.mk [] [])).key) (k)) ((((leavesO o).getD (↑q.fst : Int).toNat (Pair.mk [] [])).key = ((leavesO o).getD (↑q.fst : Int).toNat (Pair.mk [] [])).key) ∧ (k = k)) ⟨rfl, rfl⟩ (fun g7 p8 => ?_)
  have p8 : True := p8
  refine v_if (decide (Lib.compareBytes ((leavesO o).getD (↑q.fst : Int).toNat (Pair.mk [] [])).key k = 0)) True trivial (fun h9 => ?_) (fun h9 => ?_)
  ·have h9 := of_decide_eq_true h9
   refine v_leave .rt True trivial ?_
   exact v_ret () [6, 6] ((false = false) ∧ (k = k) ∧ (PTO o = PTO o) ∧ (false = false) ∧ (@Eq PP (PPt GT (@OfNat.ofNat Nat (nat_lit 26) (instOfNatNat (nat_lit 26))) (@none Proof)) (PPt GT (@OfNat.ofNat Nat (nat_lit 26) (instOfNatNat (nat_lit 26))) (@none Proof))) ∧ (@Eq PP (PPt GT (@OfNat.ofNat Nat (nat_lit 26) (instOfNatNat (nat_lit 26))) (@none Proof)) (PPt GT (@OfNat.ofNat Nat (nat_lit 26) (instOfNatNat (nat_lit 26))) (@none Proof)))) ⟨rfl, rfl, rfl, rfl, rfl, rfl⟩ trivial
  ·have h9 := of_decide_eq_false h9
   refine v_if (decide (Lib.compareBytes ((leavesO o).getD (↑q.fst : Int).toNat (Pair.mk [] [])).key k < 0)) True trivial (fun h10 => ?_) (fun h10 => ?_)
   ·have h10 := of_decide_eq_true h10
    refine v_close 17 [14, 15, 16] (close_pf ((mkP ((leavesO o).getD (↑q.fst : Int).toNat (Pair.mk [] [])).key o).key) ((mkP ((leavesO o).getD (↑q.fst : Int).toNat (Pair.mk [] [])).key o).value) ((mkP ((leavesO o).getD (↑q.fst : Int).toNat (Pair.mk [] [])).key o).turns)) ((I64 (↑q.fst + 1)) ∧ ((mkP ((leavesO o).getD (↑q.fst : Int).toNat (Pair.mk [] [])).key o).key = (mkP ((leavesO o).getD (↑q.fst : Int).toNat (Pair.mk [] [])).key o).key) ∧ ((mkP ((leavesO o).getD (↑q.fst : Int).toNat (Pair.mk [] [])).key o).value = (mkP ((leavesO o).getD (↑q.fst : Int).toNat (Pair.mk [] [])).key o).value) ∧ ((mkP ((leavesO o).getD (↑q.fst : Int).toNat (Pair.mk [] [])).key o).turns = (mkP ((leavesO o).getD (↑q.fst : Int).toNat (Pair.mk [] [])).key o).turns)) ⟨(by (unfold I64; omega)), rfl, rfl, rfl⟩ ?_
    refine v_al [17] (al_ptr (PPt GT (26 : Nat) (some (Proof.mk (mkP ((leavesO o).getD (↑q.fst : Int).toNat (Pair.mk [] [])).key o).key (mkP ((leavesO o).getD (↑q.fst : Int).toNat (Pair.mk [] [])).key o).value (mkP ((leavesO o).getD (↑q.fst : Int).toNat (Pair.mk [] [])).key o).turns)))) ((PLe (PPt GT (26 : Nat) (some (Proof.mk (mkP ((leavesO o).getD (↑q.fst : Int).toNat (Pair.mk [] [])).key o).key (mkP ((leavesO o).getD (↑q.fst : Int).toNat (Pair.mk [] [])).key o).value (mkP ((leavesO o).getD (↑q.fst : Int).toNat (Pair.mk [] [])).key o).turns))) (PPt GT (26 : Nat) (some (Proof.mk (mkP ((leavesO o).getD (↑q.fst : Int).toNat (Pair.mk [] [])).key o).key (mkP ((leavesO o).getD (↑q.fst : Int).toNat (Pair.mk [] [])).key o).value (mkP ((leavesO o).getD (↑q.fst : Int).toNat (Pair.mk [] [])).key o).turns)))) ∧ (false = false)) ⟨fun _ _ _ h => h, rfl⟩ ?_
    exact v_back ((q.fst + 1, some (Proof.mk (mkP ((leavesO o).getD (↑q.fst : Int).toNat (Pair.mk [] [])).key o).key (mkP ((leavesO o).getD (↑q.fst : Int).toNat (Pair.mk [] [])).key o).value (mkP ((leavesO o).getD (↑q.fst : Int).toNat (Pair.mk [] [])).key o).turns), q.snd.snd)) [7, 18, 9] (((↑q.fst : Int) + 1 = (↑(q.fst + 1) : Int)) ∧ (PPt GT (26 : Nat) (some (Proof.mk (mkP ((leavesO o).getD (↑q.fst : Int).toNat (Pair.mk [] [])).key o).key (mkP ((leavesO o).getD (↑q.fst : Int).toNat (Pair.mk [] [])).key o).value (mkP ((leavesO o).getD (↑q.fst : Int).toNat (Pair.mk [] [])).key o).turns)) = PPt GT (26 : Nat) (some (Proof.mk (mkP ((leavesO o).getD (↑q.fst : Int).toNat (Pair.mk [] [])).key o).key (mkP ((leavesO o).getD (↑q.fst : Int).toNat (Pair.mk [] [])).key o).value (mkP ((leavesO o).getD (↑q.fst : Int).toNat (Pair.mk [] [])).key o).turns))) ∧ (q.snd.snd = q.snd.snd)) ⟨rfl, rfl, rfl⟩ (show NI k o (q.fst + 1, some (Proof.mk (mkP ((leavesO o).getD (↑q.fst : Int).toNat (Pair.mk [] [])).key o).key (mkP ((leavesO o).getD (↑q.fst : Int).toNat (Pair.mk [] [])).key o).value (mkP ((leavesO o).getD (↑q.fst : Int).toNat (Pair.mk [] [])).key o).turns), q.snd.snd) ∧ (leavesO o).length - (q.fst + 1) < (leavesO o).length - q.fst from (by exact NI.below ‹_› ‹_› ‹_›))
   ·have h10 := of_decide_eq_false h10
    refine v_if (q.snd.snd.isNone) True trivial (fun h11 => ?_) (fun h11 => ?_)
    ·skip
     refine v_close 17 [14, 15, 16] (close_pf ((mkP ((leavesO o).getD (↑q.fst : Int).toNat (Pair.mk [] [])).key o).key) ((mkP ((leavesO o).getD (↑q.fst : Int).toNat (Pair.mk [] [])).key o).value) ((mkP ((leavesO o).getD (↑q.fst : Int).toNat (Pair.mk [] [])).key o).turns)) ((I64 (↑q.fst + 1)) ∧ ((mkP ((leavesO o).getD (↑q.fst : Int).toNat (Pair.mk [] [])).key o).key = (mkP ((leavesO o).getD (↑q.fst : Int).toNat (Pair.mk [] [])).key o).key) ∧ ((mkP ((leavesO o).getD (↑q.fst : Int).toNat (Pair.mk [] [])).key o).value = (mkP ((leavesO o).getD (↑q.fst : Int).toNat (Pair.mk [] [])).key o).value) ∧ ((mkP ((leavesO o).getD (↑q.fst : Int).toNat (Pair.mk [] [])).key o).turns = (mkP ((leavesO o).getD (↑q.fst : Int).toNat (Pair.mk [] [])).key o).turns)) ⟨(by (unfold I64; omega)), rfl, rfl, rfl⟩ ?_
     refine v_al [17] (al_ptr (PPt GT (26 : Nat) (some (Proof.mk (mkP ((leavesO o).getD (↑q.fst : Int).toNat (Pair.mk [] [])).key o).key (mkP ((leavesO o).getD (↑q.fst : Int).toNat (Pair.mk [] [])).key o).value (mkP ((leavesO o).getD (↑q.fst : Int).toNat (Pair.mk [] [])).key o).turns)))) ((PLe (PPt GT (26 : Nat) (some (Proof.mk (mkP ((leavesO o).getD (↑q.fst : Int).toNat (Pair.mk [] [])).key o).key (mkP ((leavesO o).getD (↑q.fst : Int).toNat (Pair.mk [] [])).key o).value (mkP ((leavesO o).getD (↑q.fst : Int).toNat (Pair.mk [] [])).key o).turns))) (PPt GT (26 : Nat) (some (Proof.mk (mkP ((leavesO o).getD (↑q.fst : Int).toNat (Pair.mk [] [])).key o).key (mkP ((leavesO o).getD (↑q.fst : Int).toNat (Pair.mk [] [])).key o).value (mkP ((leavesO o).getD (↑q.fst : Int).toNat (Pair.mk [] [])).key o).turns)))) ∧ (false = false)) ⟨fun _ _ _ h => h, rfl⟩ ?_
     exact v_back ((q.fst + 1, q.snd.fst, some (Proof.mk (mkP ((leavesO o).getD (↑q.fst : Int).toNat (Pair.mk [] [])).key o).key (mkP ((leavesO o).getD (↑q.fst : Int).toNat (Pair.mk [] [])).key o).value (mkP ((leavesO o).getD (↑q.fst : Int).toNat (Pair.mk [] [])).key o).turns))) [7, 8, 18] (((↑q.fst : Int) + 1 = (↑(q.fst + 1) : Int)) ∧ (q.snd.fst = q.snd.fst) ∧ (PPt GT (26 : Nat) (some (Proof.mk (mkP ((leavesO o).getD (↑q.fst : Int).toNat (Pair.mk [] [])).key o).key (mkP ((leavesO o).getD (↑q.fst : Int).toNat (Pair.mk [] [])).key o).value (mkP ((leavesO o).getD (↑q.fst : Int).toNat (Pair.mk [] [])).key o).turns)) = PPt GT (26 : Nat) (some (Proof.mk (mkP ((leavesO o).getD (↑q.fst : Int).toNat (Pair.mk [] [])).key o).key (mkP ((leavesO o).getD (↑q.fst : Int).toNat (Pair.mk [] [])).key o).value (mkP ((leavesO o).getD (↑q.fst : Int).toNat (Pair.mk [] [])).key o).turns)))) ⟨rfl, rfl, rfl⟩ (show NI k o (q.fst + 1, q.snd.fst, some (Proof.mk (mkP ((leavesO o).getD (↑q.fst : Int).toNat (Pair.mk [] [])).key o).key (mkP ((leavesO o).getD (↑q.fst : Int).toNat (Pair.mk [] [])).key o).value (mkP ((leavesO o).getD (↑q.fst : Int).toNat (Pair.mk [] [])).key o).turns)) ∧ (leavesO o).length - (q.fst + 1) < (leavesO o).length - q.fst from (by exact NI.above ‹_› ‹_› ‹_› ‹_› ‹_›))
    ·skip
     exact v_back ((q.fst + 1, q.snd.fst, q.snd.snd)) [7, 8, 9] ((I64 (↑q.fst + 1)) ∧ ((↑q.fst : Int) + 1 = (↑(q.fst + 1) : Int)) ∧ (q.snd.fst = q.snd.fst) ∧ (q.snd.snd = q.snd.snd)) ⟨(by (unfold I64; omega)), rfl, rfl, rfl⟩ (show NI k o (q.fst + 1, q.snd.fst, q.snd.snd) ∧ (leavesO o).length - (q.fst + 1) < (leavesO o).length - q.fst from (by exact NI.same ‹_› ‹_› ‹_› ‹_› ‹_›))
 ·have h4 := of_decide_eq_false h4
  exfalso; exact absurd (NI.stop ‹_› ‹_›) (by rw [hn]; simp)
theorem None2_aux (o : Option Tr) (k : List UInt8) (l r : Option Proof) (ho : okO o) (hl : (leavesO o).length ≤ 900000) (hn : noneR k o = some (l, r)) : FOk EN 17 ⟨[.rd 5 (k), .pn (PTO o) false false], [.p 1 0, .n 0], Unit, fun _ => ([.rd 5 (k), .pn (PTO o) false false, .pt 26 l, .pt 26 r], .t [.a [.n 2, .n 3], .b true]), fun _ => True⟩ := by
 refine v_fun Tryd.f17 ccC2_17 MX (fun ν F σ w => ?_) Tryd.func17
 refine v_nl ?_
 refine v_call _ [1] (All_ok (o) ‹_› ‹_›) ((PTO o = PTO o) ∧ (false = false)) ⟨rfl, rfl⟩ (fun g1 p2 => ?_)
 have p2 : True := p2
 refine v_al [] (al_pt0 (26)) True trivial ?_
 refine v_loop (fun q : Nat × Option Proof × Option Proof => ([(15, .i q.1), (6, .p 7 0)], [.bx 31 [.n 8, .n 9], .pt 26 q.2.1, .pt 26 q.2.2])) (fun q => NI k o q) (fun q => (leavesO o).length - q.1) (0, none, none) [4, 6, 6] (((0 : Int) = (↑(0 : Nat) : Int)) ∧ (@Eq PP (PPt GT (@OfNat.ofNat Nat (nat_lit 26) (instOfNatNat (nat_lit 26))) (@none Proof)) (PPt GT (@OfNat.ofNat Nat (nat_lit 26) (instOfNatNat (nat_lit 26))) (@none Proof))) ∧ (@Eq PP (PPt GT (@OfNat.ofNat Nat (nat_lit 26) (instOfNatNat (nat_lit 26))) (@none Proof)) (PPt GT (@OfNat.ofNat Nat (nat_lit 26) (instOfNatNat (nat_lit 26))) (@none Proof)))) ⟨rfl, rfl, rfl⟩ (by exact ⟨rfl, Nat.zero_le _⟩) (fun q hk3 => ?_)
 refine v_if (decide ((↑q.fst : Int) < (↑(leavesO o).length : Int))) True trivial (fun h4 => ?_) (fun h4 => ?_)
 ·have h4 := of_decide_eq_true h4
  refine v_call _ [10, 1] (Make_ok (o) (((leavesO o).getD (↑q.fst : Int).toNat (Pair.mk [] [])).key) ‹_›) ((0 ≤ (↑q.fst : Int) ∧ (↑q.fst : Int) < (↑(leavesO o).length : Int)) ∧ (((leavesO o).getD (↑q.fst : Int).toNat (Pair.mk [] [])).key = ((leavesO o).getD (↑q.fst : Int).toNat (Pair.mk [] [])).key) ∧ (PTO o = PTO o) ∧ (false = false)) ⟨(by omega), rfl, rfl, rfl⟩ (fun g5 p6 => ?_)
  have p6 : True := p6
  refine v_call _ [10, 0] (bcmp_ok (((leavesO o).getD (↑q.fst : Int).toNat (Pair.mk [] [])).key) (k)) ((((leavesO o).getD (↑q.fst : Int).toNat (Pair.mk [] [])).key = ((leavesO o).getD (↑q.fst : Int).toNat (Pair.mk [] [])).key) ∧ (k = k)) ⟨rfl, rfl⟩ (fun g7 p8 => ?_)
  have p8 : True := p8
  refine v_if (decide (Lib.compareBytes ((leavesO o).getD (↑q.fst : Int).toNat (Pair.mk [] [])).key k = 0)) True trivial (fun h9 => ?_) (fun h9 => ?_)
  ·have h9 := of_decide_eq_true h9
   exfalso; exact absurd (NI.hit ‹_› ‹_› ‹_›) (by rw [hn]; simp)
  ·have h9 := of_decide_eq_false h9
   refine v_if (decide (Lib.compareBytes ((leavesO o).getD (↑q.fst : Int).toNat (Pair.mk [] [])).key k < 0)) True trivial (fun h10 => ?_) (fun h10 => ?_)
   ·have h10 := of_decide_eq_true h10
    refine v_close 17 [14, 15, 16] (close_pf ((mkP ((leavesO o).getD (↑q.fst : Int).toNat (Pair.mk [] [])).key o).key) ((mkP ((leavesO o).getD (↑q.fst : Int).toNat (Pair.mk [] [])).key o).value) ((mkP ((leavesO o).getD (↑q.fst : Int).toNat (Pair.mk [] [])).key o).turns)) ((I64 (↑q.fst + 1)) ∧ ((mkP ((leavesO o).getD (↑q.fst : Int).toNat (Pair.mk [] [])).key o).key = (mkP ((leavesO o).getD (↑q.fst : Int).toNat (Pair.mk [] [])).key o).key) ∧ ((mkP ((leavesO o).getD (↑q.fst : Int).toNat (Pair.mk [] [])).key o).value = (mkP ((leavesO o).getD (↑q.fst : Int).toNat (Pair.mk [] [])).key o).value) ∧ ((mkP ((leavesO o).getD (↑q.fst : Int).toNat (Pair.mk [] [])).key o).turns = (mkP ((leavesO o).getD (↑q.fst : Int).toNat (Pair.mk [] [])).key o).turns)) ⟨(by (unfold I64; omega)), rfl, rfl, rfl⟩ ?_
    refine v_al [17] (al_ptr (PPt GT (26 : Nat) (some (Proof.mk (mkP ((leavesO o).getD (↑q.fst : Int).toNat (Pair.mk [] [])).key o).key (mkP ((leavesO o).getD (↑q.fst : Int).toNat (Pair.mk [] [])).key o).value (mkP ((leavesO o).getD (↑q.fst : Int).toNat (Pair.mk [] [])).key o).turns)))) ((PLe (PPt GT (26 : Nat) (some (Proof.mk (mkP ((leavesO o).getD (↑q.fst : Int).toNat (Pair.mk [] [])).key o).key (mkP ((leavesO o).getD (↑q.fst : Int).toNat (Pair.mk [] [])).key o).value (mkP ((leavesO o).getD (↑q.fst : Int).toNat (Pair.mk [] [])).key o).turns))) (PPt GT (26 : Nat) (some (Proof.mk (mkP ((leavesO o).getD (↑q.fst : Int).toNat (Pair.mk [] [])).key o).key (mkP ((leavesO o).getD (↑q.fst : Int).toNat (Pair.mk [] [])).key o).value (mkP ((leavesO o).getD (↑q.fst : Int).toNat (Pair.mk [] [])).key o).turns)))) ∧ (false = false)) ⟨fun _ _ _ h => h, rfl⟩ ?_
    exact v_back ((q.fst + 1, some (Proof.mk (mkP ((leavesO o).getD (↑q.fst : Int).toNat (Pair.mk [] [])).key o).key (mkP ((leavesO o).getD (↑q.fst : Int).toNat (Pair.mk [] [])).key o).value (mkP ((leavesO o).getD (↑q.fst : Int).toNat (Pair.mk [] [])).key o).turns), q.snd.snd)) [7, 18, 9] (((↑q.fst : Int) + 1 = (↑(q.fst + 1) : Int)) ∧ (PPt GT (26 : Nat) (some (Proof.mk (mkP ((leavesO o).getD (↑q.fst : Int).toNat (Pair.mk [] [])).key o).key (mkP ((leavesO o).getD (↑q.fst : Int).toNat (Pair.mk [] [])).key o).value (mkP ((leavesO o).getD (↑q.fst : Int).toNat (Pair.mk [] [])).key o).turns)) = PPt GT (26 : Nat) (some (Proof.mk (mkP ((leavesO o).getD (↑q.fst : Int).toNat (Pair.mk [] [])).key o).key (mkP ((leavesO o).getD (↑q.fst : Int).toNat (Pair.mk [] [])).key o).value (mkP ((leavesO o).getD (↑q.fst : Int).toNat (Pair.mk [] [])).key o).turns))) ∧ (q.snd.snd = q.snd.snd)) ⟨rfl, rfl, rfl⟩ (show NI k o (q.fst + 1, some (Proof.mk (mkP ((leavesO o).getD (↑q.fst : Int).toNat (Pair.mk [] [])).key o).key (mkP ((leavesO o).getD (↑q.fst : Int).toNat (Pair.mk [] [])).key o).value (mkP ((leavesO o).getD (↑q.fst : Int).toNat (Pair.mk [] [])).key o).turns), q.snd.snd) ∧ (leavesO o).length - (q.fst + 1) < (leavesO o).length - q.fst from (by exact NI.below ‹_› ‹_› ‹_›))
   ·have h10 := of_decide_eq_false h10
    refine v_if (q.snd.snd.isNone) True trivial (fun h11 => ?_) (fun h11 => ?_)
    ·skip
     refine v_close 17 [14, 15, 16] (close_pf ((mkP ((leavesO o).getD (↑q.fst : Int).toNat (Pair.mk [] [])).key o).key) ((mkP ((leavesO o).getD (↑q.fst : Int).toNat (Pair.mk [] [])).key o).value) ((mkP ((leavesO o).getD (↑q.fst : Int).toNat (Pair.mk [] [])).key o).turns)) ((I64 (↑q.fst + 1)) ∧ ((mkP ((leavesO o).getD (↑q.fst : Int).toNat (Pair.mk [] [])).key o).key = (mkP ((leavesO o).getD (↑q.fst : Int).toNat (Pair.mk [] [])).key o).key) ∧ ((mkP ((leavesO o).getD (↑q.fst : Int).toNat (Pair.mk [] [])).key o).value = (mkP ((leavesO o).getD (↑q.fst : Int).toNat (Pair.mk [] [])).key o).value) ∧ ((mkP ((leavesO o).getD (↑q.fst : Int).toNat (Pair.mk [] [])).key o).turns = (mkP ((leavesO o).getD (↑q.fst : Int).toNat (Pair.mk [] [])).key o).turns)) ⟨(by (unfold I64; omega)), rfl, rfl, rfl⟩ ?_
     refine v_al [17] (al_ptr (PPt GT (26 : Nat) (some (Proof.mk (mkP ((leavesO o).getD (↑q.fst : Int).toNat (Pair.mk [] [])).key o).key (mkP ((leavesO o).getD (↑q.fst : Int).toNat (Pair.mk [] [])).key o).value (mkP ((leavesO o).getD (↑q.fst : Int).toNat (Pair.mk [] [])).key o).turns)))) ((PLe (PPt GT (26 : Nat) (some (Proof.mk (mkP ((leavesO o).getD (↑q.fst : Int).toNat (Pair.mk [] [])).key o).key (mkP ((leavesO o).getD (↑q.fst : Int).toNat (Pair.mk [] [])).key o).value (mkP ((leavesO o).getD (↑q.fst : Int).toNat (Pair.mk [] [])).key o).turns))) (PPt GT (26 : Nat) (some (Proof.mk (mkP ((leavesO o).getD (↑q.fst : Int).toNat (Pair.mk [] [])).key o).key (mkP ((leavesO o).getD (↑q.fst : Int).toNat (Pair.mk [] [])).key o).value (mkP ((leavesO o).getD (↑q.fst : Int).toNat (Pair.mk [] [])).key o).turns)))) ∧ (false = false)) ⟨fun _ _ _ h => h, rfl⟩ ?_
     exact v_back ((q.fst + 1, q.snd.fst, some (Proof.mk (mkP ((leavesO o).getD (↑q.fst : Int).toNat (Pair.mk [] [])).key o).key (mkP ((leavesO o).getD (↑q.fst : Int).toNat (Pair.mk [] [])).key o).value (mkP ((leavesO o).getD (↑q.fst : Int).toNat (Pair.mk [] [])).key o).turns))) [7, 8, 18] (((↑q.fst : Int) + 1 = (↑(q.fst + 1) : Int)) ∧ (q.snd.fst = q.snd.fst) ∧ (PPt GT (26 : Nat) (some (Proof.mk (mkP ((leavesO o).getD (↑q.fst : Int).toNat (Pair.mk [] [])).key o).key (mkP ((leavesO o).getD (↑q.fst : Int).toNat (Pair.mk [] [])).key o).value (mkP ((leavesO o).getD (↑q.fst : Int).toNat (Pair.mk [] [])).key o).turns)) = PPt GT (26 : Nat) (some (Proof.mk (mkP ((leavesO o).getD (↑q.fst : Int).toNat (Pair.mk [] [])).key o).key (mkP ((leavesO o).getD (↑q.fst : Int).toNat (Pair.mk [] [])).key o).value (mkP ((leavesO o).getD (↑q.fst : Int).toNat (Pair.mk [] [])).key o).turns)))) ⟨rfl, rfl, rfl⟩ (show NI k o (q.fst + 1, q.snd.fst, some (Proof.mk (mkP ((leavesO o).getD (↑q.fst : Int).toNat (Pair.mk [] [])).key o).key (mkP ((leavesO o).getD (↑q.fst : Int).toNat (Pair.mk [] [])).key o).value (mkP ((leavesO o).getD (↑q.fst : Int).toNat (Pair.mk [] [])).key o).turns)) ∧ (leavesO o).length - (q.fst + 1) < (leavesO o).length - q.fst from (by exact NI.above ‹_› ‹_› ‹_› ‹_› ‹_›))
    ·skip
     exact v_back ((q.fst + 1, q.snd.fst, q.snd.snd)) [7, 8, 9] ((I64 (↑q.fst + 1)) ∧ ((↑q.fst : Int) + 1 = (↑(q.fst + 1) : Int)) ∧ (q.snd.fst = q.snd.fst) ∧ (q.snd.snd = q.snd.snd)) ⟨(by (unfold I64; omega)), rfl, rfl, rfl⟩ (show NI k o (q.fst + 1, q.snd.fst, q.snd.snd) ∧ (leavesO o).length - (q.fst + 1) < (leavesO o).length - q.fst from (by exact NI.same ‹_› ‹_› ‹_› ‹_› ‹_›))
 ·have h4 := of_decide_eq_false h4
  refine v_leave (.ex 0) True trivial ?_
  exact v_ret () [8, 9] ((true = true) ∧ (k = k) ∧ (PTO o = PTO o) ∧ (false = false) ∧ (q.snd.fst = l) ∧ (q.snd.snd = r)) ⟨rfl, rfl, rfl, rfl, (by exact (NI.stop' hn ‹_› ‹_›).1), (by exact (NI.stop' hn ‹_› ‹_›).2)⟩ trivial
def gapL (k : List UInt8) (o : Option Tr) : Option Proof × Option Proof := (noneR k o).getD (none, none)
theorem None_ok (o : Option Tr) (k : List UInt8) (ho : okO o) (hl : (leavesO o).length ≤ 900000) : FOk EN 17 ⟨[.rd 5 (k), .pn (PTO o) false false], [.p 1 0, .n 0], Unit, fun _ => ([.rd 5 (k), .pn (PTO o) false false, .pt 26 (gapL k o).1, .pt 26 (gapL k o).2], .t [.a [.n 2, .n 3], .b (noneR k o).isSome]), fun _ => True⟩ := by
  cases e : noneR k o with
  | none => rw [show gapL k o = (none, none) by simp [gapL, e]]; exact None1_aux o k ho hl e
  | some q => rw [show gapL k o = q by simp [gapL, e]]; exact None2_aux o k q.1 q.2 ho hl e
inductive Er where
  | num (c : Int)
  | step (wh : List UInt8) (n : Int) (e : Er)
def ErAt (σ : Nat → Nat) (w : World) : Er → Value → Prop
  | .num c, v => v = .iface 61 (iv c)
  | .step wh n e, v => ∃ b o ev, v = .iface 208 (.pointer (some ⟨b, o, none⟩)) ∧ Seg σ w b o [sv wh, iv n, ev] ∧ ErAt σ w e ev
theorem ErAt.step {M : Nat → Prop} {σ σ' : Nat → Nat} {w w' : World} (st : Stp M σ w σ' w') : ∀ {e : Er} {v : Value}, ErAt σ w e v → ErAt σ' w' e v
  | .num _, _, h => h
  | .step _ _ _, _, ⟨b, o, ev, h1, h2, h3⟩ => ⟨b, o, ev, h1, h2.step st, ErAt.step st h3⟩
def ErO (σ : Nat → Nat) (w : World) : Option Er → Value → Prop
  | none, v => v = .nilIface
  | some e, v => ErAt σ w e v
def PE (e : Option Er) : PP := ⟨fun σ w v => ErO σ w e v, fun {M σ w σ' w' v} st h => by cases e with | none => exact h | some e => exact ErAt.step st h⟩
theorem al_e0 (e : Option Er) (h : e = none) : AlOk (G := GT) (PE e) true e.isNone [] (.v .nilIface) := by subst h; exact al_nil (i := true) (fun _ _ => rfl)
theorem al_e1 (c : Int) : AlOk (G := GT) (PE (some (.num c))) true false [] (.j 61 (.i c)) := fun ν σ w _ => ⟨rfl, fun h => by simp at h, fun _ => ⟨_, _, rfl⟩⟩
theorem al_e2 (wh : List UInt8) (n : Int) (e : Er) : AlOk (G := GT) (PE (some (.step wh n e))) true false [.sg [.s wh, .i n, .n 1] pTop, .pn (PE (some e)) true false] (.j 208 (.p 0 0)) := fun ν σ w h => by
  obtain ⟨b, o, h1, h2, _, _⟩ := h 0 _ rfl
  obtain ⟨h3, _, _⟩ := h 1 _ rfl
  have e2 : den ν (.j 208 (.p 0 0)) = .iface 208 (.pointer (some ⟨b, o, none⟩)) := by simp only [den, h1, padd, Nat.add_zero]
  rw [e2]
  exact ⟨⟨b, o, ν 1, rfl, by simpa [denC, den] using h2, h3⟩, fun h => by simp at h, fun _ => ⟨_, _, rfl⟩⟩
noncomputable def ccC3_73 : Code := (Tryd.f73.body).getD .skip
theorem faultAt_ok (wh : List UInt8) (n : Int) (e : Er) : FOk EN 73 ⟨[.pn (PE (some e)) true false], [.s wh, .i n, .n 0], Unit, fun _ => ([.pn (PE (some e)) true false, .pn (PE (some (.step wh n e))) true false], .n 1), fun _ => True⟩ := by
 refine v_fun Tryd.f73 ccC3_73 MX (fun ν F σ w => ?_) Tryd.func73
 refine v_nl ?_
 refine v_if (false) True trivial (fun h1 => ?_) (fun h1 => ?_)
 ·skip
  contradiction
 ·skip
  refine v_close 2 [0] (close_top [.no] ([SV.s wh, SV.i n, SV.n 0])) ((wh = wh) ∧ (n = n)) ⟨rfl, rfl⟩ ?_
  refine v_al [2, 0] (al_e2 (wh) (n) (e)) ((wh = wh) ∧ (n = n) ∧ (PLe pTop pTop) ∧ (PE (some e) = PE (some e)) ∧ (false = false)) ⟨rfl, rfl, fun _ _ _ h => h, rfl, rfl⟩ ?_
  exact v_ret () [3] ((PE (some e) = PE (some e)) ∧ (false = false) ∧ (PE (some (Er.step wh n e)) = PE (some (Er.step wh n e))) ∧ (false = false)) ⟨rfl, rfl, rfl, rfl⟩ trivial
theorem faultAt2_ok (wh : List UInt8) (n : Int) (e : Option Er) (h : e.isNone = false) : FOk EN 73 ⟨[.pn (PE e) true e.isNone], [.s wh, .i n, .n 0], Unit, fun _ => ([.pn (PE e) true e.isNone, .pn (PE (some (.step wh n (e.getD (.num 0))))) true false], .n 1), fun _ => True⟩ := by
  cases e with
  | none => simp at h
  | some e => exact faultAt_ok wh n e
def stepH (t : Turn) (h : List UInt8) : List UInt8 := if t.right = true then nsum t.height t.size [] [] t.other.l h else nsum t.height t.size [] [] h t.other.l
abbrev dT : Turn := ⟨0, 0, false, zero32⟩
def rootN (l : List Turn) : Nat → Int → List UInt8 → List UInt8 × Option Er
  | 0, _, h => (h, none)
  | n + 1, last, h => if (l.getD n dT).height ≤ last ∨ 64 < (l.getD n dT).height then (z32, some (.step ((#[116, 117, 114, 110] : Array UInt8).toList) n (.num 12))) else rootN l n (l.getD n dT).height (stepH (l.getD n dT) h)
def rootP (p : Proof) : List UInt8 × Option Er :=
  if 64 < p.turns.length then (z32, some (.step ((#[116, 117, 114, 110, 115] : Array UInt8).toList) p.turns.length (.num 3)))
  else if p.key.length = 0 ∨ 96 < p.key.length ∨ 256 < p.value.length then (z32, some (.step ((#[108, 101, 97, 102] : Array UInt8).toList) 0 (.num 10)))
  else rootN p.turns p.turns.length 0 (nsum 0 1 p.key p.value z32 z32)
def RI (p : Proof) (q : Nat × Int × List UInt8) : Prop := rootN p.turns q.1 q.2.1 q.2.2 = rootP p ∧ q.1 ≤ p.turns.length ∧ p.turns.length ≤ 64 ∧ 0 ≤ q.2.1 ∧ q.2.2.length = 32
section
variable {p : Proof} {n : Nat} {a : Int} {x : List UInt8}
theorem root_e1 (h : 64 < p.turns.length) : rootP p = (z32, some (.step ((#[116, 117, 114, 110, 115] : Array UInt8).toList) p.turns.length (.num 3))) := by unfold rootP; rw [if_pos h]
theorem root_e2 (h : ¬ 64 < p.turns.length) (h2 : p.key.length = 0 ∨ 96 < p.key.length ∨ 256 < p.value.length) : rootP p = (z32, some (.step ((#[108, 101, 97, 102] : Array UInt8).toList) 0 (.num 10))) := by unfold rootP; rw [if_neg h, if_pos h2]
theorem RI.start (h : ¬ 64 < p.turns.length) (h2 : ¬ (p.key.length = 0 ∨ 96 < p.key.length ∨ 256 < p.value.length)) : RI p (p.turns.length, 0, nsum 0 1 p.key p.value z32 z32) := ⟨by unfold rootP; rw [if_neg h, if_neg h2], Nat.le_refl _, by omega, Int.le_refl _, show (nsum 0 1 p.key p.value z32 z32).length = 32 from Tr.nsum_len _ _ _ _ _ _⟩
abbrev tAt (p : Proof) (n : Nat) : Turn := p.turns.getD ((n : Int) - 1).toNat dT
theorem RI.succ (h0 : 0 ≤ (n : Int) - 1) : ∃ m, n = m + 1 ∧ tAt p n = p.turns.getD m dT := ⟨n - 1, by omega, by unfold tAt; rw [show ((n : Int) - 1).toNat = n - 1 by omega]⟩
theorem RI.err (h : RI p (n, a, x)) (h0 : 0 ≤ (n : Int) - 1) (hc : (tAt p n).height ≤ a ∨ 64 < (tAt p n).height) : rootP p = (z32, some (.step ((#[116, 117, 114, 110] : Array UInt8).toList) ((n : Int) - 1) (.num 12))) := by
  obtain ⟨m, rfl, e⟩ := RI.succ (p := p) h0
  have h := h.1; rw [e] at hc; rw [rootN, if_pos hc] at h; rw [← h, show (((m + 1 : Nat) : Int) - 1) = m by omega]
theorem RI.next (h : RI p (n, a, x)) (h0 : 0 ≤ (n : Int) - 1) (h1 : ¬ (tAt p n).height ≤ a) (h2 : ¬ 64 < (tAt p n).height) : RI p (n - 1, (tAt p n).height, stepH (tAt p n) x) ∧ n - 1 < n := by
  obtain ⟨m, rfl, e⟩ := RI.succ (p := p) h0
  obtain ⟨g1, g2, g3, g4, g5⟩ := h
  have g4 : 0 ≤ a := g4
  have g1 : rootN p.turns (m + 1) a x = rootP p := g1
  rw [e] at h1 h2 ⊢
  rw [rootN, if_neg (by omega)] at g1
  exact ⟨⟨g1, by simp only at *; omega, g3, show 0 ≤ (p.turns.getD m dT).height by omega, by simp only [stepH]; split <;> exact Tr.nsum_len _ _ _ _ _ _⟩, by omega⟩
theorem RI.nextT (h : RI p (n, a, x)) (h0 : 0 ≤ (n : Int) - 1) (h1 : ¬ (tAt p n).height ≤ a) (h2 : ¬ 64 < (tAt p n).height) (hr : (tAt p n).right = true) : RI p (n - 1, (tAt p n).height, nsum (tAt p n).height (tAt p n).size [] [] (tAt p n).other.l x) ∧ n - 1 < n := by
  have := h.next h0 h1 h2; unfold stepH at this; rwa [if_pos hr] at this
theorem RI.nextF (h : RI p (n, a, x)) (h0 : 0 ≤ (n : Int) - 1) (h1 : ¬ (tAt p n).height ≤ a) (h2 : ¬ 64 < (tAt p n).height) (hr : (tAt p n).right = false) : RI p (n - 1, (tAt p n).height, nsum (tAt p n).height (tAt p n).size [] [] x (tAt p n).other.l) ∧ n - 1 < n := by
  have := h.next h0 h1 h2; unfold stepH at this; rwa [if_neg (by rw [hr]; simp)] at this
theorem RI.stop (h : RI p (n, a, x)) (h0 : ¬ 0 ≤ (n : Int) - 1) : rootP p = (x, none) := by
  have : n = 0 := by omega
  subst this; exact h.1.symm
end
noncomputable def ccC4_72 : Code := (Tryd.f72.body).getD .skip
theorem root_ok (p : Proof) : FOk EN 72 ⟨[.pr wordsP, .rd 5 (p.key), .rd 5 (p.value), .rd 121 p.turns], [.a [.n 1, .n 2, .n 3]], Unit, fun _ => ([.pr wordsP, .rd 5 (p.key), .rd 5 (p.value), .rd 121 p.turns, .pn (PE (rootP p).2) true (rootP p).2.isNone], .t [.a [.h 32 (rootP p).1], .n 4]), fun _ => True⟩ := by
 refine v_fun Tryd.f72 ccC4_72 MX (fun ν F σ w => ?_) Tryd.func72
 refine v_nl ?_
 refine v_if (decide (64 < (↑p.turns.length : Int))) True trivial (fun h1 => ?_) (fun h1 => ?_)
 ·have h1 := of_decide_eq_true h1
  refine v_al [] (al_e1 (3)) True trivial ?_
  refine v_call _ [7] (faultAt_ok (#[116, 117, 114, 110, 115].toList) (↑p.turns.length) (Er.num 3)) ((#[(116 : UInt8), (117 : UInt8), (114 : UInt8), (110 : UInt8), (115 : UInt8)].toList = #[(116 : UInt8), (117 : UInt8), (114 : UInt8), (110 : UInt8), (115 : UInt8)].toList) ∧ ((↑p.turns.length : Int) = (↑p.turns.length : Int)) ∧ ((3 : Int) = (3 : Int)) ∧ (PE (some (Er.num 3)) = PE (some (Er.num 3))) ∧ (false = false)) ⟨rfl, rfl, rfl, rfl, rfl⟩ (fun g2 p3 => ?_)
  have p3 : True := p3
  exact v_ret () [8] ((List.replicate 32 0 = (rootP p).fst) ∧ (wordsP = wordsP) ∧ (p.key = p.key) ∧ (p.value = p.value) ∧ (p.turns = p.turns) ∧ (PE (some (Er.step #[116, 117, 114, 110, 115].toList (↑p.turns.length) (Er.num 3))) = PE (rootP p).snd) ∧ (false = (rootP p).snd.isNone)) ⟨(by (rw [root_e1 (by omega)] <;> rfl)), rfl, rfl, rfl, rfl, (by (rw [root_e1 (by omega)] <;> rfl)), (by (rw [root_e1 (by omega)] <;> rfl))⟩ trivial
 ·have h1 := of_decide_eq_false h1
  refine v_guard 25 (decide ((↑p.key.length : Int) = 0)) True trivial (fun h4 => ?_) (fun h4 => ?_)
  ·have h4 := of_decide_eq_true h4
   refine v_al [] (al_e1 (10)) True trivial ?_
   refine v_call _ [7] (faultAt_ok (#[108, 101, 97, 102].toList) (0) (Er.num 10)) ((#[(108 : UInt8), (101 : UInt8), (97 : UInt8), (102 : UInt8)].toList = #[(108 : UInt8), (101 : UInt8), (97 : UInt8), (102 : UInt8)].toList) ∧ ((0 : Int) = (0 : Int)) ∧ ((10 : Int) = (10 : Int)) ∧ (PE (some (Er.num 10)) = PE (some (Er.num 10))) ∧ (false = false)) ⟨rfl, rfl, rfl, rfl, rfl⟩ (fun g5 p6 => ?_)
   have p6 : True := p6
   exact v_ret () [8] ((List.replicate 32 0 = (rootP p).fst) ∧ (wordsP = wordsP) ∧ (p.key = p.key) ∧ (p.value = p.value) ∧ (p.turns = p.turns) ∧ (PE (some (Er.step #[108, 101, 97, 102].toList 0 (Er.num 10))) = PE (rootP p).snd) ∧ (false = (rootP p).snd.isNone)) ⟨(by (rw [root_e2 (by omega) (by omega)] <;> rfl)), rfl, rfl, rfl, rfl, (by (rw [root_e2 (by omega) (by omega)] <;> rfl)), (by (rw [root_e2 (by omega) (by omega)] <;> rfl))⟩ trivial
  ·have h4 := of_decide_eq_false h4
   refine v_guard 31 (decide (96 < (↑p.key.length : Int))) True trivial (fun h7 => ?_) (fun h7 => ?_)
   ·have h7 := of_decide_eq_true h7
    refine v_al [] (al_e1 (10)) True trivial ?_
    refine v_call _ [7] (faultAt_ok (#[108, 101, 97, 102].toList) (0) (Er.num 10)) ((#[(108 : UInt8), (101 : UInt8), (97 : UInt8), (102 : UInt8)].toList = #[(108 : UInt8), (101 : UInt8), (97 : UInt8), (102 : UInt8)].toList) ∧ ((0 : Int) = (0 : Int)) ∧ ((10 : Int) = (10 : Int)) ∧ (PE (some (Er.num 10)) = PE (some (Er.num 10))) ∧ (false = false)) ⟨rfl, rfl, rfl, rfl, rfl⟩ (fun g8 p9 => ?_)
    have p9 : True := p9
    exact v_ret () [8] ((List.replicate 32 0 = (rootP p).fst) ∧ (wordsP = wordsP) ∧ (p.key = p.key) ∧ (p.value = p.value) ∧ (p.turns = p.turns) ∧ (PE (some (Er.step #[108, 101, 97, 102].toList 0 (Er.num 10))) = PE (rootP p).snd) ∧ (false = (rootP p).snd.isNone)) ⟨(by (rw [root_e2 (by omega) (by omega)] <;> rfl)), rfl, rfl, rfl, rfl, (by (rw [root_e2 (by omega) (by omega)] <;> rfl)), (by (rw [root_e2 (by omega) (by omega)] <;> rfl))⟩ trivial
   ·have h7 := of_decide_eq_false h7
    refine v_if (decide (256 < (↑p.value.length : Int))) True trivial (fun h10 => ?_) (fun h10 => ?_)
    ·have h10 := of_decide_eq_true h10
     refine v_al [] (al_e1 (10)) True trivial ?_
     refine v_call _ [7] (faultAt_ok (#[108, 101, 97, 102].toList) (0) (Er.num 10)) ((#[(108 : UInt8), (101 : UInt8), (97 : UInt8), (102 : UInt8)].toList = #[(108 : UInt8), (101 : UInt8), (97 : UInt8), (102 : UInt8)].toList) ∧ ((0 : Int) = (0 : Int)) ∧ ((10 : Int) = (10 : Int)) ∧ (PE (some (Er.num 10)) = PE (some (Er.num 10))) ∧ (false = false)) ⟨rfl, rfl, rfl, rfl, rfl⟩ (fun g11 p12 => ?_)
     have p12 : True := p12
     exact v_ret () [8] ((List.replicate 32 0 = (rootP p).fst) ∧ (wordsP = wordsP) ∧ (p.key = p.key) ∧ (p.value = p.value) ∧ (p.turns = p.turns) ∧ (PE (some (Er.step #[108, 101, 97, 102].toList 0 (Er.num 10))) = PE (rootP p).snd) ∧ (false = (rootP p).snd.isNone)) ⟨(by (rw [root_e2 (by omega) (by omega)] <;> rfl)), rfl, rfl, rfl, rfl, (by (rw [root_e2 (by omega) (by omega)] <;> rfl)), (by (rw [root_e2 (by omega) (by omega)] <;> rfl))⟩ trivial
    ·have h10 := of_decide_eq_false h10
     refine v_call _ [0, 1, 2] (thash_ok (0) (1) (p.key) (p.value) (List.replicate 32 0) (List.replicate 32 0) (by decide) (by omega) (by omega) rfl rfl) (((0 : Int) = (0 : Int)) ∧ ((1 : UInt64) = (1 : UInt64)) ∧ (List.replicate (32 : Nat) (0 : UInt8) = List.replicate (32 : Nat) (0 : UInt8)) ∧ (List.replicate (32 : Nat) (0 : UInt8) = List.replicate (32 : Nat) (0 : UInt8)) ∧ (wordsP = wordsP) ∧ (p.key = p.key) ∧ (p.value = p.value)) ⟨rfl, rfl, rfl, rfl, rfl, rfl, rfl⟩ (fun g13 p14 => ?_)
     have p14 : True := p14
     refine v_loop (fun q : Nat × Int × List UInt8 => ([(6, .i (q.1 - 1)), (5, .i q.2.1), (4, .p 8 0)], [.bx 52 [.h 32 q.2.2]])) (fun q => RI p q) (fun q => q.1) (p.turns.length, 0, nsum 0 1 p.key p.value z32 z32) [7] ((I64 (↑p.turns.length - 1)) ∧ ((↑p.turns.length : Int) - 1 = (↑p.turns.length : Int) - 1) ∧ ((0 : Int) = (0 : Int)) ∧ (nsum 0 1 p.key p.value (List.replicate 32 0) (List.replicate 32 0) = nsum 0 1 p.key p.value z32 z32)) ⟨(by (unfold I64; omega)), rfl, rfl, rfl⟩ (by exact RI.start (by omega) (by omega)) (fun q hk15 => ?_)
     have i1 := (‹RI p q›).2
     refine v_if (decide (0 ≤ (↑q.fst : Int) - 1)) True trivial (fun h16 => ?_) (fun h16 => ?_)
     ·have h16 := of_decide_eq_true h16
      refine v_guard 63 (decide ((p.turns.getD ((↑q.fst : Int) - 1).toNat (Turn.mk 0 0 false zero32)).height ≤ q.snd.fst)) ((0 ≤ (↑q.fst : Int) - 1 ∧ (↑q.fst : Int) - 1 < (↑p.turns.length : Int))) (by omega) (fun h17 => ?_) (fun h17 => ?_)
      ·have h17 := of_decide_eq_true h17
       refine v_al [] (al_e1 (12)) True trivial ?_
       refine v_call _ [11] (faultAt_ok (#[116, 117, 114, 110].toList) (↑q.fst - 1) (Er.num 12)) ((#[(116 : UInt8), (117 : UInt8), (114 : UInt8), (110 : UInt8)].toList = #[(116 : UInt8), (117 : UInt8), (114 : UInt8), (110 : UInt8)].toList) ∧ ((↑q.fst : Int) - 1 = (↑q.fst : Int) - 1) ∧ ((12 : Int) = (12 : Int)) ∧ (PE (some (Er.num 12)) = PE (some (Er.num 12))) ∧ (false = false)) ⟨rfl, rfl, rfl, rfl, rfl⟩ (fun g18 p19 => ?_)
       have p19 : True := p19
       refine v_leave .rt True trivial ?_
       exact v_ret () [12] ((List.replicate 32 0 = (rootP p).fst) ∧ (wordsP = wordsP) ∧ (p.key = p.key) ∧ (p.value = p.value) ∧ (p.turns = p.turns) ∧ (PE (some (Er.step #[116, 117, 114, 110].toList (↑q.fst - 1) (Er.num 12))) = PE (rootP p).snd) ∧ (false = (rootP p).snd.isNone)) ⟨(by (rw [RI.err ‹_› (by omega) (by first | exact Or.inl ‹_› | exact Or.inr ‹_›)] <;> rfl)), rfl, rfl, rfl, rfl, (by (rw [RI.err ‹_› (by omega) (by first | exact Or.inl ‹_› | exact Or.inr ‹_›)] <;> rfl)), (by (rw [RI.err ‹_› (by omega) (by first | exact Or.inl ‹_› | exact Or.inr ‹_›)] <;> rfl))⟩ trivial
      ·have h17 := of_decide_eq_false h17
       refine v_if (decide (64 < (p.turns.getD ((↑q.fst : Int) - 1).toNat (Turn.mk 0 0 false zero32)).height)) True trivial (fun h20 => ?_) (fun h20 => ?_)
       ·have h20 := of_decide_eq_true h20
        refine v_al [] (al_e1 (12)) True trivial ?_
        refine v_call _ [11] (faultAt_ok (#[116, 117, 114, 110].toList) (↑q.fst - 1) (Er.num 12)) ((#[(116 : UInt8), (117 : UInt8), (114 : UInt8), (110 : UInt8)].toList = #[(116 : UInt8), (117 : UInt8), (114 : UInt8), (110 : UInt8)].toList) ∧ ((↑q.fst : Int) - 1 = (↑q.fst : Int) - 1) ∧ ((12 : Int) = (12 : Int)) ∧ (PE (some (Er.num 12)) = PE (some (Er.num 12))) ∧ (false = false)) ⟨rfl, rfl, rfl, rfl, rfl⟩ (fun g21 p22 => ?_)
        have p22 : True := p22
        refine v_leave .rt True trivial ?_
        exact v_ret () [12] ((List.replicate 32 0 = (rootP p).fst) ∧ (wordsP = wordsP) ∧ (p.key = p.key) ∧ (p.value = p.value) ∧ (p.turns = p.turns) ∧ (PE (some (Er.step #[116, 117, 114, 110].toList (↑q.fst - 1) (Er.num 12))) = PE (rootP p).snd) ∧ (false = (rootP p).snd.isNone)) ⟨(by (rw [RI.err ‹_› (by omega) (by first | exact Or.inl ‹_› | exact Or.inr ‹_›)] <;> rfl)), rfl, rfl, rfl, rfl, (by (rw [RI.err ‹_› (by omega) (by first | exact Or.inl ‹_› | exact Or.inr ‹_›)] <;> rfl)), (by (rw [RI.err ‹_› (by omega) (by first | exact Or.inl ‹_› | exact Or.inr ‹_›)] <;> rfl))⟩ trivial
       ·have h20 := of_decide_eq_false h20
        refine v_if ((p.turns.getD ((↑q.fst : Int) - 1).toNat (Turn.mk 0 0 false zero32)).right) True trivial (fun h23 => ?_) (fun h23 => ?_)
        ·skip
         refine v_plan (.fs [0, 1, 2, 3] (.o 4 (.fs [5] (.o 6 .e)))) [5, 6, 8, 10] True trivial ?_
         refine v_call _ [0, 4, 4] (thash_ok ((p.turns.getD ((↑q.fst : Int) - 1).toNat (Turn.mk 0 0 false zero32)).height) ((p.turns.getD ((↑q.fst : Int) - 1).toNat (Turn.mk 0 0 false zero32)).size) ([]) ([]) ((p.turns.getD ((↑q.fst : Int) - 1).toNat (Turn.mk 0 0 false zero32)).other.l) (q.snd.snd) (by omega) (by decide) (by decide) (by exact Sum32.h _) (by omega)) (((p.turns.getD ((↑q.fst : Int) - 1).toNat (Turn.mk 0 0 false zero32)).height = (p.turns.getD ((↑q.fst : Int) - 1).toNat (Turn.mk 0 0 false zero32)).height) ∧ ((p.turns.getD ((↑q.fst : Int) - 1).toNat (Turn.mk 0 0 false zero32)).size = (p.turns.getD ((↑q.fst : Int) - 1).toNat (Turn.mk 0 0 false zero32)).size) ∧ ((p.turns.getD ((↑q.fst : Int) - 1).toNat (Turn.mk 0 0 false zero32)).other.l = (p.turns.getD ((↑q.fst : Int) - 1).toNat (Turn.mk 0 0 false zero32)).other.l) ∧ (q.snd.snd = q.snd.snd) ∧ (wordsP = wordsP) ∧ (Eq (α := List UInt8) [] []) ∧ (Eq (α := List UInt8) [] [])) ⟨rfl, rfl, rfl, rfl, rfl, rfl, rfl⟩ (fun g24 p25 => ?_)
         have p25 : True := p25
         exact v_back ((q.fst - 1, (p.turns.getD ((↑q.fst : Int) - 1).toNat (Turn.mk 0 0 false zero32)).height, nsum (p.turns.getD ((↑q.fst : Int) - 1).toNat (Turn.mk 0 0 false zero32)).height (p.turns.getD ((↑q.fst : Int) - 1).toNat (Turn.mk 0 0 false zero32)).size [] [] (p.turns.getD ((↑q.fst : Int) - 1).toNat (Turn.mk 0 0 false zero32)).other.l q.snd.snd)) [8] ((I64 (↑q.fst - 1 - 1)) ∧ ((↑q.fst : Int) - 1 - 1 = (↑(q.fst - 1) : Int) - 1) ∧ ((p.turns.getD ((↑q.fst : Int) - 1).toNat (Turn.mk 0 0 false zero32)).height = (p.turns.getD ((↑q.fst : Int) - 1).toNat (Turn.mk 0 0 false zero32)).height) ∧ (nsum (p.turns.getD ((↑q.fst : Int) - 1).toNat (Turn.mk 0 0 false zero32)).height (p.turns.getD ((↑q.fst : Int) - 1).toNat (Turn.mk 0 0 false zero32)).size [] [] (p.turns.getD ((↑q.fst : Int) - 1).toNat (Turn.mk 0 0 false zero32)).other.l q.snd.snd = nsum (p.turns.getD ((↑q.fst : Int) - 1).toNat (Turn.mk 0 0 false zero32)).height (p.turns.getD ((↑q.fst : Int) - 1).toNat (Turn.mk 0 0 false zero32)).size [] [] (p.turns.getD ((↑q.fst : Int) - 1).toNat (Turn.mk 0 0 false zero32)).other.l q.snd.snd)) ⟨(by (unfold I64; omega)), (by omega), rfl, rfl⟩ (show RI p (q.fst - 1, (p.turns.getD ((↑q.fst : Int) - 1).toNat (Turn.mk 0 0 false zero32)).height, nsum (p.turns.getD ((↑q.fst : Int) - 1).toNat (Turn.mk 0 0 false zero32)).height (p.turns.getD ((↑q.fst : Int) - 1).toNat (Turn.mk 0 0 false zero32)).size [] [] (p.turns.getD ((↑q.fst : Int) - 1).toNat (Turn.mk 0 0 false zero32)).other.l q.snd.snd) ∧ q.fst - 1 < q.fst from (by exact RI.nextT ‹_› (by omega) ‹_› ‹_› ‹_›))
        ·skip
         refine v_call _ [0, 4, 4] (thash_ok ((p.turns.getD ((↑q.fst : Int) - 1).toNat (Turn.mk 0 0 false zero32)).height) ((p.turns.getD ((↑q.fst : Int) - 1).toNat (Turn.mk 0 0 false zero32)).size) ([]) ([]) (q.snd.snd) ((p.turns.getD ((↑q.fst : Int) - 1).toNat (Turn.mk 0 0 false zero32)).other.l) (by omega) (by decide) (by decide) (by omega) (by exact Sum32.h _)) (((p.turns.getD ((↑q.fst : Int) - 1).toNat (Turn.mk 0 0 false zero32)).height = (p.turns.getD ((↑q.fst : Int) - 1).toNat (Turn.mk 0 0 false zero32)).height) ∧ ((p.turns.getD ((↑q.fst : Int) - 1).toNat (Turn.mk 0 0 false zero32)).size = (p.turns.getD ((↑q.fst : Int) - 1).toNat (Turn.mk 0 0 false zero32)).size) ∧ (q.snd.snd = q.snd.snd) ∧ ((p.turns.getD ((↑q.fst : Int) - 1).toNat (Turn.mk 0 0 false zero32)).other.l = (p.turns.getD ((↑q.fst : Int) - 1).toNat (Turn.mk 0 0 false zero32)).other.l) ∧ (wordsP = wordsP) ∧ (Eq (α := List UInt8) [] []) ∧ (Eq (α := List UInt8) [] [])) ⟨rfl, rfl, rfl, rfl, rfl, rfl, rfl⟩ (fun g26 p27 => ?_)
         have p27 : True := p27
         exact v_back ((q.fst - 1, (p.turns.getD ((↑q.fst : Int) - 1).toNat (Turn.mk 0 0 false zero32)).height, nsum (p.turns.getD ((↑q.fst : Int) - 1).toNat (Turn.mk 0 0 false zero32)).height (p.turns.getD ((↑q.fst : Int) - 1).toNat (Turn.mk 0 0 false zero32)).size [] [] q.snd.snd (p.turns.getD ((↑q.fst : Int) - 1).toNat (Turn.mk 0 0 false zero32)).other.l)) [8] ((I64 (↑q.fst - 1 - 1)) ∧ ((↑q.fst : Int) - 1 - 1 = (↑(q.fst - 1) : Int) - 1) ∧ ((p.turns.getD ((↑q.fst : Int) - 1).toNat (Turn.mk 0 0 false zero32)).height = (p.turns.getD ((↑q.fst : Int) - 1).toNat (Turn.mk 0 0 false zero32)).height) ∧ (nsum (p.turns.getD ((↑q.fst : Int) - 1).toNat (Turn.mk 0 0 false zero32)).height (p.turns.getD ((↑q.fst : Int) - 1).toNat (Turn.mk 0 0 false zero32)).size [] [] q.snd.snd (p.turns.getD ((↑q.fst : Int) - 1).toNat (Turn.mk 0 0 false zero32)).other.l = nsum (p.turns.getD ((↑q.fst : Int) - 1).toNat (Turn.mk 0 0 false zero32)).height (p.turns.getD ((↑q.fst : Int) - 1).toNat (Turn.mk 0 0 false zero32)).size [] [] q.snd.snd (p.turns.getD ((↑q.fst : Int) - 1).toNat (Turn.mk 0 0 false zero32)).other.l)) ⟨(by (unfold I64; omega)), (by omega), rfl, rfl⟩ (show RI p (q.fst - 1, (p.turns.getD ((↑q.fst : Int) - 1).toNat (Turn.mk 0 0 false zero32)).height, nsum (p.turns.getD ((↑q.fst : Int) - 1).toNat (Turn.mk 0 0 false zero32)).height (p.turns.getD ((↑q.fst : Int) - 1).toNat (Turn.mk 0 0 false zero32)).size [] [] q.snd.snd (p.turns.getD ((↑q.fst : Int) - 1).toNat (Turn.mk 0 0 false zero32)).other.l) ∧ q.fst - 1 < q.fst from (by exact RI.nextF ‹_› (by omega) ‹_› ‹_› ‹_›))
     ·have h16 := of_decide_eq_false h16
      refine v_leave (.ex 1) True trivial ?_
      refine v_al [] (al_e0 ((rootP p).snd) (by (rw [RI.stop ‹_› (by omega)] <;> rfl))) True trivial ?_
      exact v_ret () [9] ((q.snd.snd = (rootP p).fst) ∧ (wordsP = wordsP) ∧ (p.key = p.key) ∧ (p.value = p.value) ∧ (p.turns = p.turns) ∧ (PE (rootP p).snd = PE (rootP p).snd) ∧ ((rootP p).snd.isNone = (rootP p).snd.isNone)) ⟨(by (rw [RI.stop ‹_› (by omega)] <;> rfl)), rfl, rfl, rfl, rfl, rfl, rfl⟩ trivial
def verP (want : List UInt8) (p : Proof) : Option Er := if (rootP p).2.isNone = true then (if (rootP p).1 = want then none else some (.step ((#[114, 111, 111, 116] : Array UInt8).toList) 0 (.num 21))) else (rootP p).2
theorem rootN_len (l : List Turn) : ∀ (n : Nat) (a : Int) (x : List UInt8), x.length = 32 → (rootN l n a x).1.length = 32
  | 0, a, x, h => h
  | n + 1, a, x, h => by
    unfold rootN; split
    · rfl
    · exact rootN_len l n _ _ (by unfold stepH; split <;> exact Tr.nsum_len _ _ _ _ _ _)
theorem rootP_len (p : Proof) : (rootP p).1.length = 32 := by
  unfold rootP
  split
  · rfl
  · split
    · rfl
    · exact rootN_len _ _ _ _ (Tr.nsum_len _ _ _ _ _ _)
theorem ver1 {want : List UInt8} {p : Proof} (h : (rootP p).2.isNone = true) (h2 : (rootP p).1 = want) : verP want p = (rootP p).2 := by unfold verP; rw [if_pos h, if_pos h2]; exact (Option.isNone_iff_eq_none.1 h).symm
theorem ver2 {want : List UInt8} {p : Proof} (h : (rootP p).2.isNone = true) (h2 : ¬ (rootP p).1 = want) : verP want p = some (.step ((#[114, 111, 111, 116] : Array UInt8).toList) 0 (.num 21)) := by unfold verP; rw [if_pos h, if_neg h2]
theorem ver3 {want : List UInt8} {p : Proof} (h : (rootP p).2.isNone = false) : verP want p = (rootP p).2 := by unfold verP; rw [if_neg (by simp [h])]
noncomputable def ccC5_24 : Code := (Tryd.f24.body).getD .skip
theorem Verify_ok (want : List UInt8) (p : Proof) (hw : want.length = 32) : FOk EN 24 ⟨[.pr wordsP, .rd 5 (p.key), .rd 5 (p.value), .rd 121 p.turns], [.a [.h 32 want], .a [.n 1, .n 2, .n 3]], Unit, fun _ => ([.pr wordsP, .rd 5 (p.key), .rd 5 (p.value), .rd 121 p.turns, .pn (PE (verP want p)) true (verP want p).isNone], .n 4), fun _ => True⟩ := by
 refine v_fun Tryd.f24 ccC5_24 MX (fun ν F σ w => ?_) Tryd.func24
 refine v_nl ?_
 refine v_call _ [0, 1, 2, 3] (root_ok (p)) ((wordsP = wordsP) ∧ (p.key = p.key) ∧ (p.value = p.value) ∧ (p.turns = p.turns)) ⟨rfl, rfl, rfl, rfl⟩ (fun g1 p2 => ?_)
 have p2 : True := p2
 refine v_guard 14 ((rootP p).snd.isNone) True trivial (fun h3 => ?_) (fun h3 => ?_)
 ·skip
  refine v_if (!decide ((rootP p).fst = want)) ((EN.P.eqGuardType EN.P.depth (52 : Nat) = false) ∧ ((rootP p).fst.length = 32) ∧ (want.length = 32)) ⟨rfl, (by exact rootP_len _), ‹_›⟩ (fun h4 => ?_) (fun h4 => ?_)
  ·have h4 := of_decide_eq_false (nt h4)
   refine v_al [] (al_e1 (21)) True trivial ?_
   refine v_call _ [9] (faultAt_ok (#[114, 111, 111, 116].toList) (0) (Er.num 21)) ((#[(114 : UInt8), (111 : UInt8), (111 : UInt8), (116 : UInt8)].toList = #[(114 : UInt8), (111 : UInt8), (111 : UInt8), (116 : UInt8)].toList) ∧ ((0 : Int) = (0 : Int)) ∧ ((21 : Int) = (21 : Int)) ∧ (PE (some (Er.num 21)) = PE (some (Er.num 21))) ∧ (false = false)) ⟨rfl, rfl, rfl, rfl, rfl⟩ (fun g5 p6 => ?_)
   have p6 : True := p6
   exact v_ret () [10] ((wordsP = wordsP) ∧ (p.key = p.key) ∧ (p.value = p.value) ∧ (p.turns = p.turns) ∧ (PE (some (Er.step #[114, 111, 111, 116].toList 0 (Er.num 21))) = PE (verP want p)) ∧ (false = (verP want p).isNone)) ⟨rfl, rfl, rfl, rfl, (by (rw [ver2 ‹_› ‹_›] <;> rfl)), (by (rw [ver2 ‹_› ‹_›] <;> rfl))⟩ trivial
  ·have h4 := of_decide_eq_true (nf h4)
   exact v_ret () [7] ((wordsP = wordsP) ∧ (p.key = p.key) ∧ (p.value = p.value) ∧ (p.turns = p.turns) ∧ (PE (rootP p).snd = PE (verP want p)) ∧ ((rootP p).snd.isNone = (verP want p).isNone)) ⟨rfl, rfl, rfl, rfl, (by (rw [ver1 ‹_› ‹_›] <;> first | rfl | assumption)), (by (rw [ver1 ‹_› ‹_›] <;> first | rfl | assumption))⟩ trivial
 ·skip
  exact v_ret () [7] ((wordsP = wordsP) ∧ (p.key = p.key) ∧ (p.value = p.value) ∧ (p.turns = p.turns) ∧ (PE (rootP p).snd = PE (verP want p)) ∧ ((rootP p).snd.isNone = (verP want p).isNone)) ⟨rfl, rfl, rfl, rfl, (by (rw [ver3 ‹_›] <;> rfl)), (by (rw [ver3 ‹_›] <;> rfl))⟩ trivial
def sideP (r : Bool) (l : List Turn) : Bool := l.all fun t => t.right == r
theorem side_get {r : Bool} {l : List Turn} {i : Nat} (hi : (i : Int) < l.length) : sideP r (l.drop i) = ((l.getD i dT).right == r && sideP r (l.drop (i + 1))) := by
  rw [drop_cons (d := dT) hi]; simp [sideP]
theorem side_f {r : Bool} {l : List Turn} {i : Nat} (hk : sideP r (l.drop i) = sideP r l ∧ i ≤ l.length) (hi : (i : Int) < l.length) (h : ((l.getD i dT).right != r) = true) : false = sideP r l := by
  rw [← hk.1, side_get hi]; cases hh : (l.getD i dT).right <;> rw [hh] at h <;> cases r <;> first | rfl | simp at h
theorem side_n {r : Bool} {l : List Turn} {i : Nat} (hk : sideP r (l.drop i) = sideP r l ∧ i ≤ l.length) (hi : (i : Int) < l.length) (h : ((l.getD i dT).right != r) = false) : (sideP r (l.drop (i + 1)) = sideP r l ∧ i + 1 ≤ l.length) ∧ l.length - (i + 1) < l.length - i := by
  refine ⟨⟨?_, by omega⟩, by omega⟩
  rw [← hk.1, side_get hi]; cases hh : (l.getD i dT).right <;> rw [hh] at h <;> cases r <;> first | (simp at h; done) | simp
theorem side_e {r : Bool} {l : List Turn} {i : Nat} (hk : sideP r (l.drop i) = sideP r l ∧ i ≤ l.length) (hi : ¬ (i : Int) < l.length) : true = sideP r l := by
  rw [← hk.1, List.drop_of_length_le (by omega)]; rfl
noncomputable def ccC5_74 : Code := (Tryd.f74.body).getD .skip
theorem side_ok (l : List Turn) (r : Bool) (hl : l.length ≤ 1000000) : FOk EN 74 ⟨[.rd 121 l], [.n 0, .b r], Unit, fun _ => ([.rd 121 l], .b (sideP r l)), fun _ => True⟩ := by
 refine v_fun Tryd.f74 ccC5_74 MX (fun ν F σ w => ?_) Tryd.func74
 refine v_nl ?_
 refine v_loop (fun k : Nat => ([(9, .i k)], [])) (fun k => sideP r (l.drop k) = sideP r l ∧ k ≤ l.length) (fun k => l.length - k) 0 [] (((0 : Int) = (↑(0 : Nat) : Int))) rfl (by exact ⟨rfl, Nat.zero_le _⟩) (fun k hk1 => ?_)
 refine v_if (decide ((↑k : Int) < (↑l.length : Int))) True trivial (fun h2 => ?_) (fun h2 => ?_)
 ·have h2 := of_decide_eq_true h2
  refine v_if ((l.getD (↑k : Int).toNat (Turn.mk 0 0 false zero32)).right != r) ((0 ≤ (↑k : Int) ∧ (↑k : Int) < (↑l.length : Int))) (by omega) (fun h3 => ?_) (fun h3 => ?_)
  ·skip
   refine v_leave .rt True trivial ?_
   exact v_ret () [] ((false = sideP r l) ∧ (l = l)) ⟨(by exact side_f ‹_› ‹_› ‹_›), rfl⟩ trivial
  ·skip
   exact v_back (k + 1) [] ((I64 (↑k + 1)) ∧ ((↑k : Int) + 1 = (↑(k + 1) : Int))) ⟨(by (unfold I64; omega)), rfl⟩ (show (sideP r (List.drop (k + 1) l) = sideP r l ∧ k + 1 ≤ l.length) ∧ l.length - (k + 1) < l.length - k from (by exact side_n ‹_› ‹_› ‹_›))
 ·have h2 := of_decide_eq_false h2
  refine v_leave (.ex 0) True trivial ?_
  exact v_ret () [] ((true = sideP r l) ∧ (l = l)) ⟨(by exact side_e ‹_› ‹_›), rfl⟩ trivial
theorem turn_eq {a b : Turn} (h1 : a.height = b.height) (h2 : a.size = b.size) (h3 : a.right = b.right) (h4 : a.other.l = b.other.l) : a = b := by
  cases a; cases b; simp only at h1 h2 h3 h4; subst h1; subst h2; subst h3; rw [Sum32.ext' h4]
def cpl : List Turn → List Turn → Nat
  | a :: l, b :: r => if a = b then cpl l r + 1 else 0
  | _, _ => 0
def nextQ (l r : List Turn) (i : Nat) : Bool :=
  decide ((i : Int) < l.length) && decide ((i : Int) < r.length) && !(l.getD i dT).right && (r.getD i dT).right && decide ((l.getD i dT).height = (r.getD i dT).height) && decide ((l.getD i dT).size = (r.getD i dT).size) && sideP true (l.drop (i + 1)) && sideP false (r.drop (i + 1))
def nextP (l r : List Turn) : Bool := nextQ l r (cpl l r)
def XI (l r : List Turn) (k : Nat) : Prop := cpl l r = k + cpl (l.drop k) (r.drop k) ∧ k ≤ l.length ∧ k ≤ r.length
theorem XI.start {l r : List Turn} : XI l r 0 := ⟨by simp, Nat.zero_le _, Nat.zero_le _⟩
section
variable {l r : List Turn} {k : Nat}
abbrev teq (a b : Turn) : Bool := decide (a.height = b.height) && (decide (a.size = b.size) && (a.right == b.right && (decide (a.other.l = b.other.l) && true)))
theorem teq_iff {a b : Turn} : teq a b = true ↔ a = b := by
  constructor
  · intro h
    simp only [teq, Bool.and_eq_true, decide_eq_true_eq, beq_iff_eq, and_true] at h
    exact turn_eq h.1 h.2.1 h.2.2.1 h.2.2.2
  · rintro rfl; simp [teq]
theorem XI.e1 (h : XI l r k) (hi : ¬ (k : Int) < l.length) : cpl l r = k := by
  rw [h.1, List.drop_of_length_le (l := l) (by omega)]; simp [cpl]
theorem XI.e2 (h : XI l r k) (hi : ¬ (k : Int) < r.length) : cpl l r = k := by
  rw [h.1, List.drop_of_length_le (l := r) (by omega)]; cases l.drop k <;> simp [cpl]
theorem XI.e3 (h : XI l r k) (h1 : (k : Int) < l.length) (h2 : (k : Int) < r.length) (h3 : teq (l.getD k dT) (r.getD k dT) = false) : cpl l r = k := by
  rw [h.1, drop_cons (d := dT) h1, drop_cons (d := dT) h2, cpl, if_neg (fun e => by rw [teq_iff.2 e] at h3; cases h3)]; rfl
theorem XI.next (h : XI l r k) (h1 : (k : Int) < l.length) (h2 : (k : Int) < r.length) (h3 : teq (l.getD k dT) (r.getD k dT) = true) : XI l r (k + 1) ∧ l.length - (k + 1) < l.length - k := by
  refine ⟨⟨?_, by omega, by omega⟩, by omega⟩
  rw [h.1, drop_cons (d := dT) h1, drop_cons (d := dT) h2, cpl, if_pos (teq_iff.1 h3)]; omega
theorem nq {b : Bool} (h : cpl l r = k) (h2 : b = nextQ l r k) : b = nextP l r := by unfold nextP; rw [h]; exact h2
end
noncomputable def ccC5_75 : Code := (Tryd.f75.body).getD .skip
theorem next_ok (l r : List Turn) (hl : l.length ≤ 1000000) (hr : r.length ≤ 1000000) : FOk EN 75 ⟨[.rd 121 l, .rd 121 r], [.n 0, .n 1], Unit, fun _ => ([.rd 121 l, .rd 121 r], .b (nextP l r)), fun _ => True⟩ := by
 refine v_fun Tryd.f75 ccC5_75 MX (fun ν F σ w => ?_) Tryd.func75
 refine v_nl ?_
 refine v_loop (fun k : Nat => ([(5, .i k)], [])) (fun k => XI l r k) (fun k => l.length - k) 0 [] (((0 : Int) = (↑(0 : Nat) : Int))) rfl (by exact XI.start) (fun k hk1 => ?_)
 have i1 := (‹XI l r k›).2
 refine v_plan (.fs [0, 1, 2, 3, 4, 5, 6, 7, 8, 9, 10, 11, 12, 13, 14, 15, 16, 17, 18, 19, 20] .e) [] True trivial ?_
 refine v_guard 10 (decide ((↑k : Int) < (↑l.length : Int))) True trivial (fun h2 => ?_) (fun h2 => ?_)
 ·have h2 := of_decide_eq_true h2
  refine v_guard 16 (decide ((↑k : Int) < (↑r.length : Int))) True trivial (fun h3 => ?_) (fun h3 => ?_)
  ·have h3 := of_decide_eq_true h3
   refine v_if (decide ((l.getD (↑k : Int).toNat (Turn.mk 0 0 false zero32)).height = (r.getD (↑k : Int).toNat (Turn.mk 0 0 false zero32)).height) && (decide ((l.getD (↑k : Int).toNat (Turn.mk 0 0 false zero32)).size = (r.getD (↑k : Int).toNat (Turn.mk 0 0 false zero32)).size) && ((l.getD (↑k : Int).toNat (Turn.mk 0 0 false zero32)).right == (r.getD (↑k : Int).toNat (Turn.mk 0 0 false zero32)).right && (decide ((l.getD (↑k : Int).toNat (Turn.mk 0 0 false zero32)).other.l = (r.getD (↑k : Int).toNat (Turn.mk 0 0 false zero32)).other.l) && true)))) ((0 ≤ (↑k : Int) ∧ (↑k : Int) < (↑l.length : Int)) ∧ (0 ≤ (↑k : Int) ∧ (↑k : Int) < (↑r.length : Int)) ∧ (EN.P.eqGuardType EN.P.depth (121 : Nat) = false) ∧ (noBl EN.P 121) ∧ ((l.getD (↑k : Int).toNat (Turn.mk 0 0 false zero32)).other.l.length = 32) ∧ ((r.getD (↑k : Int).toNat (Turn.mk 0 0 false zero32)).other.l.length = 32)) ⟨(by omega), (by omega), (by kernel_rfl), (by (unfold noBl; kernel_rfl)), (by exact Sum32.h _), (by exact Sum32.h _)⟩ (fun h4 => ?_) (fun h4 => ?_)
   ·skip
    exact v_back (k + 1) [] ((I64 (↑k + 1)) ∧ ((↑k : Int) + 1 = (↑(k + 1) : Int))) ⟨(by (unfold I64; omega)), rfl⟩ (show XI l r (k + 1) ∧ l.length - (k + 1) < l.length - k from (by exact XI.next ‹_› ‹_› ‹_› ‹_›))
   ·skip
    refine v_leave (.ex 0) True trivial ?_
    refine v_plan (.fs [0, 1, 2, 3, 4, 5, 6, 7, 8, 9, 10, 11, 12, 13, 14, 15, 16, 17, 18, 19, 20, 21, 22, 23, 24, 25, 26, 27, 28, 29, 30, 31, 32, 33, 34, 35, 36, 37, 38, 39, 40, 41, 42, 43, 44, 45, 46, 47, 48, 49, 50, 51, 52, 53, 54, 55] (.o 56 (.fs [57, 58, 59, 60, 61, 62] (.o 63 (.fs [64, 65] .e))))) [] True trivial ?_
    refine v_guard 33 (decide ((↑k : Int) < (↑l.length : Int))) True trivial (fun h5 => ?_) (fun h5 => ?_)
    ·have h5 := of_decide_eq_true h5
     refine v_guard 39 (decide ((↑k : Int) < (↑r.length : Int))) True trivial (fun h6 => ?_) (fun h6 => ?_)
     ·have h6 := of_decide_eq_true h6
      refine v_guard 47 (!(l.getD (↑k : Int).toNat (Turn.mk 0 0 false zero32)).right) ((0 ≤ (↑k : Int) ∧ (↑k : Int) < (↑l.length : Int))) (by omega) (fun h7 => ?_) (fun h7 => ?_)
      ·have h7 := (nt h7)
       refine v_guard 54 ((r.getD (↑k : Int).toNat (Turn.mk 0 0 false zero32)).right) ((0 ≤ (↑k : Int) ∧ (↑k : Int) < (↑r.length : Int))) (by omega) (fun h8 => ?_) (fun h8 => ?_)
       ·skip
        refine v_guard 67 (decide ((l.getD (↑k : Int).toNat (Turn.mk 0 0 false zero32)).height = (r.getD (↑k : Int).toNat (Turn.mk 0 0 false zero32)).height)) ((0 ≤ (↑k : Int) ∧ (↑k : Int) < (↑l.length : Int)) ∧ (0 ≤ (↑k : Int) ∧ (↑k : Int) < (↑r.length : Int))) ⟨(by omega), (by omega)⟩ (fun h9 => ?_) (fun h9 => ?_)
        ·have h9 := of_decide_eq_true h9
         refine v_guard 80 (decide ((l.getD (↑k : Int).toNat (Turn.mk 0 0 false zero32)).size = (r.getD (↑k : Int).toNat (Turn.mk 0 0 false zero32)).size)) ((0 ≤ (↑k : Int) ∧ (↑k : Int) < (↑l.length : Int)) ∧ (0 ≤ (↑k : Int) ∧ (↑k : Int) < (↑r.length : Int))) ⟨(by omega), (by omega)⟩ (fun h10 => ?_) (fun h10 => ?_)
         ·have h10 := of_decide_eq_true h10
          refine v_call _ [11] (side_ok (List.drop ((↑k : Int) + 1).toNat l) (true) (by (simp; omega))) ((I64 (↑k + 1)) ∧ (0 ≤ (↑k : Int) + 1 ∧ (↑k : Int) + 1 ≤ (↑l.length : Int)) ∧ (true = true) ∧ (List.drop ((↑k : Int) + 1).toNat l = List.drop ((↑k : Int) + 1).toNat l)) ⟨(by (unfold I64; omega)), (by omega), rfl, rfl⟩ (fun g11 p12 => ?_)
          have p12 : True := p12
          refine v_guard 87 (sideP true (List.drop ((↑k : Int) + 1).toNat l)) True trivial (fun h13 => ?_) (fun h13 => ?_)
          ·skip
           refine v_call _ [12] (side_ok (List.drop ((↑k : Int) + 1).toNat r) (false) (by (simp; omega))) ((I64 (↑k + 1)) ∧ (0 ≤ (↑k : Int) + 1 ∧ (↑k : Int) + 1 ≤ (↑r.length : Int)) ∧ (false = false) ∧ (List.drop ((↑k : Int) + 1).toNat r = List.drop ((↑k : Int) + 1).toNat r)) ⟨(by (unfold I64; omega)), (by omega), rfl, rfl⟩ (fun g14 p15 => ?_)
           have p15 : True := p15
           exact v_ret () [] ((sideP false (List.drop ((↑k : Int) + 1).toNat r) = nextP l r) ∧ (l = l) ∧ (r = r)) ⟨(by exact nq (k := k) (by first | exact XI.e1 ‹_› ‹_› | exact XI.e2 ‹_› ‹_› | exact XI.e3 ‹_› ‹_› ‹_› ‹_›) (by simp only [nextQ]; simp_all)), rfl, rfl⟩ trivial
          ·skip
           exact v_ret () [] ((false = nextP l r) ∧ (l = l) ∧ (r = r)) ⟨(by exact nq (k := k) (by first | exact XI.e1 ‹_› ‹_› | exact XI.e2 ‹_› ‹_› | exact XI.e3 ‹_› ‹_› ‹_› ‹_›) (by simp only [nextQ]; simp_all)), rfl, rfl⟩ trivial
         ·have h10 := of_decide_eq_false h10
          exact v_ret () [] ((false = nextP l r) ∧ (l = l) ∧ (r = r)) ⟨(by exact nq (k := k) (by first | exact XI.e1 ‹_› ‹_› | exact XI.e2 ‹_› ‹_› | exact XI.e3 ‹_› ‹_› ‹_› ‹_›) (by simp only [nextQ]; simp_all)), rfl, rfl⟩ trivial
        ·have h9 := of_decide_eq_false h9
         exact v_ret () [] ((false = nextP l r) ∧ (l = l) ∧ (r = r)) ⟨(by exact nq (k := k) (by first | exact XI.e1 ‹_› ‹_› | exact XI.e2 ‹_› ‹_› | exact XI.e3 ‹_› ‹_› ‹_› ‹_›) (by simp only [nextQ]; simp_all)), rfl, rfl⟩ trivial
       ·skip
        exact v_ret () [] ((false = nextP l r) ∧ (l = l) ∧ (r = r)) ⟨(by exact nq (k := k) (by first | exact XI.e1 ‹_› ‹_› | exact XI.e2 ‹_› ‹_› | exact XI.e3 ‹_› ‹_› ‹_› ‹_›) (by simp only [nextQ]; simp_all)), rfl, rfl⟩ trivial
      ·have h7 := (nf h7)
       exact v_ret () [] ((false = nextP l r) ∧ (l = l) ∧ (r = r)) ⟨(by exact nq (k := k) (by first | exact XI.e1 ‹_› ‹_› | exact XI.e2 ‹_› ‹_› | exact XI.e3 ‹_› ‹_› ‹_› ‹_›) (by simp only [nextQ]; simp_all)), rfl, rfl⟩ trivial
     ·have h6 := of_decide_eq_false h6
      omega
    ·have h5 := of_decide_eq_false h5
     omega
  ·have h3 := of_decide_eq_false h3
   refine v_leave (.ex 0) True trivial ?_
   refine v_plan (.fs [0, 1, 2, 3, 4, 5, 6, 7, 8, 9, 10, 11, 12, 13, 14, 15, 16, 17, 18, 19, 20, 21, 22, 23, 24, 25, 26, 27, 28, 29, 30, 31, 32, 33, 34, 35, 36, 37, 38, 39, 40, 41, 42, 43, 44, 45, 46, 47, 48, 49, 50, 51, 52, 53, 54, 55] (.o 56 (.fs [57, 58, 59, 60, 61, 62] (.o 63 (.fs [64, 65] .e))))) [] True trivial ?_
   refine v_guard 33 (decide ((↑k : Int) < (↑l.length : Int))) True trivial (fun h16 => ?_) (fun h16 => ?_)
   ·have h16 := of_decide_eq_true h16
    refine v_guard 39 (decide ((↑k : Int) < (↑r.length : Int))) True trivial (fun h17 => ?_) (fun h17 => ?_)
    ·have h17 := of_decide_eq_true h17
     omega
    ·have h17 := of_decide_eq_false h17
     exact v_ret () [] ((false = nextP l r) ∧ (l = l) ∧ (r = r)) ⟨(by exact nq (k := k) (by first | exact XI.e1 ‹_› ‹_› | exact XI.e2 ‹_› ‹_› | exact XI.e3 ‹_› ‹_› ‹_› ‹_›) (by simp only [nextQ]; simp [*])), rfl, rfl⟩ trivial
   ·have h16 := of_decide_eq_false h16
    omega
 ·have h2 := of_decide_eq_false h2
  refine v_leave (.ex 0) True trivial ?_
  refine v_plan (.fs [0, 1, 2, 3, 4, 5, 6, 7, 8, 9, 10, 11, 12, 13, 14, 15, 16, 17, 18, 19, 20, 21, 22, 23, 24, 25, 26, 27, 28, 29, 30, 31, 32, 33, 34, 35, 36, 37, 38, 39, 40, 41, 42, 43, 44, 45, 46, 47, 48, 49, 50, 51, 52, 53, 54, 55] (.o 56 (.fs [57, 58, 59, 60, 61, 62] (.o 63 (.fs [64, 65] .e))))) [] True trivial ?_
  refine v_guard 33 (decide ((↑k : Int) < (↑l.length : Int))) True trivial (fun h18 => ?_) (fun h18 => ?_)
  ·have h18 := of_decide_eq_true h18
   omega
  ·have h18 := of_decide_eq_false h18
   exact v_ret () [] ((false = nextP l r) ∧ (l = l) ∧ (r = r)) ⟨(by exact nq (k := k) (by first | exact XI.e1 ‹_› ‹_› | exact XI.e2 ‹_› ‹_› | exact XI.e3 ‹_› ‹_› ‹_› ‹_›) (by simp only [nextQ]; simp [*])), rfl, rfl⟩ trivial
def vgS (want k : List UInt8) (i : Int) (o : Option Proof) : Option Er :=
  if o.isNone = true then none
  else if (verP want (gp o)).isNone = false then some (.step ((#[115, 105, 100, 101] : Array UInt8).toList) i ((verP want (gp o)).getD (.num 0)))
  else if Lib.compareBytes (gp o).key k = 0 ∨ (decide (Lib.compareBytes (gp o).key k < 0) != decide (i = 0)) = true then some (.step ((#[115, 105, 100, 101] : Array UInt8).toList) i (.num 20))
  else none
def vgL (want k : List UInt8) (l r : Option Proof) : Option Er := if (vgS want k 0 l).isNone = true then vgS want k 1 r else vgS want k 0 l
def vgP (want k : List UInt8) (l r : Option Proof) : Option Er :=
  if k.length = 0 ∨ 96 < k.length then some (.step ((#[107, 101, 121] : Array UInt8).toList) k.length (.num 10))
  else if l.isNone = true ∧ r.isNone = true then (if want = sum256 [] then none else some (.step ((#[101, 109, 112, 116, 121] : Array UInt8).toList) 0 (.num 21)))
  else if (l.isNone = true ∧ sideP false (gp r).turns = false) ∨ (r.isNone = true ∧ sideP true (gp l).turns = false) then some (.step ((#[101, 110, 100] : Array UInt8).toList) 0 (.num 20))
  else if l.isNone = false ∧ r.isNone = false ∧ nextP (gp l).turns (gp r).turns = false then some (.step ((#[110, 101, 120, 116] : Array UInt8).toList) 0 (.num 20))
  else vgL want k l r
def VI (want k : List UInt8) (l r : Option Proof) (i : Nat) : Prop := i ≤ 2 ∧ (i = 0 ∨ vgS want k 0 l = none) ∧ (i ≤ 1 ∨ vgS want k 1 r = none) ∧ vgP want k l r = vgL want k l r
section
variable {want k : List UInt8} {l r : Option Proof} {i : Nat}
theorem VI.start (h : vgP want k l r = vgL want k l r) : VI want k l r 0 := ⟨by omega, .inl rfl, .inl (by omega), h⟩
theorem VI.it (h : VI want k l r i) (hi : (i : Int) < 2) : (i = 0 ∧ [l, r].getD i none = l) ∨ (i = 1 ∧ [l, r].getD i none = r) := by
  have : i = 0 ∨ i = 1 := by omega
  rcases this with rfl | rfl
  · exact .inl ⟨rfl, rfl⟩
  · exact .inr ⟨rfl, rfl⟩
theorem VI.hit (h : VI want k l r i) (hi : (i : Int) < 2) {e : Er} (hs : vgS want k i ([l, r].getD i none) = some e) : vgP want k l r = some e := by
  rw [h.2.2.2]
  rcases h.it hi with ⟨rfl, e1⟩ | ⟨rfl, e1⟩
  · rw [e1] at hs; unfold vgL; rw [if_neg (by rw [show vgS want k 0 l = some e from hs]; simp)]; exact hs
  · rw [e1] at hs; unfold vgL
    rcases h.2.1 with h0 | h0
    · omega
    · rw [if_pos (by rw [h0]; rfl)]; exact hs
theorem VI.next (h : VI want k l r i) (hi : (i : Int) < 2) (hs : vgS want k i ([l, r].getD i none) = none) : VI want k l r (i + 1) ∧ 2 - (i + 1) < 2 - i := by
  refine ⟨?_, by omega⟩
  rcases h.it hi with ⟨rfl, e1⟩ | ⟨rfl, e1⟩
  · rw [e1] at hs; exact ⟨by omega, .inr hs, .inl (by omega), h.2.2.2⟩
  · rw [e1] at hs; exact ⟨by omega, .inr (h.2.1.resolve_left (by omega)), .inr hs, h.2.2.2⟩
theorem VI.stop (h : VI want k l r i) (hi : ¬ (i : Int) < 2) : vgP want k l r = none := by
  rw [h.2.2.2]; unfold vgL
  rw [if_pos (by rw [h.2.1.resolve_left (by omega)]; rfl)]; exact h.2.2.1.resolve_left (by omega)
end
theorem vs1 {want k : List UInt8} {i : Int} {o : Option Proof} (h : o.isNone = true) : vgS want k i o = none := by unfold vgS; rw [if_pos h]
theorem vs2 {want k : List UInt8} {i : Int} {o : Option Proof} (h : o.isNone = false) (h2 : (verP want (gp o)).isNone = false) : vgS want k i o = some (.step ((#[115, 105, 100, 101] : Array UInt8).toList) i ((verP want (gp o)).getD (.num 0))) := by unfold vgS; rw [if_neg (by simp [h]), if_pos h2]
theorem vs3 {want k : List UInt8} {i : Int} {o : Option Proof} (h : o.isNone = false) (h2 : (verP want (gp o)).isNone = true) (h3 : Lib.compareBytes (gp o).key k = 0 ∨ (decide (Lib.compareBytes (gp o).key k < 0) != decide (i = 0)) = true) : vgS want k i o = some (.step ((#[115, 105, 100, 101] : Array UInt8).toList) i (.num 20)) := by unfold vgS; rw [if_neg (by simp [h]), if_neg (by simp [h2]), if_pos h3]
theorem vs4 {want k : List UInt8} {i : Int} {o : Option Proof} (h : o.isNone = false) (h2 : (verP want (gp o)).isNone = true) (h3 : ¬ Lib.compareBytes (gp o).key k = 0) (h4 : (decide (Lib.compareBytes (gp o).key k < 0) != decide (i = 0)) = false) : vgS want k i o = none := by unfold vgS; rw [if_neg (by simp [h]), if_neg (by simp [h2]), if_neg (by rw [h4]; simp [h3])]
theorem vg_next {want k : List UInt8} {l r : Option Proof} (h1 : ¬ (k.length : Int) = 0) (h2 : ¬ (96 : Int) < k.length) (h3 : l.isNone = false) (h4 : r.isNone = false) (h5 : nextP (gp l).turns (gp r).turns = false) : vgP want k l r = some (.step ((#[110, 101, 120, 116] : Array UInt8).toList) 0 (.num 20)) := by
  unfold vgP; rw [if_neg (by omega), if_neg (by simp [h3]), if_neg (by simp [h3, h4]), if_pos ⟨h3, h4, h5⟩]
theorem vg_both {want k : List UInt8} {l r : Option Proof} (h1 : ¬ (k.length : Int) = 0) (h2 : ¬ (96 : Int) < k.length) (h3 : l.isNone = false) (h4 : r.isNone = false) (h5 : nextP (gp l).turns (gp r).turns = true) : vgP want k l r = vgL want k l r := by
  unfold vgP; rw [if_neg (by omega), if_neg (by simp [h3]), if_neg (by simp [h3, h4]), if_neg (by simp [h5])]
noncomputable def ccC6_28 : Code := (Tryd.f28.body).getD .skip
theorem VerifyGap_ok (want k : List UInt8) (l r : Option Proof) (hw : want.length = 32) (hl : (gp l).turns.length ≤ 1000000) (hr : (gp r).turns.length ≤ 1000000) : FOk EN 28 ⟨[.pr wordsP, .rd 5 (k), .pt 26 l, .pt 26 r], [.a [.h 32 want], .n 1, .a [.n 2, .n 3]], Unit, fun _ => ([.pr wordsP, .rd 5 (k), .pt 26 l, .pt 26 r, .pn (PE (vgP want k l r)) true (vgP want k l r).isNone], .n 4), fun _ => True⟩ := by
 refine v_fun Tryd.f28 ccC6_28 MX (fun ν F σ w => ?_) Tryd.func28
 refine v_nl ?_
 refine v_guard 14 (decide ((↑k.length : Int) = 0)) True trivial (fun h1 => ?_) (fun h1 => ?_)
 ·have h1 := of_decide_eq_true h1
  refine v_al [] (al_e1 (10)) True trivial ?_
  refine v_call _ [7] (faultAt_ok (#[107, 101, 121].toList) (↑k.length) (Er.num 10)) ((#[(107 : UInt8), (101 : UInt8), (121 : UInt8)].toList = #[(107 : UInt8), (101 : UInt8), (121 : UInt8)].toList) ∧ ((↑k.length : Int) = (↑k.length : Int)) ∧ ((10 : Int) = (10 : Int)) ∧ (PE (some (Er.num 10)) = PE (some (Er.num 10))) ∧ (false = false)) ⟨rfl, rfl, rfl, rfl, rfl⟩ (fun g2 p3 => ?_)
  have p3 : True := p3
  exact v_ret () [8] ((wordsP = wordsP) ∧ (k = k) ∧ (l = l) ∧ (r = r) ∧ (PE (some (Er.step #[107, 101, 121].toList (↑k.length) (Er.num 10))) = PE (vgP want k l r)) ∧ (false = (vgP want k l r).isNone)) ⟨rfl, rfl, rfl, rfl, (by (unfold vgP; (repeat' split) <;> first | rfl | (exfalso; omega) | (exfalso; simp_all; done) | (exfalso; simp_all; omega))), (by (unfold vgP; (repeat' split) <;> first | rfl | (exfalso; omega) | (exfalso; simp_all; done) | (exfalso; simp_all; omega)))⟩ trivial
 ·have h1 := of_decide_eq_false h1
  refine v_if (decide (96 < (↑k.length : Int))) True trivial (fun h4 => ?_) (fun h4 => ?_)
  ·have h4 := of_decide_eq_true h4
   refine v_al [] (al_e1 (10)) True trivial ?_
   refine v_call _ [7] (faultAt_ok (#[107, 101, 121].toList) (↑k.length) (Er.num 10)) ((#[(107 : UInt8), (101 : UInt8), (121 : UInt8)].toList = #[(107 : UInt8), (101 : UInt8), (121 : UInt8)].toList) ∧ ((↑k.length : Int) = (↑k.length : Int)) ∧ ((10 : Int) = (10 : Int)) ∧ (PE (some (Er.num 10)) = PE (some (Er.num 10))) ∧ (false = false)) ⟨rfl, rfl, rfl, rfl, rfl⟩ (fun g5 p6 => ?_)
   have p6 : True := p6
   exact v_ret () [8] ((wordsP = wordsP) ∧ (k = k) ∧ (l = l) ∧ (r = r) ∧ (PE (some (Er.step #[107, 101, 121].toList (↑k.length) (Er.num 10))) = PE (vgP want k l r)) ∧ (false = (vgP want k l r).isNone)) ⟨rfl, rfl, rfl, rfl, (by (unfold vgP; (repeat' split) <;> first | rfl | (exfalso; omega) | (exfalso; simp_all; done) | (exfalso; simp_all; omega))), (by (unfold vgP; (repeat' split) <;> first | rfl | (exfalso; omega) | (exfalso; simp_all; done) | (exfalso; simp_all; omega)))⟩ trivial
  ·have h4 := of_decide_eq_false h4
   refine v_guard 27 (l.isNone) True trivial (fun h7 => ?_) (fun h7 => ?_)
   ·skip
    refine v_if (r.isNone) True trivial (fun h8 => ?_) (fun h8 => ?_)
    ·skip
     refine v_plan (.fs [0] (.o 1 (.fs [2] .e))) [5, 6] True trivial ?_
     refine v_call _ [0] (Empty_ok) ((wordsP = wordsP)) rfl (fun g9 p10 => ?_)
     have p10 : True := p10
     refine v_if (!decide (want = sum256 [])) ((EN.P.eqGuardType EN.P.depth (52 : Nat) = false) ∧ (want.length = 32) ∧ ((sum256 []).length = 32)) ⟨rfl, ‹_›, rfl⟩ (fun h11 => ?_) (fun h11 => ?_)
     ·have h11 := of_decide_eq_false (nt h11)
      refine v_al [] (al_e1 (21)) True trivial ?_
      refine v_call _ [7] (faultAt_ok (#[101, 109, 112, 116, 121].toList) (0) (Er.num 21)) ((#[(101 : UInt8), (109 : UInt8), (112 : UInt8), (116 : UInt8), (121 : UInt8)].toList = #[(101 : UInt8), (109 : UInt8), (112 : UInt8), (116 : UInt8), (121 : UInt8)].toList) ∧ ((0 : Int) = (0 : Int)) ∧ ((21 : Int) = (21 : Int)) ∧ (PE (some (Er.num 21)) = PE (some (Er.num 21))) ∧ (false = false)) ⟨rfl, rfl, rfl, rfl, rfl⟩ (fun g12 p13 => ?_)
      have p13 : True := p13
      exact v_ret () [8] ((wordsP = wordsP) ∧ (k = k) ∧ (l = l) ∧ (r = r) ∧ (PE (some (Er.step #[101, 109, 112, 116, 121].toList 0 (Er.num 21))) = PE (vgP want k l r)) ∧ (false = (vgP want k l r).isNone)) ⟨rfl, rfl, rfl, rfl, (by (unfold vgP; (repeat' split) <;> first | rfl | (exfalso; omega) | (exfalso; simp_all; done) | (exfalso; simp_all; omega))), (by (unfold vgP; (repeat' split) <;> first | rfl | (exfalso; omega) | (exfalso; simp_all; done) | (exfalso; simp_all; omega)))⟩ trivial
     ·have h11 := of_decide_eq_true (nf h11)
      refine v_al [] (al_e0 (vgP want k l r) (by (unfold vgP; (repeat' split) <;> first | rfl | (exfalso; omega) | (exfalso; simp_all; done) | (exfalso; simp_all; omega)))) True trivial ?_
      exact v_ret () [7] ((wordsP = wordsP) ∧ (k = k) ∧ (l = l) ∧ (r = r) ∧ (PE (vgP want k l r) = PE (vgP want k l r)) ∧ ((vgP want k l r).isNone = (vgP want k l r).isNone)) ⟨rfl, rfl, rfl, rfl, rfl, rfl⟩ trivial
    ·skip
     refine v_guard 41 (l.isNone) True trivial (fun h14 => ?_) (fun h14 => ?_)
     ·skip
      refine v_open 3 (open_pf (r) ‹_›) ((PPt GT 26 r = PPt GT 26 r)) rfl ?_
      refine v_call _ [9] (side_ok ((gp r).turns) (false) ‹_›) ((false = false) ∧ ((gp r).turns = (gp r).turns)) ⟨rfl, rfl⟩ (fun g15 p16 => ?_)
      have p16 : True := p16
      refine v_if (!sideP false (gp r).turns) True trivial (fun h17 => ?_) (fun h17 => ?_)
      ·have h17 := (nt h17)
       refine v_if (!sideP false (gp r).turns) True trivial (fun h18 => ?_) (fun h18 => ?_)
       ·have h18 := (nt h18)
        refine v_al [] (al_e1 (20)) True trivial ?_
        refine v_call _ [10] (faultAt_ok (#[101, 110, 100].toList) (0) (Er.num 20)) ((#[(101 : UInt8), (110 : UInt8), (100 : UInt8)].toList = #[(101 : UInt8), (110 : UInt8), (100 : UInt8)].toList) ∧ ((0 : Int) = (0 : Int)) ∧ ((20 : Int) = (20 : Int)) ∧ (PE (some (Er.num 20)) = PE (some (Er.num 20))) ∧ (false = false)) ⟨rfl, rfl, rfl, rfl, rfl⟩ (fun g19 p20 => ?_)
        have p20 : True := p20
        exact v_ret () [11] ((wordsP = wordsP) ∧ (k = k) ∧ (l = l) ∧ (PLe (PPt GT 26 r) (PPt GT 26 r)) ∧ (PE (some (Er.step #[101, 110, 100].toList 0 (Er.num 20))) = PE (vgP want k l r)) ∧ (false = (vgP want k l r).isNone)) ⟨rfl, rfl, rfl, fun _ _ _ h => h, (by (unfold vgP; (repeat' split) <;> first | rfl | (exfalso; omega) | (exfalso; simp_all; done) | (exfalso; simp_all; omega))), (by (unfold vgP; (repeat' split) <;> first | rfl | (exfalso; omega) | (exfalso; simp_all; done) | (exfalso; simp_all; omega)))⟩ trivial
       ·have h18 := (nf h18)
        exfalso; (simp_all; done)
      ·have h17 := (nf h17)
       refine v_plan (.fs [0, 1, 2, 3, 4, 5, 6, 7, 8, 9, 10, 11, 12, 13, 14, 15, 16, 17, 18] (.o 19 (.fs [20, 21, 22] .e))) [5, 6] True trivial ?_
       refine v_guard 68 (!l.isNone) True trivial (fun h21 => ?_) (fun h21 => ?_)
       ·have h21 := (nt h21)
        exfalso; (simp_all; done)
       ·have h21 := (nf h21)
        refine v_loop (fun i : Nat => ([(95, .i i), (93, .n 11)], [.ow 29 [l, r]])) (fun i => VI want k l r i) (fun i => 2 - i) 0 [10] (((0 : Int) = (↑(0 : Nat) : Int)) ∧ ([l, some (Proof.mk (gp r).key (gp r).value (gp r).turns)] = [l, r])) ⟨rfl, (by (first | rw [← gp_some (o := l) ‹_›, ← gp_some (o := r) ‹_›] | rw [← gp_some (o := r) ‹_›] | rw [← gp_some (o := l) ‹_›]))⟩ (by exact VI.start (by unfold vgP; (repeat' split) <;> first | rfl | (exfalso; omega) | (exfalso; simp_all; done) | (exfalso; simp_all; omega))) (fun i hk22 => ?_)
        have i1 := (‹VI want k l r i›).1
        refine v_if (decide ((↑i : Int) < (↑(2 : Nat) : Int))) True trivial (fun h23 => ?_) (fun h23 => ?_)
        ·have h23 := of_decide_eq_true h23
         refine v_if (([l, r].getD (↑i : Int).toNat none).isNone) (((0 : Int) ≤ (↑i : Int) ∧ (↑i : Int) < (↑(2 : Nat) : Int))) (by omega) (fun h24 => ?_) (fun h24 => ?_)
         ·skip
          exact v_back (i + 1) [11] ((I64 (↑i + 1)) ∧ ((↑i : Int) + 1 = (↑(i + 1) : Int)) ∧ ([l, r] = [l, r])) ⟨(by (unfold I64; omega)), rfl, rfl⟩ (show VI want k l r (i + 1) ∧ 2 - (i + 1) < 2 - i from (by exact VI.next ‹_› ‹_› (by first | exact vs1 ‹_› | exact vs4 ‹_› ‹_› ‹_› ‹_›)))
         ·skip
          refine v_open 12 (open_pf ([l, r].getD (↑i : Int).toNat none) ‹_›) ((PPt GT 26 ([l, r].getD (↑i : Int).toNat none) = PPt GT 26 ([l, r].getD (↑i : Int).toNat none))) rfl ?_
          refine v_plan (.fs [0, 1, 2, 3] (.o 4 (.fs [5] .e))) [5, 6, 11] True trivial ?_
          refine v_call _ [0, 14, 15, 16] (Verify_ok (want) (gp ([l, r].getD (↑i : Int).toNat none)) ‹_›) ((want = want) ∧ (wordsP = wordsP) ∧ ((gp ([l, r].getD (↑i : Int).toNat none)).key = (gp ([l, r].getD (↑i : Int).toNat none)).key) ∧ ((gp ([l, r].getD (↑i : Int).toNat none)).value = (gp ([l, r].getD (↑i : Int).toNat none)).value) ∧ ((gp ([l, r].getD (↑i : Int).toNat none)).turns = (gp ([l, r].getD (↑i : Int).toNat none)).turns)) ⟨rfl, rfl, rfl, rfl, rfl⟩ (fun g25 p26 => ?_)
          have p26 : True := p26
          refine v_if (!(verP want (gp ([l, r].getD (↑i : Int).toNat none))).isNone) True trivial (fun h27 => ?_) (fun h27 => ?_)
          ·have h27 := (nt h27)
           refine v_call _ [17] (faultAt2_ok (#[115, 105, 100, 101].toList) (↑i) (verP want (gp ([l, r].getD (↑i : Int).toNat none))) ‹_›) ((#[(115 : UInt8), (105 : UInt8), (100 : UInt8), (101 : UInt8)].toList = #[(115 : UInt8), (105 : UInt8), (100 : UInt8), (101 : UInt8)].toList) ∧ ((↑i : Int) = (↑i : Int)) ∧ (PE (verP want (gp ([l, r].getD (↑i : Int).toNat none))) = PE (verP want (gp ([l, r].getD (↑i : Int).toNat none)))) ∧ ((verP want (gp ([l, r].getD (↑i : Int).toNat none))).isNone = (verP want (gp ([l, r].getD (↑i : Int).toNat none))).isNone)) ⟨rfl, rfl, rfl, rfl⟩ (fun g28 p29 => ?_)
           have p29 : True := p29
           refine v_leave .rt True trivial ?_
           exact v_ret () [18] ((wordsP = wordsP) ∧ (k = k) ∧ (l = l) ∧ (PLe (PPt GT 26 r) (PPt GT 26 r)) ∧ (PE (some (Er.step #[115, 105, 100, 101].toList (↑i : Int) ((verP want (gp ([l, r].getD (↑i : Int).toNat none))).getD (Er.num 0)))) = PE (vgP want k l r)) ∧ (false = (vgP want k l r).isNone)) ⟨rfl, rfl, rfl, fun _ _ _ h => h, (by (rw [VI.hit ‹_› ‹_› (by first | exact vs2 ‹_› ‹_› | exact vs3 ‹_› ‹_› (Or.inl ‹_›) | exact vs3 ‹_› ‹_› (Or.inr ‹_›))] <;> rfl)), (by (rw [VI.hit ‹_› ‹_› (by first | exact vs2 ‹_› ‹_› | exact vs3 ‹_› ‹_› (Or.inl ‹_›) | exact vs3 ‹_› ‹_› (Or.inr ‹_›))] <;> rfl))⟩ trivial
          ·have h27 := (nf h27)
           refine v_call _ [14, 1] (bcmp_ok ((gp ([l, r].getD (↑i : Int).toNat none)).key) (k)) (((gp ([l, r].getD (↑i : Int).toNat none)).key = (gp ([l, r].getD (↑i : Int).toNat none)).key) ∧ (k = k)) ⟨rfl, rfl⟩ (fun g30 p31 => ?_)
           have p31 : True := p31
           refine v_guard 120 (decide (Lib.compareBytes (gp ([l, r].getD (↑i : Int).toNat none)).key k = 0)) True trivial (fun h32 => ?_) (fun h32 => ?_)
           ·have h32 := of_decide_eq_true h32
            refine v_al [] (al_e1 (20)) True trivial ?_
            refine v_call _ [18] (faultAt_ok (#[115, 105, 100, 101].toList) (↑i) (Er.num 20)) ((#[(115 : UInt8), (105 : UInt8), (100 : UInt8), (101 : UInt8)].toList = #[(115 : UInt8), (105 : UInt8), (100 : UInt8), (101 : UInt8)].toList) ∧ ((↑i : Int) = (↑i : Int)) ∧ ((20 : Int) = (20 : Int)) ∧ (PE (some (Er.num 20)) = PE (some (Er.num 20))) ∧ (false = false)) ⟨rfl, rfl, rfl, rfl, rfl⟩ (fun g33 p34 => ?_)
            have p34 : True := p34
            refine v_leave .rt True trivial ?_
            exact v_ret () [19] ((wordsP = wordsP) ∧ (k = k) ∧ (l = l) ∧ (PLe (PPt GT 26 r) (PPt GT 26 r)) ∧ (PE (some (Er.step #[115, 105, 100, 101].toList (↑i) (Er.num 20))) = PE (vgP want k l r)) ∧ (false = (vgP want k l r).isNone)) ⟨rfl, rfl, rfl, fun _ _ _ h => h, (by (rw [VI.hit ‹_› ‹_› (by first | exact vs2 ‹_› ‹_› | exact vs3 ‹_› ‹_› (Or.inl ‹_›) | exact vs3 ‹_› ‹_› (Or.inr ‹_›))] <;> rfl)), (by (rw [VI.hit ‹_› ‹_› (by first | exact vs2 ‹_› ‹_› | exact vs3 ‹_› ‹_› (Or.inl ‹_›) | exact vs3 ‹_› ‹_› (Or.inr ‹_›))] <;> rfl))⟩ trivial
           ·have h32 := of_decide_eq_false h32
            refine v_if (decide (Lib.compareBytes (gp ([l, r].getD (↑i : Int).toNat none)).key k < 0) != decide ((↑i : Int) = 0)) True trivial (fun h35 => ?_) (fun h35 => ?_)
            ·skip
             refine v_al [] (al_e1 (20)) True trivial ?_
             refine v_call _ [18] (faultAt_ok (#[115, 105, 100, 101].toList) (↑i) (Er.num 20)) ((#[(115 : UInt8), (105 : UInt8), (100 : UInt8), (101 : UInt8)].toList = #[(115 : UInt8), (105 : UInt8), (100 : UInt8), (101 : UInt8)].toList) ∧ ((↑i : Int) = (↑i : Int)) ∧ ((20 : Int) = (20 : Int)) ∧ (PE (some (Er.num 20)) = PE (some (Er.num 20))) ∧ (false = false)) ⟨rfl, rfl, rfl, rfl, rfl⟩ (fun g36 p37 => ?_)
             have p37 : True := p37
             refine v_leave .rt True trivial ?_
             exact v_ret () [19] ((wordsP = wordsP) ∧ (k = k) ∧ (l = l) ∧ (PLe (PPt GT 26 r) (PPt GT 26 r)) ∧ (PE (some (Er.step #[115, 105, 100, 101].toList (↑i) (Er.num 20))) = PE (vgP want k l r)) ∧ (false = (vgP want k l r).isNone)) ⟨rfl, rfl, rfl, fun _ _ _ h => h, (by (rw [VI.hit ‹_› ‹_› (by first | exact vs2 ‹_› ‹_› | exact vs3 ‹_› ‹_› (Or.inl ‹_›) | exact vs3 ‹_› ‹_› (Or.inr ‹_›))] <;> rfl)), (by (rw [VI.hit ‹_› ‹_› (by first | exact vs2 ‹_› ‹_› | exact vs3 ‹_› ‹_› (Or.inl ‹_›) | exact vs3 ‹_› ‹_› (Or.inr ‹_›))] <;> rfl))⟩ trivial
            ·skip
             exact v_back (i + 1) [11] ((I64 (↑i + 1)) ∧ ((↑i : Int) + 1 = (↑(i + 1) : Int)) ∧ ([l, r] = [l, r])) ⟨(by (unfold I64; omega)), rfl, rfl⟩ (show VI want k l r (i + 1) ∧ 2 - (i + 1) < 2 - i from (by exact VI.next ‹_› ‹_› (by first | exact vs1 ‹_› | exact vs4 ‹_› ‹_› ‹_› ‹_›)))
        ·have h23 := of_decide_eq_false h23
         refine v_leave (.ex 1) True trivial ?_
         refine v_al [] (al_e0 (vgP want k l r) (by exact VI.stop ‹_› ‹_›)) True trivial ?_
         exact v_ret () [12] ((wordsP = wordsP) ∧ (k = k) ∧ (l = l) ∧ (PLe (PPt GT 26 r) (PPt GT 26 r)) ∧ (PE (vgP want k l r) = PE (vgP want k l r)) ∧ ((vgP want k l r).isNone = (vgP want k l r).isNone)) ⟨rfl, rfl, rfl, fun _ _ _ h => h, rfl, rfl⟩ trivial
     ·skip
      exfalso; (simp_all; done)
   ·skip
    refine v_guard 41 (l.isNone) True trivial (fun h38 => ?_) (fun h38 => ?_)
    ·skip
     exfalso; (simp_all; done)
    ·skip
     refine v_guard 53 (r.isNone) True trivial (fun h39 => ?_) (fun h39 => ?_)
     ·skip
      refine v_open 2 (open_pf (l) ‹_›) ((PPt GT 26 l = PPt GT 26 l)) rfl ?_
      refine v_call _ [9] (side_ok ((gp l).turns) (true) ‹_›) ((true = true) ∧ ((gp l).turns = (gp l).turns)) ⟨rfl, rfl⟩ (fun g40 p41 => ?_)
      have p41 : True := p41
      refine v_if (!sideP true (gp l).turns) True trivial (fun h42 => ?_) (fun h42 => ?_)
      ·have h42 := (nt h42)
       refine v_al [] (al_e1 (20)) True trivial ?_
       refine v_call _ [10] (faultAt_ok (#[101, 110, 100].toList) (0) (Er.num 20)) ((#[(101 : UInt8), (110 : UInt8), (100 : UInt8)].toList = #[(101 : UInt8), (110 : UInt8), (100 : UInt8)].toList) ∧ ((0 : Int) = (0 : Int)) ∧ ((20 : Int) = (20 : Int)) ∧ (PE (some (Er.num 20)) = PE (some (Er.num 20))) ∧ (false = false)) ⟨rfl, rfl, rfl, rfl, rfl⟩ (fun g43 p44 => ?_)
       have p44 : True := p44
       exact v_ret () [11] ((wordsP = wordsP) ∧ (k = k) ∧ (PLe (PPt GT 26 l) (PPt GT 26 l)) ∧ (r = r) ∧ (PE (some (Er.step #[101, 110, 100].toList 0 (Er.num 20))) = PE (vgP want k l r)) ∧ (false = (vgP want k l r).isNone)) ⟨rfl, rfl, fun _ _ _ h => h, rfl, (by (unfold vgP; (repeat' split) <;> first | rfl | (exfalso; omega) | (exfalso; simp_all; done) | (exfalso; simp_all; omega))), (by (unfold vgP; (repeat' split) <;> first | rfl | (exfalso; omega) | (exfalso; simp_all; done) | (exfalso; simp_all; omega)))⟩ trivial
      ·have h42 := (nf h42)
       refine v_plan (.fs [0, 1, 2, 3, 4, 5, 6, 7, 8, 9, 10, 11, 12, 13, 14, 15, 16, 17, 18] (.o 19 (.fs [20, 21, 22] .e))) [5, 6] True trivial ?_
       refine v_guard 73 (!r.isNone) True trivial (fun h45 => ?_) (fun h45 => ?_)
       ·have h45 := (nt h45)
        exfalso; (simp_all; done)
       ·have h45 := (nf h45)
        refine v_loop (fun i : Nat => ([(95, .i i), (93, .n 11)], [.ow 29 [l, r]])) (fun i => VI want k l r i) (fun i => 2 - i) 0 [10] (((0 : Int) = (↑(0 : Nat) : Int)) ∧ ([some (Proof.mk (gp l).key (gp l).value (gp l).turns), r] = [l, r])) ⟨rfl, (by (first | rw [← gp_some (o := l) ‹_›, ← gp_some (o := r) ‹_›] | rw [← gp_some (o := r) ‹_›] | rw [← gp_some (o := l) ‹_›]))⟩ (by exact VI.start (by unfold vgP; (repeat' split) <;> first | rfl | (exfalso; omega) | (exfalso; simp_all; done) | (exfalso; simp_all; omega))) (fun i hk46 => ?_)
        have i1 := (‹VI want k l r i›).1
        refine v_if (decide ((↑i : Int) < (↑(2 : Nat) : Int))) True trivial (fun h47 => ?_) (fun h47 => ?_)
        ·have h47 := of_decide_eq_true h47
         refine v_if (([l, r].getD (↑i : Int).toNat none).isNone) (((0 : Int) ≤ (↑i : Int) ∧ (↑i : Int) < (↑(2 : Nat) : Int))) (by omega) (fun h48 => ?_) (fun h48 => ?_)
         ·skip
          exact v_back (i + 1) [11] ((I64 (↑i + 1)) ∧ ((↑i : Int) + 1 = (↑(i + 1) : Int)) ∧ ([l, r] = [l, r])) ⟨(by (unfold I64; omega)), rfl, rfl⟩ (show VI want k l r (i + 1) ∧ 2 - (i + 1) < 2 - i from (by exact VI.next ‹_› ‹_› (by first | exact vs1 ‹_› | exact vs4 ‹_› ‹_› ‹_› ‹_›)))
         ·skip
          refine v_open 12 (open_pf ([l, r].getD (↑i : Int).toNat none) ‹_›) ((PPt GT 26 ([l, r].getD (↑i : Int).toNat none) = PPt GT 26 ([l, r].getD (↑i : Int).toNat none))) rfl ?_
          refine v_plan (.fs [0, 1, 2, 3] (.o 4 (.fs [5] .e))) [5, 6, 11] True trivial ?_
          refine v_call _ [0, 14, 15, 16] (Verify_ok (want) (gp ([l, r].getD (↑i : Int).toNat none)) ‹_›) ((want = want) ∧ (wordsP = wordsP) ∧ ((gp ([l, r].getD (↑i : Int).toNat none)).key = (gp ([l, r].getD (↑i : Int).toNat none)).key) ∧ ((gp ([l, r].getD (↑i : Int).toNat none)).value = (gp ([l, r].getD (↑i : Int).toNat none)).value) ∧ ((gp ([l, r].getD (↑i : Int).toNat none)).turns = (gp ([l, r].getD (↑i : Int).toNat none)).turns)) ⟨rfl, rfl, rfl, rfl, rfl⟩ (fun g49 p50 => ?_)
          have p50 : True := p50
          refine v_if (!(verP want (gp ([l, r].getD (↑i : Int).toNat none))).isNone) True trivial (fun h51 => ?_) (fun h51 => ?_)
          ·have h51 := (nt h51)
           refine v_call _ [17] (faultAt2_ok (#[115, 105, 100, 101].toList) (↑i) (verP want (gp ([l, r].getD (↑i : Int).toNat none))) ‹_›) ((#[(115 : UInt8), (105 : UInt8), (100 : UInt8), (101 : UInt8)].toList = #[(115 : UInt8), (105 : UInt8), (100 : UInt8), (101 : UInt8)].toList) ∧ ((↑i : Int) = (↑i : Int)) ∧ (PE (verP want (gp ([l, r].getD (↑i : Int).toNat none))) = PE (verP want (gp ([l, r].getD (↑i : Int).toNat none)))) ∧ ((verP want (gp ([l, r].getD (↑i : Int).toNat none))).isNone = (verP want (gp ([l, r].getD (↑i : Int).toNat none))).isNone)) ⟨rfl, rfl, rfl, rfl⟩ (fun g52 p53 => ?_)
           have p53 : True := p53
           refine v_leave .rt True trivial ?_
           exact v_ret () [18] ((wordsP = wordsP) ∧ (k = k) ∧ (PLe (PPt GT 26 l) (PPt GT 26 l)) ∧ (r = r) ∧ (PE (some (Er.step #[115, 105, 100, 101].toList (↑i : Int) ((verP want (gp ([l, r].getD (↑i : Int).toNat none))).getD (Er.num 0)))) = PE (vgP want k l r)) ∧ (false = (vgP want k l r).isNone)) ⟨rfl, rfl, fun _ _ _ h => h, rfl, (by (rw [VI.hit ‹_› ‹_› (by first | exact vs2 ‹_› ‹_› | exact vs3 ‹_› ‹_› (Or.inl ‹_›) | exact vs3 ‹_› ‹_› (Or.inr ‹_›))] <;> rfl)), (by (rw [VI.hit ‹_› ‹_› (by first | exact vs2 ‹_› ‹_› | exact vs3 ‹_› ‹_› (Or.inl ‹_›) | exact vs3 ‹_› ‹_› (Or.inr ‹_›))] <;> rfl))⟩ trivial
          ·have h51 := (nf h51)
           refine v_call _ [14, 1] (bcmp_ok ((gp ([l, r].getD (↑i : Int).toNat none)).key) (k)) (((gp ([l, r].getD (↑i : Int).toNat none)).key = (gp ([l, r].getD (↑i : Int).toNat none)).key) ∧ (k = k)) ⟨rfl, rfl⟩ (fun g54 p55 => ?_)
           have p55 : True := p55
           refine v_guard 120 (decide (Lib.compareBytes (gp ([l, r].getD (↑i : Int).toNat none)).key k = 0)) True trivial (fun h56 => ?_) (fun h56 => ?_)
           ·have h56 := of_decide_eq_true h56
            refine v_al [] (al_e1 (20)) True trivial ?_
            refine v_call _ [18] (faultAt_ok (#[115, 105, 100, 101].toList) (↑i) (Er.num 20)) ((#[(115 : UInt8), (105 : UInt8), (100 : UInt8), (101 : UInt8)].toList = #[(115 : UInt8), (105 : UInt8), (100 : UInt8), (101 : UInt8)].toList) ∧ ((↑i : Int) = (↑i : Int)) ∧ ((20 : Int) = (20 : Int)) ∧ (PE (some (Er.num 20)) = PE (some (Er.num 20))) ∧ (false = false)) ⟨rfl, rfl, rfl, rfl, rfl⟩ (fun g57 p58 => ?_)
            have p58 : True := p58
            refine v_leave .rt True trivial ?_
            exact v_ret () [19] ((wordsP = wordsP) ∧ (k = k) ∧ (PLe (PPt GT 26 l) (PPt GT 26 l)) ∧ (r = r) ∧ (PE (some (Er.step #[115, 105, 100, 101].toList (↑i) (Er.num 20))) = PE (vgP want k l r)) ∧ (false = (vgP want k l r).isNone)) ⟨rfl, rfl, fun _ _ _ h => h, rfl, (by (rw [VI.hit ‹_› ‹_› (by first | exact vs2 ‹_› ‹_› | exact vs3 ‹_› ‹_› (Or.inl ‹_›) | exact vs3 ‹_› ‹_› (Or.inr ‹_›))] <;> rfl)), (by (rw [VI.hit ‹_› ‹_› (by first | exact vs2 ‹_› ‹_› | exact vs3 ‹_› ‹_› (Or.inl ‹_›) | exact vs3 ‹_› ‹_› (Or.inr ‹_›))] <;> rfl))⟩ trivial
           ·have h56 := of_decide_eq_false h56
            refine v_if (decide (Lib.compareBytes (gp ([l, r].getD (↑i : Int).toNat none)).key k < 0) != decide ((↑i : Int) = 0)) True trivial (fun h59 => ?_) (fun h59 => ?_)
            ·skip
             refine v_al [] (al_e1 (20)) True trivial ?_
             refine v_call _ [18] (faultAt_ok (#[115, 105, 100, 101].toList) (↑i) (Er.num 20)) ((#[(115 : UInt8), (105 : UInt8), (100 : UInt8), (101 : UInt8)].toList = #[(115 : UInt8), (105 : UInt8), (100 : UInt8), (101 : UInt8)].toList) ∧ ((↑i : Int) = (↑i : Int)) ∧ ((20 : Int) = (20 : Int)) ∧ (PE (some (Er.num 20)) = PE (some (Er.num 20))) ∧ (false = false)) ⟨rfl, rfl, rfl, rfl, rfl⟩ (fun g60 p61 => ?_)
             have p61 : True := p61
             refine v_leave .rt True trivial ?_
             exact v_ret () [19] ((wordsP = wordsP) ∧ (k = k) ∧ (PLe (PPt GT 26 l) (PPt GT 26 l)) ∧ (r = r) ∧ (PE (some (Er.step #[115, 105, 100, 101].toList (↑i) (Er.num 20))) = PE (vgP want k l r)) ∧ (false = (vgP want k l r).isNone)) ⟨rfl, rfl, fun _ _ _ h => h, rfl, (by (rw [VI.hit ‹_› ‹_› (by first | exact vs2 ‹_› ‹_› | exact vs3 ‹_› ‹_› (Or.inl ‹_›) | exact vs3 ‹_› ‹_› (Or.inr ‹_›))] <;> rfl)), (by (rw [VI.hit ‹_› ‹_› (by first | exact vs2 ‹_› ‹_› | exact vs3 ‹_› ‹_› (Or.inl ‹_›) | exact vs3 ‹_› ‹_› (Or.inr ‹_›))] <;> rfl))⟩ trivial
            ·skip
             exact v_back (i + 1) [11] ((I64 (↑i + 1)) ∧ ((↑i : Int) + 1 = (↑(i + 1) : Int)) ∧ ([l, r] = [l, r])) ⟨(by (unfold I64; omega)), rfl, rfl⟩ (show VI want k l r (i + 1) ∧ 2 - (i + 1) < 2 - i from (by exact VI.next ‹_› ‹_› (by first | exact vs1 ‹_› | exact vs4 ‹_› ‹_› ‹_› ‹_›)))
        ·have h47 := of_decide_eq_false h47
         refine v_leave (.ex 1) True trivial ?_
         refine v_al [] (al_e0 (vgP want k l r) (by exact VI.stop ‹_› ‹_›)) True trivial ?_
         exact v_ret () [12] ((wordsP = wordsP) ∧ (k = k) ∧ (PLe (PPt GT 26 l) (PPt GT 26 l)) ∧ (r = r) ∧ (PE (vgP want k l r) = PE (vgP want k l r)) ∧ ((vgP want k l r).isNone = (vgP want k l r).isNone)) ⟨rfl, rfl, fun _ _ _ h => h, rfl, rfl, rfl⟩ trivial
     ·skip
      refine v_open 2 (open_pf (l) ‹_›) ((PPt GT 26 l = PPt GT 26 l)) rfl ?_
      refine v_open 3 (open_pf (r) ‹_›) ((PPt GT 26 r = PPt GT 26 r)) rfl ?_
      refine v_plan (.fs [0, 1, 2, 3, 4, 5, 6, 7, 8, 9, 10, 11, 12, 13, 14, 15, 16, 17, 18] (.o 19 (.fs [20, 21, 22] .e))) [5, 6] True trivial ?_
      refine v_call _ [9, 12] (next_ok ((gp l).turns) ((gp r).turns) ‹_› ‹_›) (((gp l).turns = (gp l).turns) ∧ ((gp r).turns = (gp r).turns)) ⟨rfl, rfl⟩ (fun g62 p63 => ?_)
      have p63 : True := p63
      refine v_if (!nextP (gp l).turns (gp r).turns) True trivial (fun h64 => ?_) (fun h64 => ?_)
      ·have h64 := (nt h64)
       refine v_al [] (al_e1 (20)) True trivial ?_
       refine v_call _ [13] (faultAt_ok (#[110, 101, 120, 116].toList) (0) (Er.num 20)) ((#[(110 : UInt8), (101 : UInt8), (120 : UInt8), (116 : UInt8)].toList = #[(110 : UInt8), (101 : UInt8), (120 : UInt8), (116 : UInt8)].toList) ∧ ((0 : Int) = (0 : Int)) ∧ ((20 : Int) = (20 : Int)) ∧ (PE (some (Er.num 20)) = PE (some (Er.num 20))) ∧ (false = false)) ⟨rfl, rfl, rfl, rfl, rfl⟩ (fun g65 p66 => ?_)
       have p66 : True := p66
       exact v_ret () [14] ((wordsP = wordsP) ∧ (k = k) ∧ (PLe (PPt GT 26 l) (PPt GT 26 l)) ∧ (PLe (PPt GT 26 r) (PPt GT 26 r)) ∧ (PE (some (Er.step #[110, 101, 120, 116].toList 0 (Er.num 20))) = PE (vgP want k l r)) ∧ (false = (vgP want k l r).isNone)) ⟨rfl, rfl, fun _ _ _ h => h, fun _ _ _ h => h, (by (rw [vg_next ‹_› ‹_› ‹_› ‹_› ‹_›] <;> rfl)), (by (rw [vg_next ‹_› ‹_› ‹_› ‹_› ‹_›] <;> rfl))⟩ trivial
      ·have h64 := (nf h64)
       refine v_loop (fun i : Nat => ([(95, .i i), (93, .n 14)], [.ow 29 [l, r]])) (fun i => VI want k l r i) (fun i => 2 - i) 0 [13] (((0 : Int) = (↑(0 : Nat) : Int)) ∧ ([some (Proof.mk (gp l).key (gp l).value (gp l).turns), some (Proof.mk (gp r).key (gp r).value (gp r).turns)] = [l, r])) ⟨rfl, (by (first | rw [← gp_some (o := l) ‹_›, ← gp_some (o := r) ‹_›] | rw [← gp_some (o := r) ‹_›] | rw [← gp_some (o := l) ‹_›]))⟩ (by exact VI.start (vg_both ‹_› ‹_› ‹_› ‹_› ‹_›)) (fun i hk67 => ?_)
       have i1 := (‹VI want k l r i›).1
       refine v_if (decide ((↑i : Int) < (↑(2 : Nat) : Int))) True trivial (fun h68 => ?_) (fun h68 => ?_)
       ·have h68 := of_decide_eq_true h68
        refine v_if (([l, r].getD (↑i : Int).toNat none).isNone) (((0 : Int) ≤ (↑i : Int) ∧ (↑i : Int) < (↑(2 : Nat) : Int))) (by omega) (fun h69 => ?_) (fun h69 => ?_)
        ·skip
         exact v_back (i + 1) [14] ((I64 (↑i + 1)) ∧ ((↑i : Int) + 1 = (↑(i + 1) : Int)) ∧ ([l, r] = [l, r])) ⟨(by (unfold I64; omega)), rfl, rfl⟩ (show VI want k l r (i + 1) ∧ 2 - (i + 1) < 2 - i from (by exact VI.next ‹_› ‹_› (by first | exact vs1 ‹_› | exact vs4 ‹_› ‹_› ‹_› ‹_›)))
        ·skip
         refine v_open 15 (open_pf ([l, r].getD (↑i : Int).toNat none) ‹_›) ((PPt GT 26 ([l, r].getD (↑i : Int).toNat none) = PPt GT 26 ([l, r].getD (↑i : Int).toNat none))) rfl ?_
         refine v_plan (.fs [0, 1, 2, 3] (.o 4 (.fs [5] .e))) [5, 6, 14] True trivial ?_
         refine v_call _ [0, 17, 18, 19] (Verify_ok (want) (gp ([l, r].getD (↑i : Int).toNat none)) ‹_›) ((want = want) ∧ (wordsP = wordsP) ∧ ((gp ([l, r].getD (↑i : Int).toNat none)).key = (gp ([l, r].getD (↑i : Int).toNat none)).key) ∧ ((gp ([l, r].getD (↑i : Int).toNat none)).value = (gp ([l, r].getD (↑i : Int).toNat none)).value) ∧ ((gp ([l, r].getD (↑i : Int).toNat none)).turns = (gp ([l, r].getD (↑i : Int).toNat none)).turns)) ⟨rfl, rfl, rfl, rfl, rfl⟩ (fun g70 p71 => ?_)
         have p71 : True := p71
         refine v_if (!(verP want (gp ([l, r].getD (↑i : Int).toNat none))).isNone) True trivial (fun h72 => ?_) (fun h72 => ?_)
         ·have h72 := (nt h72)
          refine v_call _ [20] (faultAt2_ok (#[115, 105, 100, 101].toList) (↑i) (verP want (gp ([l, r].getD (↑i : Int).toNat none))) ‹_›) ((#[(115 : UInt8), (105 : UInt8), (100 : UInt8), (101 : UInt8)].toList = #[(115 : UInt8), (105 : UInt8), (100 : UInt8), (101 : UInt8)].toList) ∧ ((↑i : Int) = (↑i : Int)) ∧ (PE (verP want (gp ([l, r].getD (↑i : Int).toNat none))) = PE (verP want (gp ([l, r].getD (↑i : Int).toNat none)))) ∧ ((verP want (gp ([l, r].getD (↑i : Int).toNat none))).isNone = (verP want (gp ([l, r].getD (↑i : Int).toNat none))).isNone)) ⟨rfl, rfl, rfl, rfl⟩ (fun g73 p74 => ?_)
          have p74 : True := p74
          refine v_leave .rt True trivial ?_
          exact v_ret () [21] ((wordsP = wordsP) ∧ (k = k) ∧ (PLe (PPt GT 26 l) (PPt GT 26 l)) ∧ (PLe (PPt GT 26 r) (PPt GT 26 r)) ∧ (PE (some (Er.step #[115, 105, 100, 101].toList (↑i : Int) ((verP want (gp ([l, r].getD (↑i : Int).toNat none))).getD (Er.num 0)))) = PE (vgP want k l r)) ∧ (false = (vgP want k l r).isNone)) ⟨rfl, rfl, fun _ _ _ h => h, fun _ _ _ h => h, (by (rw [VI.hit ‹_› ‹_› (by first | exact vs2 ‹_› ‹_› | exact vs3 ‹_› ‹_› (Or.inl ‹_›) | exact vs3 ‹_› ‹_› (Or.inr ‹_›))] <;> rfl)), (by (rw [VI.hit ‹_› ‹_› (by first | exact vs2 ‹_› ‹_› | exact vs3 ‹_› ‹_› (Or.inl ‹_›) | exact vs3 ‹_› ‹_› (Or.inr ‹_›))] <;> rfl))⟩ trivial
         ·have h72 := (nf h72)
          refine v_call _ [17, 1] (bcmp_ok ((gp ([l, r].getD (↑i : Int).toNat none)).key) (k)) (((gp ([l, r].getD (↑i : Int).toNat none)).key = (gp ([l, r].getD (↑i : Int).toNat none)).key) ∧ (k = k)) ⟨rfl, rfl⟩ (fun g75 p76 => ?_)
          have p76 : True := p76
          refine v_guard 120 (decide (Lib.compareBytes (gp ([l, r].getD (↑i : Int).toNat none)).key k = 0)) True trivial (fun h77 => ?_) (fun h77 => ?_)
          ·have h77 := of_decide_eq_true h77
           refine v_al [] (al_e1 (20)) True trivial ?_
           refine v_call _ [21] (faultAt_ok (#[115, 105, 100, 101].toList) (↑i) (Er.num 20)) ((#[(115 : UInt8), (105 : UInt8), (100 : UInt8), (101 : UInt8)].toList = #[(115 : UInt8), (105 : UInt8), (100 : UInt8), (101 : UInt8)].toList) ∧ ((↑i : Int) = (↑i : Int)) ∧ ((20 : Int) = (20 : Int)) ∧ (PE (some (Er.num 20)) = PE (some (Er.num 20))) ∧ (false = false)) ⟨rfl, rfl, rfl, rfl, rfl⟩ (fun g78 p79 => ?_)
           have p79 : True := p79
           refine v_leave .rt True trivial ?_
           exact v_ret () [22] ((wordsP = wordsP) ∧ (k = k) ∧ (PLe (PPt GT 26 l) (PPt GT 26 l)) ∧ (PLe (PPt GT 26 r) (PPt GT 26 r)) ∧ (PE (some (Er.step #[115, 105, 100, 101].toList (↑i) (Er.num 20))) = PE (vgP want k l r)) ∧ (false = (vgP want k l r).isNone)) ⟨rfl, rfl, fun _ _ _ h => h, fun _ _ _ h => h, (by (rw [VI.hit ‹_› ‹_› (by first | exact vs2 ‹_› ‹_› | exact vs3 ‹_› ‹_› (Or.inl ‹_›) | exact vs3 ‹_› ‹_› (Or.inr ‹_›))] <;> rfl)), (by (rw [VI.hit ‹_› ‹_› (by first | exact vs2 ‹_› ‹_› | exact vs3 ‹_› ‹_› (Or.inl ‹_›) | exact vs3 ‹_› ‹_› (Or.inr ‹_›))] <;> rfl))⟩ trivial
          ·have h77 := of_decide_eq_false h77
           refine v_if (decide (Lib.compareBytes (gp ([l, r].getD (↑i : Int).toNat none)).key k < 0) != decide ((↑i : Int) = 0)) True trivial (fun h80 => ?_) (fun h80 => ?_)
           ·skip
            refine v_al [] (al_e1 (20)) True trivial ?_
            refine v_call _ [21] (faultAt_ok (#[115, 105, 100, 101].toList) (↑i) (Er.num 20)) ((#[(115 : UInt8), (105 : UInt8), (100 : UInt8), (101 : UInt8)].toList = #[(115 : UInt8), (105 : UInt8), (100 : UInt8), (101 : UInt8)].toList) ∧ ((↑i : Int) = (↑i : Int)) ∧ ((20 : Int) = (20 : Int)) ∧ (PE (some (Er.num 20)) = PE (some (Er.num 20))) ∧ (false = false)) ⟨rfl, rfl, rfl, rfl, rfl⟩ (fun g81 p82 => ?_)
            have p82 : True := p82
            refine v_leave .rt True trivial ?_
            exact v_ret () [22] ((wordsP = wordsP) ∧ (k = k) ∧ (PLe (PPt GT 26 l) (PPt GT 26 l)) ∧ (PLe (PPt GT 26 r) (PPt GT 26 r)) ∧ (PE (some (Er.step #[115, 105, 100, 101].toList (↑i) (Er.num 20))) = PE (vgP want k l r)) ∧ (false = (vgP want k l r).isNone)) ⟨rfl, rfl, fun _ _ _ h => h, fun _ _ _ h => h, (by (rw [VI.hit ‹_› ‹_› (by first | exact vs2 ‹_› ‹_› | exact vs3 ‹_› ‹_› (Or.inl ‹_›) | exact vs3 ‹_› ‹_› (Or.inr ‹_›))] <;> rfl)), (by (rw [VI.hit ‹_› ‹_› (by first | exact vs2 ‹_› ‹_› | exact vs3 ‹_› ‹_› (Or.inl ‹_›) | exact vs3 ‹_› ‹_› (Or.inr ‹_›))] <;> rfl))⟩ trivial
           ·skip
            exact v_back (i + 1) [14] ((I64 (↑i + 1)) ∧ ((↑i : Int) + 1 = (↑(i + 1) : Int)) ∧ ([l, r] = [l, r])) ⟨(by (unfold I64; omega)), rfl, rfl⟩ (show VI want k l r (i + 1) ∧ 2 - (i + 1) < 2 - i from (by exact VI.next ‹_› ‹_› (by first | exact vs1 ‹_› | exact vs4 ‹_› ‹_› ‹_› ‹_›)))
       ·have h68 := of_decide_eq_false h68
        refine v_leave (.ex 1) True trivial ?_
        refine v_al [] (al_e0 (vgP want k l r) (by exact VI.stop ‹_› ‹_›)) True trivial ?_
        exact v_ret () [15] ((wordsP = wordsP) ∧ (k = k) ∧ (PLe (PPt GT 26 l) (PPt GT 26 l)) ∧ (PLe (PPt GT 26 r) (PPt GT 26 r)) ∧ (PE (vgP want k l r) = PE (vgP want k l r)) ∧ ((vgP want k l r).isNone = (vgP want k l r).isNone)) ⟨rfl, rfl, fun _ _ _ h => h, fun _ _ _ h => h, rfl, rfl⟩ trivial
end Go.Proofs.YtnicmjipbnhciaaDoor.X
set_option linter.unusedVariables false
set_option linter.unusedSimpArgs false
namespace Go.Proofs.YtnicmjipbnhciaaDoor.X
open Go Go.RowKit Go.Proofs Go.Proofs.YtnicmjipbnhciaaDoor.E Go.Extern.Stop Go.Stop Go.Extern
theorem as_vo (t : Addr) (w : World) : (ReflectliteValue.unpack (.iface 153 (.pointer (some t)))).run Tryd.prog w
    = .ok (.agg #[.pointer (some ⟨4, 153, none⟩), .pointer (some ⟨w.heap.size, 0, none⟩), .int .u64 150]) (w.alloc (.cells #[.pointer (some t)] 153)) := by kernel_rfl
theorem as_type (a : Addr) (w : World) : (ReflectliteValue.methodAny (ReflectliteValue.valueError "reflectlite.Value.Type" 0) (fun t _ _ _ => ReflectliteType.toType t) #[.agg #[.pointer (some ⟨4, 153, none⟩), .pointer (some a), .int .u64 150]]).run Tryd.prog w
    = .ok (.iface 251 (.agg #[.pointer (some ⟨4, 153, none⟩)])) w := by kernel_rfl
theorem as_mKind (h : Value) (w : World) : (Go.method 412 251 (.agg #[h]) "Kind").run Tryd.prog w = .ok (171, h) w := by kernel_rfl
theorem as_kind153 (w : World) : ((ReflectliteType.abiMethod fun t => (fun a : Nat => Value.int IntKind.u8 (a : Int)) <$> Rtype.kind t) #[.pointer (some ⟨4, 153, none⟩)]).run Tryd.prog w = .ok (.int .u8 22) w := by kernel_rfl
theorem as_kind61 (w : World) : ((ReflectliteType.abiMethod fun t => (fun a : Nat => Value.int IntKind.u8 (a : Int)) <$> Rtype.kind t) #[.pointer (some ⟨4, 61, none⟩)]).run Tryd.prog w = .ok (.int .u8 2) w := by kernel_rfl
theorem as_rlm (z : Sem Value) (f : TypeId → Addr → Nat → Nat → Sem Value) (v : Value) :
    ReflectliteValue.method z f #[v] = (do match ← ReflectliteValue.parts v with | none => z | some (t, a, fl) => f t a fl (fl % 32)) := rfl
theorem as_parts153 (a : Addr) (w : World) : (ReflectliteValue.parts (.agg #[.pointer (some ⟨4, 153, none⟩), .pointer (some a), .int .u64 150])).run Tryd.prog w = .ok (some (153, a, 150)) w := by kernel_rfl
theorem as_und153 : Tryd.prog.underlying 153 = some (.pointer 61) := by kernel_rfl
theorem as_und61 : Tryd.prog.underlying 61 = some (.int .i64) := by kernel_rfl
theorem as_isNil (a p : Addr) (W : World) (ha : W.cell? a = some (.pointer (some p))) :
    (ReflectliteValue.method (ReflectliteValue.valueError "reflectlite.Value.IsNil" 0) ReflectliteValue.isNil #[.agg #[.pointer (some ⟨4, 153, none⟩), .pointer (some a), .int .u64 150]]).run Tryd.prog W = .ok (.bool false) W := by
  rw [as_rlm]
  simp only [Sem.run_bind, as_parts153, Result.andThen]
  simp [ReflectliteValue.isNil, loadVar, isAgg, underlying, as_und153, ha, Result.andThen]
theorem as_mElem (h : Value) (w : World) : (Go.method 412 251 (.agg #[h]) "Elem").run Tryd.prog w = .ok (183, .agg #[h]) w := by kernel_rfl
theorem as_mImpl (h : Value) (w : World) : (Go.method 412 251 (.agg #[h]) "Implements").run Tryd.prog w = .ok (184, .agg #[h]) w := by kernel_rfl
theorem as_mAss (h : Value) (w : World) : (Go.method 412 251 (.agg #[h]) "AssignableTo").run Tryd.prog w = .ok (181, .agg #[h]) w := by kernel_rfl
theorem as_mUn (h : Value) (w : World) : (Go.method 412 208 h "Unwrap").run Tryd.prog w = .ok (176, h) w := by kernel_rfl
theorem as_elem153 (w : World) : (ReflectliteType.method ReflectliteType.elem #[.agg #[.pointer (some ⟨4, 153, none⟩)]]).run Tryd.prog w = .ok (.iface 251 (.agg #[.pointer (some ⟨4, 61, none⟩)])) w := by kernel_rfl
theorem as_impl61 (w : World) : (ReflectliteType.relation "Implements" ReflectliteType.implements_ #[.agg #[.pointer (some ⟨4, 61, none⟩)], .iface 251 (.agg #[.pointer (some ⟨4, 49, none⟩)])]).run Tryd.prog w = .ok (.bool true) w := by kernel_rfl
theorem as_typeOf61 (v : Value) (w : World) : (ReflectliteType.typeOf #[.iface 61 v]).run Tryd.prog w = .ok (.iface 251 (.agg #[.pointer (some ⟨4, 61, none⟩)])) w := by kernel_rfl
theorem as_typeOf208 (v : Value) (w : World) : (ReflectliteType.typeOf #[.iface 208 v]).run Tryd.prog w = .ok (.iface 251 (.agg #[.pointer (some ⟨4, 208, none⟩)])) w := by kernel_rfl
theorem as_ass61 (w : World) : (ReflectliteType.relation "AssignableTo" ReflectliteType.assignableTo #[.agg #[.pointer (some ⟨4, 61, none⟩)], .iface 251 (.agg #[.pointer (some ⟨4, 61, none⟩)])]).run Tryd.prog w = .ok (.bool true) w := by kernel_rfl
theorem as_ass208 (w : World) : (ReflectliteType.relation "AssignableTo" ReflectliteType.assignableTo #[.agg #[.pointer (some ⟨4, 208, none⟩)], .iface 251 (.agg #[.pointer (some ⟨4, 61, none⟩)])]).run Tryd.prog w = .ok (.bool false) w := by kernel_rfl
theorem as_vo61 (c : Int) (w : World) : (ReflectliteValue.unpack (.iface 61 (.int .i64 c))).run Tryd.prog w
    = .ok (.agg #[.pointer (some ⟨4, 61, none⟩), .pointer (some ⟨w.heap.size, 0, none⟩), .int .u64 130]) (w.alloc (.cells #[.int .i64 c] 61)) := by kernel_rfl
theorem as_elemOf (w : World) : (Rtype.elem? 153).run Tryd.prog w = .ok (some 61) w := by kernel_rfl
theorem as_mk61 (p : Addr) (w : World) : (ReflectliteValue.mk 61 p ReflectliteValue.flagAddr).run Tryd.prog w = .ok (.agg #[.pointer (some ⟨4, 61, none⟩), .pointer (some p), .int .u64 386]) w := by kernel_rfl
theorem as_elemV (a p : Addr) (W : World) (ha : W.cell? a = some (.pointer (some p))) :
    (ReflectliteValue.method (ReflectliteValue.valueError "reflectlite.Value.Elem" 0) ReflectliteValue.elem #[.agg #[.pointer (some ⟨4, 153, none⟩), .pointer (some a), .int .u64 150]]).run Tryd.prog W
      = .ok (.agg #[.pointer (some ⟨4, 61, none⟩), .pointer (some p), .int .u64 386]) W := by
  rw [as_rlm]
  simp only [Sem.run_bind, as_parts153, Result.andThen]
  simp [ReflectliteValue.elem, loadVar, isAgg, underlying, as_und153, ha, Result.andThen, as_elemOf, as_mk61]
theorem as_rls (v x : Value) : ReflectliteValue.set #[v, x] = (do
    let (some (dst, a, fl), some (src, b, _)) := (← ReflectliteValue.parts v, ← ReflectliteValue.parts x)
      | unsupported (.noEntry "extern/(internal/reflectlite.Value).Set.zeroValue")
    if fl / ReflectliteValue.flagAddr % 2 == 0 then unsupported (.noEntry "extern/(internal/reflectlite.Value).Set.unaddressable")
    let val ← loadVar src b
    if ← Rtype.directlyAssignable dst src then storeVar dst a val
    else if ← Rtype.implements dst src then
      if (← Rtype.kind src) == 20 then
        match val with
        | .nilIface => unsupported (.noEntry "extern/reflectlite: a nil value of one interface type handed on as a value of another")
        | _ => storeVar dst a val
      else storeVar dst a (.iface src val)
    else panicString ("reflectlite.Set: value of type " ++ (← Rtype.spelt src) ++ " is not assignable to type " ++ (← Rtype.spelt dst))
    pure (.tuple #[])) := rfl
theorem as_p61a (a : Addr) (w : World) : (ReflectliteValue.parts (.agg #[.pointer (some ⟨4, 61, none⟩), .pointer (some a), .int .u64 386])).run Tryd.prog w = .ok (some (61, a, 386)) w := by kernel_rfl
theorem as_p61 (a : Addr) (w : World) : (ReflectliteValue.parts (.agg #[.pointer (some ⟨4, 61, none⟩), .pointer (some a), .int .u64 130])).run Tryd.prog w = .ok (some (61, a, 130)) w := by kernel_rfl
theorem as_direct (w : World) : (Rtype.directlyAssignable 61 61).run Tryd.prog w = .ok true w := by kernel_rfl
theorem as_set (ta b : Addr) (c : Int) (old : Value) (W : World) (hb : W.cell? b = some (.int .i64 c)) (ht : W.cell? ta = some old) (hf : W.frozen? ta = false) :
    (ReflectliteValue.set #[.agg #[.pointer (some ⟨4, 61, none⟩), .pointer (some ta), .int .u64 386], .agg #[.pointer (some ⟨4, 61, none⟩), .pointer (some b), .int .u64 130]]).run Tryd.prog W
      = .ok (.tuple #[]) (W.setCell ta (.int .i64 c)) := by
  rw [as_rls]
  simp only [Sem.run_bind, as_p61a, as_p61, Result.andThen]
  simp [ReflectliteValue.flagAddr, loadVar, isAgg, underlying, as_und61, hb, Result.andThen, as_direct, storeVar, Value.cells, storeCells, Addr.add]
  rw [run_store Tryd.prog W ta _ _ (by rfl)]
  simp [ht, hf]
theorem as_unwrap (b o : Nat) (ev : Value) (w : World) (h : w.cell? ⟨b, o + 2, none⟩ = some ev) : Calls Tryd.prog 176 #[.pointer (some ⟨b, o, none⟩)] w fun e w' => e = .returned ev ∧ w' = w := by
  go_enter Tryd.func176, Tryd.ntmps176
  go_wp2
  go_ret
  exact ⟨rfl, rfl⟩
set_option maxHeartbeats 4000000 in
theorem as113_num (c : Int) (t a : Addr) (old : Value) (w : World) (ha : w.cell? a = some (.pointer (some t))) (ht : w.cell? t = some old) (hf : w.frozen? t = false) :
    Calls Tryd.prog 113 #[.iface 61 (.int .i64 c), .iface 153 (.pointer (some t)), .agg #[.pointer (some ⟨4, 153, none⟩), .pointer (some a), .int .u64 150], .iface 251 (.agg #[.pointer (some ⟨4, 61, none⟩)])] w
      fun ev w' => ev = .returned (.bool true) ∧ w' = ((w.alloc (.cells #[.pointer (some ⟨4, 153, none⟩), .pointer (some a), .int .u64 150] 214)).alloc (.cells #[.int .i64 c] 61)).setCell t (.int .i64 c) := by
  have h110 := @run_callFunc_extern Tryd.prog 110 _ (fun args => ReflectliteValue.unpack (args.getD 0 (.tuple #[]))) Tryd.func110 (by kernel_rfl) (by kernel_rfl) (by kernel_rfl) (by kernel_rfl)
  have h134 := @run_callFunc_extern Tryd.prog 134 _ ReflectliteType.typeOf Tryd.func134 (by kernel_rfl) (by kernel_rfl) (by kernel_rfl) (by kernel_rfl)
  have h181 := @run_callFunc_extern Tryd.prog 181 _ (ReflectliteType.relation "AssignableTo" ReflectliteType.assignableTo) Tryd.func181 (by kernel_rfl) (by kernel_rfl) (by kernel_rfl) (by kernel_rfl)
  have h135 := @run_callFunc_extern Tryd.prog 135 _ (ReflectliteValue.method (ReflectliteValue.valueError "reflectlite.Value.Elem" 0) ReflectliteValue.elem) Tryd.func135 (by kernel_rfl) (by kernel_rfl) (by kernel_rfl) (by kernel_rfl)
  have h136 := @run_callFunc_extern Tryd.prog 136 _ ReflectliteValue.set Tryd.func136 (by kernel_rfl) (by kernel_rfl) (by kernel_rfl) (by kernel_rfl)
  have tO := as_typeOf61
  have mA := as_mAss
  have a61 := as_ass61
  have v61 := as_vo61
  have hal : a.block < w.heap.size := by
    rcases Nat.lt_or_ge a.block w.heap.size with h | h
    · exact h
    · simp [World.cell?, Array.getElem?_eq_none h] at ha
  have htl : t.block < w.heap.size := by
    rcases Nat.lt_or_ge t.block w.heap.size with h | h
    · exact h
    · simp [World.cell?, Array.getElem?_eq_none h] at ht
  have el := as_elemV a t (w.alloc (.cells #[.pointer (some ⟨4, 153, none⟩), .pointer (some a), .int .u64 150] 214)) (by rw [World.cell?_alloc_lt _ _ a hal]; exact ha)
  have st := as_set t ⟨w.heap.size + 1, 0, none⟩ c old ((w.alloc (.cells #[.pointer (some ⟨4, 153, none⟩), .pointer (some a), .int .u64 150] 214)).alloc (.cells #[.int .i64 c] 61))
    (by rw [World.cell?_alloc_at _ _ _ _ (by simp)]; rfl)
    (by rw [World.cell?_alloc_lt _ _ t (by simp; omega), World.cell?_alloc_lt _ _ t htl]; exact ht)
    (by rw [World.frozen?_alloc_old _ _ t (by simp; omega), World.frozen?_alloc_old _ _ t (Nat.ne_of_lt htl)]; exact hf)
  go_enter Tryd.func113, Tryd.ntmps113
  go_wp2
  refine wp_loop_rounds 1 ?_
  rw [rounds_succ]
  go_wp2
  go_ret
  exact ⟨rfl, rfl⟩
end Go.Proofs.YtnicmjipbnhciaaDoor.X
