/- Walks, printed by a program of this session. -/
import Derived.Test.YtaoamokfbhlaaaaK
import Derived.Test.Ytaoamokfbhlaaaapure17b
import Derived.Test.YtaoamokfbhlaaaaE8
set_option linter.unusedVariables false
set_option linter.unusedSimpArgs false
set_option maxRecDepth 100000
namespace Go.Proofs.Ytaoamokfbhlaaaa.E
open Go Go.RowKit
open Go.Proofs
theorem num_calls (σ : Nat → Nat) (w : World) (n : UInt64) :
    Ctr Try.prog 22 [(uv n)] noM σ w (fun σ' w' v => Own tU8 5 w.heap.size σ' w' v (eight n)) := by
  refine ctr_enter Try.func22 c22 (by kernel_rfl) 17 (by kernel_rfl) (Nat.le_of_ble_eq_true (by kernel_rfl)) [(0, (uv n))] (by kernel_rfl) ?_
  intro a hF1
  have hS2 := Stp.refl noM σ w
  refine c_seq [0] [1] (by kernel_rfl) ?_
  refine c_reg 0 (by kernel_rfl) ?_
  refine r_runk 1 [0] [(0, (uv n))] hF1 (by kernel_rfl) (by kernel_rfl) ?_
  intro a3 hF4
  refine r_end (by kernel_rfl) ?_
  refine c_seq [1, 0] [1, 1] (by kernel_rfl) ?_
  refine c_reg 1 (by kernel_rfl) ?_
  refine r_runk 1 [3, 0] [(3, (Value.slice none 0 0)), (0, (uv n))] hF4 (by kernel_rfl) (by kernel_rfl) ?_
  intro a5 hF6
  refine r_end (by kernel_rfl) ?_
  refine c_seq [1, 1, 0] [1, 1, 1] (by kernel_rfl) ?_
  refine c_seq [1, 1, 0, 0] [1, 1, 0, 1] (by kernel_rfl) ?_
  refine c_reg 2 (by kernel_rfl) ?_
  refine r_runk 1 [4, 3, 0] [(4, (Value.int .i64 ((56 : Nat) : Int))), (3, (Value.slice none 0 0)), (0, (uv n))] hF6 (by kernel_rfl) (by kernel_rfl) ?_
  intro a7 hF8
  refine r_end (by kernel_rfl) ?_
  refine c_block [1, 1, 0, 1, 0] 0 (by kernel_rfl) ?_
  refine c_loop [1, 1, 0, 1, 0, 0] (by kernel_rfl) (fun (k : Nat) a9 w10 => ∃ (s11 : Nat → Nat) (A14 : Option Addr) (cp15 : Nat), Fr a9 17 [(0, (uv n)), (3, (Value.slice A14 k cp15)), (4, (Value.int .i64 (56 - 8 * ((k : Nat) : Int))))] ∧ Stp noM σ w s11 w10 ∧ Own tU8 5 w.heap.size s11 w10 (Value.slice A14 k cp15) (eightTo n (k)) ∧ k ≤ 8) (fun k => 8 - k) 0 ?_ ?_
  · skip
    have hF17 := hF8.set 4 (Value.int .i64 ((56 : Nat) : Int)) (Value.int .i64 (56 - 8 * ((0 : Nat) : Int))) (by kernel_rfl) (congrArg (Value.int .i64) (by omega))
    have hF18 := hF17.keep [0, 3, 4] [(0, (uv n)), (3, (Value.slice none 0 0)), (4, (Value.int .i64 (56 - 8 * ((0 : Nat) : Int))))] (by kernel_rfl)
    exact ⟨σ, none, 0, hF18, hS2, (Own.nil _ _ _ _ _), (by omega)⟩
  · rintro k a9 w10 ⟨s11, A14, cp15, hF12, hS13, hO19, hk⟩
    have hln20 := hO19.ln
    refine c_seq [1, 1, 0, 1, 0, 0, 0] [1, 1, 0, 1, 0, 0, 1] (by kernel_rfl) ?_
    refine c_seq [1, 1, 0, 1, 0, 0, 0, 0] [1, 1, 0, 1, 0, 0, 0, 1] (by kernel_rfl) ?_
    refine c_reg 3 (by kernel_rfl) ?_
    refine r_runk 1 [5, 0, 3, 4] [(5, (Value.int .i64 (56 - 8 * ((k : Nat) : Int)))), (0, (uv n)), (3, (Value.slice A14 k cp15)), (4, (Value.int .i64 (56 - 8 * ((k : Nat) : Int))))] hF12 (by kernel_rfl) (by kernel_rfl) ?_
    intro a21 hF22
    refine r_one (d := 6) (v0 := (Value.bool (decide ((56 - 8 * ((k : Nat) : Int) : Int) ≥ ((0 : Nat) : Int))))) (v := (Value.bool (decide ((56 - 8 * ((k : Nat) : Int) : Int) ≥ ((0 : Nat) : Int))))) hF22 (by kernel_rfl) (by kernel_rfl) (congrArg Value.bool (cmp_int_geq _ _)) ?_
    intro a23 hF24
    have hF25 := hF24.keep [6, 0, 3, 4] [(6, (Value.bool (decide ((56 - 8 * ((k : Nat) : Int) : Int) ≥ ((0 : Nat) : Int))))), (0, (uv n)), (3, (Value.slice A14 k cp15)), (4, (Value.int .i64 (56 - 8 * ((k : Nat) : Int))))] (by kernel_rfl)
    refine r_end (by kernel_rfl) ?_
    refine c_cond [1, 1, 0, 1, 0, 0, 0, 1, 0] [1, 1, 0, 1, 0, 0, 0, 1, 1] 6 (by kernel_rfl) hF25 (decide ((56 - 8 * ((k : Nat) : Int) : Int) ≥ ((0 : Nat) : Int))) (by kernel_rfl) (fun hc26 => ?_) (fun hc26 => ?_)
    · skip
      have hc26 := of_decide_eq_true hc26
      refine c_skip (by kernel_rfl) ?_
      refine c_seq [1, 1, 0, 1, 0, 0, 1, 0] [1, 1, 0, 1, 0, 0, 1, 1] (by kernel_rfl) ?_
      refine c_block [1, 1, 0, 1, 0, 0, 1, 0, 0] 1 (by kernel_rfl) ?_
      refine c_reg 5 (by kernel_rfl) ?_
      refine r_runk 3 [11, 10, 9, 0, 4] [(11, (Value.int .i64 (56 - 8 * ((k : Nat) : Int)))), (10, (uv n)), (9, (Value.slice A14 k cp15)), (0, (uv n)), (4, (Value.int .i64 (56 - 8 * ((k : Nat) : Int))))] hF25 (by kernel_rfl) (by kernel_rfl) ?_
      intro a27 hF28
      refine r_at (r_val (d := 12) (op := (Op.binOp BinOp.shr 22 (Operand.tmp 10) (Operand.tmp 11) 3)) hF28 (by kernel_rfl) (by kernel_rfl) (uv (n >>> (56 - 8 * (k)).toUInt64)) w10 (exec_shr (n := n) (k := .i64) (s := (56 - 8 * ((k : Nat) : Int) : Int)) (by kernel_rfl) (by kernel_rfl) (by omega) (by omega) (56 - 8 * (k)) (by omega)) ?_)
      intro a29 hF30
      refine r_one (d := 13) (v0 := (Value.int .u8 (IntKind.u8.wrap ((n >>> (56 - 8 * (k)).toUInt64).toNat : Int)))) (v := (bv ((n >>> (56 - 8 * (k)).toUInt64).toUInt8))) hF30 (by kernel_rfl) (by kernel_rfl) (congrArg (Value.int .u8) (u64_u8 (n >>> (56 - 8 * (k)).toUInt64))) ?_
      intro a31 hF32
      refine r_at (r_lit tU8 (d := 14) (t := 27) (m := 1) (parts := #[(0, (Operand.tmp 13))]) hF32 (by kernel_rfl) (by kernel_rfl) s11 [(n >>> (56 - 8 * (k)).toUInt64).toUInt8] [(bv ((n >>> (56 - 8 * (k)).toUInt64).toUInt8))] ⟨_, _, rfl, rfl, rfl⟩ rfl (by decide) (e := 5) (fun o e => by simp only [execOp, e]; kernel_rfl) (by decide) ?_)
      intro a33 s34 w35 g36 hg37 st38 hO39 hF40
      have hz41 := hS13.size
      have hS42 := hS13.then st38
      have hO43 : Own tU8 5 w.heap.size s34 w35 (Value.slice (some ⟨g36, 0, none⟩) 1 1) [(n >>> (56 - 8 * (k)).toUInt64).toUInt8] := (hO39.le (by omega : w.heap.size ≤ _))
      have ne45 : ∀ g, Value.ownBlock (Value.slice A14 k cp15) = some g → ¬ Value.ownBlock (Value.slice (some ⟨g36, 0, none⟩) 1 1) = some g := fun g hg e => by have h1 := hO39.ge e; have h2 := hO19.lt hg; omega
      have h46 : Own tU8 5 w.heap.size s34 w35 (Value.slice A14 k cp15) (eightTo n (k)) := (hO19.step' st38)
      have hz56 := hS42.size
      have hb55 : (eightTo n (k)).length + ([(n >>> (56 - 8 * (k)).toUInt64).toUInt8] : List _).length ≤ 1000000 := (by first | decide | (have e1 := h46.ln; have e2 := hO43.rd.ln; simp only [List.length_append, List.length_cons, List.length_nil, List.length_map] at e1 e2 ⊢; omega))
      refine r_at (r_append tU8 S27 (d := 15) (x := (Operand.tmp 9)) (y := (Operand.tmp 14)) hF40 (by kernel_rfl) (by kernel_rfl) (by kernel_rfl) (by kernel_rfl) h46 hO43.rd (app_small hb55 (by decide)) (by omega) hz56 ?_)
      intro a47 s48 w49 v50 st51 hO52 hn53 hF54
      obtain ⟨A59, m62, c60, rfl, hl61⟩ := hO52.formL
      have hS63 := hS42.and st51 (fun b e => h46.ge e)
      refine r_runk 1 [3, 0, 4] [(3, (Value.slice A59 m62 c60)), (0, (uv n)), (4, (Value.int .i64 (56 - 8 * ((k : Nat) : Int))))] hF54 (by kernel_rfl) (by kernel_rfl) ?_
      intro a65 hF66
      refine r_end (by kernel_rfl) ?_
      refine c_reg 4 (by kernel_rfl) ?_
      refine r_runk 1 [7, 3, 0] [(7, (Value.int .i64 (56 - 8 * ((k : Nat) : Int)))), (3, (Value.slice A59 m62 c60)), (0, (uv n))] hF66 (by kernel_rfl) (by kernel_rfl) ?_
      intro a67 hF68
      refine r_one (d := 8) (v0 := (Value.int .i64 (IntKind.i64.wrap ((56 - 8 * ((k : Nat) : Int) : Int) - ((8 : Nat) : Int))))) (v := (Value.int .i64 ((56 - 8 * ((k : Nat) : Int) : Int) - ((8 : Nat) : Int)))) hF68 (by kernel_rfl) (by kernel_rfl) (congrArg (Value.int .i64) (i64_eq (by omega) (by omega) (by omega))) ?_
      intro a69 hF70
      refine r_runk 1 [4, 3, 0] [(4, (Value.int .i64 ((56 - 8 * ((k : Nat) : Int) : Int) - ((8 : Nat) : Int)))), (3, (Value.slice A59 m62 c60)), (0, (uv n))] hF70 (by kernel_rfl) (by kernel_rfl) ?_
      intro a71 hF72
      refine r_end (by kernel_rfl) ?_
      have hF73 := hF72.set 3 (Value.slice A59 m62 c60) (Value.slice A59 (k + 1) c60) (by kernel_rfl) (congrArg (fun m => Value.slice A59 m c60) (by first | rfl | omega | (simp only [List.length_append, List.length_cons, List.length_nil, List.length_map] at *; omega)))
      have hF74 := hF73.set 4 (Value.int .i64 ((56 - 8 * ((k : Nat) : Int) : Int) - ((8 : Nat) : Int))) (Value.int .i64 (56 - 8 * ((k + 1 : Nat) : Int))) (by kernel_rfl) (congrArg (Value.int .i64) (by omega))
      have hF75 := hF74.keep [0, 3, 4] [(0, (uv n)), (3, (Value.slice A59 (k + 1) c60)), (4, (Value.int .i64 (56 - 8 * ((k + 1 : Nat) : Int))))] (by kernel_rfl)
      exact ⟨k + 1, ⟨s48, A59, c60, hF75, hS63, (hO52.cast (by first | rfl | omega | (simp only [List.length_append, List.length_cons, List.length_nil, List.length_map] at *; omega)) (eightTo_succ n k)), (by omega)⟩, by omega⟩
    · skip
      have hc26 := of_decide_eq_false hc26
      refine c_exit 0 (by kernel_rfl) ?_
      refine c_seq [1, 1, 1, 0] [1, 1, 1, 1] (by kernel_rfl) ?_
      refine c_reg 6 (by kernel_rfl) ?_
      refine r_runk 2 [2] [(2, (Value.slice A14 k cp15))] hF25 (by kernel_rfl) (by kernel_rfl) ?_
      intro a76 hF77
      refine r_end (by kernel_rfl) ?_
      refine c_ret (by kernel_rfl) ?_
      try dsimp only [Exit.then, Exit.inBlock]
      refine f_ret1 hF77 2 (by kernel_rfl) (Value.slice A14 k cp15) (by kernel_rfl) s11 hS13 ?_
      have hk8 : k = 8 := by omega
      subst hk8
      exact hO19
theorem of_calls (σ : Nat → Nat) (w : World) (kind : UInt8) (channel : Int) {v0 : Value} {ns : List UInt64} (h0 : Rd tU64 σ w v0 ns) (hn : ns.length ≤ 1000) :
    Ctr Try.prog 34 [(bv kind), (iv channel), v0] noM σ w (fun σ' w' v => Own tU8 5 w.heap.size σ' w' v (ofL kind channel ns)) := by
  obtain ⟨A0, c0, rfl, hl0⟩ := h0.form
  have hbd := h0.bd
  have hns : ns.length ≤ 17592186044416 := by have : tU64.by_ = 8 := rfl; omega
  refine ctr_enter Try.func34 c34 (by kernel_rfl) 31 (by kernel_rfl) (Nat.le_of_ble_eq_true (by kernel_rfl)) [(0, (bv kind)), (1, (Value.int .i64 (channel))), (2, (Value.slice A0 ns.length c0))] (by kernel_rfl) ?_
  intro a hF1
  have hS2 := Stp.refl noM σ w
  refine c_seq [0] [1] (by kernel_rfl) ?_
  refine c_reg 0 (by kernel_rfl) ?_
  refine r_runk 1 [0, 1, 2] [(0, (bv kind)), (1, (Value.int .i64 (channel))), (2, (Value.slice A0 ns.length c0))] hF1 (by kernel_rfl) (by kernel_rfl) ?_
  intro a3 hF4
  refine r_end (by kernel_rfl) ?_
  refine c_seq [1, 0] [1, 1] (by kernel_rfl) ?_
  refine c_reg 1 (by kernel_rfl) ?_
  refine r_runk 2 [11, 10, 2] [(11, (Value.int .i64 (channel))), (10, (bv kind)), (2, (Value.slice A0 ns.length c0))] hF4 (by kernel_rfl) (by kernel_rfl) ?_
  intro a5 hF6
  refine r_one (d := 12) (v0 := (Value.int .u64 (IntKind.u64.wrap (channel : Int)))) (v := (uv (ofI (channel : Int)))) hF6 (by kernel_rfl) (by kernel_rfl) (congrArg (Value.int .u64) (i64_u64 (channel : Int))) ?_
  intro a7 hF8
  refine r_one (d := 13) (v0 := (Value.int .u64 (Int.tmod (((ofI (channel : Int))).toNat : Int) ((10 : UInt64).toNat : Int)))) (v := (uv ((ofI (channel : Int)) % 10))) hF8 (by kernel_rfl) (by kernel_rfl) (congrArg (Value.int .u64) (u64_rem (ofI (channel : Int)) 10 (by decide))) ?_
  intro a9 hF10
  refine r_one (d := 14) (v0 := (Value.int .u64 (IntKind.u64.wrap (((48 : UInt64).toNat : Int) + (((ofI (channel : Int)) % 10).toNat : Int))))) (v := (uv ((48 : UInt64) + ((ofI (channel : Int)) % 10)))) hF10 (by kernel_rfl) (by kernel_rfl) (congrArg (Value.int .u64) (u64_add _ _)) ?_
  intro a11 hF12
  refine r_one (d := 15) (v0 := (Value.int .u8 (IntKind.u8.wrap (((48 : UInt64) + ((ofI (channel : Int)) % 10)).toNat : Int)))) (v := (bv (((48 : UInt64) + ((ofI (channel : Int)) % 10)).toUInt8))) hF12 (by kernel_rfl) (by kernel_rfl) (congrArg (Value.int .u8) (u64_u8 ((48 : UInt64) + ((ofI (channel : Int)) % 10)))) ?_
  intro a13 hF14
  refine r_at (r_lit tU8 (d := 16) (t := 27) (m := 3) (parts := #[(0, (Operand.tmp 10)), (1, (Operand.const (Value.int IntKind.u8 47))), (2, (Operand.tmp 15))]) hF14 (by kernel_rfl) (by kernel_rfl) σ [kind, 47, ((48 : UInt64) + ((ofI (channel : Int)) % 10)).toUInt8] [(bv kind), (bv 47), (bv (((48 : UInt64) + ((ofI (channel : Int)) % 10)).toUInt8))] ⟨_, _, rfl, rfl, ⟨_, _, rfl, rfl, ⟨_, _, rfl, rfl, rfl⟩⟩⟩ rfl (by decide) (e := 5) (fun o e => by simp only [execOp, e]; kernel_rfl) (by decide) ?_)
  intro a15 s16 w17 g18 hg19 st20 hO21 hF22
  have hz23 := hS2.size
  have hS24 := hS2.then st20
  have hO25 : Own tU8 5 w.heap.size s16 w17 (Value.slice (some ⟨g18, 0, none⟩) 3 3) [kind, 47, ((48 : UInt64) + ((ofI (channel : Int)) % 10)).toUInt8] := (hO21.le (by omega : w.heap.size ≤ _))
  refine r_runk 1 [7, 2] [(7, (Value.slice (some ⟨g18, 0, none⟩) 3 3)), (2, (Value.slice A0 ns.length c0))] hF22 (by kernel_rfl) (by kernel_rfl) ?_
  intro a27 hF28
  refine r_end (by kernel_rfl) ?_
  refine c_seq [1, 1, 0] [1, 1, 1] (by kernel_rfl) ?_
  refine c_seq [1, 1, 0, 0] [1, 1, 0, 1] (by kernel_rfl) ?_
  refine c_reg 2 (by kernel_rfl) ?_
  refine r_runk 3 [19, 18, 17, 7] [(19, (Value.int .i64 ((0 : Nat) : Int))), (18, (Value.int .i64 ((ns.length : Nat) : Int))), (17, (Value.slice A0 ns.length c0)), (7, (Value.slice (some ⟨g18, 0, none⟩) 3 3))] hF28 (by kernel_rfl) (by kernel_rfl) ?_
  intro a29 hF30
  refine r_end (by kernel_rfl) ?_
  refine c_block [1, 1, 0, 1, 0] 0 (by kernel_rfl) ?_
  refine c_loop [1, 1, 0, 1, 0, 0] (by kernel_rfl) (fun (k : Nat) a31 w32 => ∃ (s33 : Nat → Nat) (A36 : Option Addr) (cp37 : Nat), Fr a31 31 [(7, (Value.slice A36 (3 + 9 * (k)) cp37)), (17, (Value.slice A0 ns.length c0)), (18, (Value.int .i64 ((ns.length : Nat) : Int))), (19, (Value.int .i64 ((k : Nat) : Int)))] ∧ Stp noM σ w s33 w32 ∧ Own tU8 5 w.heap.size s33 w32 (Value.slice A36 (3 + 9 * (k)) cp37) (ofTo kind channel ns (k)) ∧ k ≤ ns.length) (fun k => ns.length - k) 0 ?_ ?_
  · skip
    have hF39 := hF30.set 7 (Value.slice (some ⟨g18, 0, none⟩) 3 3) (Value.slice (some ⟨g18, 0, none⟩) (3 + 9 * (0)) 3) (by kernel_rfl) (congrArg (fun m => Value.slice (some ⟨g18, 0, none⟩) m 3) (by first | rfl | omega | (simp only [List.length_append, List.length_cons, List.length_nil, List.length_map, eight_len] at *; omega)))
    have hF40 := hF39.keep [7, 17, 18, 19] [(7, (Value.slice (some ⟨g18, 0, none⟩) (3 + 9 * (0)) 3)), (17, (Value.slice A0 ns.length c0)), (18, (Value.int .i64 ((ns.length : Nat) : Int))), (19, (Value.int .i64 ((0 : Nat) : Int)))] (by kernel_rfl)
    exact ⟨s16, (some ⟨g18, 0, none⟩), 3, hF40, hS24, (hO25.cast (by first | rfl | omega | (simp only [List.length_append, List.length_cons, List.length_nil, List.length_map, eight_len] at *; omega)) rfl), (by omega)⟩
  · rintro k a31 w32 ⟨s33, A36, cp37, hF34, hS35, hO41, hk⟩
    have hln42 := hO41.ln
    refine c_seq [1, 1, 0, 1, 0, 0, 0] [1, 1, 0, 1, 0, 0, 1] (by kernel_rfl) ?_
    refine c_reg 3 (by kernel_rfl) ?_
    refine r_one (d := 20) (v0 := (Value.bool (decide (((k : Nat) : Int) < ((ns.length : Nat) : Int))))) (v := (Value.bool (decide ((k : Nat) < ns.length)))) hF34 (by kernel_rfl) (by kernel_rfl) (congrArg Value.bool (cmp_nat_lss _ _)) ?_
    intro a43 hF44
    refine r_end (by kernel_rfl) ?_
    refine c_seq [1, 1, 0, 1, 0, 0, 1, 0] [1, 1, 0, 1, 0, 0, 1, 1] (by kernel_rfl) ?_
    refine c_cond [1, 1, 0, 1, 0, 0, 1, 0, 0] [1, 1, 0, 1, 0, 0, 1, 0, 1] 20 (by kernel_rfl) hF44 (decide ((k : Nat) < ns.length)) (by kernel_rfl) (fun hc45 => ?_) (fun hc45 => ?_)
    · skip
      have hc45 := of_decide_eq_true hc45
      refine c_skip (by kernel_rfl) ?_
      refine c_seq [1, 1, 0, 1, 0, 0, 1, 1, 0] [1, 1, 0, 1, 0, 0, 1, 1, 1] (by kernel_rfl) ?_
      refine c_block [1, 1, 0, 1, 0, 0, 1, 1, 0, 0] 1 (by kernel_rfl) ?_
      refine c_seq [1, 1, 0, 1, 0, 0, 1, 1, 0, 0, 0] [1, 1, 0, 1, 0, 0, 1, 1, 0, 0, 1] (by kernel_rfl) ?_
      refine c_reg 4 (by kernel_rfl) ?_
      have h46 : Rd tU64 s33 w32 (Value.slice A0 ns.length c0) ns := h0.step hS35
      have hi53 : k < (ns).length := (by have hq := h46.ln; first | omega | (simp only [List.length_append, List.length_cons, List.length_nil, List.length_map, eight_len] at *; omega))
      obtain ⟨b47, o48, c49, he50, hs51, hr52⟩ := (h46).at k hi53
      obtain ⟨o54, ho54⟩ : ∃ o, o = o48 + k * 1 := ⟨_, rfl⟩
      have hr52 : c49 = [(uv (ns[k]'hi53))] := hr52
      subst hr52
      have hs51 : Seg s33 w32 b47 o54 [(uv (ns[k]'hi53))] := by rw [ho54]; exact hs51
      refine r_at (r_val (d := 21) (op := (Op.indexAddr 26 (Operand.tmp 17) (Operand.tmp 19))) hF44 (by kernel_rfl) (by kernel_rfl) (Value.pointer (some ⟨b47, o54, none⟩)) w32 (by rw [ho54]; exact exec_index (len := ns.length) (cap := c0) he50 (by kernel_rfl) (kd := .i64) k (by kernel_rfl) (by have := h46.ln; omega) 1 U26 L22.s) ?_)
      intro a55 hF56
      refine r_at (r_val (d := 22) (op := (Op.load 22 (Operand.tmp 21))) hF56 (by kernel_rfl) (by kernel_rfl) (uv (ns[k]'hi53)) w32 (exec_load L22 (.inr rfl) (by kernel_rfl) hs51.cell) ?_)
      intro a57 hF58
      refine r_runk 1 [9, 7, 17, 18, 19] [(9, (uv (ns[k]'hi53))), (7, (Value.slice A36 (3 + 9 * (k)) cp37)), (17, (Value.slice A0 ns.length c0)), (18, (Value.int .i64 ((ns.length : Nat) : Int))), (19, (Value.int .i64 ((k : Nat) : Int)))] hF58 (by kernel_rfl) (by kernel_rfl) ?_
      intro a59 hF60
      refine r_end (by kernel_rfl) ?_
      refine c_reg 5 (by kernel_rfl) ?_
      refine r_runk 1 [23, 9, 17, 18, 19] [(23, (Value.slice A36 (3 + 9 * (k)) cp37)), (9, (uv (ns[k]'hi53))), (17, (Value.slice A0 ns.length c0)), (18, (Value.int .i64 ((ns.length : Nat) : Int))), (19, (Value.int .i64 ((k : Nat) : Int)))] hF60 (by kernel_rfl) (by kernel_rfl) ?_
      intro a61 hF62
      refine r_at (r_lit tU8 (d := 24) (t := 27) (m := 1) (parts := #[(0, (Operand.const (Value.int IntKind.u8 47)))]) hF62 (by kernel_rfl) (by kernel_rfl) s33 [47] [(bv 47)] ⟨_, _, rfl, rfl, rfl⟩ rfl (by decide) (e := 5) (fun o e => by simp only [execOp, e]; kernel_rfl) (by decide) ?_)
      intro a63 s64 w65 g66 hg67 st68 hO69 hF70
      have hz71 := hS35.size
      have hS72 := hS35.then st68
      have hO73 : Own tU8 5 w.heap.size s64 w65 (Value.slice (some ⟨g66, 0, none⟩) 1 1) [47] := (hO69.le (by omega : w.heap.size ≤ _))
      have ne75 : ∀ g, Value.ownBlock (Value.slice A36 (3 + 9 * (k)) cp37) = some g → ¬ Value.ownBlock (Value.slice (some ⟨g66, 0, none⟩) 1 1) = some g := fun g hg e => by have h1 := hO69.ge e; have h2 := hO41.lt hg; omega
      have h76 : Own tU8 5 w.heap.size s64 w65 (Value.slice A36 (3 + 9 * (k)) cp37) (ofTo kind channel ns (k)) := (hO41.step' st68)
      have hz86 := hS72.size
      have hb85 : (ofTo kind channel ns (k)).length + ([47] : List _).length ≤ 1000000 := (by first | decide | (have e1 := h76.ln; have e2 := hO73.rd.ln; simp only [List.length_append, List.length_cons, List.length_nil, List.length_map, eight_len] at e1 e2 ⊢; omega))
      refine r_at (r_append tU8 S27 (d := 25) (x := (Operand.tmp 23)) (y := (Operand.tmp 24)) hF70 (by kernel_rfl) (by kernel_rfl) (by kernel_rfl) (by kernel_rfl) h76 hO73.rd (app_small hb85 (by decide)) (by omega) hz86 ?_)
      intro a77 s78 w79 v80 st81 hO82 hn83 hF84
      obtain ⟨A89, m92, c90, rfl, hl91⟩ := hO82.formL
      have hS93 := hS72.and st81 (fun b e => h76.ge e)
      refine r_runk 1 [26, 25, 17, 18, 19] [(26, (uv (ns[k]'hi53))), (25, (Value.slice A89 m92 c90)), (17, (Value.slice A0 ns.length c0)), (18, (Value.int .i64 ((ns.length : Nat) : Int))), (19, (Value.int .i64 ((k : Nat) : Int)))] hF84 (by kernel_rfl) (by kernel_rfl) ?_
      intro a95 hF96
      refine r_at (r_call (d := (some 27)) (f := 22) (args := #[(Operand.tmp 26)]) (tys := #[22]) hF96 (by kernel_rfl) (by kernel_rfl) C22 [(uv (ns[k]'hi53))] (by kernel_rfl) (num_calls s78 w79 (ns[k]'hi53)) ?_)
      intro a97 s98 w99 v100 st101 hP102 hF103
      have hz104 := hS93.size
      have hS105 := hS93.then st101
      obtain ⟨A106, m109, c107, rfl, hl108⟩ := hP102.formL
      have hO110 : Own tU8 5 w.heap.size s98 w99 (Value.slice A106 m109 c107) (eight (ns[k]'hi53)) := hP102.le (by omega)
      have h112 : Own tU8 5 w.heap.size s98 w99 (Value.slice A89 m92 c90) ((ofTo kind channel ns (k)) ++ [47]) := (hO82.step' st101)
      have hz122 := hS105.size
      have hb121 : ((ofTo kind channel ns (k)) ++ [47]).length + (eight (ns[k]'hi53) : List _).length ≤ 1000000 := (by first | decide | (have e1 := h112.ln; have e2 := hO110.rd.ln; simp only [List.length_append, List.length_cons, List.length_nil, List.length_map, eight_len] at e1 e2 ⊢; omega))
      refine r_at (r_append tU8 S27 (d := 28) (x := (Operand.tmp 25)) (y := (Operand.tmp 27)) hF103 (by kernel_rfl) (by kernel_rfl) (by kernel_rfl) (by kernel_rfl) h112 hO110.rd (app_small hb121 (by decide)) (by omega) hz122 ?_)
      intro a113 s114 w115 v116 st117 hO118 hn119 hF120
      obtain ⟨A125, m128, c126, rfl, hl127⟩ := hO118.formL
      have hS129 := hS105.and st117 (fun b e => h112.ge e)
      refine r_runk 1 [7, 17, 18, 19] [(7, (Value.slice A125 m128 c126)), (17, (Value.slice A0 ns.length c0)), (18, (Value.int .i64 ((ns.length : Nat) : Int))), (19, (Value.int .i64 ((k : Nat) : Int)))] hF120 (by kernel_rfl) (by kernel_rfl) ?_
      intro a131 hF132
      refine r_end (by kernel_rfl) ?_
      refine c_reg 6 (by kernel_rfl) ?_
      refine r_one (d := 29) (v0 := (Value.int .i64 (IntKind.i64.wrap (((k : Nat) : Int) + ((1 : Nat) : Int))))) (v := (Value.int .i64 ((k + 1 : Nat) : Int))) hF132 (by kernel_rfl) (by kernel_rfl) (congrArg (Value.int .i64) (i64_eq (by omega) (by omega) (by omega))) ?_
      intro a133 hF134
      refine r_runk 1 [19, 7, 17, 18] [(19, (Value.int .i64 ((k + 1 : Nat) : Int))), (7, (Value.slice A125 m128 c126)), (17, (Value.slice A0 ns.length c0)), (18, (Value.int .i64 ((ns.length : Nat) : Int)))] hF134 (by kernel_rfl) (by kernel_rfl) ?_
      intro a135 hF136
      refine r_end (by kernel_rfl) ?_
      have hF137 := hF136.set 7 (Value.slice A125 m128 c126) (Value.slice A125 (3 + 9 * (k + 1)) c126) (by kernel_rfl) (congrArg (fun m => Value.slice A125 m c126) (by first | rfl | omega | (simp only [List.length_append, List.length_cons, List.length_nil, List.length_map, eight_len] at *; omega)))
      have hF138 := hF137.keep [7, 17, 18, 19] [(7, (Value.slice A125 (3 + 9 * (k + 1)) c126)), (17, (Value.slice A0 ns.length c0)), (18, (Value.int .i64 ((ns.length : Nat) : Int))), (19, (Value.int .i64 ((k + 1 : Nat) : Int)))] (by kernel_rfl)
      exact ⟨k + 1, ⟨s114, A125, c126, hF138, hS129, (hO118.cast (by first | rfl | omega | (simp only [List.length_append, List.length_cons, List.length_nil, List.length_map, eight_len] at *; omega)) (ofTo_succ _ _ _ _ _)), (by omega)⟩, by omega⟩
    · skip
      have hc45 := of_decide_eq_false hc45
      refine c_exit 0 (by kernel_rfl) ?_
      refine c_seq [1, 1, 1, 0] [1, 1, 1, 1] (by kernel_rfl) ?_
      refine c_reg 7 (by kernel_rfl) ?_
      refine r_runk 2 [6] [(6, (Value.slice A36 (3 + 9 * (k)) cp37))] hF44 (by kernel_rfl) (by kernel_rfl) ?_
      intro a139 hF140
      refine r_end (by kernel_rfl) ?_
      refine c_ret (by kernel_rfl) ?_
      try dsimp only [Exit.then, Exit.inBlock]
      refine f_ret1 hF140 6 (by kernel_rfl) (Value.slice A36 (3 + 9 * (k)) cp37) (by kernel_rfl) s33 hS35 ?_
      have hk8 : k = ns.length := by omega
      subst hk8
      rw [← ofTo_all]
      exact hO41
theorem commit_calls (σ : Nat → Nat) (w : World) (channel : Int) (n : UInt64) :
    Ctr Try.prog 11 [(Value.int .i64 (channel)), (uv n)] noM σ w (fun σ' w' v => Own tU8 5 w.heap.size σ' w' v (ofL 99 channel [n])) := by
  refine ctr_enter Try.func11 c11 (by kernel_rfl) 9 (by kernel_rfl) (Nat.le_of_ble_eq_true (by kernel_rfl)) [(0, (Value.int .i64 (channel))), (1, (uv n))] (by kernel_rfl) ?_
  intro a hF1
  have hS2 := Stp.refl noM σ w
  refine c_seq [0] [1] (by kernel_rfl) ?_
  refine c_reg 0 (by kernel_rfl) ?_
  refine r_runk 1 [0, 1] [(0, (Value.int .i64 (channel))), (1, (uv n))] hF1 (by kernel_rfl) (by kernel_rfl) ?_
  intro a3 hF4
  refine r_end (by kernel_rfl) ?_
  refine c_seq [1, 0] [1, 1] (by kernel_rfl) ?_
  refine c_reg 1 (by kernel_rfl) ?_
  refine r_runk 2 [6, 5] [(6, (uv n)), (5, (Value.int .i64 (channel)))] hF4 (by kernel_rfl) (by kernel_rfl) ?_
  intro a5 hF6
  refine r_at (r_lit tU64 (d := 7) (t := 26) (m := 1) (parts := #[(0, (Operand.tmp 6))]) hF6 (by kernel_rfl) (by kernel_rfl) σ [n] [(uv n)] ⟨_, _, rfl, rfl, rfl⟩ rfl (by decide) (e := 22) (fun o e => by simp only [execOp, e]; kernel_rfl) (by decide) ?_)
  intro a7 s8 w9 g10 hg11 st12 hO13 hF14
  have hz15 := hS2.size
  have hS16 := hS2.then st12
  have hO17 : Own tU64 22 w.heap.size s8 w9 (Value.slice (some ⟨g10, 0, none⟩) 1 1) [n] := (hO13.le (by omega : w.heap.size ≤ _))
  refine r_at (r_call (d := (some 8)) (f := 34) (args := #[(Operand.const (Value.int IntKind.u8 99)), (Operand.tmp 5), (Operand.tmp 7)]) (tys := #[5, 3, 26]) hF14 (by kernel_rfl) (by kernel_rfl) C34 [(bv 99), (Value.int .i64 (channel)), (Value.slice (some ⟨g10, 0, none⟩) 1 1)] (by kernel_rfl) (of_calls s8 w9 99 (channel : Int) hO17.rd (Nat.le_of_ble_eq_true (by kernel_rfl))) ?_)
  intro a19 s20 w21 v22 st23 hP24 hF25
  have hz26 := hS16.size
  have hS27 := hS16.then st23
  obtain ⟨A28, m31, c29, rfl, hl30⟩ := hP24.formL
  have hO32 : Own tU8 5 w.heap.size s20 w21 (Value.slice A28 m31 c29) (ofL 99 (channel : Int) [n]) := hP24.le (by omega)
  refine r_runk 1 [4] [(4, (Value.slice A28 m31 c29))] hF25 (by kernel_rfl) (by kernel_rfl) ?_
  intro a34 hF35
  refine r_end (by kernel_rfl) ?_
  refine c_ret (by kernel_rfl) ?_
  try dsimp only [Exit.then, Exit.inBlock]
  refine f_ret1 hF35 4 (by kernel_rfl) (Value.slice A28 m31 c29) (by kernel_rfl) s20 hS27 ?_
  exact hO32
theorem answer_calls (σ : Nat → Nat) (w : World) (channel : Int) (n : UInt64) :
    Ctr Try.prog 12 [(Value.int .i64 (channel)), (uv n)] noM σ w (fun σ' w' v => Own tU8 5 w.heap.size σ' w' v (ofL 97 channel [n])) := by
  refine ctr_enter Try.func12 c12 (by kernel_rfl) 9 (by kernel_rfl) (Nat.le_of_ble_eq_true (by kernel_rfl)) [(0, (Value.int .i64 (channel))), (1, (uv n))] (by kernel_rfl) ?_
  intro a hF1
  have hS2 := Stp.refl noM σ w
  refine c_seq [0] [1] (by kernel_rfl) ?_
  refine c_reg 0 (by kernel_rfl) ?_
  refine r_runk 1 [0, 1] [(0, (Value.int .i64 (channel))), (1, (uv n))] hF1 (by kernel_rfl) (by kernel_rfl) ?_
  intro a3 hF4
  refine r_end (by kernel_rfl) ?_
  refine c_seq [1, 0] [1, 1] (by kernel_rfl) ?_
  refine c_reg 1 (by kernel_rfl) ?_
  refine r_runk 2 [6, 5] [(6, (uv n)), (5, (Value.int .i64 (channel)))] hF4 (by kernel_rfl) (by kernel_rfl) ?_
  intro a5 hF6
  refine r_at (r_lit tU64 (d := 7) (t := 26) (m := 1) (parts := #[(0, (Operand.tmp 6))]) hF6 (by kernel_rfl) (by kernel_rfl) σ [n] [(uv n)] ⟨_, _, rfl, rfl, rfl⟩ rfl (by decide) (e := 22) (fun o e => by simp only [execOp, e]; kernel_rfl) (by decide) ?_)
  intro a7 s8 w9 g10 hg11 st12 hO13 hF14
  have hz15 := hS2.size
  have hS16 := hS2.then st12
  have hO17 : Own tU64 22 w.heap.size s8 w9 (Value.slice (some ⟨g10, 0, none⟩) 1 1) [n] := (hO13.le (by omega : w.heap.size ≤ _))
  refine r_at (r_call (d := (some 8)) (f := 34) (args := #[(Operand.const (Value.int IntKind.u8 97)), (Operand.tmp 5), (Operand.tmp 7)]) (tys := #[5, 3, 26]) hF14 (by kernel_rfl) (by kernel_rfl) C34 [(bv 97), (Value.int .i64 (channel)), (Value.slice (some ⟨g10, 0, none⟩) 1 1)] (by kernel_rfl) (of_calls s8 w9 97 (channel : Int) hO17.rd (Nat.le_of_ble_eq_true (by kernel_rfl))) ?_)
  intro a19 s20 w21 v22 st23 hP24 hF25
  have hz26 := hS16.size
  have hS27 := hS16.then st23
  obtain ⟨A28, m31, c29, rfl, hl30⟩ := hP24.formL
  have hO32 : Own tU8 5 w.heap.size s20 w21 (Value.slice A28 m31 c29) (ofL 97 (channel : Int) [n]) := hP24.le (by omega)
  refine r_runk 1 [4] [(4, (Value.slice A28 m31 c29))] hF25 (by kernel_rfl) (by kernel_rfl) ?_
  intro a34 hF35
  refine r_end (by kernel_rfl) ?_
  refine c_ret (by kernel_rfl) ?_
  try dsimp only [Exit.then, Exit.inBlock]
  refine f_ret1 hF35 4 (by kernel_rfl) (Value.slice A28 m31 c29) (by kernel_rfl) s20 hS27 ?_
  exact hO32
theorem receipt_calls (σ : Nat → Nat) (w : World) (channel : Int) (n : UInt64) :
    Ctr Try.prog 13 [(Value.int .i64 (channel)), (uv n)] noM σ w (fun σ' w' v => Own tU8 5 w.heap.size σ' w' v (ofL 114 channel [n])) := by
  refine ctr_enter Try.func13 c13 (by kernel_rfl) 9 (by kernel_rfl) (Nat.le_of_ble_eq_true (by kernel_rfl)) [(0, (Value.int .i64 (channel))), (1, (uv n))] (by kernel_rfl) ?_
  intro a hF1
  have hS2 := Stp.refl noM σ w
  refine c_seq [0] [1] (by kernel_rfl) ?_
  refine c_reg 0 (by kernel_rfl) ?_
  refine r_runk 1 [0, 1] [(0, (Value.int .i64 (channel))), (1, (uv n))] hF1 (by kernel_rfl) (by kernel_rfl) ?_
  intro a3 hF4
  refine r_end (by kernel_rfl) ?_
  refine c_seq [1, 0] [1, 1] (by kernel_rfl) ?_
  refine c_reg 1 (by kernel_rfl) ?_
  refine r_runk 2 [6, 5] [(6, (uv n)), (5, (Value.int .i64 (channel)))] hF4 (by kernel_rfl) (by kernel_rfl) ?_
  intro a5 hF6
  refine r_at (r_lit tU64 (d := 7) (t := 26) (m := 1) (parts := #[(0, (Operand.tmp 6))]) hF6 (by kernel_rfl) (by kernel_rfl) σ [n] [(uv n)] ⟨_, _, rfl, rfl, rfl⟩ rfl (by decide) (e := 22) (fun o e => by simp only [execOp, e]; kernel_rfl) (by decide) ?_)
  intro a7 s8 w9 g10 hg11 st12 hO13 hF14
  have hz15 := hS2.size
  have hS16 := hS2.then st12
  have hO17 : Own tU64 22 w.heap.size s8 w9 (Value.slice (some ⟨g10, 0, none⟩) 1 1) [n] := (hO13.le (by omega : w.heap.size ≤ _))
  refine r_at (r_call (d := (some 8)) (f := 34) (args := #[(Operand.const (Value.int IntKind.u8 114)), (Operand.tmp 5), (Operand.tmp 7)]) (tys := #[5, 3, 26]) hF14 (by kernel_rfl) (by kernel_rfl) C34 [(bv 114), (Value.int .i64 (channel)), (Value.slice (some ⟨g10, 0, none⟩) 1 1)] (by kernel_rfl) (of_calls s8 w9 114 (channel : Int) hO17.rd (Nat.le_of_ble_eq_true (by kernel_rfl))) ?_)
  intro a19 s20 w21 v22 st23 hP24 hF25
  have hz26 := hS16.size
  have hS27 := hS16.then st23
  obtain ⟨A28, m31, c29, rfl, hl30⟩ := hP24.formL
  have hO32 : Own tU8 5 w.heap.size s20 w21 (Value.slice A28 m31 c29) (ofL 114 (channel : Int) [n]) := hP24.le (by omega)
  refine r_runk 1 [4] [(4, (Value.slice A28 m31 c29))] hF25 (by kernel_rfl) (by kernel_rfl) ?_
  intro a34 hF35
  refine r_end (by kernel_rfl) ?_
  refine c_ret (by kernel_rfl) ?_
  try dsimp only [Exit.then, Exit.inBlock]
  refine f_ret1 hF35 4 (by kernel_rfl) (Value.slice A28 m31 c29) (by kernel_rfl) s20 hS27 ?_
  exact hO32
theorem word_calls (σ : Nat → Nat) (w : World) (channel : Int) (n : UInt64) :
    Ctr Try.prog 14 [(Value.int .i64 (channel)), (uv n)] noM σ w (fun σ' w' v => Own tU8 5 w.heap.size σ' w' v (ofL 119 channel [n])) := by
  refine ctr_enter Try.func14 c14 (by kernel_rfl) 9 (by kernel_rfl) (Nat.le_of_ble_eq_true (by kernel_rfl)) [(0, (Value.int .i64 (channel))), (1, (uv n))] (by kernel_rfl) ?_
  intro a hF1
  have hS2 := Stp.refl noM σ w
  refine c_seq [0] [1] (by kernel_rfl) ?_
  refine c_reg 0 (by kernel_rfl) ?_
  refine r_runk 1 [0, 1] [(0, (Value.int .i64 (channel))), (1, (uv n))] hF1 (by kernel_rfl) (by kernel_rfl) ?_
  intro a3 hF4
  refine r_end (by kernel_rfl) ?_
  refine c_seq [1, 0] [1, 1] (by kernel_rfl) ?_
  refine c_reg 1 (by kernel_rfl) ?_
  refine r_runk 2 [6, 5] [(6, (uv n)), (5, (Value.int .i64 (channel)))] hF4 (by kernel_rfl) (by kernel_rfl) ?_
  intro a5 hF6
  refine r_at (r_lit tU64 (d := 7) (t := 26) (m := 1) (parts := #[(0, (Operand.tmp 6))]) hF6 (by kernel_rfl) (by kernel_rfl) σ [n] [(uv n)] ⟨_, _, rfl, rfl, rfl⟩ rfl (by decide) (e := 22) (fun o e => by simp only [execOp, e]; kernel_rfl) (by decide) ?_)
  intro a7 s8 w9 g10 hg11 st12 hO13 hF14
  have hz15 := hS2.size
  have hS16 := hS2.then st12
  have hO17 : Own tU64 22 w.heap.size s8 w9 (Value.slice (some ⟨g10, 0, none⟩) 1 1) [n] := (hO13.le (by omega : w.heap.size ≤ _))
  refine r_at (r_call (d := (some 8)) (f := 34) (args := #[(Operand.const (Value.int IntKind.u8 119)), (Operand.tmp 5), (Operand.tmp 7)]) (tys := #[5, 3, 26]) hF14 (by kernel_rfl) (by kernel_rfl) C34 [(bv 119), (Value.int .i64 (channel)), (Value.slice (some ⟨g10, 0, none⟩) 1 1)] (by kernel_rfl) (of_calls s8 w9 119 (channel : Int) hO17.rd (Nat.le_of_ble_eq_true (by kernel_rfl))) ?_)
  intro a19 s20 w21 v22 st23 hP24 hF25
  have hz26 := hS16.size
  have hS27 := hS16.then st23
  obtain ⟨A28, m31, c29, rfl, hl30⟩ := hP24.formL
  have hO32 : Own tU8 5 w.heap.size s20 w21 (Value.slice A28 m31 c29) (ofL 119 (channel : Int) [n]) := hP24.le (by omega)
  refine r_runk 1 [4] [(4, (Value.slice A28 m31 c29))] hF25 (by kernel_rfl) (by kernel_rfl) ?_
  intro a34 hF35
  refine r_end (by kernel_rfl) ?_
  refine c_ret (by kernel_rfl) ?_
  try dsimp only [Exit.then, Exit.inBlock]
  refine f_ret1 hF35 4 (by kernel_rfl) (Value.slice A28 m31 c29) (by kernel_rfl) s20 hS27 ?_
  exact hO32
theorem sent_calls (σ : Nat → Nat) (w : World) (channel : Int) :
    Ctr Try.prog 15 [(Value.int .i64 (channel))] noM σ w (fun σ' w' v => Own tU8 5 w.heap.size σ' w' v (ofL 115 channel [])) := by
  refine ctr_enter Try.func15 c15 (by kernel_rfl) 5 (by kernel_rfl) (Nat.le_of_ble_eq_true (by kernel_rfl)) [(0, (Value.int .i64 (channel)))] (by kernel_rfl) ?_
  intro a hF1
  have hS2 := Stp.refl noM σ w
  refine c_seq [0] [1] (by kernel_rfl) ?_
  refine c_reg 0 (by kernel_rfl) ?_
  refine r_runk 1 [0] [(0, (Value.int .i64 (channel)))] hF1 (by kernel_rfl) (by kernel_rfl) ?_
  intro a3 hF4
  refine r_end (by kernel_rfl) ?_
  refine c_seq [1, 0] [1, 1] (by kernel_rfl) ?_
  refine c_reg 1 (by kernel_rfl) ?_
  refine r_runk 1 [3] [(3, (Value.int .i64 (channel)))] hF4 (by kernel_rfl) (by kernel_rfl) ?_
  intro a5 hF6
  refine r_at (r_call (d := (some 4)) (f := 34) (args := #[(Operand.const (Value.int IntKind.u8 115)), (Operand.tmp 3), (Operand.const (Value.slice none 0 0))]) (tys := #[5, 3, 26]) hF6 (by kernel_rfl) (by kernel_rfl) C34 [(bv 115), (Value.int .i64 (channel)), (Value.slice none 0 0)] (by kernel_rfl) (of_calls σ w 115 (channel : Int) (Rd.nil _ σ w none 0) (Nat.le_of_ble_eq_true (by kernel_rfl))) ?_)
  intro a7 s8 w9 v10 st11 hP12 hF13
  have hz14 := hS2.size
  have hS15 := hS2.then st11
  obtain ⟨A16, m19, c17, rfl, hl18⟩ := hP12.formL
  have hO20 : Own tU8 5 w.heap.size s8 w9 (Value.slice A16 m19 c17) (ofL 115 (channel : Int) []) := hP12.le (by omega)
  refine r_runk 1 [2] [(2, (Value.slice A16 m19 c17))] hF13 (by kernel_rfl) (by kernel_rfl) ?_
  intro a22 hF23
  refine r_end (by kernel_rfl) ?_
  refine c_ret (by kernel_rfl) ?_
  try dsimp only [Exit.then, Exit.inBlock]
  refine f_ret1 hF23 2 (by kernel_rfl) (Value.slice A16 m19 c17) (by kernel_rfl) s8 hS15 ?_
  exact hO20
theorem got_calls (σ : Nat → Nat) (w : World) (channel : Int) :
    Ctr Try.prog 16 [(Value.int .i64 (channel))] noM σ w (fun σ' w' v => Own tU8 5 w.heap.size σ' w' v (ofL 110 channel [])) := by
  refine ctr_enter Try.func16 c16 (by kernel_rfl) 5 (by kernel_rfl) (Nat.le_of_ble_eq_true (by kernel_rfl)) [(0, (Value.int .i64 (channel)))] (by kernel_rfl) ?_
  intro a hF1
  have hS2 := Stp.refl noM σ w
  refine c_seq [0] [1] (by kernel_rfl) ?_
  refine c_reg 0 (by kernel_rfl) ?_
  refine r_runk 1 [0] [(0, (Value.int .i64 (channel)))] hF1 (by kernel_rfl) (by kernel_rfl) ?_
  intro a3 hF4
  refine r_end (by kernel_rfl) ?_
  refine c_seq [1, 0] [1, 1] (by kernel_rfl) ?_
  refine c_reg 1 (by kernel_rfl) ?_
  refine r_runk 1 [3] [(3, (Value.int .i64 (channel)))] hF4 (by kernel_rfl) (by kernel_rfl) ?_
  intro a5 hF6
  refine r_at (r_call (d := (some 4)) (f := 34) (args := #[(Operand.const (Value.int IntKind.u8 110)), (Operand.tmp 3), (Operand.const (Value.slice none 0 0))]) (tys := #[5, 3, 26]) hF6 (by kernel_rfl) (by kernel_rfl) C34 [(bv 110), (Value.int .i64 (channel)), (Value.slice none 0 0)] (by kernel_rfl) (of_calls σ w 110 (channel : Int) (Rd.nil _ σ w none 0) (Nat.le_of_ble_eq_true (by kernel_rfl))) ?_)
  intro a7 s8 w9 v10 st11 hP12 hF13
  have hz14 := hS2.size
  have hS15 := hS2.then st11
  obtain ⟨A16, m19, c17, rfl, hl18⟩ := hP12.formL
  have hO20 : Own tU8 5 w.heap.size s8 w9 (Value.slice A16 m19 c17) (ofL 110 (channel : Int) []) := hP12.le (by omega)
  refine r_runk 1 [2] [(2, (Value.slice A16 m19 c17))] hF13 (by kernel_rfl) (by kernel_rfl) ?_
  intro a22 hF23
  refine r_end (by kernel_rfl) ?_
  refine c_ret (by kernel_rfl) ?_
  try dsimp only [Exit.then, Exit.inBlock]
  refine f_ret1 hF23 2 (by kernel_rfl) (Value.slice A16 m19 c17) (by kernel_rfl) s8 hS15 ?_
  exact hO20
theorem acked_calls (σ : Nat → Nat) (w : World) (channel : Int) :
    Ctr Try.prog 17 [(Value.int .i64 (channel))] noM σ w (fun σ' w' v => Own tU8 5 w.heap.size σ' w' v (ofL 107 channel [])) := by
  refine ctr_enter Try.func17 c17 (by kernel_rfl) 5 (by kernel_rfl) (Nat.le_of_ble_eq_true (by kernel_rfl)) [(0, (Value.int .i64 (channel)))] (by kernel_rfl) ?_
  intro a hF1
  have hS2 := Stp.refl noM σ w
  refine c_seq [0] [1] (by kernel_rfl) ?_
  refine c_reg 0 (by kernel_rfl) ?_
  refine r_runk 1 [0] [(0, (Value.int .i64 (channel)))] hF1 (by kernel_rfl) (by kernel_rfl) ?_
  intro a3 hF4
  refine r_end (by kernel_rfl) ?_
  refine c_seq [1, 0] [1, 1] (by kernel_rfl) ?_
  refine c_reg 1 (by kernel_rfl) ?_
  refine r_runk 1 [3] [(3, (Value.int .i64 (channel)))] hF4 (by kernel_rfl) (by kernel_rfl) ?_
  intro a5 hF6
  refine r_at (r_call (d := (some 4)) (f := 34) (args := #[(Operand.const (Value.int IntKind.u8 107)), (Operand.tmp 3), (Operand.const (Value.slice none 0 0))]) (tys := #[5, 3, 26]) hF6 (by kernel_rfl) (by kernel_rfl) C34 [(bv 107), (Value.int .i64 (channel)), (Value.slice none 0 0)] (by kernel_rfl) (of_calls σ w 107 (channel : Int) (Rd.nil _ σ w none 0) (Nat.le_of_ble_eq_true (by kernel_rfl))) ?_)
  intro a7 s8 w9 v10 st11 hP12 hF13
  have hz14 := hS2.size
  have hS15 := hS2.then st11
  obtain ⟨A16, m19, c17, rfl, hl18⟩ := hP12.formL
  have hO20 : Own tU8 5 w.heap.size s8 w9 (Value.slice A16 m19 c17) (ofL 107 (channel : Int) []) := hP12.le (by omega)
  refine r_runk 1 [2] [(2, (Value.slice A16 m19 c17))] hF13 (by kernel_rfl) (by kernel_rfl) ?_
  intro a22 hF23
  refine r_end (by kernel_rfl) ?_
  refine c_ret (by kernel_rfl) ?_
  try dsimp only [Exit.then, Exit.inBlock]
  refine f_ret1 hF23 2 (by kernel_rfl) (Value.slice A16 m19 c17) (by kernel_rfl) s8 hS15 ?_
  exact hO20
theorem closed_calls (σ : Nat → Nat) (w : World) (channel : Int) :
    Ctr Try.prog 18 [(Value.int .i64 (channel))] noM σ w (fun σ' w' v => Own tU8 5 w.heap.size σ' w' v (ofL 120 channel [])) := by
  refine ctr_enter Try.func18 c18 (by kernel_rfl) 5 (by kernel_rfl) (Nat.le_of_ble_eq_true (by kernel_rfl)) [(0, (Value.int .i64 (channel)))] (by kernel_rfl) ?_
  intro a hF1
  have hS2 := Stp.refl noM σ w
  refine c_seq [0] [1] (by kernel_rfl) ?_
  refine c_reg 0 (by kernel_rfl) ?_
  refine r_runk 1 [0] [(0, (Value.int .i64 (channel)))] hF1 (by kernel_rfl) (by kernel_rfl) ?_
  intro a3 hF4
  refine r_end (by kernel_rfl) ?_
  refine c_seq [1, 0] [1, 1] (by kernel_rfl) ?_
  refine c_reg 1 (by kernel_rfl) ?_
  refine r_runk 1 [3] [(3, (Value.int .i64 (channel)))] hF4 (by kernel_rfl) (by kernel_rfl) ?_
  intro a5 hF6
  refine r_at (r_call (d := (some 4)) (f := 34) (args := #[(Operand.const (Value.int IntKind.u8 120)), (Operand.tmp 3), (Operand.const (Value.slice none 0 0))]) (tys := #[5, 3, 26]) hF6 (by kernel_rfl) (by kernel_rfl) C34 [(bv 120), (Value.int .i64 (channel)), (Value.slice none 0 0)] (by kernel_rfl) (of_calls σ w 120 (channel : Int) (Rd.nil _ σ w none 0) (Nat.le_of_ble_eq_true (by kernel_rfl))) ?_)
  intro a7 s8 w9 v10 st11 hP12 hF13
  have hz14 := hS2.size
  have hS15 := hS2.then st11
  obtain ⟨A16, m19, c17, rfl, hl18⟩ := hP12.formL
  have hO20 : Own tU8 5 w.heap.size s8 w9 (Value.slice A16 m19 c17) (ofL 120 (channel : Int) []) := hP12.le (by omega)
  refine r_runk 1 [2] [(2, (Value.slice A16 m19 c17))] hF13 (by kernel_rfl) (by kernel_rfl) ?_
  intro a22 hF23
  refine r_end (by kernel_rfl) ?_
  refine c_ret (by kernel_rfl) ?_
  try dsimp only [Exit.then, Exit.inBlock]
  refine f_ret1 hF23 2 (by kernel_rfl) (Value.slice A16 m19 c17) (by kernel_rfl) s8 hS15 ?_
  exact hO20
theorem eight_calls (σ : Nat → Nat) (w : World) (n : UInt64) :
    Ctr Try.prog 24 [(uv n)] noM σ w (fun σ' w' v => Own tU8 5 w.heap.size σ' w' v (eight n)) := by
  refine ctr_enter Try.func24 c24 (by kernel_rfl) 19 (by kernel_rfl) (Nat.le_of_ble_eq_true (by kernel_rfl)) [(0, (uv n))] (by kernel_rfl) ?_
  intro a hF1
  have hS2 := Stp.refl noM σ w
  refine c_seq [0] [1] (by kernel_rfl) ?_
  refine c_reg 0 (by kernel_rfl) ?_
  refine r_runk 1 [0] [(0, (uv n))] hF1 (by kernel_rfl) (by kernel_rfl) ?_
  intro a3 hF4
  refine r_end (by kernel_rfl) ?_
  refine c_seq [1, 0] [1, 1] (by kernel_rfl) ?_
  refine c_reg 1 (by kernel_rfl) ?_
  refine r_runk 1 [3, 0] [(3, (Value.slice none 0 0)), (0, (uv n))] hF4 (by kernel_rfl) (by kernel_rfl) ?_
  intro a5 hF6
  refine r_end (by kernel_rfl) ?_
  refine c_seq [1, 1, 0] [1, 1, 1] (by kernel_rfl) ?_
  refine c_seq [1, 1, 0, 0] [1, 1, 0, 1] (by kernel_rfl) ?_
  refine c_reg 2 (by kernel_rfl) ?_
  refine r_runk 1 [4, 3, 0] [(4, (Value.int .i64 ((0 : Nat) : Int))), (3, (Value.slice none 0 0)), (0, (uv n))] hF6 (by kernel_rfl) (by kernel_rfl) ?_
  intro a7 hF8
  refine r_end (by kernel_rfl) ?_
  refine c_block [1, 1, 0, 1, 0] 0 (by kernel_rfl) ?_
  refine c_loop [1, 1, 0, 1, 0, 0] (by kernel_rfl) (fun (k : Nat) a9 w10 => ∃ (s11 : Nat → Nat) (A14 : Option Addr) (cp15 : Nat), Fr a9 19 [(0, (uv n)), (3, (Value.slice A14 k cp15)), (4, (Value.int .i64 ((k : Nat) : Int)))] ∧ Stp noM σ w s11 w10 ∧ Own tU8 5 w.heap.size s11 w10 (Value.slice A14 k cp15) (eightTo n (k)) ∧ k ≤ 8) (fun k => 8 - k) 0 ?_ ?_
  · skip
    have hF17 := hF8.keep [0, 3, 4] [(0, (uv n)), (3, (Value.slice none 0 0)), (4, (Value.int .i64 ((0 : Nat) : Int)))] (by kernel_rfl)
    exact ⟨σ, none, 0, hF17, hS2, (Own.nil _ _ _ _ _), (by omega)⟩
  · rintro k a9 w10 ⟨s11, A14, cp15, hF12, hS13, hO18, hk⟩
    have hln19 := hO18.ln
    refine c_seq [1, 1, 0, 1, 0, 0, 0] [1, 1, 0, 1, 0, 0, 1] (by kernel_rfl) ?_
    refine c_seq [1, 1, 0, 1, 0, 0, 0, 0] [1, 1, 0, 1, 0, 0, 0, 1] (by kernel_rfl) ?_
    refine c_reg 3 (by kernel_rfl) ?_
    refine r_runk 1 [5, 0, 3, 4] [(5, (Value.int .i64 ((k : Nat) : Int))), (0, (uv n)), (3, (Value.slice A14 k cp15)), (4, (Value.int .i64 ((k : Nat) : Int)))] hF12 (by kernel_rfl) (by kernel_rfl) ?_
    intro a20 hF21
    refine r_one (d := 6) (v0 := (Value.bool (decide (((k : Nat) : Int) < ((8 : Nat) : Int))))) (v := (Value.bool (decide ((k : Nat) < 8)))) hF21 (by kernel_rfl) (by kernel_rfl) (congrArg Value.bool (cmp_nat_lss _ _)) ?_
    intro a22 hF23
    have hF24 := hF23.keep [6, 0, 3, 4] [(6, (Value.bool (decide ((k : Nat) < 8)))), (0, (uv n)), (3, (Value.slice A14 k cp15)), (4, (Value.int .i64 ((k : Nat) : Int)))] (by kernel_rfl)
    refine r_end (by kernel_rfl) ?_
    refine c_cond [1, 1, 0, 1, 0, 0, 0, 1, 0] [1, 1, 0, 1, 0, 0, 0, 1, 1] 6 (by kernel_rfl) hF24 (decide ((k : Nat) < 8)) (by kernel_rfl) (fun hc25 => ?_) (fun hc25 => ?_)
    · skip
      have hc25 := of_decide_eq_true hc25
      refine c_skip (by kernel_rfl) ?_
      refine c_seq [1, 1, 0, 1, 0, 0, 1, 0] [1, 1, 0, 1, 0, 0, 1, 1] (by kernel_rfl) ?_
      refine c_block [1, 1, 0, 1, 0, 0, 1, 0, 0] 1 (by kernel_rfl) ?_
      refine c_reg 5 (by kernel_rfl) ?_
      refine r_runk 3 [11, 10, 9, 0, 4] [(11, (Value.int .i64 ((k : Nat) : Int))), (10, (uv n)), (9, (Value.slice A14 k cp15)), (0, (uv n)), (4, (Value.int .i64 ((k : Nat) : Int)))] hF24 (by kernel_rfl) (by kernel_rfl) ?_
      intro a26 hF27
      refine r_one (d := 12) (v0 := (Value.int .i64 (IntKind.i64.wrap (((8 : Nat) : Int) * ((k : Nat) : Int))))) (v := (Value.int .i64 ((8 * k : Nat) : Int))) hF27 (by kernel_rfl) (by kernel_rfl) (congrArg (Value.int .i64) (i64_eq (by omega) (by omega) (by omega))) ?_
      intro a28 hF29
      refine r_one (d := 13) (v0 := (Value.int .i64 (IntKind.i64.wrap (((56 : Nat) : Int) - ((8 * k : Nat) : Int))))) (v := (Value.int .i64 ((56 - (8 * k) : Nat) : Int))) hF29 (by kernel_rfl) (by kernel_rfl) (congrArg (Value.int .i64) (i64_eq (by omega) (by omega) (by omega))) ?_
      intro a30 hF31
      refine r_one (d := 14) (v0 := (Value.int .u64 (Int.fdiv ((n).toNat : Int) (2 ^ (min (Int.toNat ((56 - (8 * k) : Nat) : Int)) 64))))) (v := (uv (n >>> (56 - (8 * k)).toUInt64))) hF31 (by kernel_rfl) (by kernel_rfl) (congrArg (Value.int .u64) (u64_shr _ _ (by omega))) ?_
      intro a32 hF33
      refine r_one (d := 15) (v0 := (Value.int .u8 (IntKind.u8.wrap ((n >>> (56 - (8 * k)).toUInt64).toNat : Int)))) (v := (bv ((n >>> (56 - (8 * k)).toUInt64).toUInt8))) hF33 (by kernel_rfl) (by kernel_rfl) (congrArg (Value.int .u8) (u64_u8 (n >>> (56 - (8 * k)).toUInt64))) ?_
      intro a34 hF35
      refine r_at (r_lit tU8 (d := 16) (t := 27) (m := 1) (parts := #[(0, (Operand.tmp 15))]) hF35 (by kernel_rfl) (by kernel_rfl) s11 [(n >>> (56 - (8 * k)).toUInt64).toUInt8] [(bv ((n >>> (56 - (8 * k)).toUInt64).toUInt8))] ⟨_, _, rfl, rfl, rfl⟩ rfl (by decide) (e := 5) (fun o e => by simp only [execOp, e]; kernel_rfl) (by decide) ?_)
      intro a36 s37 w38 g39 hg40 st41 hO42 hF43
      have hz44 := hS13.size
      have hS45 := hS13.then st41
      have hO46 : Own tU8 5 w.heap.size s37 w38 (Value.slice (some ⟨g39, 0, none⟩) 1 1) [(n >>> (56 - (8 * k)).toUInt64).toUInt8] := (hO42.le (by omega : w.heap.size ≤ _))
      have ne48 : ∀ g, Value.ownBlock (Value.slice A14 k cp15) = some g → ¬ Value.ownBlock (Value.slice (some ⟨g39, 0, none⟩) 1 1) = some g := fun g hg e => by have h1 := hO42.ge e; have h2 := hO18.lt hg; omega
      have h49 : Own tU8 5 w.heap.size s37 w38 (Value.slice A14 k cp15) (eightTo n (k)) := (hO18.step' st41)
      have hz59 := hS45.size
      have hb58 : (eightTo n (k)).length + ([(n >>> (56 - (8 * k)).toUInt64).toUInt8] : List _).length ≤ 1000000 := (by first | decide | (have e1 := h49.ln; have e2 := hO46.rd.ln; simp only [List.length_append, List.length_cons, List.length_nil, List.length_map] at e1 e2 ⊢; omega))
      refine r_at (r_append tU8 S27 (d := 17) (x := (Operand.tmp 9)) (y := (Operand.tmp 16)) hF43 (by kernel_rfl) (by kernel_rfl) (by kernel_rfl) (by kernel_rfl) h49 hO46.rd (app_small hb58 (by decide)) (by omega) hz59 ?_)
      intro a50 s51 w52 v53 st54 hO55 hn56 hF57
      obtain ⟨A62, m65, c63, rfl, hl64⟩ := hO55.formL
      have hS66 := hS45.and st54 (fun b e => h49.ge e)
      refine r_runk 1 [3, 0, 4] [(3, (Value.slice A62 m65 c63)), (0, (uv n)), (4, (Value.int .i64 ((k : Nat) : Int)))] hF57 (by kernel_rfl) (by kernel_rfl) ?_
      intro a68 hF69
      refine r_end (by kernel_rfl) ?_
      refine c_reg 4 (by kernel_rfl) ?_
      refine r_runk 1 [7, 3, 0] [(7, (Value.int .i64 ((k : Nat) : Int))), (3, (Value.slice A62 m65 c63)), (0, (uv n))] hF69 (by kernel_rfl) (by kernel_rfl) ?_
      intro a70 hF71
      refine r_one (d := 8) (v0 := (Value.int .i64 (IntKind.i64.wrap (((k : Nat) : Int) + ((1 : Nat) : Int))))) (v := (Value.int .i64 ((k + 1 : Nat) : Int))) hF71 (by kernel_rfl) (by kernel_rfl) (congrArg (Value.int .i64) (i64_eq (by omega) (by omega) (by omega))) ?_
      intro a72 hF73
      refine r_runk 1 [4, 3, 0] [(4, (Value.int .i64 ((k + 1 : Nat) : Int))), (3, (Value.slice A62 m65 c63)), (0, (uv n))] hF73 (by kernel_rfl) (by kernel_rfl) ?_
      intro a74 hF75
      refine r_end (by kernel_rfl) ?_
      have hF76 := hF75.set 3 (Value.slice A62 m65 c63) (Value.slice A62 (k + 1) c63) (by kernel_rfl) (congrArg (fun m => Value.slice A62 m c63) (by first | rfl | omega | (simp only [List.length_append, List.length_cons, List.length_nil, List.length_map] at *; omega)))
      have hF77 := hF76.keep [0, 3, 4] [(0, (uv n)), (3, (Value.slice A62 (k + 1) c63)), (4, (Value.int .i64 ((k + 1 : Nat) : Int)))] (by kernel_rfl)
      exact ⟨k + 1, ⟨s51, A62, c63, hF77, hS66, (hO55.cast (by first | rfl | omega | (simp only [List.length_append, List.length_cons, List.length_nil, List.length_map] at *; omega)) (eightTo_succ n k)), (by omega)⟩, by omega⟩
    · skip
      have hc25 := of_decide_eq_false hc25
      refine c_exit 0 (by kernel_rfl) ?_
      refine c_seq [1, 1, 1, 0] [1, 1, 1, 1] (by kernel_rfl) ?_
      refine c_reg 6 (by kernel_rfl) ?_
      refine r_runk 2 [2] [(2, (Value.slice A14 k cp15))] hF24 (by kernel_rfl) (by kernel_rfl) ?_
      intro a78 hF79
      refine r_end (by kernel_rfl) ?_
      refine c_ret (by kernel_rfl) ?_
      try dsimp only [Exit.then, Exit.inBlock]
      refine f_ret1 hF79 2 (by kernel_rfl) (Value.slice A14 k cp15) (by kernel_rfl) s11 hS13 ?_
      have hk8 : k = 8 := by omega
      subst hk8
      exact hO18
theorem key_calls (σ : Nat → Nat) (w : World) (kind : UInt8) (channel : Int) {v0 : Value} {ns : List UInt64} (h0 : Rd tU64 σ w v0 ns) (hn : ns.length ≤ 1000) :
    Ctr Try.prog 19 [(bv kind), (iv channel), v0] noM σ w (fun σ' w' v => Own tU8 5 w.heap.size σ' w' v (ofL kind channel ns)) := by
  obtain ⟨A0, c0, rfl, hl0⟩ := h0.form
  refine ctr_enter Try.func19 c19 (by kernel_rfl) 32 (by kernel_rfl) (Nat.le_of_ble_eq_true (by kernel_rfl)) [(0, (bv kind)), (1, (Value.int .i64 (channel))), (2, (Value.slice A0 ns.length c0))] (by kernel_rfl) ?_
  intro a hF1
  have hS2 := Stp.refl noM σ w
  refine c_seq [0] [1] (by kernel_rfl) ?_
  refine c_reg 0 (by kernel_rfl) ?_
  refine r_runk 1 [0, 1, 2] [(0, (bv kind)), (1, (Value.int .i64 (channel))), (2, (Value.slice A0 ns.length c0))] hF1 (by kernel_rfl) (by kernel_rfl) ?_
  intro a3 hF4
  refine r_end (by kernel_rfl) ?_
  refine c_seq [1, 0] [1, 1] (by kernel_rfl) ?_
  refine c_reg 1 (by kernel_rfl) ?_
  refine r_runk 2 [10, 9, 2] [(10, (Value.int .i64 (channel))), (9, (bv kind)), (2, (Value.slice A0 ns.length c0))] hF4 (by kernel_rfl) (by kernel_rfl) ?_
  intro a5 hF6
  refine r_one (d := 11) (v0 := (Value.int .u64 (IntKind.u64.wrap (channel : Int)))) (v := (uv (ofI (channel : Int)))) hF6 (by kernel_rfl) (by kernel_rfl) (congrArg (Value.int .u64) (i64_u64 (channel : Int))) ?_
  intro a7 hF8
  refine r_one (d := 12) (v0 := (Value.int .u64 (Int.tmod (((ofI (channel : Int))).toNat : Int) ((10 : UInt64).toNat : Int)))) (v := (uv ((ofI (channel : Int)) % 10))) hF8 (by kernel_rfl) (by kernel_rfl) (congrArg (Value.int .u64) (u64_rem (ofI (channel : Int)) 10 (by decide))) ?_
  intro a9 hF10
  refine r_one (d := 13) (v0 := (Value.int .u64 (IntKind.u64.wrap (((48 : UInt64).toNat : Int) + (((ofI (channel : Int)) % 10).toNat : Int))))) (v := (uv ((48 : UInt64) + ((ofI (channel : Int)) % 10)))) hF10 (by kernel_rfl) (by kernel_rfl) (congrArg (Value.int .u64) (u64_add _ _)) ?_
  intro a11 hF12
  refine r_one (d := 14) (v0 := (Value.int .u8 (IntKind.u8.wrap (((48 : UInt64) + ((ofI (channel : Int)) % 10)).toNat : Int)))) (v := (bv (((48 : UInt64) + ((ofI (channel : Int)) % 10)).toUInt8))) hF12 (by kernel_rfl) (by kernel_rfl) (congrArg (Value.int .u8) (u64_u8 ((48 : UInt64) + ((ofI (channel : Int)) % 10)))) ?_
  intro a13 hF14
  refine r_at (r_lit tU8 (d := 15) (t := 27) (m := 3) (parts := #[(0, (Operand.tmp 9)), (1, (Operand.const (Value.int IntKind.u8 47))), (2, (Operand.tmp 14))]) hF14 (by kernel_rfl) (by kernel_rfl) σ [kind, 47, ((48 : UInt64) + ((ofI (channel : Int)) % 10)).toUInt8] [(bv kind), (bv 47), (bv (((48 : UInt64) + ((ofI (channel : Int)) % 10)).toUInt8))] ⟨_, _, rfl, rfl, ⟨_, _, rfl, rfl, ⟨_, _, rfl, rfl, rfl⟩⟩⟩ rfl (by decide) (e := 5) (fun o e => by simp only [execOp, e]; kernel_rfl) (by decide) ?_)
  intro a15 s16 w17 g18 hg19 st20 hO21 hF22
  have hz23 := hS2.size
  have hS24 := hS2.then st20
  have hO25 : Own tU8 5 w.heap.size s16 w17 (Value.slice (some ⟨g18, 0, none⟩) 3 3) [kind, 47, ((48 : UInt64) + ((ofI (channel : Int)) % 10)).toUInt8] := (hO21.le (by omega : w.heap.size ≤ _))
  refine r_runk 1 [7, 2] [(7, (Value.slice (some ⟨g18, 0, none⟩) 3 3)), (2, (Value.slice A0 ns.length c0))] hF22 (by kernel_rfl) (by kernel_rfl) ?_
  intro a27 hF28
  refine r_end (by kernel_rfl) ?_
  refine c_seq [1, 1, 0] [1, 1, 1] (by kernel_rfl) ?_
  refine c_seq [1, 1, 0, 0] [1, 1, 0, 1] (by kernel_rfl) ?_
  refine c_reg 2 (by kernel_rfl) ?_
  refine r_runk 1 [8, 7, 2] [(8, (Value.int .i64 ((0 : Nat) : Int))), (7, (Value.slice (some ⟨g18, 0, none⟩) 3 3)), (2, (Value.slice A0 ns.length c0))] hF28 (by kernel_rfl) (by kernel_rfl) ?_
  intro a29 hF30
  refine r_end (by kernel_rfl) ?_
  refine c_block [1, 1, 0, 1, 0] 0 (by kernel_rfl) ?_
  refine c_loop [1, 1, 0, 1, 0, 0] (by kernel_rfl) (fun (k : Nat) a31 w32 => ∃ (s33 : Nat → Nat) (A36 : Option Addr) (cp37 : Nat), Fr a31 32 [(2, (Value.slice A0 ns.length c0)), (7, (Value.slice A36 (3 + 9 * (k)) cp37)), (8, (Value.int .i64 ((k : Nat) : Int)))] ∧ Stp noM σ w s33 w32 ∧ Own tU8 5 w.heap.size s33 w32 (Value.slice A36 (3 + 9 * (k)) cp37) (ofTo kind channel ns (k)) ∧ k ≤ ns.length) (fun k => ns.length - k) 0 ?_ ?_
  · skip
    have hF39 := hF30.set 7 (Value.slice (some ⟨g18, 0, none⟩) 3 3) (Value.slice (some ⟨g18, 0, none⟩) (3 + 9 * (0)) 3) (by kernel_rfl) (congrArg (fun m => Value.slice (some ⟨g18, 0, none⟩) m 3) (by first | rfl | omega | (simp only [List.length_append, List.length_cons, List.length_nil, List.length_map, eight_len] at *; omega)))
    have hF40 := hF39.keep [2, 7, 8] [(2, (Value.slice A0 ns.length c0)), (7, (Value.slice (some ⟨g18, 0, none⟩) (3 + 9 * (0)) 3)), (8, (Value.int .i64 ((0 : Nat) : Int)))] (by kernel_rfl)
    exact ⟨s16, (some ⟨g18, 0, none⟩), 3, hF40, hS24, (hO25.cast (by first | rfl | omega | (simp only [List.length_append, List.length_cons, List.length_nil, List.length_map, eight_len] at *; omega)) rfl), (by omega)⟩
  · rintro k a31 w32 ⟨s33, A36, cp37, hF34, hS35, hO41, hk⟩
    have hln42 := hO41.ln
    refine c_seq [1, 1, 0, 1, 0, 0, 0] [1, 1, 0, 1, 0, 0, 1] (by kernel_rfl) ?_
    refine c_seq [1, 1, 0, 1, 0, 0, 0, 0] [1, 1, 0, 1, 0, 0, 0, 1] (by kernel_rfl) ?_
    refine c_reg 3 (by kernel_rfl) ?_
    refine r_runk 3 [18, 16, 2, 7, 8] [(18, (Value.int .i64 ((ns.length : Nat) : Int))), (16, (Value.int .i64 ((k : Nat) : Int))), (2, (Value.slice A0 ns.length c0)), (7, (Value.slice A36 (3 + 9 * (k)) cp37)), (8, (Value.int .i64 ((k : Nat) : Int)))] hF34 (by kernel_rfl) (by kernel_rfl) ?_
    intro a43 hF44
    refine r_one (d := 19) (v0 := (Value.bool (decide (((k : Nat) : Int) < ((ns.length : Nat) : Int))))) (v := (Value.bool (decide ((k : Nat) < ns.length)))) hF44 (by kernel_rfl) (by kernel_rfl) (congrArg Value.bool (cmp_nat_lss _ _)) ?_
    intro a45 hF46
    have hF47 := hF46.keep [19, 2, 7, 8] [(19, (Value.bool (decide ((k : Nat) < ns.length)))), (2, (Value.slice A0 ns.length c0)), (7, (Value.slice A36 (3 + 9 * (k)) cp37)), (8, (Value.int .i64 ((k : Nat) : Int)))] (by kernel_rfl)
    refine r_end (by kernel_rfl) ?_
    refine c_cond [1, 1, 0, 1, 0, 0, 0, 1, 0] [1, 1, 0, 1, 0, 0, 0, 1, 1] 19 (by kernel_rfl) hF47 (decide ((k : Nat) < ns.length)) (by kernel_rfl) (fun hc48 => ?_) (fun hc48 => ?_)
    · skip
      have hc48 := of_decide_eq_true hc48
      refine c_skip (by kernel_rfl) ?_
      refine c_seq [1, 1, 0, 1, 0, 0, 1, 0] [1, 1, 0, 1, 0, 0, 1, 1] (by kernel_rfl) ?_
      refine c_block [1, 1, 0, 1, 0, 0, 1, 0, 0] 1 (by kernel_rfl) ?_
      refine c_plan 5 (by kernel_rfl) (by kernel_rfl) s33 (fun b => True) [(0, true), (3, true), (4, true), (5, true), (6, true), (1, false), (2, false), (7, false), (8, false), (9, true)] [(0, 4194304, 128), (0, 8388608, 0), (3, 16777216, 12582912), (0, 33554432, 4), (0, 67108864, 256), (24, 134217728, 100663296), (32, 268435456, 134217728), (68, 536870912, 268435456), (132, 1073741824, 553648128), (511, 128, 1073741824)] (by kernel_rfl) (by kernel_rfl) (by kernel_rfl) (by kernel_rfl) ?_
      intro w49 st50
      have hS51 := hS35.then st50
      refine p_run (d := 22) (v := (Value.slice A36 (3 + 9 * (k)) cp37)) hF47 (by kernel_rfl) (fun _ => by kernel_rfl) (fun _ _ _ h => h) ?_
      intro a52 hF53
      refine p_run (d := 25) (v := (Value.slice A0 ns.length c0)) hF53 (by kernel_rfl) (fun _ => by kernel_rfl) (fun _ _ _ h => h) ?_
      intro a54 hF55
      refine p_run (d := 26) (v := (Value.int .i64 ((k : Nat) : Int))) hF55 (by kernel_rfl) (fun _ => by kernel_rfl) (fun _ _ _ h => h) ?_
      intro a56 hF57
      have h58 : Rd tU64 s33 w49 (Value.slice A0 ns.length c0) ns := h0.step hS51
      have hi65 : k < (ns).length := (by have hq := h58.ln; first | omega | (simp only [List.length_append, List.length_cons, List.length_nil, List.length_map, eight_len] at *; omega))
      obtain ⟨b59, o60, c61, he62, hs63, hr64⟩ := (h58).at k hi65
      obtain ⟨o66, ho66⟩ : ∃ o, o = o60 + k * 1 := ⟨_, rfl⟩
      have hr64 : c61 = [(uv (ns[k]'hi65))] := hr64
      subst hr64
      have hs63 : Seg s33 w49 b59 o66 [(uv (ns[k]'hi65))] := by rw [ho66]; exact hs63
      refine p_val (d := 27) (op := (Op.indexAddr 26 (Operand.tmp 25) (Operand.tmp 26))) (v := (Value.pointer (some ⟨b59, o66, none⟩))) hF57 (by kernel_rfl) (by kernel_rfl) (fun w9 ⟨s9, hw9⟩ => (by rw [ho66]; exact exec_index (len := ns.length) (cap := c0) he62 (by kernel_rfl) (kd := .i64) k (by kernel_rfl) (by have := h58.ln; omega) 1 U26 L22.s)) (fun _ _ _ h => h) ?_
      intro a67 hF68
      refine p_val (d := 28) (op := (Op.load 22 (Operand.tmp 27))) (v := (uv (ns[k]'hi65))) hF68 (by kernel_rfl) (by kernel_rfl) (fun w9 ⟨s9, hw9⟩ => (exec_load L22 (.inr rfl) (by kernel_rfl) (hs63.step hw9).cell)) (fun _ _ _ h => h) ?_
      intro a69 hF70
      have h71 : Own tU8 5 w.heap.size s33 w49 (Value.slice A36 (3 + 9 * (k)) cp37) (ofTo kind channel ns (k)) := (hO41.step' st50)
      refine p_do (r_lit tU8 (d := 23) (t := 27) (m := 1) (parts := #[(0, (Operand.const (Value.int IntKind.u8 47)))]) hF70 (by kernel_rfl) (by kernel_rfl) s33 [47] [(bv 47)] ⟨_, _, rfl, rfl, rfl⟩ rfl (by decide) (e := 5) (fun o e => by simp only [execOp, e]; kernel_rfl) (by decide) ?_)
      intro a72 s73 w74 g75 hg76 st77 hO78 hF79
      have hz80 := hS51.size
      have hS81 := hS51.then st77
      refine ⟨s73, st77.mono (fun b _ e => (fun _ e => e.elim) b e), ?_⟩
      have hO82 : Own tU8 5 w.heap.size s73 w74 (Value.slice (some ⟨g75, 0, none⟩) 1 1) [47] := (hO78.le (by omega : w.heap.size ≤ _))
      have ne84 : ∀ g, Value.ownBlock (Value.slice A36 (3 + 9 * (k)) cp37) = some g → ¬ Value.ownBlock (Value.slice (some ⟨g75, 0, none⟩) 1 1) = some g := fun g hg e => by have h1 := hO78.ge e; have h2 := h71.lt hg; omega
      have h85 : Own tU8 5 w.heap.size s73 w74 (Value.slice A36 (3 + 9 * (k)) cp37) (ofTo kind channel ns (k)) := (h71.step' st77)
      have hz95 := hS81.size
      have hb94 : (ofTo kind channel ns (k)).length + ([47] : List _).length ≤ 1000000 := (by first | decide | (have e1 := h85.ln; have e2 := hO82.rd.ln; simp only [List.length_append, List.length_cons, List.length_nil, List.length_map, eight_len] at e1 e2 ⊢; omega))
      refine p_do (r_append tU8 S27 (d := 24) (x := (Operand.tmp 22)) (y := (Operand.tmp 23)) hF79 (by kernel_rfl) (by kernel_rfl) (by kernel_rfl) (by kernel_rfl) h85 hO82.rd (app_small hb94 (by decide)) (by omega) hz95 ?_)
      intro a86 s87 w88 v89 st90 hO91 hn92 hF93
      obtain ⟨A98, m101, c99, rfl, hl100⟩ := hO91.formL
      have hS102 := hS81.and st90 (fun b e => h85.ge e)
      refine ⟨s87, st90.mono (fun b _ e => (fun _ _ => trivial) b e), ?_⟩
      refine p_do (r_call (d := (some 29)) (f := 24) (args := #[(Operand.tmp 28)]) (tys := #[22]) hF93 (by kernel_rfl) (by kernel_rfl) C24 [(uv (ns[k]'hi65))] (by kernel_rfl) (eight_calls s87 w88 (ns[k]'hi65)) ?_)
      intro a104 s105 w106 v107 st108 hP109 hF110
      have hz111 := hS102.size
      have hS112 := hS102.then st108
      refine ⟨s105, st108.mono (fun b _ e => (fun _ e => e.elim) b e), ?_⟩
      obtain ⟨A113, m116, c114, rfl, hl115⟩ := hP109.formL
      have hO117 : Own tU8 5 w.heap.size s105 w106 (Value.slice A113 m116 c114) (eight (ns[k]'hi65)) := hP109.le (by omega)
      have h119 : Own tU8 5 w.heap.size s105 w106 (Value.slice A98 m101 c99) ((ofTo kind channel ns (k)) ++ [47]) := (hO91.step' st108)
      have hz129 := hS112.size
      have hb128 : ((ofTo kind channel ns (k)) ++ [47]).length + (eight (ns[k]'hi65) : List _).length ≤ 1000000 := (by first | decide | (have e1 := h119.ln; have e2 := hO117.rd.ln; simp only [List.length_append, List.length_cons, List.length_nil, List.length_map, eight_len] at e1 e2 ⊢; omega))
      refine p_do (r_append tU8 S27 (d := 30) (x := (Operand.tmp 24)) (y := (Operand.tmp 29)) hF110 (by kernel_rfl) (by kernel_rfl) (by kernel_rfl) (by kernel_rfl) h119 hO117.rd (app_small hb128 (by decide)) (by omega) hz129 ?_)
      intro a120 s121 w122 v123 st124 hO125 hn126 hF127
      obtain ⟨A132, m135, c133, rfl, hl134⟩ := hO125.formL
      have hS136 := hS112.and st124 (fun b e => h119.ge e)
      refine ⟨s121, st124.mono (fun b _ e => (fun _ _ => trivial) b e), ?_⟩
      refine p_run (d := 7) (v := (Value.slice A132 m135 c133)) hF127 (by kernel_rfl) (fun _ => by kernel_rfl) (fun _ _ _ h => h) ?_
      intro a138 hF139
      have hF140 := hF139.keep [7, 2, 8] [(7, (Value.slice A132 m135 c133)), (2, (Value.slice A0 ns.length c0)), (8, (Value.int .i64 ((k : Nat) : Int)))] (by kernel_rfl)
      refine p_end ?_
      refine c_reg 4 (by kernel_rfl) ?_
      refine r_runk 1 [20, 7, 2] [(20, (Value.int .i64 ((k : Nat) : Int))), (7, (Value.slice A132 m135 c133)), (2, (Value.slice A0 ns.length c0))] hF140 (by kernel_rfl) (by kernel_rfl) ?_
      intro a141 hF142
      refine r_one (d := 21) (v0 := (Value.int .i64 (IntKind.i64.wrap (((k : Nat) : Int) + ((1 : Nat) : Int))))) (v := (Value.int .i64 ((k + 1 : Nat) : Int))) hF142 (by kernel_rfl) (by kernel_rfl) (congrArg (Value.int .i64) (i64_eq (by omega) (by omega) (by omega))) ?_
      intro a143 hF144
      refine r_runk 1 [8, 7, 2] [(8, (Value.int .i64 ((k + 1 : Nat) : Int))), (7, (Value.slice A132 m135 c133)), (2, (Value.slice A0 ns.length c0))] hF144 (by kernel_rfl) (by kernel_rfl) ?_
      intro a145 hF146
      refine r_end (by kernel_rfl) ?_
      have hF147 := hF146.set 7 (Value.slice A132 m135 c133) (Value.slice A132 (3 + 9 * (k + 1)) c133) (by kernel_rfl) (congrArg (fun m => Value.slice A132 m c133) (by first | rfl | omega | (simp only [List.length_append, List.length_cons, List.length_nil, List.length_map, eight_len] at *; omega)))
      have hF148 := hF147.keep [2, 7, 8] [(2, (Value.slice A0 ns.length c0)), (7, (Value.slice A132 (3 + 9 * (k + 1)) c133)), (8, (Value.int .i64 ((k + 1 : Nat) : Int)))] (by kernel_rfl)
      exact ⟨k + 1, ⟨s121, A132, c133, hF148, hS136, (hO125.cast (by first | rfl | omega | (simp only [List.length_append, List.length_cons, List.length_nil, List.length_map, eight_len] at *; omega)) (ofTo_succ _ _ _ _ _)), (by omega)⟩, by omega⟩
    · skip
      have hc48 := of_decide_eq_false hc48
      refine c_exit 0 (by kernel_rfl) ?_
      refine c_seq [1, 1, 1, 0] [1, 1, 1, 1] (by kernel_rfl) ?_
      refine c_reg 6 (by kernel_rfl) ?_
      refine r_runk 2 [6] [(6, (Value.slice A36 (3 + 9 * (k)) cp37))] hF47 (by kernel_rfl) (by kernel_rfl) ?_
      intro a149 hF150
      refine r_end (by kernel_rfl) ?_
      refine c_ret (by kernel_rfl) ?_
      try dsimp only [Exit.then, Exit.inBlock]
      refine f_ret1 hF150 6 (by kernel_rfl) (Value.slice A36 (3 + 9 * (k)) cp37) (by kernel_rfl) s33 hS35 ?_
      have hk8 : k = ns.length := by omega
      subst hk8
      rw [← ofTo_all]
      exact hO41
theorem balance_calls (σ : Nat → Nat) (w : World) (p q : List UInt8) (hb : p.length + q.length ≤ 1000000) :
    Ctr Try.prog 20 [(sv p), (sv q)] noM σ w (fun σ' w' v => Rd tU8 σ' w' v (purse p q)) := by
  refine ctr_enter Try.func20 c20 (by kernel_rfl) 13 (by kernel_rfl) (Nat.le_of_ble_eq_true (by kernel_rfl)) [(0, (sv p)), (1, (sv q))] (by kernel_rfl) ?_
  intro a hF1
  have hS2 := Stp.refl noM σ w
  refine c_seq [0] [1] (by kernel_rfl) ?_
  refine c_reg 0 (by kernel_rfl) ?_
  refine r_runk 1 [0, 1] [(0, (sv p)), (1, (sv q))] hF1 (by kernel_rfl) (by kernel_rfl) ?_
  intro a3 hF4
  refine r_end (by kernel_rfl) ?_
  refine c_seq [1, 0] [1, 1] (by kernel_rfl) ?_
  refine c_reg 1 (by kernel_rfl) ?_
  refine r_at (r_lit tU8 (d := 5) (t := 27) (m := 2) (parts := #[(0, (Operand.const (Value.int IntKind.u8 98))), (1, (Operand.const (Value.int IntKind.u8 47)))]) hF4 (by kernel_rfl) (by kernel_rfl) σ [98, 47] [(bv 98), (bv 47)] ⟨_, _, rfl, rfl, ⟨_, _, rfl, rfl, rfl⟩⟩ rfl (by decide) (e := 5) (fun o e => by simp only [execOp, e]; kernel_rfl) (by decide) ?_)
  intro a5 s6 w7 g8 hg9 st10 hO11 hF12
  have hz13 := hS2.size
  have hS14 := hS2.then st10
  have hO15 : Own tU8 5 w.heap.size s6 w7 (Value.slice (some ⟨g8, 0, none⟩) 2 2) [98, 47] := (hO11.le (by omega : w.heap.size ≤ _))
  refine r_at (r_val (d := 6) (op := (Op.convert 27 9 (Operand.tmp 5))) hF12 (by kernel_rfl) (by kernel_rfl) (sv [98, 47]) w7 (exec_b2s U27 U5 U9 (by kernel_rfl) hO15.rd) ?_)
  intro a17 hF18
  refine r_runk 1 [7, 6, 1] [(7, (sv p)), (6, (sv [98, 47])), (1, (sv q))] hF18 (by kernel_rfl) (by kernel_rfl) ?_
  intro a19 hF20
  refine r_at (r_val (d := 8) (op := (Op.binOp BinOp.add 9 (Operand.tmp 6) (Operand.tmp 7) 9)) hF20 (by kernel_rfl) (by kernel_rfl) (sv ([98, 47] ++ p)) w7 (exec_cat (p := [98, 47]) (q := p) (by kernel_rfl) (by kernel_rfl) (by simp only [List.length_append, List.length_cons, List.length_nil]; omega)) ?_)
  intro a21 hF22
  refine r_at (r_val (d := 9) (op := (Op.binOp BinOp.add 9 (Operand.tmp 8) (Operand.const (Value.string (ByteArray.mk #[47]))) 9)) hF22 (by kernel_rfl) (by kernel_rfl) (sv (([98, 47] ++ p) ++ [47])) w7 (exec_cat (p := [98, 47] ++ p) (q := [47]) (by kernel_rfl) (by kernel_rfl) (by simp only [List.length_append, List.length_cons, List.length_nil]; omega)) ?_)
  intro a23 hF24
  refine r_runk 1 [10, 9] [(10, (sv q)), (9, (sv (([98, 47] ++ p) ++ [47])))] hF24 (by kernel_rfl) (by kernel_rfl) ?_
  intro a25 hF26
  refine r_at (r_val (d := 11) (op := (Op.binOp BinOp.add 9 (Operand.tmp 9) (Operand.tmp 10) 9)) hF26 (by kernel_rfl) (by kernel_rfl) (sv ((([98, 47] ++ p) ++ [47]) ++ q)) w7 (exec_cat (p := ([98, 47] ++ p) ++ [47]) (q := q) (by kernel_rfl) (by kernel_rfl) (by simp only [List.length_append, List.length_cons, List.length_nil]; omega)) ?_)
  intro a27 hF28
  refine r_at (r_s2b (d := 12) (t := 27) (s := 9) (x := (Operand.tmp 11)) hF28 (by kernel_rfl) (by kernel_rfl) s6 U27 U5 U9 (bs := (([98, 47] ++ p) ++ [47]) ++ q) (by kernel_rfl) (by simp only [List.length_append, List.length_cons, List.length_nil]; omega) ?_)
  intro a29 s30 w31 v32 st33 hR34 hF35
  obtain ⟨A36, m39, c37, rfl, hl38⟩ := hR34.formL
  have hS40 := hS14.then st33
  refine r_runk 1 [4] [(4, (Value.slice A36 m39 c37))] hF35 (by kernel_rfl) (by kernel_rfl) ?_
  intro a41 hF42
  refine r_end (by kernel_rfl) ?_
  refine c_ret (by kernel_rfl) ?_
  try dsimp only [Exit.then, Exit.inBlock]
  refine f_ret1 hF42 4 (by kernel_rfl) (Value.slice A36 m39 c37) (by kernel_rfl) s30 hS40 ?_
  have h := hR34
  simpa [purse, List.append_assoc] using h
theorem purse_calls (σ : Nat → Nat) (w : World) (p q : List UInt8) (hb : p.length + q.length ≤ 1000000) :
    Ctr Try.prog 21 [(sv p), (sv q)] noM σ w (fun σ' w' v => Rd tU8 σ' w' v (purse p q)) := by
  refine ctr_enter Try.func21 c21 (by kernel_rfl) 11 (by kernel_rfl) (Nat.le_of_ble_eq_true (by kernel_rfl)) [(0, (sv p)), (1, (sv q))] (by kernel_rfl) ?_
  intro a hF1
  have hS2 := Stp.refl noM σ w
  refine c_seq [0] [1] (by kernel_rfl) ?_
  refine c_reg 0 (by kernel_rfl) ?_
  refine r_runk 1 [0, 1] [(0, (sv p)), (1, (sv q))] hF1 (by kernel_rfl) (by kernel_rfl) ?_
  intro a3 hF4
  refine r_end (by kernel_rfl) ?_
  refine c_seq [1, 0] [1, 1] (by kernel_rfl) ?_
  refine c_reg 1 (by kernel_rfl) ?_
  refine r_runk 1 [5, 1] [(5, (sv p)), (1, (sv q))] hF4 (by kernel_rfl) (by kernel_rfl) ?_
  intro a5 hF6
  refine r_at (r_val (d := 6) (op := (Op.binOp BinOp.add 9 (Operand.const (Value.string (ByteArray.mk #[98, 47]))) (Operand.tmp 5) 9)) hF6 (by kernel_rfl) (by kernel_rfl) (sv ([98, 47] ++ p)) w (exec_cat (p := [98, 47]) (q := p) (by kernel_rfl) (by kernel_rfl) (by simp only [List.length_append, List.length_cons, List.length_nil]; omega)) ?_)
  intro a7 hF8
  refine r_at (r_val (d := 7) (op := (Op.binOp BinOp.add 9 (Operand.tmp 6) (Operand.const (Value.string (ByteArray.mk #[47]))) 9)) hF8 (by kernel_rfl) (by kernel_rfl) (sv (([98, 47] ++ p) ++ [47])) w (exec_cat (p := [98, 47] ++ p) (q := [47]) (by kernel_rfl) (by kernel_rfl) (by simp only [List.length_append, List.length_cons, List.length_nil]; omega)) ?_)
  intro a9 hF10
  refine r_runk 1 [8, 7] [(8, (sv q)), (7, (sv (([98, 47] ++ p) ++ [47])))] hF10 (by kernel_rfl) (by kernel_rfl) ?_
  intro a11 hF12
  refine r_at (r_val (d := 9) (op := (Op.binOp BinOp.add 9 (Operand.tmp 7) (Operand.tmp 8) 9)) hF12 (by kernel_rfl) (by kernel_rfl) (sv ((([98, 47] ++ p) ++ [47]) ++ q)) w (exec_cat (p := ([98, 47] ++ p) ++ [47]) (q := q) (by kernel_rfl) (by kernel_rfl) (by simp only [List.length_append, List.length_cons, List.length_nil]; omega)) ?_)
  intro a13 hF14
  refine r_at (r_s2b (d := 10) (t := 27) (s := 9) (x := (Operand.tmp 9)) hF14 (by kernel_rfl) (by kernel_rfl) σ U27 U5 U9 (bs := (([98, 47] ++ p) ++ [47]) ++ q) (by kernel_rfl) (by simp only [List.length_append, List.length_cons, List.length_nil]; omega) ?_)
  intro a15 s16 w17 v18 st19 hR20 hF21
  obtain ⟨A22, m25, c23, rfl, hl24⟩ := hR20.formL
  have hS26 := hS2.then st19
  refine r_runk 1 [4] [(4, (Value.slice A22 m25 c23))] hF21 (by kernel_rfl) (by kernel_rfl) ?_
  intro a27 hF28
  refine r_end (by kernel_rfl) ?_
  refine c_ret (by kernel_rfl) ?_
  try dsimp only [Exit.then, Exit.inBlock]
  refine f_ret1 hF28 4 (by kernel_rfl) (Value.slice A22 m25 c23) (by kernel_rfl) s16 hS26 ?_
  have h := hR20
  simpa [purse, List.append_assoc] using h
theorem value_calls (σ : Nat → Nat) (w : World) {v0 : Value} {b : List UInt8} (h0 : Rd tU8 σ w v0 b) :
    Ctr Try.prog 23 [v0] noM σ w (fun σ' w' v => v = .tuple #[uv (valueL b).1, iv (valueL b).2]) := by
  obtain ⟨A0, c0, rfl, hl0⟩ := h0.form
  have hbd := h0.bd
  have hb1 : b.length ≤ 140737488355328 := by have : tU8.by_ = 1 := rfl; rw [this] at hbd; omega
  refine ctr_enter Try.func23 c23 (by kernel_rfl) 23 (by kernel_rfl) (Nat.le_of_ble_eq_true (by kernel_rfl)) [(0, (Value.slice A0 b.length c0))] (by kernel_rfl) ?_
  intro a hF1
  have hS2 := Stp.refl noM σ w
  refine c_seq [0] [1] (by kernel_rfl) ?_
  refine c_reg 0 (by kernel_rfl) ?_
  refine r_runk 2 [0] [(0, (Value.slice A0 b.length c0))] hF1 (by kernel_rfl) (by kernel_rfl) ?_
  intro a3 hF4
  refine r_end (by kernel_rfl) ?_
  refine c_seq [1, 0] [1, 1] (by kernel_rfl) ?_
  refine c_seq [1, 0, 0] [1, 0, 1] (by kernel_rfl) ?_
  refine c_reg 1 (by kernel_rfl) ?_
  refine r_runk 2 [8, 0] [(8, (Value.int .i64 ((b.length : Nat) : Int))), (0, (Value.slice A0 b.length c0))] hF4 (by kernel_rfl) (by kernel_rfl) ?_
  intro a5 hF6
  refine r_one (d := 9) (v0 := (Value.bool (((b.length : Nat) : Int) != ((8 : Nat) : Int)))) (v := (Value.bool (!decide ((b.length : Nat) = 8)))) hF6 (by kernel_rfl) (by kernel_rfl) (congrArg Value.bool (cmp_nat_neq _ _)) ?_
  intro a7 hF8
  have hF9 := hF8.keep [9, 0] [(9, (Value.bool (!decide ((b.length : Nat) = 8)))), (0, (Value.slice A0 b.length c0))] (by kernel_rfl)
  refine r_end (by kernel_rfl) ?_
  refine c_cond [1, 0, 1, 0] [1, 0, 1, 1] 9 (by kernel_rfl) hF9 (!decide ((b.length : Nat) = 8)) (by kernel_rfl) (fun hc10 => ?_) (fun hc10 => ?_)
  · skip
    have hc10 : ¬ ((b.length : Nat) = 8) := by simpa using hc10
    refine c_seq [1, 0, 1, 0, 0] [1, 0, 1, 0, 1] (by kernel_rfl) ?_
    refine c_reg 2 (by kernel_rfl) ?_
    refine r_runk 2 [3, 2] [(3, (Value.int .i64 ((7 : Nat) : Int))), (2, (uv 0))] hF9 (by kernel_rfl) (by kernel_rfl) ?_
    intro a11 hF12
    refine r_end (by kernel_rfl) ?_
    refine c_ret (by kernel_rfl) ?_
    try dsimp only [Exit.then, Exit.inBlock]
    refine f_ret2 hF12 2 3 (by kernel_rfl) (uv 0) (Value.int .i64 ((7 : Nat) : Int)) (by kernel_rfl) (by kernel_rfl) σ hS2 ?_
    rw [valueL, if_neg (by simpa using hc10)]
    rfl
  · skip
    have hc10 : ((b.length : Nat) = 8) := by simpa using hc10
    have hc8 := hc10
    refine c_skip (by kernel_rfl) ?_
    refine c_seq [1, 1, 0] [1, 1, 1] (by kernel_rfl) ?_
    refine c_reg 3 (by kernel_rfl) ?_
    refine r_runk 1 [4, 0] [(4, (uv 0)), (0, (Value.slice A0 b.length c0))] hF9 (by kernel_rfl) (by kernel_rfl) ?_
    intro a13 hF14
    refine r_end (by kernel_rfl) ?_
    refine c_seq [1, 1, 1, 0] [1, 1, 1, 1] (by kernel_rfl) ?_
    refine c_seq [1, 1, 1, 0, 0] [1, 1, 1, 0, 1] (by kernel_rfl) ?_
    refine c_reg 4 (by kernel_rfl) ?_
    refine r_runk 3 [12, 11, 10, 4] [(12, (Value.int .i64 ((0 : Nat) : Int))), (11, (Value.int .i64 ((b.length : Nat) : Int))), (10, (Value.slice A0 b.length c0)), (4, (uv 0))] hF14 (by kernel_rfl) (by kernel_rfl) ?_
    intro a15 hF16
    refine r_end (by kernel_rfl) ?_
    refine c_block [1, 1, 1, 0, 1, 0] 0 (by kernel_rfl) ?_
    refine c_loop [1, 1, 1, 0, 1, 0, 0] (by kernel_rfl) (fun (k : Nat) a17 w18 => ∃ (s19 : Nat → Nat), Fr a17 23 [(4, (uv (numTo b (k)))), (10, (Value.slice A0 b.length c0)), (11, (Value.int .i64 ((b.length : Nat) : Int))), (12, (Value.int .i64 ((k : Nat) : Int)))] ∧ Stp noM σ w s19 w18 ∧ k ≤ b.length) (fun k => b.length - k) 0 ?_ ?_
    · skip
      have hF22 := hF16.set 4 (uv 0) (uv (numTo b (0))) (by kernel_rfl) rfl
      have hF23 := hF22.keep [4, 10, 11, 12] [(4, (uv (numTo b (0)))), (10, (Value.slice A0 b.length c0)), (11, (Value.int .i64 ((b.length : Nat) : Int))), (12, (Value.int .i64 ((0 : Nat) : Int)))] (by kernel_rfl)
      exact ⟨σ, hF23, hS2, (by omega)⟩
    · rintro k a17 w18 ⟨s19, hF20, hS21, hk⟩
      refine c_seq [1, 1, 1, 0, 1, 0, 0, 0] [1, 1, 1, 0, 1, 0, 0, 1] (by kernel_rfl) ?_
      refine c_reg 5 (by kernel_rfl) ?_
      refine r_one (d := 13) (v0 := (Value.bool (decide (((k : Nat) : Int) < ((b.length : Nat) : Int))))) (v := (Value.bool (decide ((k : Nat) < b.length)))) hF20 (by kernel_rfl) (by kernel_rfl) (congrArg Value.bool (cmp_nat_lss _ _)) ?_
      intro a24 hF25
      refine r_end (by kernel_rfl) ?_
      refine c_seq [1, 1, 1, 0, 1, 0, 0, 1, 0] [1, 1, 1, 0, 1, 0, 0, 1, 1] (by kernel_rfl) ?_
      refine c_cond [1, 1, 1, 0, 1, 0, 0, 1, 0, 0] [1, 1, 1, 0, 1, 0, 0, 1, 0, 1] 13 (by kernel_rfl) hF25 (decide ((k : Nat) < b.length)) (by kernel_rfl) (fun hc26 => ?_) (fun hc26 => ?_)
      · skip
        have hc26 := of_decide_eq_true hc26
        refine c_skip (by kernel_rfl) ?_
        refine c_seq [1, 1, 1, 0, 1, 0, 0, 1, 1, 0] [1, 1, 1, 0, 1, 0, 0, 1, 1, 1] (by kernel_rfl) ?_
        refine c_block [1, 1, 1, 0, 1, 0, 0, 1, 1, 0, 0] 1 (by kernel_rfl) ?_
        refine c_seq [1, 1, 1, 0, 1, 0, 0, 1, 1, 0, 0, 0] [1, 1, 1, 0, 1, 0, 0, 1, 1, 0, 0, 1] (by kernel_rfl) ?_
        refine c_reg 6 (by kernel_rfl) ?_
        have h27 : Rd tU8 s19 w18 (Value.slice A0 b.length c0) b := h0.step hS21
        have hi34 : k < (b).length := (by have hq := h27.ln; first | omega | (simp only [List.length_append, List.length_cons, List.length_nil, List.length_map] at *; omega))
        obtain ⟨b28, o29, c30, he31, hs32, hr33⟩ := (h27).at k hi34
        obtain ⟨o35, ho35⟩ : ∃ o, o = o29 + k * 1 := ⟨_, rfl⟩
        have hr33 : c30 = [(bv (b[k]'hi34))] := hr33
        subst hr33
        have hs32 : Seg s19 w18 b28 o35 [(bv (b[k]'hi34))] := by rw [ho35]; exact hs32
        refine r_at (r_val (d := 14) (op := (Op.indexAddr 27 (Operand.tmp 10) (Operand.tmp 12))) hF25 (by kernel_rfl) (by kernel_rfl) (Value.pointer (some ⟨b28, o35, none⟩)) w18 (by rw [ho35]; exact exec_index (len := b.length) (cap := c0) he31 (by kernel_rfl) (kd := .i64) k (by kernel_rfl) (by have := h27.ln; omega) 1 U27 L5.s) ?_)
        intro a36 hF37
        refine r_at (r_val (d := 15) (op := (Op.load 5 (Operand.tmp 14))) hF37 (by kernel_rfl) (by kernel_rfl) (bv (b[k]'hi34)) w18 (exec_load L5 (.inr rfl) (by kernel_rfl) hs32.cell) ?_)
        intro a38 hF39
        refine r_runk 1 [6, 4, 10, 11, 12] [(6, (bv (b[k]'hi34))), (4, (uv (numTo b (k)))), (10, (Value.slice A0 b.length c0)), (11, (Value.int .i64 ((b.length : Nat) : Int))), (12, (Value.int .i64 ((k : Nat) : Int)))] hF39 (by kernel_rfl) (by kernel_rfl) ?_
        intro a40 hF41
        refine r_end (by kernel_rfl) ?_
        refine c_reg 7 (by kernel_rfl) ?_
        refine r_runk 1 [16, 6, 10, 11, 12] [(16, (uv (numTo b (k)))), (6, (bv (b[k]'hi34))), (10, (Value.slice A0 b.length c0)), (11, (Value.int .i64 ((b.length : Nat) : Int))), (12, (Value.int .i64 ((k : Nat) : Int)))] hF41 (by kernel_rfl) (by kernel_rfl) ?_
        intro a42 hF43
        refine r_one (d := 17) (v0 := (Value.int .u64 (IntKind.u64.wrap (((numTo b (k)).toNat : Int) * (2 ^ (min (Int.toNat ((8 : Nat) : Int)) 64)))))) (v := (uv ((numTo b (k)) <<< (8 : Nat).toUInt64))) hF43 (by kernel_rfl) (by kernel_rfl) (congrArg (Value.int .u64) (u64_shl (numTo b (k)) 8 (by decide))) ?_
        intro a44 hF45
        refine r_runk 1 [18, 17, 10, 11, 12] [(18, (bv (b[k]'hi34))), (17, (uv ((numTo b (k)) <<< (8 : Nat).toUInt64))), (10, (Value.slice A0 b.length c0)), (11, (Value.int .i64 ((b.length : Nat) : Int))), (12, (Value.int .i64 ((k : Nat) : Int)))] hF45 (by kernel_rfl) (by kernel_rfl) ?_
        intro a46 hF47
        refine r_one (d := 19) (v0 := (Value.int .u64 (IntKind.u64.wrap (((b[k]'hi34)).toNat : Int)))) (v := (uv (((b[k]'hi34)).toUInt64))) hF47 (by kernel_rfl) (by kernel_rfl) (congrArg (Value.int .u64) (u8_u64 (b[k]'hi34))) ?_
        intro a48 hF49
        refine r_one (d := 20) (v0 := (Value.int .u64 (IntKind.u64.wrap ((BitVec.ofInt 64 (((numTo b (k)) <<< (8 : Nat).toUInt64).toNat : Int) ||| BitVec.ofInt 64 ((((b[k]'hi34)).toUInt64).toNat : Int)).toNat : Int)))) (v := (uv (((numTo b (k)) <<< (8 : Nat).toUInt64) ||| (((b[k]'hi34)).toUInt64)))) hF49 (by kernel_rfl) (by kernel_rfl) (congrArg (Value.int .u64) (u64_or ((numTo b (k)) <<< (8 : Nat).toUInt64) (((b[k]'hi34)).toUInt64))) ?_
        intro a50 hF51
        refine r_runk 1 [4, 10, 11, 12] [(4, (uv (((numTo b (k)) <<< (8 : Nat).toUInt64) ||| (((b[k]'hi34)).toUInt64)))), (10, (Value.slice A0 b.length c0)), (11, (Value.int .i64 ((b.length : Nat) : Int))), (12, (Value.int .i64 ((k : Nat) : Int)))] hF51 (by kernel_rfl) (by kernel_rfl) ?_
        intro a52 hF53
        refine r_end (by kernel_rfl) ?_
        refine c_reg 8 (by kernel_rfl) ?_
        refine r_one (d := 21) (v0 := (Value.int .i64 (IntKind.i64.wrap (((k : Nat) : Int) + ((1 : Nat) : Int))))) (v := (Value.int .i64 ((k + 1 : Nat) : Int))) hF53 (by kernel_rfl) (by kernel_rfl) (congrArg (Value.int .i64) (i64_eq (by omega) (by omega) (by omega))) ?_
        intro a54 hF55
        refine r_runk 1 [12, 4, 10, 11] [(12, (Value.int .i64 ((k + 1 : Nat) : Int))), (4, (uv (((numTo b (k)) <<< (8 : Nat).toUInt64) ||| (((b[k]'hi34)).toUInt64)))), (10, (Value.slice A0 b.length c0)), (11, (Value.int .i64 ((b.length : Nat) : Int)))] hF55 (by kernel_rfl) (by kernel_rfl) ?_
        intro a56 hF57
        refine r_end (by kernel_rfl) ?_
        have hF58 := hF57.set 4 (uv (((numTo b (k)) <<< (8 : Nat).toUInt64) ||| (((b[k]'hi34)).toUInt64))) (uv (numTo b (k + 1))) (by kernel_rfl) (congrArg (fun x : UInt64 => uv x) (numTo_succ _ _ _))
        have hF59 := hF58.keep [4, 10, 11, 12] [(4, (uv (numTo b (k + 1)))), (10, (Value.slice A0 b.length c0)), (11, (Value.int .i64 ((b.length : Nat) : Int))), (12, (Value.int .i64 ((k + 1 : Nat) : Int)))] (by kernel_rfl)
        exact ⟨k + 1, ⟨s19, hF59, hS21, (by omega)⟩, by omega⟩
      · skip
        have hc26 := of_decide_eq_false hc26
        refine c_exit 0 (by kernel_rfl) ?_
        refine c_seq [1, 1, 1, 1, 0] [1, 1, 1, 1, 1] (by kernel_rfl) ?_
        refine c_reg 9 (by kernel_rfl) ?_
        refine r_runk 3 [3, 2] [(3, (Value.int .i64 ((0 : Nat) : Int))), (2, (uv (numTo b (k))))] hF25 (by kernel_rfl) (by kernel_rfl) ?_
        intro a60 hF61
        refine r_end (by kernel_rfl) ?_
        refine c_ret (by kernel_rfl) ?_
        try dsimp only [Exit.then, Exit.inBlock]
        refine f_ret2 hF61 2 3 (by kernel_rfl) (uv (numTo b (k))) (Value.int .i64 ((0 : Nat) : Int)) (by kernel_rfl) (by kernel_rfl) s19 hS21 ?_
        have hk8 : k = b.length := by omega
        subst hk8
        rw [valueL, if_pos hc8]
        rfl
theorem awake17_calls (σ : Nat → Nat) (w : World) :
    Ctr Try.prog 10 [] noM σ w (fun σ' w' v => v = .bool true) := by
  refine ctr_enter Try.func10 c10 (by kernel_rfl) 9 (by kernel_rfl) (Nat.le_of_ble_eq_true (by kernel_rfl)) [] (by kernel_rfl) ?_
  intro a hF1
  have hS2 := Stp.refl noM σ w
  refine c_seq [0] [1] (by kernel_rfl) ?_
  refine c_reg 0 (by kernel_rfl) ?_
  refine r_runk 1 [] [] hF1 (by kernel_rfl) (by kernel_rfl) ?_
  intro a3 hF4
  refine r_end (by kernel_rfl) ?_
  refine c_seq [1, 0] [1, 1] (by kernel_rfl) ?_
  refine c_reg 1 (by kernel_rfl) ?_
  refine r_at (r_call (d := (some 1)) (f := 15) (args := #[(Operand.const (Value.int IntKind.i64 2))]) (tys := #[3]) hF4 (by kernel_rfl) (by kernel_rfl) C15 [(Value.int .i64 ((2 : Nat) : Int))] (by kernel_rfl) (sent_calls σ w ((2 : Nat) : Int)) ?_)
  intro a5 s6 w7 v8 st9 hP10 hF11
  have hz12 := hS2.size
  have hS13 := hS2.then st9
  obtain ⟨A14, m17, c15, rfl, hl16⟩ := hP10.formL
  have hO18 : Own tU8 5 w.heap.size s6 w7 (Value.slice A14 m17 c15) (ofL 115 ((2 : Nat) : Int) []) := hP10.le (by omega)
  refine r_at (r_val (d := 2) (op := (Op.convert 27 9 (Operand.tmp 1))) hF11 (by kernel_rfl) (by kernel_rfl) (sv (ofL 115 ((2 : Nat) : Int) [])) w7 (exec_b2s U27 U5 U9 (by kernel_rfl) hO18.rd) ?_)
  intro a20 hF21
  refine r_one (d := 3) (v0 := (Value.bool ((⟨(ofL 115 ((2 : Nat) : Int) []).toArray⟩ : ByteArray).toList == (⟨([115, 47, 50]).toArray⟩ : ByteArray).toList))) (v := (Value.bool true)) hF21 (by kernel_rfl) (by kernel_rfl) (Eq.trans (congrArg Value.bool (str_eql _ _)) (congrArg Value.bool ((by kernel_rfl) : decide (ofL 115 ((2 : Nat) : Int) [] = [115, 47, 50]) = true))) ?_
  intro a22 hF23
  refine r_runk 1 [4] [(4, (Value.bool true))] hF23 (by kernel_rfl) (by kernel_rfl) ?_
  intro a24 hF25
  refine r_at (r_call (d := (some 5)) (f := 11) (args := #[(Operand.const (Value.int IntKind.i64 0)), (Operand.const (Value.int IntKind.u64 1))]) (tys := #[3, 22]) hF25 (by kernel_rfl) (by kernel_rfl) C11 [(Value.int .i64 ((0 : Nat) : Int)), (uv 1)] (by kernel_rfl) (commit_calls s6 w7 ((0 : Nat) : Int) 1) ?_)
  intro a26 s27 w28 v29 st30 hP31 hF32
  have hz33 := hS13.size
  have hS34 := hS13.then st30
  obtain ⟨A35, m38, c36, rfl, hl37⟩ := hP31.formL
  have hO39 : Own tU8 5 w.heap.size s27 w28 (Value.slice A35 m38 c36) (ofL 99 ((0 : Nat) : Int) [1]) := hP31.le (by omega)
  refine r_at (r_val (d := 6) (op := (Op.convert 27 9 (Operand.tmp 5))) hF32 (by kernel_rfl) (by kernel_rfl) (sv (ofL 99 ((0 : Nat) : Int) [1])) w28 (exec_b2s U27 U5 U9 (by kernel_rfl) hO39.rd) ?_)
  intro a41 hF42
  refine r_one (d := 7) (v0 := (Value.bool ((⟨(ofL 99 ((0 : Nat) : Int) [1]).toArray⟩ : ByteArray).toList == (⟨([99, 47, 48, 47, 0, 0, 0, 0, 0, 0, 0, 1]).toArray⟩ : ByteArray).toList))) (v := (Value.bool true)) hF42 (by kernel_rfl) (by kernel_rfl) (Eq.trans (congrArg Value.bool (str_eql _ _)) (congrArg Value.bool ((by kernel_rfl) : decide (ofL 99 ((0 : Nat) : Int) [1] = [99, 47, 48, 47, 0, 0, 0, 0, 0, 0, 0, 1]) = true))) ?_
  intro a43 hF44
  refine r_runk 2 [0] [(0, (Value.bool true))] hF44 (by kernel_rfl) (by kernel_rfl) ?_
  intro a45 hF46
  refine r_end (by kernel_rfl) ?_
  refine c_ret (by kernel_rfl) ?_
  try dsimp only [Exit.then, Exit.inBlock]
  refine f_ret1 hF46 0 (by kernel_rfl) (Value.bool true) (by kernel_rfl) s27 hS34 ?_
  exact rfl

end Go.Proofs.Ytaoamokfbhlaaaa.E
