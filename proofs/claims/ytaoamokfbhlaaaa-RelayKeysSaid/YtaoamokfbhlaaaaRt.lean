/- Walks, printed by a program of this session. -/
import Derived.Test.YtaoamokfbhlaaaaK
import Derived.Test.Ytaoamokfbhlaaaapure21
import Derived.Test.YtaoamokfbhlaaaaRq
import Derived.Test.YtaoamokfbhlaaaaRw
import Derived.Test.YtaoamokfbhlaaaaRx
import Derived.Test.YtaoamokfbhlaaaaRy
set_option linter.unusedVariables false
set_option linter.unusedSimpArgs false
set_option maxRecDepth 100000
namespace Go.Proofs.Ytaoamokfbhlaaaa.E
open Go Go.RowKit
open Go.Proofs
theorem told_calls (σ : Nat → Nat) (w : World) {v0 : Value} {la : List Event} (h0 : Rd tEvent σ w v0 la) (kd : UInt8) (p : Packet) :
    Ctr Try.prog 35 [v0, (bv kd), (Value.agg #[(Value.int .i64 (p.channel)), (uv p.seq), (uv p.timeout), (sv p.denom), (uv p.amount), (sv p.src), (sv p.dst)])] noM σ w (fun σ' w' v => v = .tuple #[(Value.agg #[(Value.bool ((toldA (sameL la p [kd])).ok)), (Value.int .i64 ((toldA (sameL la p [kd])).code))]), .bool (sameL la p [kd]).isSome]) := by
  obtain ⟨A0, c0, rfl, hlA0⟩ := h0.form
  have hbdA0 : la.length ≤ 140737488355328 := by have h := h0.bd; have e : tEvent.by_ = 104 := rfl; rw [e] at h; omega
  refine ctr_enter Try.func35 c35 (by kernel_rfl) 37 (by kernel_rfl) (Nat.le_of_ble_eq_true (by kernel_rfl)) [(0, (Value.slice A0 la.length c0)), (1, (bv kd)), (2, (Value.agg #[(Value.int .i64 (p.channel)), (uv p.seq), (uv p.timeout), (sv p.denom), (uv p.amount), (sv p.src), (sv p.dst)]))] (by kernel_rfl) ?_
  intro a hF1
  have hS2 := Stp.refl noM σ w
  refine c_seq [0] [1] (by kernel_rfl) ?_
  refine c_reg 0 (by kernel_rfl) ?_
  refine r_at (r_new (d := 5) (op := (Op.box 56 (Operand.tmp 2))) hF1 (by kernel_rfl) (by kernel_rfl) σ [(Value.int .i64 (p.channel)), (uv p.seq), (uv p.timeout), (sv p.denom), (uv p.amount), (sv p.src), (sv p.dst)] 56 (exec_box [(Value.int .i64 (p.channel)), (uv p.seq), (uv p.timeout), (sv p.denom), (uv p.amount), (sv p.src), (sv p.dst)] (by kernel_rfl)) ?_)
  intro a3 s4 w5 b6 hb7 st8 hB9 hF10
  have hz11 := hS2.size
  have hS12 := hS2.then st8
  refine r_at (r_new (d := 6) (op := (Op.alloc 53)) hF10 (by kernel_rfl) (by kernel_rfl) s4 [(Value.bool false), (Value.int .i64 ((0 : Nat) : Int))] 53 (exec_alloc [(Value.bool false), (Value.int .i64 ((0 : Nat) : Int))] (fun _ => .inl (by kernel_rfl))) ?_)
  intro a13 s14 w15 b16 hb17 st18 hB19 hF20
  have hz21 := hS12.size
  have ne22 : b6 < b16 := by have := hB9.lt; omega
  have hS23 := hS12.then st18
  refine r_runk 1 [6, 5, 0, 1] [(6, (Value.pointer (some ⟨b16, 0, none⟩))), (5, (Value.pointer (some ⟨b6, 0, none⟩))), (0, (Value.slice A0 la.length c0)), (1, (bv kd))] hF20 (by kernel_rfl) (by kernel_rfl) ?_
  intro a24 hF25
  refine r_end (by kernel_rfl) ?_
  refine c_seq [1, 0] [1, 1] (by kernel_rfl) ?_
  refine c_seq [1, 0, 0] [1, 0, 1] (by kernel_rfl) ?_
  refine c_reg 1 (by kernel_rfl) ?_
  refine r_runk 1 [8, 6, 5, 0, 1] [(8, (Value.int .i64 ((0 : Nat) : Int))), (6, (Value.pointer (some ⟨b16, 0, none⟩))), (5, (Value.pointer (some ⟨b6, 0, none⟩))), (0, (Value.slice A0 la.length c0)), (1, (bv kd))] hF25 (by kernel_rfl) (by kernel_rfl) ?_
  intro a26 hF27
  refine r_end (by kernel_rfl) ?_
  refine c_block [1, 0, 1, 0] 0 (by kernel_rfl) ?_
  have h33 : Bx s14 w15 b6 [(Value.int .i64 (p.channel)), (uv p.seq), (uv p.timeout), (sv p.denom), (uv p.amount), (sv p.src), (sv p.dst)] 56 := (hB9.step' st18)
  refine c_loop [1, 0, 1, 0, 0] (by kernel_rfl) (fun (k : Nat) a28 w29 => ∃ (s30 : Nat → Nat), Fr a28 37 [(0, (Value.slice A0 la.length c0)), (1, (bv kd)), (5, (Value.pointer (some ⟨b6, 0, none⟩))), (6, (Value.pointer (some ⟨b16, 0, none⟩))), (8, (Value.int .i64 ((k : Nat) : Int)))] ∧ Stp noM σ w s30 w29 ∧ Bx s30 w29 b6 [(Value.int .i64 (p.channel)), (uv p.seq), (uv p.timeout), (sv p.denom), (uv p.amount), (sv p.src), (sv p.dst)] 56 ∧ Bx s30 w29 b16 [(Value.bool false), (Value.int .i64 ((0 : Nat) : Int))] 53 ∧ k ≤ la.length ∧ ∀ j (hj : j < la.length), j < k → isOf [kd] p la[j] = false) (fun k => la.length - k) 0 ?_ ?_
  · skip
    have hF34 := hF27.keep [0, 1, 5, 6, 8] [(0, (Value.slice A0 la.length c0)), (1, (bv kd)), (5, (Value.pointer (some ⟨b6, 0, none⟩))), (6, (Value.pointer (some ⟨b16, 0, none⟩))), (8, (Value.int .i64 ((0 : Nat) : Int)))] (by kernel_rfl)
    exact ⟨s14, hF34, hS23, h33, hB19, (by omega), (fun j _ h => absurd h (by omega))⟩
  · rintro k a28 w29 ⟨s30, hF31, hS32, h35, h36, hk, hb⟩
    refine c_seq [1, 0, 1, 0, 0, 0] [1, 0, 1, 0, 0, 1] (by kernel_rfl) ?_
    refine c_seq [1, 0, 1, 0, 0, 0, 0] [1, 0, 1, 0, 0, 0, 1] (by kernel_rfl) ?_
    refine c_reg 2 (by kernel_rfl) ?_
    refine r_runk 3 [11, 9, 0, 1, 5, 6, 8] [(11, (Value.int .i64 ((la.length : Nat) : Int))), (9, (Value.int .i64 ((k : Nat) : Int))), (0, (Value.slice A0 la.length c0)), (1, (bv kd)), (5, (Value.pointer (some ⟨b6, 0, none⟩))), (6, (Value.pointer (some ⟨b16, 0, none⟩))), (8, (Value.int .i64 ((k : Nat) : Int)))] hF31 (by kernel_rfl) (by kernel_rfl) ?_
    intro a37 hF38
    refine r_one (d := 12) (v0 := (Value.bool (decide (((k : Nat) : Int) < ((la.length : Nat) : Int))))) (v := (Value.bool (decide ((k : Nat) < la.length)))) hF38 (by kernel_rfl) (by kernel_rfl) (congrArg Value.bool (cmp_nat_lss _ _)) ?_
    intro a39 hF40
    have hF41 := hF40.keep [12, 0, 1, 5, 6, 8] [(12, (Value.bool (decide ((k : Nat) < la.length)))), (0, (Value.slice A0 la.length c0)), (1, (bv kd)), (5, (Value.pointer (some ⟨b6, 0, none⟩))), (6, (Value.pointer (some ⟨b16, 0, none⟩))), (8, (Value.int .i64 ((k : Nat) : Int)))] (by kernel_rfl)
    refine r_end (by kernel_rfl) ?_
    refine c_cond [1, 0, 1, 0, 0, 0, 1, 0] [1, 0, 1, 0, 0, 0, 1, 1] 12 (by kernel_rfl) hF41 (decide ((k : Nat) < la.length)) (by kernel_rfl) (fun hc42 => ?_) (fun hc42 => ?_)
    · skip
      have hc42 := of_decide_eq_true hc42
      refine c_skip (by kernel_rfl) ?_
      refine c_seq [1, 0, 1, 0, 0, 1, 0] [1, 0, 1, 0, 0, 1, 1] (by kernel_rfl) ?_
      refine c_block [1, 0, 1, 0, 0, 1, 0, 0] 1 (by kernel_rfl) ?_
      refine c_seq [1, 0, 1, 0, 0, 1, 0, 0, 0] [1, 0, 1, 0, 0, 1, 0, 0, 1] (by kernel_rfl) ?_
      refine c_plan 4 (by kernel_rfl) (by kernel_rfl) s30 (fun b => b ≠ b6 ∧ b ≠ b16 ∧ True) [(0, true), (1, true), (2, true), (3, true), (4, true), (5, true), (6, true), (7, true), (8, true), (9, true), (10, true), (11, true), (12, true), (13, true), (14, true), (15, true)] [(0, 32768, 1), (0, 65536, 256), (3, 131072, 98304), (4, 262144, 131072), (8, 524288, 262144), (0, 1048576, 2), (48, 2097152, 1572864), (64, 4194304, 2097152), (128, 8388608, 4194305), (128, 16777216, 4194560), (896, 33554432, 29360128), (1152, 67108864, 37748736), (2176, 134217728, 71303168), (128, 268435456, 4194336), (12416, 536870912, 406847488), (16512, 1073741824, 541065216)] (by kernel_rfl) (by kernel_rfl) (by kernel_rfl) (by kernel_rfl) ?_
      intro w43 st44
      have hS45 := hS32.then st44
      refine p_run (d := 15) (v := (Value.slice A0 la.length c0)) hF41 (by kernel_rfl) (fun _ => by kernel_rfl) (fun _ _ _ h => h) ?_
      intro a46 hF47
      refine p_run (d := 16) (v := (Value.int .i64 ((k : Nat) : Int))) hF47 (by kernel_rfl) (fun _ => by kernel_rfl) (fun _ _ _ h => h) ?_
      intro a48 hF49
      have h50 : Rd tEvent s30 w43 (Value.slice A0 la.length c0) la := h0.step hS45
      have hi57 : k < (la).length := (by have hq := h50.ln; first | omega | (simp only [List.length_append, List.length_cons, List.length_nil, List.length_map] at *; omega))
      obtain ⟨b51, o52, c53, he54, hs55, hr56⟩ := (h50).at k hi57
      obtain ⟨o58, ho58⟩ : ∃ o, o = o52 + k * 10 := ⟨_, rfl⟩
      obtain ⟨x59, hx60⟩ : ∃ x, x = (la[k]'hi57) := ⟨_, rfl⟩
      rw [← hx60] at hr56
      have hr56 : c53 = [(bv x59.kind), (Value.int .i64 (x59.packet.channel)), (uv x59.packet.seq), (uv x59.packet.timeout), (sv x59.packet.denom), (uv x59.packet.amount), (sv x59.packet.src), (sv x59.packet.dst), (Value.bool x59.ack.ok), (Value.int .i64 (x59.ack.code))] := hr56
      subst hr56
      have hs55 : Seg s30 w43 b51 o58 [(bv x59.kind), (Value.int .i64 (x59.packet.channel)), (uv x59.packet.seq), (uv x59.packet.timeout), (sv x59.packet.denom), (uv x59.packet.amount), (sv x59.packet.src), (sv x59.packet.dst), (Value.bool x59.ack.ok), (Value.int .i64 (x59.ack.code))] := by rw [ho58]; exact hs55
      refine p_val (d := 17) (op := (Op.indexAddr 41 (Operand.tmp 15) (Operand.tmp 16))) (v := (Value.pointer (some ⟨b51, o58, none⟩))) hF49 (by kernel_rfl) (by kernel_rfl) (fun w9 ⟨s9, hw9⟩ => (by rw [ho58]; exact exec_index (len := la.length) (cap := c0) he54 (by kernel_rfl) (kd := .i64) k (by kernel_rfl) (by have := h50.ln; omega) 10 U41 L60.s)) (fun _ _ _ h => h) ?_
      intro a61 hF62
      refine p_run (d := 18) (v := (Value.pointer (some ⟨b51, o58, none⟩))) hF62 (by kernel_rfl) (fun _ => by kernel_rfl) (fun _ _ _ h => h) ?_
      intro a63 hF64
      refine p_val (d := 19) (op := (Op.load 47 (Operand.tmp 18))) (v := (bv x59.kind)) hF64 (by kernel_rfl) (by kernel_rfl) (fun w9 ⟨s9, hw9⟩ => (exec_load L47 (.inr rfl) (by kernel_rfl) (Seg.sub (hs55.step hw9) 0 1 [(bv x59.kind)] (by kernel_rfl)).cell)) (fun _ _ _ h => h) ?_
      intro a65 hF66
      refine p_run (d := 20) (v := (bv kd)) hF66 (by kernel_rfl) (fun _ => by kernel_rfl) (fun _ _ _ h => h) ?_
      intro a67 hF68
      refine p_run (d := 21) (v := (Value.bool (((x59.kind).toNat : Int) == ((kd).toNat : Int)))) hF68 (by kernel_rfl) (fun _ => by kernel_rfl) (fun _ _ _ h => h) ?_
      intro a69 hF70
      have hF71 := hF70.set 21 (Value.bool (((x59.kind).toNat : Int) == ((kd).toNat : Int))) (Value.bool (decide ((x59.kind : UInt8) = kd))) (by kernel_rfl) (congrArg Value.bool (cmp_u8_eql _ _))
      refine p_run (d := 22) (v := (Value.bool (decide ((x59.kind : UInt8) = kd)))) hF71 (by kernel_rfl) (fun _ => by kernel_rfl) (fun _ _ _ h => h) ?_
      intro a72 hF73
      have hF74 := hF73.keep [22, 0, 1, 5, 6, 8] [(22, (Value.bool (decide ((x59.kind : UInt8) = kd)))), (0, (Value.slice A0 la.length c0)), (1, (bv kd)), (5, (Value.pointer (some ⟨b6, 0, none⟩))), (6, (Value.pointer (some ⟨b16, 0, none⟩))), (8, (Value.int .i64 ((k : Nat) : Int)))] (by kernel_rfl)
      rcases Bool.eq_false_or_eq_true (decide ((x59.kind : UInt8) = kd)) with hg75 | hg75
      · skip
        have hF76 := hF74.set 22 (Value.bool (decide ((x59.kind : UInt8) = kd))) (Value.bool true) (by kernel_rfl) (congrArg Value.bool hg75)
        have hc77 := of_decide_eq_true hg75
        refine p_run (d := 23) (v := (Value.slice A0 la.length c0)) hF76 (by kernel_rfl) (fun _ => by kernel_rfl) (fun _ _ _ h => h) ?_
        intro a78 hF79
        refine p_run (d := 24) (v := (Value.int .i64 ((k : Nat) : Int))) hF79 (by kernel_rfl) (fun _ => by kernel_rfl) (fun _ _ _ h => h) ?_
        intro a80 hF81
        have hi88 : k < (la).length := (by have hq := h50.ln; first | omega | (simp only [List.length_append, List.length_cons, List.length_nil, List.length_map] at *; omega))
        obtain ⟨b82, o83, c84, he85, hs86, hr87⟩ := (h50).at k hi88
        obtain ⟨o89, ho89⟩ : ∃ o, o = o83 + k * 10 := ⟨_, rfl⟩
        obtain ⟨x90, hx91⟩ : ∃ x, x = (la[k]'hi88) := ⟨_, rfl⟩
        rw [← hx91] at hr87
        have hr87 : c84 = [(bv x90.kind), (Value.int .i64 (x90.packet.channel)), (uv x90.packet.seq), (uv x90.packet.timeout), (sv x90.packet.denom), (uv x90.packet.amount), (sv x90.packet.src), (sv x90.packet.dst), (Value.bool x90.ack.ok), (Value.int .i64 (x90.ack.code))] := hr87
        subst hr87
        have hs86 : Seg s30 w43 b82 o89 [(bv x90.kind), (Value.int .i64 (x90.packet.channel)), (uv x90.packet.seq), (uv x90.packet.timeout), (sv x90.packet.denom), (uv x90.packet.amount), (sv x90.packet.src), (sv x90.packet.dst), (Value.bool x90.ack.ok), (Value.int .i64 (x90.ack.code))] := by rw [ho89]; exact hs86
        refine p_val (d := 25) (op := (Op.indexAddr 41 (Operand.tmp 23) (Operand.tmp 24))) (v := (Value.pointer (some ⟨b82, o89, none⟩))) hF81 (by kernel_rfl) (by kernel_rfl) (fun w9 ⟨s9, hw9⟩ => (by rw [ho89]; exact exec_index (len := la.length) (cap := c0) he85 (by kernel_rfl) (kd := .i64) k (by kernel_rfl) (by have := h50.ln; omega) 10 U41 L60.s)) (fun _ _ _ h => h) ?_
        intro a92 hF93
        refine p_run (d := 26) (v := (Value.pointer (some ⟨b82, o89 + 1, none⟩))) hF93 (by kernel_rfl) (fun _ => by kernel_rfl) (fun _ _ _ h => h) ?_
        intro a94 hF95
        refine p_val (d := 27) (op := (Op.load 56 (Operand.tmp 26))) (v := (Value.agg #[(Value.int .i64 (x90.packet.channel)), (uv x90.packet.seq), (uv x90.packet.timeout), (sv x90.packet.denom), (uv x90.packet.amount), (sv x90.packet.src), (sv x90.packet.dst)])) hF95 (by kernel_rfl) (by kernel_rfl) (fun w9 ⟨s9, hw9⟩ => (exec_load L56 (.inl rfl) (by kernel_rfl) (Seg.sub (hs86.step hw9) 1 7 [(Value.int .i64 (x90.packet.channel)), (uv x90.packet.seq), (uv x90.packet.timeout), (sv x90.packet.denom), (uv x90.packet.amount), (sv x90.packet.src), (sv x90.packet.dst)] (by kernel_rfl)).cell)) (fun _ _ _ h => h) ?_
        intro a96 hF97
        have h98 : Bx s30 w43 b6 [(Value.int .i64 (p.channel)), (uv p.seq), (uv p.timeout), (sv p.denom), (uv p.amount), (sv p.src), (sv p.dst)] 56 := (h35.step' st44)
        refine p_val (d := 28) (op := (Op.load 56 (Operand.tmp 5))) (v := (Value.agg #[(Value.int .i64 (p.channel)), (uv p.seq), (uv p.timeout), (sv p.denom), (uv p.amount), (sv p.src), (sv p.dst)])) hF97 (by kernel_rfl) (by kernel_rfl) (fun w9 ⟨s9, hw9⟩ => (exec_load L56 (.inl rfl) (by kernel_rfl) (Bx.cells (h98.step hw9 (fun h => h.1 rfl)) 0 7 [(Value.int .i64 (p.channel)), (uv p.seq), (uv p.timeout), (sv p.denom), (uv p.amount), (sv p.src), (sv p.dst)] (by kernel_rfl)))) (fun _ _ _ h => h) ?_
        intro a99 hF100
        refine p_val (d := 29) (op := (Op.binOp BinOp.eql 56 (Operand.tmp 27) (Operand.tmp 28) 56)) (v := (Value.bool (decide (x90.packet = p)))) hF100 (by kernel_rfl) (by kernel_rfl) (fun w9 ⟨s9, hw9⟩ => (exec_eqS (r := decide (x90.packet = p)) (by kernel_rfl) (by kernel_rfl) (by kernel_rfl) (fun w => eqin56 9998 x90.packet p w))) (fun _ _ _ h => h) ?_
        intro a101 hF102
        have hF103 := hF102.keep [29, 22, 0, 1, 5, 6, 8] [(29, (Value.bool (decide (x90.packet = p)))), (22, (Value.bool true)), (0, (Value.slice A0 la.length c0)), (1, (bv kd)), (5, (Value.pointer (some ⟨b6, 0, none⟩))), (6, (Value.pointer (some ⟨b16, 0, none⟩))), (8, (Value.int .i64 ((k : Nat) : Int)))] (by kernel_rfl)
        refine p_run (d := 30) (v := (Value.bool (decide (x90.packet = p)))) hF103 (by kernel_rfl) (fun _ => by kernel_rfl) (fun _ _ _ h => h) ?_
        intro a104 hF105
        refine p_end ?_
        have hF106 := hF105.keep [30, 0, 1, 5, 6, 8] [(30, (Value.bool (decide (x90.packet = p)))), (0, (Value.slice A0 la.length c0)), (1, (bv kd)), (5, (Value.pointer (some ⟨b6, 0, none⟩))), (6, (Value.pointer (some ⟨b16, 0, none⟩))), (8, (Value.int .i64 ((k : Nat) : Int)))] (by kernel_rfl)
        refine c_cond [1, 0, 1, 0, 0, 1, 0, 0, 1, 0] [1, 0, 1, 0, 0, 1, 0, 0, 1, 1] 30 (by kernel_rfl) hF106 (decide (x90.packet = p)) (by kernel_rfl) (fun hc107 => ?_) (fun hc107 => ?_)
        · skip
          have hc107 := of_decide_eq_true hc107
          refine c_seq [1, 0, 1, 0, 0, 1, 0, 0, 1, 0, 0] [1, 0, 1, 0, 0, 1, 0, 0, 1, 0, 1] (by kernel_rfl) ?_
          refine c_reg 5 (by kernel_rfl) ?_
          refine r_runk 2 [32, 31, 6] [(32, (Value.int .i64 ((k : Nat) : Int))), (31, (Value.slice A0 la.length c0)), (6, (Value.pointer (some ⟨b16, 0, none⟩)))] hF106 (by kernel_rfl) (by kernel_rfl) ?_
          intro a108 hF109
          have hi116 : k < (la).length := (by have hq := h50.ln; first | omega | (simp only [List.length_append, List.length_cons, List.length_nil, List.length_map] at *; omega))
          obtain ⟨b110, o111, c112, he113, hs114, hr115⟩ := (h50).at k hi116
          obtain ⟨o117, ho117⟩ : ∃ o, o = o111 + k * 10 := ⟨_, rfl⟩
          obtain ⟨x118, hx119⟩ : ∃ x, x = (la[k]'hi116) := ⟨_, rfl⟩
          rw [← hx119] at hr115
          have hr115 : c112 = [(bv x118.kind), (Value.int .i64 (x118.packet.channel)), (uv x118.packet.seq), (uv x118.packet.timeout), (sv x118.packet.denom), (uv x118.packet.amount), (sv x118.packet.src), (sv x118.packet.dst), (Value.bool x118.ack.ok), (Value.int .i64 (x118.ack.code))] := hr115
          subst hr115
          have hs114 : Seg s30 w43 b110 o117 [(bv x118.kind), (Value.int .i64 (x118.packet.channel)), (uv x118.packet.seq), (uv x118.packet.timeout), (sv x118.packet.denom), (uv x118.packet.amount), (sv x118.packet.src), (sv x118.packet.dst), (Value.bool x118.ack.ok), (Value.int .i64 (x118.ack.code))] := by rw [ho117]; exact hs114
          refine r_at (r_val (d := 33) (op := (Op.indexAddr 41 (Operand.tmp 31) (Operand.tmp 32))) hF109 (by kernel_rfl) (by kernel_rfl) (Value.pointer (some ⟨b110, o117, none⟩)) w43 (by rw [ho117]; exact exec_index (len := la.length) (cap := c0) he113 (by kernel_rfl) (kd := .i64) k (by kernel_rfl) (by have := h50.ln; omega) 10 U41 L60.s) ?_)
          intro a120 hF121
          refine r_runk 1 [34, 6] [(34, (Value.pointer (some ⟨b110, o117 + 8, none⟩))), (6, (Value.pointer (some ⟨b16, 0, none⟩)))] hF121 (by kernel_rfl) (by kernel_rfl) ?_
          intro a122 hF123
          refine r_at (r_val (d := 35) (op := (Op.load 53 (Operand.tmp 34))) hF123 (by kernel_rfl) (by kernel_rfl) (Value.agg #[(Value.bool x118.ack.ok), (Value.int .i64 (x118.ack.code))]) w43 (exec_load L53 (.inl rfl) (by kernel_rfl) (Seg.sub hs114 8 2 [(Value.bool x118.ack.ok), (Value.int .i64 (x118.ack.code))] (by kernel_rfl)).cell) ?_)
          intro a124 hF125
          have h126 : Bx s30 w43 b16 [(Value.bool false), (Value.int .i64 ((0 : Nat) : Int))] 53 := (h36.step' st44)
          refine r_at (r_store (t := 53) (x := (Operand.tmp 6)) (y := (Operand.tmp 35)) hF125 (by kernel_rfl) (by kernel_rfl) h126 0 [(Value.bool x118.ack.ok), (Value.int .i64 (x118.ack.code))] [(Value.bool x118.ack.ok), (Value.int .i64 (x118.ack.code))] (by kernel_rfl) (by kernel_rfl) 2 true L53 rfl (by kernel_rfl) (Nat.le_of_ble_eq_true (by kernel_rfl)) (by kernel_rfl) ?_)
          intro a127 w128 st129 hB130 hF131
          have hS132 := hS45.and st129 (fun b e => by subst e; omega)
          refine r_runk 1 [7, 6] [(7, (Value.bool true)), (6, (Value.pointer (some ⟨b16, 0, none⟩)))] hF131 (by kernel_rfl) (by kernel_rfl) ?_
          intro a133 hF134
          refine r_end (by kernel_rfl) ?_
          refine c_ret (by kernel_rfl) ?_
          try dsimp only [Exit.then, Exit.inBlock]
          refine f_ret hF134 [.cell 6 53, .tmp 7] (by kernel_rfl) [.agg [(Value.bool x118.ack.ok), (Value.int .i64 (x118.ack.code))].toArray, (Value.bool true)] (.cell (hF134.h 6 _ (by kernel_rfl)) (run_loadVar_cs (cs := [(Value.bool x118.ack.ok), (Value.int .i64 (x118.ack.code))]) L53 (.inl rfl) (hB130.cells 0 2 [(Value.bool x118.ack.ok), (Value.int .i64 (x118.ack.code))] (by kernel_rfl))) (.tmp (hF134.h 7 _ (by kernel_rfl)) .nil)) _ rfl s30 hS132 ?_
          subst hx60 hx91 hx119; 
          rw [told_at la p kd k (by omega) hb (isOf_yes (of_decide_eq_true hg75) hc107)]
          rfl
        · skip
          have hc107 := of_decide_eq_false hc107
          refine c_skip (by kernel_rfl) ?_
          refine c_reg 3 (by kernel_rfl) ?_
          refine r_runk 1 [13, 0, 1, 5, 6] [(13, (Value.int .i64 ((k : Nat) : Int))), (0, (Value.slice A0 la.length c0)), (1, (bv kd)), (5, (Value.pointer (some ⟨b6, 0, none⟩))), (6, (Value.pointer (some ⟨b16, 0, none⟩)))] hF106 (by kernel_rfl) (by kernel_rfl) ?_
          intro a135 hF136
          refine r_one (d := 14) (v0 := (Value.int .i64 (IntKind.i64.wrap (((k : Nat) : Int) + ((1 : Nat) : Int))))) (v := (Value.int .i64 ((k + 1 : Nat) : Int))) hF136 (by kernel_rfl) (by kernel_rfl) (congrArg (Value.int .i64) (i64_eq (by omega) (by omega) (by omega))) ?_
          intro a137 hF138
          refine r_runk 1 [8, 0, 1, 5, 6] [(8, (Value.int .i64 ((k + 1 : Nat) : Int))), (0, (Value.slice A0 la.length c0)), (1, (bv kd)), (5, (Value.pointer (some ⟨b6, 0, none⟩))), (6, (Value.pointer (some ⟨b16, 0, none⟩)))] hF138 (by kernel_rfl) (by kernel_rfl) ?_
          intro a139 hF140
          refine r_end (by kernel_rfl) ?_
          have h141 : Bx s30 w43 b16 [(Value.bool false), (Value.int .i64 ((0 : Nat) : Int))] 53 := (h36.step' st44)
          have hF142 := hF140.keep [0, 1, 5, 6, 8] [(0, (Value.slice A0 la.length c0)), (1, (bv kd)), (5, (Value.pointer (some ⟨b6, 0, none⟩))), (6, (Value.pointer (some ⟨b16, 0, none⟩))), (8, (Value.int .i64 ((k + 1 : Nat) : Int)))] (by kernel_rfl)
          exact ⟨k + 1, ⟨s30, hF142, hS45, h98, h141, (by omega), (by subst hx60 hx91; exact before_succ (by omega) hb (isOf_no2 hc107))⟩, by omega⟩
      · skip
        have hF143 := hF74.set 22 (Value.bool (decide ((x59.kind : UInt8) = kd))) (Value.bool false) (by kernel_rfl) (congrArg Value.bool hg75)
        have hc144 := of_decide_eq_false hg75
        refine p_run (d := 23) (v := undef) hF143 (by kernel_rfl) (fun _ => by kernel_rfl) (fun _ _ _ h => h) ?_
        intro a145 hF146
        refine p_run (d := 24) (v := undef) hF146 (by kernel_rfl) (fun _ => by kernel_rfl) (fun _ _ _ h => h) ?_
        intro a147 hF148
        refine p_run (d := 25) (v := undef) hF148 (by kernel_rfl) (fun _ => by kernel_rfl) (fun _ _ _ h => h) ?_
        intro a149 hF150
        refine p_run (d := 26) (v := undef) hF150 (by kernel_rfl) (fun _ => by kernel_rfl) (fun _ _ _ h => h) ?_
        intro a151 hF152
        refine p_run (d := 27) (v := undef) hF152 (by kernel_rfl) (fun _ => by kernel_rfl) (fun _ _ _ h => h) ?_
        intro a153 hF154
        refine p_run (d := 28) (v := undef) hF154 (by kernel_rfl) (fun _ => by kernel_rfl) (fun _ _ _ h => h) ?_
        intro a155 hF156
        refine p_run (d := 29) (v := undef) hF156 (by kernel_rfl) (fun _ => by kernel_rfl) (fun _ _ _ h => h) ?_
        intro a157 hF158
        have hF159 := hF158.keep [29, 22, 0, 1, 5, 6, 8] [(29, undef), (22, (Value.bool false)), (0, (Value.slice A0 la.length c0)), (1, (bv kd)), (5, (Value.pointer (some ⟨b6, 0, none⟩))), (6, (Value.pointer (some ⟨b16, 0, none⟩))), (8, (Value.int .i64 ((k : Nat) : Int)))] (by kernel_rfl)
        refine p_run (d := 30) (v := (Value.bool false)) hF159 (by kernel_rfl) (fun _ => by kernel_rfl) (fun _ _ _ h => h) ?_
        intro a160 hF161
        refine p_end ?_
        have hF162 := hF161.keep [30, 0, 1, 5, 6, 8] [(30, (Value.bool false)), (0, (Value.slice A0 la.length c0)), (1, (bv kd)), (5, (Value.pointer (some ⟨b6, 0, none⟩))), (6, (Value.pointer (some ⟨b16, 0, none⟩))), (8, (Value.int .i64 ((k : Nat) : Int)))] (by kernel_rfl)
        refine c_cond_false [1, 0, 1, 0, 0, 1, 0, 0, 1, 0] [1, 0, 1, 0, 0, 1, 0, 0, 1, 1] 30 (by kernel_rfl) hF162 (by kernel_rfl) ?_
        refine c_skip (by kernel_rfl) ?_
        refine c_reg 3 (by kernel_rfl) ?_
        refine r_runk 1 [13, 0, 1, 5, 6] [(13, (Value.int .i64 ((k : Nat) : Int))), (0, (Value.slice A0 la.length c0)), (1, (bv kd)), (5, (Value.pointer (some ⟨b6, 0, none⟩))), (6, (Value.pointer (some ⟨b16, 0, none⟩)))] hF162 (by kernel_rfl) (by kernel_rfl) ?_
        intro a163 hF164
        refine r_one (d := 14) (v0 := (Value.int .i64 (IntKind.i64.wrap (((k : Nat) : Int) + ((1 : Nat) : Int))))) (v := (Value.int .i64 ((k + 1 : Nat) : Int))) hF164 (by kernel_rfl) (by kernel_rfl) (congrArg (Value.int .i64) (i64_eq (by omega) (by omega) (by omega))) ?_
        intro a165 hF166
        refine r_runk 1 [8, 0, 1, 5, 6] [(8, (Value.int .i64 ((k + 1 : Nat) : Int))), (0, (Value.slice A0 la.length c0)), (1, (bv kd)), (5, (Value.pointer (some ⟨b6, 0, none⟩))), (6, (Value.pointer (some ⟨b16, 0, none⟩)))] hF166 (by kernel_rfl) (by kernel_rfl) ?_
        intro a167 hF168
        refine r_end (by kernel_rfl) ?_
        have h169 : Bx s30 w43 b6 [(Value.int .i64 (p.channel)), (uv p.seq), (uv p.timeout), (sv p.denom), (uv p.amount), (sv p.src), (sv p.dst)] 56 := (h35.step' st44)
        have h170 : Bx s30 w43 b16 [(Value.bool false), (Value.int .i64 ((0 : Nat) : Int))] 53 := (h36.step' st44)
        have hF171 := hF168.keep [0, 1, 5, 6, 8] [(0, (Value.slice A0 la.length c0)), (1, (bv kd)), (5, (Value.pointer (some ⟨b6, 0, none⟩))), (6, (Value.pointer (some ⟨b16, 0, none⟩))), (8, (Value.int .i64 ((k + 1 : Nat) : Int)))] (by kernel_rfl)
        exact ⟨k + 1, ⟨s30, hF171, hS45, h169, h170, (by omega), (by subst hx60; exact before_succ (by omega) hb (isOf_no1 (of_decide_eq_false hg75)))⟩, by omega⟩
    · skip
      have hc42 := of_decide_eq_false hc42
      refine c_exit 0 (by kernel_rfl) ?_
      refine c_seq [1, 1, 0] [1, 1, 1] (by kernel_rfl) ?_
      refine c_reg 6 (by kernel_rfl) ?_
      refine r_runk 1 [36, 6] [(36, (Value.agg #[(Value.bool false), (Value.int .i64 ((0 : Nat) : Int))])), (6, (Value.pointer (some ⟨b16, 0, none⟩)))] hF41 (by kernel_rfl) (by kernel_rfl) ?_
      intro a172 hF173
      refine r_at (r_store (t := 53) (x := (Operand.tmp 6)) (y := (Operand.tmp 36)) hF173 (by kernel_rfl) (by kernel_rfl) h36 0 [(Value.bool false), (Value.int .i64 ((0 : Nat) : Int))] [(Value.bool false), (Value.int .i64 ((0 : Nat) : Int))] (by kernel_rfl) (by kernel_rfl) 2 true L53 rfl (by kernel_rfl) (Nat.le_of_ble_eq_true (by kernel_rfl)) (by kernel_rfl) ?_)
      intro a174 w175 st176 hB177 hF178
      have hS179 := hS32.and st176 (fun b e => by subst e; omega)
      refine r_runk 1 [7, 6] [(7, (Value.bool false)), (6, (Value.pointer (some ⟨b16, 0, none⟩)))] hF178 (by kernel_rfl) (by kernel_rfl) ?_
      intro a180 hF181
      refine r_end (by kernel_rfl) ?_
      refine c_ret (by kernel_rfl) ?_
      try dsimp only [Exit.then, Exit.inBlock]
      refine f_ret hF181 [.cell 6 53, .tmp 7] (by kernel_rfl) [.agg [(Value.bool false), (Value.int .i64 ((0 : Nat) : Int))].toArray, (Value.bool false)] (.cell (hF181.h 6 _ (by kernel_rfl)) (run_loadVar_cs (cs := [(Value.bool false), (Value.int .i64 ((0 : Nat) : Int))]) L53 (.inl rfl) (hB177.cells 0 2 [(Value.bool false), (Value.int .i64 ((0 : Nat) : Int))] (by kernel_rfl))) (.tmp (hF181.h 7 _ (by kernel_rfl)) .nil)) _ rfl s30 hS179 ?_
      have hk8 : k = la.length := by omega
      subst hk8
      rw [told_none la p kd hb]
      rfl
theorem over_calls (σ : Nat → Nat) (w : World) {v0 : Value} {la : List Event} (h0 : Rd tEvent σ w v0 la) (p : Packet) :
    Ctr Try.prog 36 [v0, (Value.agg #[(Value.int .i64 (p.channel)), (uv p.seq), (uv p.timeout), (sv p.denom), (uv p.amount), (sv p.src), (sv p.dst)])] noM σ w (fun σ' w' v => v = .bool (overL la p)) := by
  obtain ⟨A0, c0, rfl, hlA0⟩ := h0.form
  have hbdA0 : la.length ≤ 140737488355328 := by have h := h0.bd; have e : tEvent.by_ = 104 := rfl; rw [e] at h; omega
  refine ctr_enter Try.func36 c36 (by kernel_rfl) 25 (by kernel_rfl) (Nat.le_of_ble_eq_true (by kernel_rfl)) [(0, (Value.slice A0 la.length c0)), (1, (Value.agg #[(Value.int .i64 (p.channel)), (uv p.seq), (uv p.timeout), (sv p.denom), (uv p.amount), (sv p.src), (sv p.dst)]))] (by kernel_rfl) ?_
  intro a hF1
  have hS2 := Stp.refl noM σ w
  refine c_seq [0] [1] (by kernel_rfl) ?_
  refine c_reg 0 (by kernel_rfl) ?_
  refine r_at (r_new (d := 3) (op := (Op.box 56 (Operand.tmp 1))) hF1 (by kernel_rfl) (by kernel_rfl) σ [(Value.int .i64 (p.channel)), (uv p.seq), (uv p.timeout), (sv p.denom), (uv p.amount), (sv p.src), (sv p.dst)] 56 (exec_box [(Value.int .i64 (p.channel)), (uv p.seq), (uv p.timeout), (sv p.denom), (uv p.amount), (sv p.src), (sv p.dst)] (by kernel_rfl)) ?_)
  intro a3 s4 w5 b6 hb7 st8 hB9 hF10
  have hz11 := hS2.size
  have hS12 := hS2.then st8
  refine r_runk 1 [3, 0] [(3, (Value.pointer (some ⟨b6, 0, none⟩))), (0, (Value.slice A0 la.length c0))] hF10 (by kernel_rfl) (by kernel_rfl) ?_
  intro a13 hF14
  refine r_end (by kernel_rfl) ?_
  refine c_seq [1, 0] [1, 1] (by kernel_rfl) ?_
  refine c_reg 1 (by kernel_rfl) ?_
  refine r_runk 1 [10, 3, 0] [(10, (Value.slice A0 la.length c0)), (3, (Value.pointer (some ⟨b6, 0, none⟩))), (0, (Value.slice A0 la.length c0))] hF14 (by kernel_rfl) (by kernel_rfl) ?_
  intro a15 hF16
  refine r_at (r_val (d := 11) (op := (Op.load 56 (Operand.tmp 3))) hF16 (by kernel_rfl) (by kernel_rfl) (Value.agg #[(Value.int .i64 (p.channel)), (uv p.seq), (uv p.timeout), (sv p.denom), (uv p.amount), (sv p.src), (sv p.dst)]) w5 (exec_load L56 (.inl rfl) (by kernel_rfl) (Bx.cells hB9 0 7 [(Value.int .i64 (p.channel)), (uv p.seq), (uv p.timeout), (sv p.denom), (uv p.amount), (sv p.src), (sv p.dst)] (by kernel_rfl))) ?_)
  intro a17 hF18
  have h19 : Rd tEvent s4 w5 (Value.slice A0 la.length c0) la := h0.step hS12
  refine r_at (r_call (d := (some 12)) (f := 35) (args := #[(Operand.tmp 10), (Operand.const (Value.int IntKind.u8 3)), (Operand.tmp 11)]) (tys := #[41, 47, 56]) hF18 (by kernel_rfl) (by kernel_rfl) C35 [(Value.slice A0 la.length c0), (bv 3), (Value.agg #[(Value.int .i64 (p.channel)), (uv p.seq), (uv p.timeout), (sv p.denom), (uv p.amount), (sv p.src), (sv p.dst)])] (by kernel_rfl) (told_calls s4 w5 h19 3 p) ?_)
  intro a20 s21 w22 v23 st24 hP25 hF26
  have hz27 := hS12.size
  have hS28 := hS12.then st24
  subst hP25
  refine r_runk 3 [14, 13, 3, 0] [(14, (Value.bool ((sameL la p [3]).isSome))), (13, (Value.agg #[(Value.bool ((toldA (sameL la p [3])).ok)), (Value.int .i64 ((toldA (sameL la p [3])).code))])), (3, (Value.pointer (some ⟨b6, 0, none⟩))), (0, (Value.slice A0 la.length c0))] hF26 (by kernel_rfl) (by kernel_rfl) ?_
  intro a29 hF30
  have h31 : Bx s21 w22 b6 [(Value.int .i64 (p.channel)), (uv p.seq), (uv p.timeout), (sv p.denom), (uv p.amount), (sv p.src), (sv p.dst)] 56 := (hB9.step' st24)
  refine r_at (r_new (d := 5) (op := (Op.alloc 53)) hF30 (by kernel_rfl) (by kernel_rfl) s21 [(Value.bool false), (Value.int .i64 ((0 : Nat) : Int))] 53 (exec_alloc [(Value.bool false), (Value.int .i64 ((0 : Nat) : Int))] (fun _ => .inl (by kernel_rfl))) ?_)
  intro a32 s33 w34 b35 hb36 st37 hB38 hF39
  have hz40 := hS28.size
  have ne41 : b6 < b35 := by have := h31.lt; omega
  have hS42 := hS28.then st37
  refine r_at (r_store (t := 53) (x := (Operand.tmp 5)) (y := (Operand.tmp 13)) hF39 (by kernel_rfl) (by kernel_rfl) hB38 0 [(Value.bool ((toldA (sameL la p [3])).ok)), (Value.int .i64 ((toldA (sameL la p [3])).code))] [(Value.bool ((toldA (sameL la p [3])).ok)), (Value.int .i64 ((toldA (sameL la p [3])).code))] (by kernel_rfl) (by kernel_rfl) 2 true L53 rfl (by kernel_rfl) (Nat.le_of_ble_eq_true (by kernel_rfl)) (by kernel_rfl) ?_)
  intro a43 w44 st45 hB46 hF47
  have hS48 := hS42.and st45 (fun b e => by subst e; omega)
  refine r_runk 1 [6, 3, 0] [(6, (Value.bool ((sameL la p [3]).isSome))), (3, (Value.pointer (some ⟨b6, 0, none⟩))), (0, (Value.slice A0 la.length c0))] hF47 (by kernel_rfl) (by kernel_rfl) ?_
  intro a49 hF50
  refine r_end (by kernel_rfl) ?_
  refine c_seq [1, 1, 0] [1, 1, 1] (by kernel_rfl) ?_
  refine c_reg 2 (by kernel_rfl) ?_
  refine r_runk 1 [16, 6, 3] [(16, (Value.slice A0 la.length c0)), (6, (Value.bool ((sameL la p [3]).isSome))), (3, (Value.pointer (some ⟨b6, 0, none⟩)))] hF50 (by kernel_rfl) (by kernel_rfl) ?_
  intro a51 hF52
  have h53 : Bx s33 w44 b6 [(Value.int .i64 (p.channel)), (uv p.seq), (uv p.timeout), (sv p.denom), (uv p.amount), (sv p.src), (sv p.dst)] 56 := ((h31.step' st37).step st45 (fun e => absurd e (by omega)))
  refine r_at (r_val (d := 17) (op := (Op.load 56 (Operand.tmp 3))) hF52 (by kernel_rfl) (by kernel_rfl) (Value.agg #[(Value.int .i64 (p.channel)), (uv p.seq), (uv p.timeout), (sv p.denom), (uv p.amount), (sv p.src), (sv p.dst)]) w44 (exec_load L56 (.inl rfl) (by kernel_rfl) (Bx.cells h53 0 7 [(Value.int .i64 (p.channel)), (uv p.seq), (uv p.timeout), (sv p.denom), (uv p.amount), (sv p.src), (sv p.dst)] (by kernel_rfl))) ?_)
  intro a54 hF55
  have h56 : Rd tEvent s33 w44 (Value.slice A0 la.length c0) la := (((h19.step st24).step st37).step st45)
  refine r_at (r_call (d := (some 18)) (f := 35) (args := #[(Operand.tmp 16), (Operand.const (Value.int IntKind.u8 4)), (Operand.tmp 17)]) (tys := #[41, 47, 56]) hF55 (by kernel_rfl) (by kernel_rfl) C35 [(Value.slice A0 la.length c0), (bv 4), (Value.agg #[(Value.int .i64 (p.channel)), (uv p.seq), (uv p.timeout), (sv p.denom), (uv p.amount), (sv p.src), (sv p.dst)])] (by kernel_rfl) (told_calls s33 w44 h56 4 p) ?_)
  intro a57 s58 w59 v60 st61 hP62 hF63
  have hz64 := hS48.size
  have hS65 := hS48.then st61
  subst hP62
  refine r_runk 3 [20, 19, 6] [(20, (Value.bool ((sameL la p [4]).isSome))), (19, (Value.agg #[(Value.bool ((toldA (sameL la p [4])).ok)), (Value.int .i64 ((toldA (sameL la p [4])).code))])), (6, (Value.bool ((sameL la p [3]).isSome)))] hF63 (by kernel_rfl) (by kernel_rfl) ?_
  intro a66 hF67
  have h68 : Bx s58 w59 b6 [(Value.int .i64 (p.channel)), (uv p.seq), (uv p.timeout), (sv p.denom), (uv p.amount), (sv p.src), (sv p.dst)] 56 := (h53.step' st61)
  have h69 : Bx s58 w59 b35 [(Value.bool ((toldA (sameL la p [3])).ok)), (Value.int .i64 ((toldA (sameL la p [3])).code))] 53 := (hB46.step' st61)
  refine r_at (r_new (d := 7) (op := (Op.alloc 53)) hF67 (by kernel_rfl) (by kernel_rfl) s58 [(Value.bool false), (Value.int .i64 ((0 : Nat) : Int))] 53 (exec_alloc [(Value.bool false), (Value.int .i64 ((0 : Nat) : Int))] (fun _ => .inl (by kernel_rfl))) ?_)
  intro a70 s71 w72 b73 hb74 st75 hB76 hF77
  have hz78 := hS65.size
  have ne79 : b6 < b73 := by have := h68.lt; omega
  have ne80 : b35 < b73 := by have := h69.lt; omega
  have hS81 := hS65.then st75
  refine r_at (r_store (t := 53) (x := (Operand.tmp 7)) (y := (Operand.tmp 19)) hF77 (by kernel_rfl) (by kernel_rfl) hB76 0 [(Value.bool ((toldA (sameL la p [4])).ok)), (Value.int .i64 ((toldA (sameL la p [4])).code))] [(Value.bool ((toldA (sameL la p [4])).ok)), (Value.int .i64 ((toldA (sameL la p [4])).code))] (by kernel_rfl) (by kernel_rfl) 2 true L53 rfl (by kernel_rfl) (Nat.le_of_ble_eq_true (by kernel_rfl)) (by kernel_rfl) ?_)
  intro a82 w83 st84 hB85 hF86
  have hS87 := hS81.and st84 (fun b e => by subst e; omega)
  refine r_runk 1 [8, 6] [(8, (Value.bool ((sameL la p [4]).isSome))), (6, (Value.bool ((sameL la p [3]).isSome)))] hF86 (by kernel_rfl) (by kernel_rfl) ?_
  intro a88 hF89
  refine r_end (by kernel_rfl) ?_
  refine c_seq [1, 1, 1, 0] [1, 1, 1, 1] (by kernel_rfl) ?_
  refine c_reg 3 (by kernel_rfl) ?_
  refine r_runk 2 [22, 8] [(22, (Value.bool ((sameL la p [3]).isSome))), (8, (Value.bool ((sameL la p [4]).isSome)))] hF89 (by kernel_rfl) (by kernel_rfl) ?_
  intro a90 hF91
  rcases Bool.eq_false_or_eq_true ((sameL la p [3]).isSome) with hg92 | hg92
  · skip
    have hF93 := hF91.set 22 (Value.bool ((sameL la p [3]).isSome)) (Value.bool true) (by kernel_rfl) (congrArg Value.bool hg92)
    refine r_runk 3 [4] [(4, (Value.bool true))] hF93 (by kernel_rfl) (by kernel_rfl) ?_
    intro a94 hF95
    refine r_end (by kernel_rfl) ?_
    refine c_ret (by kernel_rfl) ?_
    try dsimp only [Exit.then, Exit.inBlock]
    refine f_ret1 hF95 4 (by kernel_rfl) (Value.bool true) (by kernel_rfl) s71 hS87 ?_
    refine congrArg Value.bool ?_
    exact over_yes hg92
  · skip
    have hF96 := hF91.set 22 (Value.bool ((sameL la p [3]).isSome)) (Value.bool false) (by kernel_rfl) (congrArg Value.bool hg92)
    refine r_runk 3 [4] [(4, (Value.bool ((sameL la p [4]).isSome)))] hF96 (by kernel_rfl) (by kernel_rfl) ?_
    intro a97 hF98
    refine r_end (by kernel_rfl) ?_
    refine c_ret (by kernel_rfl) ?_
    try dsimp only [Exit.then, Exit.inBlock]
    refine f_ret1 hF98 4 (by kernel_rfl) (Value.bool ((sameL la p [4]).isSome)) (by kernel_rfl) s71 hS87 ?_
    refine congrArg Value.bool ?_
    exact over_no hg92
end Go.Proofs.Ytaoamokfbhlaaaa.E
