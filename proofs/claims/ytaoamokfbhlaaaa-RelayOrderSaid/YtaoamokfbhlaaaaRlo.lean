/- Walks, printed by a program of this session. -/
import Derived.Test.YtaoamokfbhlaaaaK
import Derived.Test.Ytaoamokfbhlaaaapure21c
import Derived.Test.YtaoamokfbhlaaaaRk
set_option linter.unusedVariables false
set_option linter.unusedSimpArgs false
set_option maxRecDepth 100000
namespace Go.Proofs.Ytaoamokfbhlaaaa.E
open Go Go.RowKit
open Go.Proofs
theorem relayOrder_calls (σ : Nat → Nat) (w : World) {v0 v1 : Value} {la lb : List Small} (h0 : Rd tSmall σ w v0 la) (h1 : Rd tSmall σ w v1 lb) (n0 : UInt8) :
    Ctr Try.prog 8 [v0, v1, (bv n0)] noM σ w (fun σ' w' v => v = .bool true) := by
  obtain ⟨A0, c0, rfl, hlA0⟩ := h0.form
  have hbdA0 : la.length ≤ 140737488355328 := by have h := h0.bd; have e : tSmall.by_ = 5 := rfl; rw [e] at h; omega
  obtain ⟨A1, c1, rfl, hlA1⟩ := h1.form
  have hbdA1 : lb.length ≤ 140737488355328 := by have h := h1.bd; have e : tSmall.by_ = 5 := rfl; rw [e] at h; omega
  have hev := evs_len la
  refine ctr_enter Try.func8 c8 (by kernel_rfl) 100 (by kernel_rfl) (Nat.le_of_ble_eq_true (by kernel_rfl)) [(0, (Value.slice A0 la.length c0)), (1, (Value.slice A1 lb.length c1)), (2, (bv n0))] (by kernel_rfl) ?_
  intro a hF1
  have hS2 := Stp.refl noM σ w
  refine c_seq [0] [1] (by kernel_rfl) ?_
  refine c_reg 0 (by kernel_rfl) ?_
  refine r_runk 1 [0, 1, 2] [(0, (Value.slice A0 la.length c0)), (1, (Value.slice A1 lb.length c1)), (2, (bv n0))] hF1 (by kernel_rfl) (by kernel_rfl) ?_
  intro a3 hF4
  refine r_end (by kernel_rfl) ?_
  refine c_seq [1, 0] [1, 1] (by kernel_rfl) ?_
  refine c_seq [1, 0, 0] [1, 0, 1] (by kernel_rfl) ?_
  refine c_reg 1 (by kernel_rfl) ?_
  refine r_at (r_call (d := (some 20)) (f := 25) (args := #[]) (tys := #[]) hF4 (by kernel_rfl) (by kernel_rfl) C25 [] (by kernel_rfl) (awake_calls σ w ) ?_)
  intro a5 s6 w7 v8 st9 hP10 hF11
  have hz12 := hS2.size
  have hS13 := hS2.then st9
  subst hP10
  refine r_runk 1 [21, 0, 1, 2] [(21, (Value.bool false)), (0, (Value.slice A0 la.length c0)), (1, (Value.slice A1 lb.length c1)), (2, (bv n0))] hF11 (by kernel_rfl) (by kernel_rfl) ?_
  intro a14 hF15
  refine r_end (by kernel_rfl) ?_
  refine c_cond_false [1, 0, 1, 0] [1, 0, 1, 1] 21 (by kernel_rfl) hF15 (by kernel_rfl) ?_
  refine c_skip (by kernel_rfl) ?_
  refine c_seq [1, 1, 0] [1, 1, 1] (by kernel_rfl) ?_
  refine c_reg 3 (by kernel_rfl) ?_
  refine r_runk 1 [22, 1, 2] [(22, (Value.slice A0 la.length c0)), (1, (Value.slice A1 lb.length c1)), (2, (bv n0))] hF15 (by kernel_rfl) (by kernel_rfl) ?_
  intro a16 hF17
  have h18 : Rd tSmall s6 w7 (Value.slice A0 la.length c0) la := h0.step hS13
  refine r_at (r_call (d := (some 23)) (f := 26) (args := #[(Operand.tmp 22)]) (tys := #[40]) hF17 (by kernel_rfl) (by kernel_rfl) C26 [(Value.slice A0 la.length c0)] (by kernel_rfl) (events_calls s6 w7 h18) ?_)
  intro a19 s20 w21 v22 st23 hP24 hF25
  have hz26 := hS13.size
  have hS27 := hS13.then st23
  obtain ⟨A28, m31, c29, rfl, hl30⟩ := hP24.formL
  have hO32 : Own tEvent 60 w.heap.size s20 w21 (Value.slice A28 m31 c29) (evs la) := hP24.le (by omega)
  refine r_runk 1 [24, 23, 2] [(24, (Value.slice A1 lb.length c1)), (23, (Value.slice A28 m31 c29)), (2, (bv n0))] hF25 (by kernel_rfl) (by kernel_rfl) ?_
  intro a34 hF35
  have h36 : Rd tSmall s20 w21 (Value.slice A1 lb.length c1) lb := h1.step hS27
  refine r_at (r_call (d := (some 25)) (f := 26) (args := #[(Operand.tmp 24)]) (tys := #[40]) hF35 (by kernel_rfl) (by kernel_rfl) C26 [(Value.slice A1 lb.length c1)] (by kernel_rfl) (events_calls s20 w21 h36) ?_)
  intro a37 s38 w39 v40 st41 hP42 hF43
  have hz44 := hS27.size
  have hS45 := hS27.then st41
  obtain ⟨A46, m49, c47, rfl, hl48⟩ := hP42.formL
  have hO50 : Own tEvent 60 w.heap.size s38 w39 (Value.slice A46 m49 c47) (evs lb) := hP42.le (by omega)
  refine r_runk 2 [8, 7, 2] [(8, (Value.slice A46 m49 c47)), (7, (Value.slice A28 m31 c29)), (2, (bv n0))] hF43 (by kernel_rfl) (by kernel_rfl) ?_
  intro a52 hF53
  refine r_end (by kernel_rfl) ?_
  refine c_seq [1, 1, 1, 0] [1, 1, 1, 1] (by kernel_rfl) ?_
  refine c_reg 4 (by kernel_rfl) ?_
  refine r_runk 1 [26, 8, 7] [(26, (bv n0)), (8, (Value.slice A46 m49 c47)), (7, (Value.slice A28 m31 c29))] hF53 (by kernel_rfl) (by kernel_rfl) ?_
  intro a54 hF55
  refine r_one (d := 27) (v0 := (Value.int .u8 (Int.tmod ((n0).toNat : Int) ((2 : UInt8).toNat : Int)))) (v := (bv (n0 % 2))) hF55 (by kernel_rfl) (by kernel_rfl) (congrArg (Value.int .u8) (u8_rem n0 2 (by decide))) ?_
  intro a56 hF57
  refine r_one (d := 28) (v0 := (Value.int .i64 (IntKind.i64.wrap ((n0 % 2).toNat : Int)))) (v := (Value.int .i64 (((n0 % 2).toNat : Nat) : Int))) hF57 (by kernel_rfl) (by kernel_rfl) (congrArg (Value.int .i64) (u8_i64 (n0 % 2))) ?_
  intro a58 hF59
  refine r_runk 1 [9, 8, 7] [(9, (Value.int .i64 (((n0 % 2).toNat : Nat) : Int))), (8, (Value.slice A46 m49 c47)), (7, (Value.slice A28 m31 c29))] hF59 (by kernel_rfl) (by kernel_rfl) ?_
  intro a60 hF61
  refine r_end (by kernel_rfl) ?_
  refine c_seq [1, 1, 1, 1, 0] [1, 1, 1, 1, 1] (by kernel_rfl) ?_
  refine c_reg 5 (by kernel_rfl) ?_
  refine r_runk 1 [10, 9, 8, 7] [(10, (Value.slice none 0 0)), (9, (Value.int .i64 (((n0 % 2).toNat : Nat) : Int))), (8, (Value.slice A46 m49 c47)), (7, (Value.slice A28 m31 c29))] hF61 (by kernel_rfl) (by kernel_rfl) ?_
  intro a62 hF63
  refine r_end (by kernel_rfl) ?_
  refine c_seq [1, 1, 1, 1, 1, 0] [1, 1, 1, 1, 1, 1] (by kernel_rfl) ?_
  refine c_seq [1, 1, 1, 1, 1, 0, 0] [1, 1, 1, 1, 1, 0, 1] (by kernel_rfl) ?_
  refine c_reg 6 (by kernel_rfl) ?_
  refine r_runk 3 [31, 30, 29, 10, 9, 8, 7] [(31, (Value.int .i64 ((0 : Nat) : Int))), (30, (Value.int .i64 ((m31 : Nat) : Int))), (29, (Value.slice A28 m31 c29)), (10, (Value.slice none 0 0)), (9, (Value.int .i64 (((n0 % 2).toNat : Nat) : Int))), (8, (Value.slice A46 m49 c47)), (7, (Value.slice A28 m31 c29))] hF63 (by kernel_rfl) (by kernel_rfl) ?_
  intro a64 hF65
  refine r_end (by kernel_rfl) ?_
  refine c_block [1, 1, 1, 1, 1, 0, 1, 0] 0 (by kernel_rfl) ?_
  have h75 : Own tEvent 60 w.heap.size s38 w39 (Value.slice A28 m31 c29) (evs la) := (hO32.step' st41)
  refine c_loop [1, 1, 1, 1, 1, 0, 1, 0, 0] (by kernel_rfl) (fun (k : Nat) a66 w67 => ∃ (s68 : Nat → Nat) (A71 : Option Addr) (cp72 : Nat) (m73 : Nat), Fr a66 100 [(7, (Value.slice A28 m31 c29)), (8, (Value.slice A46 m49 c47)), (9, (Value.int .i64 (((n0 % 2).toNat : Nat) : Int))), (10, (Value.slice A71 m73 cp72)), (29, (Value.slice A28 m31 c29)), (30, (Value.int .i64 ((m31 : Nat) : Int))), (31, (Value.int .i64 ((k : Nat) : Int)))] ∧ Stp noM σ w s68 w67 ∧ Rd tEvent s68 w67 (Value.slice A28 m31 c29) (evs la) ∧ Rd tEvent s68 w67 (Value.slice A46 m49 c47) (evs lb) ∧ Own tPacket 56 w.heap.size s68 w67 (Value.slice A71 m73 cp72) (sentL ((evs la).take (k)) (((n0 % 2).toNat : Nat) : Int)) ∧ k ≤ (evs la).length) (fun k => (evs la).length - k) 0 ?_ ?_
  · skip
    have hF76 := hF65.keep [7, 8, 9, 10, 29, 30, 31] [(7, (Value.slice A28 m31 c29)), (8, (Value.slice A46 m49 c47)), (9, (Value.int .i64 (((n0 % 2).toNat : Nat) : Int))), (10, (Value.slice none 0 0)), (29, (Value.slice A28 m31 c29)), (30, (Value.int .i64 ((m31 : Nat) : Int))), (31, (Value.int .i64 ((0 : Nat) : Int)))] (by kernel_rfl)
    exact ⟨s38, none, 0, 0, hF76, hS45, h75.rd, hO50.rd, (Own.nil _ _ _ _ _), (by omega)⟩
  · rintro k a66 w67 ⟨s68, A71, cp72, m73, hF69, hS70, h77, h78, hO79, hk⟩
    have hln80 := hO79.ln
    refine c_seq [1, 1, 1, 1, 1, 0, 1, 0, 0, 0] [1, 1, 1, 1, 1, 0, 1, 0, 0, 1] (by kernel_rfl) ?_
    refine c_reg 7 (by kernel_rfl) ?_
    refine r_one (d := 32) (v0 := (Value.bool (decide (((k : Nat) : Int) < ((m31 : Nat) : Int))))) (v := (Value.bool (decide ((k : Nat) < m31)))) hF69 (by kernel_rfl) (by kernel_rfl) (congrArg Value.bool (cmp_nat_lss _ _)) ?_
    intro a81 hF82
    refine r_end (by kernel_rfl) ?_
    refine c_seq [1, 1, 1, 1, 1, 0, 1, 0, 0, 1, 0] [1, 1, 1, 1, 1, 0, 1, 0, 0, 1, 1] (by kernel_rfl) ?_
    refine c_cond [1, 1, 1, 1, 1, 0, 1, 0, 0, 1, 0, 0] [1, 1, 1, 1, 1, 0, 1, 0, 0, 1, 0, 1] 32 (by kernel_rfl) hF82 (decide ((k : Nat) < m31)) (by kernel_rfl) (fun hc83 => ?_) (fun hc83 => ?_)
    · skip
      have hc83 := of_decide_eq_true hc83
      refine c_skip (by kernel_rfl) ?_
      refine c_seq [1, 1, 1, 1, 1, 0, 1, 0, 0, 1, 1, 0] [1, 1, 1, 1, 1, 0, 1, 0, 0, 1, 1, 1] (by kernel_rfl) ?_
      refine c_block [1, 1, 1, 1, 1, 0, 1, 0, 0, 1, 1, 0, 0] 1 (by kernel_rfl) ?_
      refine c_seq [1, 1, 1, 1, 1, 0, 1, 0, 0, 1, 1, 0, 0, 0] [1, 1, 1, 1, 1, 0, 1, 0, 0, 1, 1, 0, 0, 1] (by kernel_rfl) ?_
      refine c_reg 8 (by kernel_rfl) ?_
      have hi90 : k < (evs la).length := (by have hq := h77.ln; first | omega | (simp only [List.length_append, List.length_cons, List.length_nil, List.length_map] at *; omega))
      obtain ⟨b84, o85, c86, he87, hs88, hr89⟩ := (h77).at k hi90
      obtain ⟨o91, ho91⟩ : ∃ o, o = o85 + k * 10 := ⟨_, rfl⟩
      obtain ⟨x92, hx93⟩ : ∃ x, x = ((evs la)[k]'hi90) := ⟨_, rfl⟩
      rw [← hx93] at hr89
      have hr89 : c86 = [(bv x92.kind), (Value.int .i64 (x92.packet.channel)), (uv x92.packet.seq), (uv x92.packet.timeout), (sv x92.packet.denom), (uv x92.packet.amount), (sv x92.packet.src), (sv x92.packet.dst), (Value.bool x92.ack.ok), (Value.int .i64 (x92.ack.code))] := hr89
      subst hr89
      have hs88 : Seg s68 w67 b84 o91 [(bv x92.kind), (Value.int .i64 (x92.packet.channel)), (uv x92.packet.seq), (uv x92.packet.timeout), (sv x92.packet.denom), (uv x92.packet.amount), (sv x92.packet.src), (sv x92.packet.dst), (Value.bool x92.ack.ok), (Value.int .i64 (x92.ack.code))] := by rw [ho91]; exact hs88
      refine r_at (r_val (d := 33) (op := (Op.indexAddr 41 (Operand.tmp 29) (Operand.tmp 31))) hF82 (by kernel_rfl) (by kernel_rfl) (Value.pointer (some ⟨b84, o91, none⟩)) w67 (by rw [ho91]; exact exec_index (len := m31) (cap := c29) he87 (by kernel_rfl) (kd := .i64) k (by kernel_rfl) (by have := h77.ln; omega) 10 U41 L60.s) ?_)
      intro a94 hF95
      refine r_at (r_val (d := 34) (op := (Op.load 60 (Operand.tmp 33))) hF95 (by kernel_rfl) (by kernel_rfl) (Value.agg #[(bv x92.kind), (Value.int .i64 (x92.packet.channel)), (uv x92.packet.seq), (uv x92.packet.timeout), (sv x92.packet.denom), (uv x92.packet.amount), (sv x92.packet.src), (sv x92.packet.dst), (Value.bool x92.ack.ok), (Value.int .i64 (x92.ack.code))]) w67 (exec_load L60 (.inl rfl) (by kernel_rfl) hs88.cell) ?_)
      intro a96 hF97
      refine r_at (r_new (d := 12) (op := (Op.alloc 60)) hF97 (by kernel_rfl) (by kernel_rfl) s68 [(bv 0), (Value.int .i64 ((0 : Nat) : Int)), (uv 0), (uv 0), (sv []), (uv 0), (sv []), (sv []), (Value.bool false), (Value.int .i64 ((0 : Nat) : Int))] 60 (exec_alloc [(bv 0), (Value.int .i64 ((0 : Nat) : Int)), (uv 0), (uv 0), (sv []), (uv 0), (sv []), (sv []), (Value.bool false), (Value.int .i64 ((0 : Nat) : Int))] (fun _ => .inl (by kernel_rfl))) ?_)
      intro a98 s99 w100 b101 hb102 st103 hB104 hF105
      have hz106 := hS70.size
      have ne107 : ¬ Value.ownBlock (Value.slice A71 m73 cp72) = some b101 := fun e => by have := hO79.lt e; omega
      have hS108 := hS70.then st103
      refine r_at (r_store (t := 60) (x := (Operand.tmp 12)) (y := (Operand.tmp 34)) hF105 (by kernel_rfl) (by kernel_rfl) hB104 0 [(bv x92.kind), (Value.int .i64 (x92.packet.channel)), (uv x92.packet.seq), (uv x92.packet.timeout), (sv x92.packet.denom), (uv x92.packet.amount), (sv x92.packet.src), (sv x92.packet.dst), (Value.bool x92.ack.ok), (Value.int .i64 (x92.ack.code))] [(bv x92.kind), (Value.int .i64 (x92.packet.channel)), (uv x92.packet.seq), (uv x92.packet.timeout), (sv x92.packet.denom), (uv x92.packet.amount), (sv x92.packet.src), (sv x92.packet.dst), (Value.bool x92.ack.ok), (Value.int .i64 (x92.ack.code))] (by kernel_rfl) (by kernel_rfl) 10 true L60 rfl (by kernel_rfl) (Nat.le_of_ble_eq_true (by kernel_rfl)) (by kernel_rfl) ?_)
      intro a109 w110 st111 hB112 hF113
      have hS114 := hS108.and st111 (fun b e => by subst e; omega)
      have hF115 := hF113.keep [12, 7, 8, 9, 10, 29, 30, 31] [(12, (Value.pointer (some ⟨b101, 0, none⟩))), (7, (Value.slice A28 m31 c29)), (8, (Value.slice A46 m49 c47)), (9, (Value.int .i64 (((n0 % 2).toNat : Nat) : Int))), (10, (Value.slice A71 m73 cp72)), (29, (Value.slice A28 m31 c29)), (30, (Value.int .i64 ((m31 : Nat) : Int))), (31, (Value.int .i64 ((k : Nat) : Int)))] (by kernel_rfl)
      refine r_end (by kernel_rfl) ?_
      refine c_seq [1, 1, 1, 1, 1, 0, 1, 0, 0, 1, 1, 0, 0, 1, 0] [1, 1, 1, 1, 1, 0, 1, 0, 0, 1, 1, 0, 0, 1, 1] (by kernel_rfl) ?_
      refine c_reg 9 (by kernel_rfl) ?_
      refine r_runk 1 [35, 12, 7, 8, 9, 10, 29, 30, 31] [(35, (Value.pointer (some ⟨b101, 0, none⟩))), (12, (Value.pointer (some ⟨b101, 0, none⟩))), (7, (Value.slice A28 m31 c29)), (8, (Value.slice A46 m49 c47)), (9, (Value.int .i64 (((n0 % 2).toNat : Nat) : Int))), (10, (Value.slice A71 m73 cp72)), (29, (Value.slice A28 m31 c29)), (30, (Value.int .i64 ((m31 : Nat) : Int))), (31, (Value.int .i64 ((k : Nat) : Int)))] hF115 (by kernel_rfl) (by kernel_rfl) ?_
      intro a116 hF117
      refine r_at (r_val (d := 36) (op := (Op.load 47 (Operand.tmp 35))) hF117 (by kernel_rfl) (by kernel_rfl) (bv x92.kind) w110 (exec_load L47 (.inr rfl) (by kernel_rfl) (Bx.cells hB112 0 1 [(bv x92.kind)] (by kernel_rfl))) ?_)
      intro a118 hF119
      refine r_one (d := 37) (v0 := (Value.bool (((x92.kind).toNat : Int) == ((1 : UInt8).toNat : Int)))) (v := (Value.bool (decide ((x92.kind : UInt8) = 1)))) hF119 (by kernel_rfl) (by kernel_rfl) (congrArg Value.bool (cmp_u8_eql _ _)) ?_
      intro a120 hF121
      refine r_runk 1 [38, 12, 7, 8, 9, 10, 29, 30, 31] [(38, (Value.bool (decide ((x92.kind : UInt8) = 1)))), (12, (Value.pointer (some ⟨b101, 0, none⟩))), (7, (Value.slice A28 m31 c29)), (8, (Value.slice A46 m49 c47)), (9, (Value.int .i64 (((n0 % 2).toNat : Nat) : Int))), (10, (Value.slice A71 m73 cp72)), (29, (Value.slice A28 m31 c29)), (30, (Value.int .i64 ((m31 : Nat) : Int))), (31, (Value.int .i64 ((k : Nat) : Int)))] hF121 (by kernel_rfl) (by kernel_rfl) ?_
      intro a122 hF123
      rcases Bool.eq_false_or_eq_true (decide ((x92.kind : UInt8) = 1)) with hg124 | hg124
      · skip
        have hF125 := hF123.set 38 (Value.bool (decide ((x92.kind : UInt8) = 1))) (Value.bool true) (by kernel_rfl) (congrArg Value.bool hg124)
        have hc126 := of_decide_eq_true hg124
        refine r_runk 2 [40, 38, 12, 7, 8, 9, 10, 29, 30, 31] [(40, (Value.pointer (some ⟨b101, 1, none⟩))), (38, (Value.bool true)), (12, (Value.pointer (some ⟨b101, 0, none⟩))), (7, (Value.slice A28 m31 c29)), (8, (Value.slice A46 m49 c47)), (9, (Value.int .i64 (((n0 % 2).toNat : Nat) : Int))), (10, (Value.slice A71 m73 cp72)), (29, (Value.slice A28 m31 c29)), (30, (Value.int .i64 ((m31 : Nat) : Int))), (31, (Value.int .i64 ((k : Nat) : Int)))] hF125 (by kernel_rfl) (by kernel_rfl) ?_
        intro a127 hF128
        refine r_at (r_val (d := 41) (op := (Op.load 3 (Operand.tmp 40))) hF128 (by kernel_rfl) (by kernel_rfl) (Value.int .i64 (x92.packet.channel)) w110 (exec_load L3 (.inr rfl) (by kernel_rfl) (Bx.cells hB112 1 1 [(Value.int .i64 (x92.packet.channel))] (by kernel_rfl))) ?_)
        intro a129 hF130
        refine r_runk 1 [42, 41, 38, 12, 7, 8, 9, 10, 29, 30, 31] [(42, (Value.int .i64 (((n0 % 2).toNat : Nat) : Int))), (41, (Value.int .i64 (x92.packet.channel))), (38, (Value.bool true)), (12, (Value.pointer (some ⟨b101, 0, none⟩))), (7, (Value.slice A28 m31 c29)), (8, (Value.slice A46 m49 c47)), (9, (Value.int .i64 (((n0 % 2).toNat : Nat) : Int))), (10, (Value.slice A71 m73 cp72)), (29, (Value.slice A28 m31 c29)), (30, (Value.int .i64 ((m31 : Nat) : Int))), (31, (Value.int .i64 ((k : Nat) : Int)))] hF130 (by kernel_rfl) (by kernel_rfl) ?_
        intro a131 hF132
        refine r_one (d := 43) (v0 := (Value.bool ((x92.packet.channel : Int) == (((n0 % 2).toNat : Nat) : Int)))) (v := (Value.bool (decide ((x92.packet.channel : Int) = (((n0 % 2).toNat : Nat) : Int))))) hF132 (by kernel_rfl) (by kernel_rfl) (congrArg Value.bool (cmp_int_eql _ _)) ?_
        intro a133 hF134
        refine r_runk 1 [44, 12, 7, 8, 9, 10, 29, 30, 31] [(44, (Value.bool (decide ((x92.packet.channel : Int) = (((n0 % 2).toNat : Nat) : Int))))), (12, (Value.pointer (some ⟨b101, 0, none⟩))), (7, (Value.slice A28 m31 c29)), (8, (Value.slice A46 m49 c47)), (9, (Value.int .i64 (((n0 % 2).toNat : Nat) : Int))), (10, (Value.slice A71 m73 cp72)), (29, (Value.slice A28 m31 c29)), (30, (Value.int .i64 ((m31 : Nat) : Int))), (31, (Value.int .i64 ((k : Nat) : Int)))] hF134 (by kernel_rfl) (by kernel_rfl) ?_
        intro a135 hF136
        refine r_end (by kernel_rfl) ?_
        refine c_cond [1, 1, 1, 1, 1, 0, 1, 0, 0, 1, 1, 0, 0, 1, 1, 0] [1, 1, 1, 1, 1, 0, 1, 0, 0, 1, 1, 0, 0, 1, 1, 1] 44 (by kernel_rfl) hF136 (decide ((x92.packet.channel : Int) = (((n0 % 2).toNat : Nat) : Int))) (by kernel_rfl) (fun hc137 => ?_) (fun hc137 => ?_)
        · skip
          have hc137 := of_decide_eq_true hc137
          refine c_reg 10 (by kernel_rfl) ?_
          refine r_runk 2 [46, 45, 7, 8, 9, 29, 30, 31] [(46, (Value.pointer (some ⟨b101, 1, none⟩))), (45, (Value.slice A71 m73 cp72)), (7, (Value.slice A28 m31 c29)), (8, (Value.slice A46 m49 c47)), (9, (Value.int .i64 (((n0 % 2).toNat : Nat) : Int))), (29, (Value.slice A28 m31 c29)), (30, (Value.int .i64 ((m31 : Nat) : Int))), (31, (Value.int .i64 ((k : Nat) : Int)))] hF136 (by kernel_rfl) (by kernel_rfl) ?_
          intro a138 hF139
          refine r_at (r_val (d := 47) (op := (Op.load 56 (Operand.tmp 46))) hF139 (by kernel_rfl) (by kernel_rfl) (Value.agg #[(Value.int .i64 (x92.packet.channel)), (uv x92.packet.seq), (uv x92.packet.timeout), (sv x92.packet.denom), (uv x92.packet.amount), (sv x92.packet.src), (sv x92.packet.dst)]) w110 (exec_load L56 (.inl rfl) (by kernel_rfl) (Bx.cells hB112 1 7 [(Value.int .i64 (x92.packet.channel)), (uv x92.packet.seq), (uv x92.packet.timeout), (sv x92.packet.denom), (uv x92.packet.amount), (sv x92.packet.src), (sv x92.packet.dst)] (by kernel_rfl))) ?_)
          intro a140 hF141
          have h142 : Own tPacket 56 w.heap.size s99 w110 (Value.slice A71 m73 cp72) (sentL ((evs la).take (k)) (((n0 % 2).toNat : Nat) : Int)) := ((hO79.step' st103).step st111 (fun g hg e => ne107 (by subst e; exact hg)))
          refine r_at (r_lit tPacket (d := 48) (t := 43) (m := 1) (parts := #[(0, (Operand.tmp 47))]) hF141 (by kernel_rfl) (by kernel_rfl) s99 [x92.packet] [(Value.int .i64 (x92.packet.channel)), (uv x92.packet.seq), (uv x92.packet.timeout), (sv x92.packet.denom), (uv x92.packet.amount), (sv x92.packet.src), (sv x92.packet.dst)] ⟨_, _, rfl, rfl, rfl⟩ rfl (by decide) (e := 56) (fun o e => by simp only [execOp, e]; kernel_rfl) (by decide) ?_)
          intro a143 s144 w145 g146 hg147 st148 hO149 hF150
          have hz151 := hS114.size
          have hS152 := hS114.then st148
          have hO153 : Own tPacket 56 w.heap.size s144 w145 (Value.slice (some ⟨g146, 0, none⟩) 1 1) [x92.packet] := (hO149.le (by omega : w.heap.size ≤ _))
          have ne155 : ∀ g, Value.ownBlock (Value.slice A71 m73 cp72) = some g → ¬ Value.ownBlock (Value.slice (some ⟨g146, 0, none⟩) 1 1) = some g := fun g hg e => by have h1 := hO149.ge e; have h2 := h142.lt hg; omega
          have ne156 : ¬ Value.ownBlock (Value.slice (some ⟨g146, 0, none⟩) 1 1) = some b101 := fun e => by have h1 := hO149.ge e; have h2 := hB112.lt; omega
          have h157 : Own tPacket 56 w.heap.size s144 w145 (Value.slice A71 m73 cp72) (sentL ((evs la).take (k)) (((n0 % 2).toNat : Nat) : Int)) := (h142.step' st148)
          have h158 : Bx s144 w145 b101 [(bv x92.kind), (Value.int .i64 (x92.packet.channel)), (uv x92.packet.seq), (uv x92.packet.timeout), (sv x92.packet.denom), (uv x92.packet.amount), (sv x92.packet.src), (sv x92.packet.dst), (Value.bool x92.ack.ok), (Value.int .i64 (x92.ack.code))] 60 := (hB112.step' st148)
          have hz168 := hS152.size
          have hb167 : (sentL ((evs la).take (k)) (((n0 % 2).toNat : Nat) : Int)).length + ([x92.packet] : List _).length ≤ 1000000 := (by have h9 := sentL_len61 la (((n0 % 2).toNat : Nat) : Int) k; simp only [List.length_cons, List.length_nil] at *; omega)
          refine r_at (r_append tPacket S43 (d := 49) (x := (Operand.tmp 45)) (y := (Operand.tmp 48)) hF150 (by kernel_rfl) (by kernel_rfl) (by kernel_rfl) (by kernel_rfl) h157 hO153.rd (app_small hb167 (by decide)) (by omega) hz168 ?_)
          intro a159 s160 w161 v162 st163 hO164 hn165 hF166
          obtain ⟨A171, m174, c172, rfl, hl173⟩ := hO164.formL
          have hS175 := hS152.and st163 (fun b e => h157.ge e)
          have ne177 : ¬ Value.ownBlock (Value.slice A171 m174 c172) = some b101 := fun e => ne107 (hn165 _ h158.lt e)
          refine r_runk 1 [10, 7, 8, 9, 29, 30, 31] [(10, (Value.slice A171 m174 c172)), (7, (Value.slice A28 m31 c29)), (8, (Value.slice A46 m49 c47)), (9, (Value.int .i64 (((n0 % 2).toNat : Nat) : Int))), (29, (Value.slice A28 m31 c29)), (30, (Value.int .i64 ((m31 : Nat) : Int))), (31, (Value.int .i64 ((k : Nat) : Int)))] hF166 (by kernel_rfl) (by kernel_rfl) ?_
          intro a178 hF179
          refine r_end (by kernel_rfl) ?_
          refine c_reg 11 (by kernel_rfl) ?_
          refine r_one (d := 50) (v0 := (Value.int .i64 (IntKind.i64.wrap (((k : Nat) : Int) + ((1 : Nat) : Int))))) (v := (Value.int .i64 ((k + 1 : Nat) : Int))) hF179 (by kernel_rfl) (by kernel_rfl) (congrArg (Value.int .i64) (i64_eq (by omega) (by omega) (by omega))) ?_
          intro a180 hF181
          refine r_runk 1 [31, 10, 7, 8, 9, 29, 30] [(31, (Value.int .i64 ((k + 1 : Nat) : Int))), (10, (Value.slice A171 m174 c172)), (7, (Value.slice A28 m31 c29)), (8, (Value.slice A46 m49 c47)), (9, (Value.int .i64 (((n0 % 2).toNat : Nat) : Int))), (29, (Value.slice A28 m31 c29)), (30, (Value.int .i64 ((m31 : Nat) : Int)))] hF181 (by kernel_rfl) (by kernel_rfl) ?_
          intro a182 hF183
          refine r_end (by kernel_rfl) ?_
          have h184 : Rd tEvent s160 w161 (Value.slice A28 m31 c29) (evs la) := ((((h77.step st103).step st111).step st148).step st163)
          have h185 : Rd tEvent s160 w161 (Value.slice A46 m49 c47) (evs lb) := ((((h78.step st103).step st111).step st148).step st163)
          have hF186 := hF183.keep [7, 8, 9, 10, 29, 30, 31] [(7, (Value.slice A28 m31 c29)), (8, (Value.slice A46 m49 c47)), (9, (Value.int .i64 (((n0 % 2).toNat : Nat) : Int))), (10, (Value.slice A171 m174 c172)), (29, (Value.slice A28 m31 c29)), (30, (Value.int .i64 ((m31 : Nat) : Int))), (31, (Value.int .i64 ((k + 1 : Nat) : Int)))] (by kernel_rfl)
          exact ⟨k + 1, ⟨s160, A171, c172, m174, hF186, hS175, h184, h185, (hO164.cast (by first | rfl | omega | (simp only [List.length_append, List.length_cons, List.length_nil, List.length_map] at *; omega)) (by subst hx93; exact (sentL_take (by omega) (of_decide_eq_true hg124) hc137))), (by omega)⟩, by omega⟩
        · skip
          have hc137 := of_decide_eq_false hc137
          refine c_skip (by kernel_rfl) ?_
          refine c_reg 11 (by kernel_rfl) ?_
          refine r_one (d := 50) (v0 := (Value.int .i64 (IntKind.i64.wrap (((k : Nat) : Int) + ((1 : Nat) : Int))))) (v := (Value.int .i64 ((k + 1 : Nat) : Int))) hF136 (by kernel_rfl) (by kernel_rfl) (congrArg (Value.int .i64) (i64_eq (by omega) (by omega) (by omega))) ?_
          intro a187 hF188
          refine r_runk 1 [31, 7, 8, 9, 10, 29, 30] [(31, (Value.int .i64 ((k + 1 : Nat) : Int))), (7, (Value.slice A28 m31 c29)), (8, (Value.slice A46 m49 c47)), (9, (Value.int .i64 (((n0 % 2).toNat : Nat) : Int))), (10, (Value.slice A71 m73 cp72)), (29, (Value.slice A28 m31 c29)), (30, (Value.int .i64 ((m31 : Nat) : Int)))] hF188 (by kernel_rfl) (by kernel_rfl) ?_
          intro a189 hF190
          refine r_end (by kernel_rfl) ?_
          have h191 : Rd tEvent s99 w110 (Value.slice A28 m31 c29) (evs la) := ((h77.step st103).step st111)
          have h192 : Rd tEvent s99 w110 (Value.slice A46 m49 c47) (evs lb) := ((h78.step st103).step st111)
          have h193 : Own tPacket 56 w.heap.size s99 w110 (Value.slice A71 m73 cp72) (sentL ((evs la).take (k)) (((n0 % 2).toNat : Nat) : Int)) := ((hO79.step' st103).step st111 (fun g hg e => ne107 (by subst e; exact hg)))
          have hF194 := hF190.keep [7, 8, 9, 10, 29, 30, 31] [(7, (Value.slice A28 m31 c29)), (8, (Value.slice A46 m49 c47)), (9, (Value.int .i64 (((n0 % 2).toNat : Nat) : Int))), (10, (Value.slice A71 m73 cp72)), (29, (Value.slice A28 m31 c29)), (30, (Value.int .i64 ((m31 : Nat) : Int))), (31, (Value.int .i64 ((k + 1 : Nat) : Int)))] (by kernel_rfl)
          exact ⟨k + 1, ⟨s99, A71, cp72, m73, hF194, hS114, h191, h192, (h193.cast (by first | rfl | omega | (simp only [List.length_append, List.length_cons, List.length_nil, List.length_map] at *; omega)) (by subst hx93; exact (sentL_skip (by omega) (by rw [decide_eq_false hc137, Bool.and_false])))), (by omega)⟩, by omega⟩
      · skip
        have hF195 := hF123.set 38 (Value.bool (decide ((x92.kind : UInt8) = 1))) (Value.bool false) (by kernel_rfl) (congrArg Value.bool hg124)
        have hc196 := of_decide_eq_false hg124
        refine r_runk 6 [44, 12, 7, 8, 9, 10, 29, 30, 31] [(44, (Value.bool false)), (12, (Value.pointer (some ⟨b101, 0, none⟩))), (7, (Value.slice A28 m31 c29)), (8, (Value.slice A46 m49 c47)), (9, (Value.int .i64 (((n0 % 2).toNat : Nat) : Int))), (10, (Value.slice A71 m73 cp72)), (29, (Value.slice A28 m31 c29)), (30, (Value.int .i64 ((m31 : Nat) : Int))), (31, (Value.int .i64 ((k : Nat) : Int)))] hF195 (by kernel_rfl) (by kernel_rfl) ?_
        intro a197 hF198
        refine r_end (by kernel_rfl) ?_
        refine c_cond_false [1, 1, 1, 1, 1, 0, 1, 0, 0, 1, 1, 0, 0, 1, 1, 0] [1, 1, 1, 1, 1, 0, 1, 0, 0, 1, 1, 0, 0, 1, 1, 1] 44 (by kernel_rfl) hF198 (by kernel_rfl) ?_
        refine c_skip (by kernel_rfl) ?_
        refine c_reg 11 (by kernel_rfl) ?_
        refine r_one (d := 50) (v0 := (Value.int .i64 (IntKind.i64.wrap (((k : Nat) : Int) + ((1 : Nat) : Int))))) (v := (Value.int .i64 ((k + 1 : Nat) : Int))) hF198 (by kernel_rfl) (by kernel_rfl) (congrArg (Value.int .i64) (i64_eq (by omega) (by omega) (by omega))) ?_
        intro a199 hF200
        refine r_runk 1 [31, 7, 8, 9, 10, 29, 30] [(31, (Value.int .i64 ((k + 1 : Nat) : Int))), (7, (Value.slice A28 m31 c29)), (8, (Value.slice A46 m49 c47)), (9, (Value.int .i64 (((n0 % 2).toNat : Nat) : Int))), (10, (Value.slice A71 m73 cp72)), (29, (Value.slice A28 m31 c29)), (30, (Value.int .i64 ((m31 : Nat) : Int)))] hF200 (by kernel_rfl) (by kernel_rfl) ?_
        intro a201 hF202
        refine r_end (by kernel_rfl) ?_
        have h203 : Rd tEvent s99 w110 (Value.slice A28 m31 c29) (evs la) := ((h77.step st103).step st111)
        have h204 : Rd tEvent s99 w110 (Value.slice A46 m49 c47) (evs lb) := ((h78.step st103).step st111)
        have h205 : Own tPacket 56 w.heap.size s99 w110 (Value.slice A71 m73 cp72) (sentL ((evs la).take (k)) (((n0 % 2).toNat : Nat) : Int)) := ((hO79.step' st103).step st111 (fun g hg e => ne107 (by subst e; exact hg)))
        have hF206 := hF202.keep [7, 8, 9, 10, 29, 30, 31] [(7, (Value.slice A28 m31 c29)), (8, (Value.slice A46 m49 c47)), (9, (Value.int .i64 (((n0 % 2).toNat : Nat) : Int))), (10, (Value.slice A71 m73 cp72)), (29, (Value.slice A28 m31 c29)), (30, (Value.int .i64 ((m31 : Nat) : Int))), (31, (Value.int .i64 ((k + 1 : Nat) : Int)))] (by kernel_rfl)
        exact ⟨k + 1, ⟨s99, A71, cp72, m73, hF206, hS114, h203, h204, (h205.cast (by first | rfl | omega | (simp only [List.length_append, List.length_cons, List.length_nil, List.length_map] at *; omega)) (by subst hx93; exact (sentL_skip (by omega) (by simpa using fun h => absurd h (of_decide_eq_false hg124))))), (by omega)⟩, by omega⟩
    · skip
      have hc83 := of_decide_eq_false hc83
      refine c_exit 0 (by kernel_rfl) ?_
      refine c_seq [1, 1, 1, 1, 1, 1, 0] [1, 1, 1, 1, 1, 1, 1] (by kernel_rfl) ?_
      refine c_reg 12 (by kernel_rfl) ?_
      refine r_runk 3 [54, 53, 52, 7, 8, 9, 10] [(54, (Value.int .i64 (((n0 % 2).toNat : Nat) : Int))), (53, (Value.slice A46 m49 c47)), (52, (Value.slice A28 m31 c29)), (7, (Value.slice A28 m31 c29)), (8, (Value.slice A46 m49 c47)), (9, (Value.int .i64 (((n0 % 2).toNat : Nat) : Int))), (10, (Value.slice A71 m73 cp72))] hF82 (by kernel_rfl) (by kernel_rfl) ?_
      intro a207 hF208
      refine r_at (r_call (d := (some 55)) (f := 28) (args := #[(Operand.tmp 52), (Operand.tmp 53), (Operand.tmp 54)]) (tys := #[41, 41, 3]) hF208 (by kernel_rfl) (by kernel_rfl) C28 [(Value.slice A28 m31 c29), (Value.slice A46 m49 c47), (Value.int .i64 (((n0 % 2).toNat : Nat) : Int))] (by kernel_rfl) (toAnswer_calls s68 w67 h77 h78 (evs_lenk _) (((n0 % 2).toNat : Nat) : Int)) ?_)
      intro a209 s210 w211 v212 st213 hP214 hF215
      have hz216 := hS70.size
      have hS217 := hS70.then st213
      obtain ⟨v218, v219, rfl, hP220, hP221⟩ := hP214
      have hP222 := hP220.rd
      obtain ⟨A223, m226, c224, rfl, hl225⟩ := hP222.formL
      have hbd227 : (toAnswer (evs la) (evs lb) (((n0 % 2).toNat : Nat) : Int)).length ≤ 140737488355328 := Nat.le_trans (Nat.le_mul_of_pos_right _ (by decide)) hP222.bd
      have hP228 := hP221.rd
      obtain ⟨A229, m232, c230, rfl, hl231⟩ := hP228.formL
      have hbd233 : ((toAnswer (evs la) (evs lb) (((n0 % 2).toNat : Nat) : Int)).map (ackOf (evs lb))).length ≤ 140737488355328 := Nat.le_trans (Nat.le_mul_of_pos_right _ (by decide)) hP228.bd
      refine r_runk 5 [13, 7, 8, 9, 10] [(13, (Value.slice A223 m226 c224)), (7, (Value.slice A28 m31 c29)), (8, (Value.slice A46 m49 c47)), (9, (Value.int .i64 (((n0 % 2).toNat : Nat) : Int))), (10, (Value.slice A71 m73 cp72))] hF215 (by kernel_rfl) (by kernel_rfl) ?_
      intro a234 hF235
      refine r_end (by kernel_rfl) ?_
      refine c_seq [1, 1, 1, 1, 1, 1, 1, 0] [1, 1, 1, 1, 1, 1, 1, 1] (by kernel_rfl) ?_
      refine c_seq [1, 1, 1, 1, 1, 1, 1, 0, 0] [1, 1, 1, 1, 1, 1, 1, 0, 1] (by kernel_rfl) ?_
      refine c_reg 13 (by kernel_rfl) ?_
      refine r_runk 3 [60, 59, 58, 13, 7, 9, 10] [(60, (Value.int .i64 (((n0 % 2).toNat : Nat) : Int))), (59, (Value.slice A46 m49 c47)), (58, (Value.slice A28 m31 c29)), (13, (Value.slice A223 m226 c224)), (7, (Value.slice A28 m31 c29)), (9, (Value.int .i64 (((n0 % 2).toNat : Nat) : Int))), (10, (Value.slice A71 m73 cp72))] hF235 (by kernel_rfl) (by kernel_rfl) ?_
      intro a236 hF237
      have h238 : Rd tEvent s210 w211 (Value.slice A28 m31 c29) (evs la) := (h77.step st213)
      have h239 : Rd tEvent s210 w211 (Value.slice A46 m49 c47) (evs lb) := (h78.step st213)
      have h240 : Own tPacket 56 w.heap.size s210 w211 (Value.slice A71 m73 cp72) (sentL ((evs la).take (k)) (((n0 % 2).toNat : Nat) : Int)) := (hO79.step' st213)
      refine r_at (r_call (d := (some 61)) (f := 30) (args := #[(Operand.tmp 58), (Operand.tmp 59), (Operand.tmp 60)]) (tys := #[41, 41, 3]) hF237 (by kernel_rfl) (by kernel_rfl) C30 [(Value.slice A28 m31 c29), (Value.slice A46 m49 c47), (Value.int .i64 (((n0 % 2).toNat : Nat) : Int))] (by kernel_rfl) (toReceive_calls s210 w211 h238 h239 (evs_lenk _) (((n0 % 2).toNat : Nat) : Int)) ?_)
      intro a241 s242 w243 v244 st245 hP246 hF247
      have hz248 := hS217.size
      have hS249 := hS217.then st245
      have hP250 := hP246.rd
      obtain ⟨A251, m254, c252, rfl, hl253⟩ := hP250.formL
      have hbd255 : (toReceive (evs la) (evs lb) (((n0 % 2).toNat : Nat) : Int)).length ≤ 140737488355328 := Nat.le_trans (Nat.le_mul_of_pos_right _ (by decide)) hP250.bd
      refine r_runk 3 [64, 63, 62, 61, 10] [(64, (Value.int .i64 (((n0 % 2).toNat : Nat) : Int))), (63, (Value.slice A28 m31 c29)), (62, (Value.slice A223 m226 c224)), (61, (Value.slice A251 m254 c252)), (10, (Value.slice A71 m73 cp72))] hF247 (by kernel_rfl) (by kernel_rfl) ?_
      intro a256 hF257
      have h258 : Rd tEvent s242 w243 (Value.slice A28 m31 c29) (evs la) := (h238.step st245)
      have h259 : Own tPacket 56 w.heap.size s242 w243 (Value.slice A71 m73 cp72) (sentL ((evs la).take (k)) (((n0 % 2).toNat : Nat) : Int)) := (h240.step' st245)
      refine r_at (r_call (d := (some 65)) (f := 31) (args := #[(Operand.tmp 63), (Operand.tmp 64)]) (tys := #[41, 3]) hF257 (by kernel_rfl) (by kernel_rfl) C31 [(Value.slice A28 m31 c29), (Value.int .i64 (((n0 % 2).toNat : Nat) : Int))] (by kernel_rfl) (toTimeout_calls s242 w243 h258 (evs_lenk _) (((n0 % 2).toNat : Nat) : Int)) ?_)
      intro a260 s261 w262 v263 st264 hP265 hF266
      have hz267 := hS249.size
      have hS268 := hS249.then st264
      have hP269 := hP265.rd
      obtain ⟨A270, m273, c271, rfl, hl272⟩ := hP269.formL
      have hbd274 : (toTimeout (evs la) (((n0 % 2).toNat : Nat) : Int)).length ≤ 140737488355328 := Nat.le_trans (Nat.le_mul_of_pos_right _ (by decide)) hP269.bd
      have h275 : Rd tPacket s261 w262 (Value.slice A251 m254 c252) (toReceive (evs la) (evs lb) (((n0 % 2).toNat : Nat) : Int)) := (hP250.step st264)
      have h276 : Rd tPacket s261 w262 (Value.slice A223 m226 c224) (toAnswer (evs la) (evs lb) (((n0 % 2).toNat : Nat) : Int)) := ((hP222.step st245).step st264)
      have h277 : Own tPacket 56 w.heap.size s261 w262 (Value.slice A71 m73 cp72) (sentL ((evs la).take (k)) (((n0 % 2).toNat : Nat) : Int)) := (h259.step' st264)
      refine r_at (r_lit (tSl tPacket) (d := 66) (t := 61) (m := 3) (parts := #[(0, (Operand.tmp 61)), (1, (Operand.tmp 62)), (2, (Operand.tmp 65))]) hF266 (by kernel_rfl) (by kernel_rfl) s261 [toReceive (evs la) (evs lb) (((n0 % 2).toNat : Nat) : Int), toAnswer (evs la) (evs lb) (((n0 % 2).toNat : Nat) : Int), toTimeout (evs la) (((n0 % 2).toNat : Nat) : Int)] [(Value.slice A251 m254 c252), (Value.slice A223 m226 c224), (Value.slice A270 m273 c271)] ⟨_, _, rfl, ⟨_, rfl, h275⟩, ⟨_, _, rfl, ⟨_, rfl, h276⟩, ⟨_, _, rfl, ⟨_, rfl, hP269⟩, rfl⟩⟩⟩ rfl (by decide) (e := 43) (fun o e => by simp only [execOp, e]; kernel_rfl) (by decide) ?_)
      intro a278 s279 w280 g281 hg282 st283 hO284 hF285
      have hz286 := hS268.size
      have hS287 := hS268.then st283
      have hO288 : Own (tSl tPacket) 43 w.heap.size s279 w280 (Value.slice (some ⟨g281, 0, none⟩) 3 3) [toReceive (evs la) (evs lb) (((n0 % 2).toNat : Nat) : Int), toAnswer (evs la) (evs lb) (((n0 % 2).toNat : Nat) : Int), toTimeout (evs la) (((n0 % 2).toNat : Nat) : Int)] := (hO284.le (by omega : w.heap.size ≤ _))
      have ne290 : ∀ g, Value.ownBlock (Value.slice A71 m73 cp72) = some g → ¬ Value.ownBlock (Value.slice (some ⟨g281, 0, none⟩) 3 3) = some g := fun g hg e => by have h1 := hO284.ge e; have h2 := h277.lt hg; omega
      refine r_runk 2 [68, 67, 66, 10] [(68, (Value.int .i64 ((0 : Nat) : Int))), (67, (Value.int .i64 ((3 : Nat) : Int))), (66, (Value.slice (some ⟨g281, 0, none⟩) 3 3)), (10, (Value.slice A71 m73 cp72))] hF285 (by kernel_rfl) (by kernel_rfl) ?_
      intro a291 hF292
      refine r_end (by kernel_rfl) ?_
      refine c_block [1, 1, 1, 1, 1, 1, 1, 0, 1, 0] 2 (by kernel_rfl) ?_
      have h298 : Own tPacket 56 w.heap.size s279 w280 (Value.slice A71 m73 cp72) (sentL ((evs la).take (k)) (((n0 % 2).toNat : Nat) : Int)) := (h277.step' st283)
      refine c_loop [1, 1, 1, 1, 1, 1, 1, 0, 1, 0, 0] (by kernel_rfl) (fun (j : Nat) a293 w294 => ∃ (s295 : Nat → Nat), Fr a293 100 [(10, (Value.slice A71 m73 cp72)), (66, (Value.slice (some ⟨g281, 0, none⟩) 3 3)), (67, (Value.int .i64 ((3 : Nat) : Int))), (68, (Value.int .i64 ((j : Nat) : Int)))] ∧ Stp noM σ w s295 w294 ∧ Rd tPacket s295 w294 (Value.slice A71 m73 cp72) (sentL ((evs la).take (k)) (((n0 % 2).toNat : Nat) : Int)) ∧ Rd (tSl tPacket) s295 w294 (Value.slice (some ⟨g281, 0, none⟩) 3 3) [toReceive (evs la) (evs lb) (((n0 % 2).toNat : Nat) : Int), toAnswer (evs la) (evs lb) (((n0 % 2).toNat : Nat) : Int), toTimeout (evs la) (((n0 % 2).toNat : Nat) : Int)] ∧ j ≤ 3) (fun j => 3 - j) 0 ?_ ?_
      · skip
        have hF299 := hF292.keep [10, 66, 67, 68] [(10, (Value.slice A71 m73 cp72)), (66, (Value.slice (some ⟨g281, 0, none⟩) 3 3)), (67, (Value.int .i64 ((3 : Nat) : Int))), (68, (Value.int .i64 ((0 : Nat) : Int)))] (by kernel_rfl)
        exact ⟨s279, hF299, hS287, h298.rd, hO288.rd, (by omega)⟩
      · rintro j a293 w294 ⟨s295, hF296, hS297, h300, h301, hj3⟩
        refine c_seq [1, 1, 1, 1, 1, 1, 1, 0, 1, 0, 0, 0] [1, 1, 1, 1, 1, 1, 1, 0, 1, 0, 0, 1] (by kernel_rfl) ?_
        refine c_reg 14 (by kernel_rfl) ?_
        refine r_one (d := 69) (v0 := (Value.bool (decide (((j : Nat) : Int) < ((3 : Nat) : Int))))) (v := (Value.bool (decide ((j : Nat) < 3)))) hF296 (by kernel_rfl) (by kernel_rfl) (congrArg Value.bool (cmp_nat_lss _ _)) ?_
        intro a302 hF303
        refine r_end (by kernel_rfl) ?_
        refine c_seq [1, 1, 1, 1, 1, 1, 1, 0, 1, 0, 0, 1, 0] [1, 1, 1, 1, 1, 1, 1, 0, 1, 0, 0, 1, 1] (by kernel_rfl) ?_
        refine c_cond [1, 1, 1, 1, 1, 1, 1, 0, 1, 0, 0, 1, 0, 0] [1, 1, 1, 1, 1, 1, 1, 0, 1, 0, 0, 1, 0, 1] 69 (by kernel_rfl) hF303 (decide ((j : Nat) < 3)) (by kernel_rfl) (fun hc304 => ?_) (fun hc304 => ?_)
        · skip
          have hc304 := of_decide_eq_true hc304
          refine c_skip (by kernel_rfl) ?_
          refine c_seq [1, 1, 1, 1, 1, 1, 1, 0, 1, 0, 0, 1, 1, 0] [1, 1, 1, 1, 1, 1, 1, 0, 1, 0, 0, 1, 1, 1] (by kernel_rfl) ?_
          refine c_block [1, 1, 1, 1, 1, 1, 1, 0, 1, 0, 0, 1, 1, 0, 0] 3 (by kernel_rfl) ?_
          refine c_seq [1, 1, 1, 1, 1, 1, 1, 0, 1, 0, 0, 1, 1, 0, 0, 0] [1, 1, 1, 1, 1, 1, 1, 0, 1, 0, 0, 1, 1, 0, 0, 1] (by kernel_rfl) ?_
          refine c_reg 15 (by kernel_rfl) ?_
          have hi311 : j < ([toReceive (evs la) (evs lb) (((n0 % 2).toNat : Nat) : Int), toAnswer (evs la) (evs lb) (((n0 % 2).toNat : Nat) : Int), toTimeout (evs la) (((n0 % 2).toNat : Nat) : Int)]).length := (by have hq := h301.ln; first | omega | (simp only [List.length_append, List.length_cons, List.length_nil, List.length_map] at *; omega))
          obtain ⟨b305, o306, c307, he308, hs309, hr310⟩ := (h301).at j hi311
          obtain ⟨o312, ho312⟩ : ∃ o, o = o306 + j * 1 := ⟨_, rfl⟩
          obtain ⟨v313, rfl, hr314⟩ := hr310
          obtain ⟨A315, m318, c316, rfl, hl317⟩ := hr314.formL
          have hbd319 : (([toReceive (evs la) (evs lb) (((n0 % 2).toNat : Nat) : Int), toAnswer (evs la) (evs lb) (((n0 % 2).toNat : Nat) : Int), toTimeout (evs la) (((n0 % 2).toNat : Nat) : Int)][j]'hi311)).length ≤ 140737488355328 := Nat.le_trans (Nat.le_mul_of_pos_right _ (by decide)) hr314.bd
          have hs309 : Seg s295 w294 b305 o312 [(Value.slice A315 m318 c316)] := by rw [ho312]; exact hs309
          refine r_at (r_val (d := 70) (op := (Op.indexAddr 61 (Operand.tmp 66) (Operand.tmp 68))) hF303 (by kernel_rfl) (by kernel_rfl) (Value.pointer (some ⟨b305, o312, none⟩)) w294 (by rw [ho312]; exact exec_index (len := 3) (cap := 3) he308 (by kernel_rfl) (kd := .i64) j (by kernel_rfl) (by have := h301.ln; omega) 1 U61 L43.s) ?_)
          intro a320 hF321
          refine r_at (r_val (d := 71) (op := (Op.load 43 (Operand.tmp 70))) hF321 (by kernel_rfl) (by kernel_rfl) (Value.slice A315 m318 c316) w294 (exec_load L43 (.inr rfl) (by kernel_rfl) hs309.cell) ?_)
          intro a322 hF323
          refine r_runk 1 [16, 10, 66, 67, 68] [(16, (Value.slice A315 m318 c316)), (10, (Value.slice A71 m73 cp72)), (66, (Value.slice (some ⟨g281, 0, none⟩) 3 3)), (67, (Value.int .i64 ((3 : Nat) : Int))), (68, (Value.int .i64 ((j : Nat) : Int)))] hF323 (by kernel_rfl) (by kernel_rfl) ?_
          intro a324 hF325
          refine r_end (by kernel_rfl) ?_
          refine c_seq [1, 1, 1, 1, 1, 1, 1, 0, 1, 0, 0, 1, 1, 0, 0, 1, 0] [1, 1, 1, 1, 1, 1, 1, 0, 1, 0, 0, 1, 1, 0, 0, 1, 1] (by kernel_rfl) ?_
          refine c_reg 16 (by kernel_rfl) ?_
          refine r_runk 1 [17, 16, 10, 66, 67, 68] [(17, (Value.int .i64 ((0 : Nat) : Int))), (16, (Value.slice A315 m318 c316)), (10, (Value.slice A71 m73 cp72)), (66, (Value.slice (some ⟨g281, 0, none⟩) 3 3)), (67, (Value.int .i64 ((3 : Nat) : Int))), (68, (Value.int .i64 ((j : Nat) : Int)))] hF325 (by kernel_rfl) (by kernel_rfl) ?_
          intro a326 hF327
          refine r_end (by kernel_rfl) ?_
          refine c_seq [1, 1, 1, 1, 1, 1, 1, 0, 1, 0, 0, 1, 1, 0, 0, 1, 1, 0] [1, 1, 1, 1, 1, 1, 1, 0, 1, 0, 0, 1, 1, 0, 0, 1, 1, 1] (by kernel_rfl) ?_
          refine c_reg 17 (by kernel_rfl) ?_
          refine r_runk 3 [74, 73, 72, 17, 10, 66, 67, 68] [(74, (Value.int .i64 ((0 : Nat) : Int))), (73, (Value.int .i64 ((m318 : Nat) : Int))), (72, (Value.slice A315 m318 c316)), (17, (Value.int .i64 ((0 : Nat) : Int))), (10, (Value.slice A71 m73 cp72)), (66, (Value.slice (some ⟨g281, 0, none⟩) 3 3)), (67, (Value.int .i64 ((3 : Nat) : Int))), (68, (Value.int .i64 ((j : Nat) : Int)))] hF327 (by kernel_rfl) (by kernel_rfl) ?_
          intro a328 hF329
          refine r_end (by kernel_rfl) ?_
          refine c_block [1, 1, 1, 1, 1, 1, 1, 0, 1, 0, 0, 1, 1, 0, 0, 1, 1, 1, 0] 4 (by kernel_rfl) ?_
          have hall := sentL_len61 la (((n0 % 2).toNat : Nat) : Int) k
          refine c_loop [1, 1, 1, 1, 1, 1, 1, 0, 1, 0, 0, 1, 1, 0, 0, 1, 1, 1, 0, 0] (by kernel_rfl) (fun (q : Nat) a330 w331 => ∃ (s332 : Nat → Nat) (i2 : Nat), Fr a330 100 [(10, (Value.slice A71 m73 cp72)), (17, (Value.int .i64 ((i2 : Nat) : Int))), (66, (Value.slice (some ⟨g281, 0, none⟩) 3 3)), (67, (Value.int .i64 ((3 : Nat) : Int))), (68, (Value.int .i64 ((j : Nat) : Int))), (72, (Value.slice A315 m318 c316)), (73, (Value.int .i64 ((m318 : Nat) : Int))), (74, (Value.int .i64 ((q : Nat) : Int)))] ∧ Stp noM σ w s332 w331 ∧ Rd tPacket s332 w331 (Value.slice A71 m73 cp72) (sentL ((evs la).take (k)) (((n0 % 2).toNat : Nat) : Int)) ∧ Rd (tSl tPacket) s332 w331 (Value.slice (some ⟨g281, 0, none⟩) 3 3) [toReceive (evs la) (evs lb) (((n0 % 2).toNat : Nat) : Int), toAnswer (evs la) (evs lb) (((n0 % 2).toNat : Nat) : Int), toTimeout (evs la) (((n0 % 2).toNat : Nat) : Int)] ∧ Rd tPacket s332 w331 (Value.slice A315 m318 c316) ([toReceive (evs la) (evs lb) (((n0 % 2).toNat : Nat) : Int), toAnswer (evs la) (evs lb) (((n0 % 2).toNat : Nat) : Int), toTimeout (evs la) (((n0 % 2).toNat : Nat) : Int)][j]'hi311) ∧ q ≤ ([toReceive (evs la) (evs lb) (((n0 % 2).toNat : Nat) : Int), toAnswer (evs la) (evs lb) (((n0 % 2).toNat : Nat) : Int), toTimeout (evs la) (((n0 % 2).toNat : Nat) : Int)][j]'hi311).length ∧ List.Sublist (([toReceive (evs la) (evs lb) (((n0 % 2).toNat : Nat) : Int), toAnswer (evs la) (evs lb) (((n0 % 2).toNat : Nat) : Int), toTimeout (evs la) (((n0 % 2).toNat : Nat) : Int)][j]'hi311).drop (q)) ((sentL ((evs la).take (k)) (((n0 % 2).toNat : Nat) : Int)).drop (i2))) (fun q => ([toReceive (evs la) (evs lb) (((n0 % 2).toNat : Nat) : Int), toAnswer (evs la) (evs lb) (((n0 % 2).toNat : Nat) : Int), toTimeout (evs la) (((n0 % 2).toNat : Nat) : Int)][j]'hi311).length - q) 0 ?_ ?_
          · skip
            have hF335 := hF329.keep [10, 17, 66, 67, 68, 72, 73, 74] [(10, (Value.slice A71 m73 cp72)), (17, (Value.int .i64 ((0 : Nat) : Int))), (66, (Value.slice (some ⟨g281, 0, none⟩) 3 3)), (67, (Value.int .i64 ((3 : Nat) : Int))), (68, (Value.int .i64 ((j : Nat) : Int))), (72, (Value.slice A315 m318 c316)), (73, (Value.int .i64 ((m318 : Nat) : Int))), (74, (Value.int .i64 ((0 : Nat) : Int)))] (by kernel_rfl)
            exact ⟨s295, 0, hF335, hS297, h300, h301, hr314, (by omega), (order_at (by omega) _)⟩
          · rintro q a330 w331 ⟨s332, i2, hF333, hS334, h336, h337, h338, hq, hsub⟩
            refine c_seq [1, 1, 1, 1, 1, 1, 1, 0, 1, 0, 0, 1, 1, 0, 0, 1, 1, 1, 0, 0, 0] [1, 1, 1, 1, 1, 1, 1, 0, 1, 0, 0, 1, 1, 0, 0, 1, 1, 1, 0, 0, 1] (by kernel_rfl) ?_
            refine c_reg 18 (by kernel_rfl) ?_
            refine r_one (d := 75) (v0 := (Value.bool (decide (((q : Nat) : Int) < ((m318 : Nat) : Int))))) (v := (Value.bool (decide ((q : Nat) < m318)))) hF333 (by kernel_rfl) (by kernel_rfl) (congrArg Value.bool (cmp_nat_lss _ _)) ?_
            intro a339 hF340
            refine r_end (by kernel_rfl) ?_
            refine c_seq [1, 1, 1, 1, 1, 1, 1, 0, 1, 0, 0, 1, 1, 0, 0, 1, 1, 1, 0, 0, 1, 0] [1, 1, 1, 1, 1, 1, 1, 0, 1, 0, 0, 1, 1, 0, 0, 1, 1, 1, 0, 0, 1, 1] (by kernel_rfl) ?_
            refine c_cond [1, 1, 1, 1, 1, 1, 1, 0, 1, 0, 0, 1, 1, 0, 0, 1, 1, 1, 0, 0, 1, 0, 0] [1, 1, 1, 1, 1, 1, 1, 0, 1, 0, 0, 1, 1, 0, 0, 1, 1, 1, 0, 0, 1, 0, 1] 75 (by kernel_rfl) hF340 (decide ((q : Nat) < m318)) (by kernel_rfl) (fun hc341 => ?_) (fun hc341 => ?_)
            · skip
              have hc341 := of_decide_eq_true hc341
              refine c_skip (by kernel_rfl) ?_
              refine c_seq [1, 1, 1, 1, 1, 1, 1, 0, 1, 0, 0, 1, 1, 0, 0, 1, 1, 1, 0, 0, 1, 1, 0] [1, 1, 1, 1, 1, 1, 1, 0, 1, 0, 0, 1, 1, 0, 0, 1, 1, 1, 0, 0, 1, 1, 1] (by kernel_rfl) ?_
              refine c_block [1, 1, 1, 1, 1, 1, 1, 0, 1, 0, 0, 1, 1, 0, 0, 1, 1, 1, 0, 0, 1, 1, 0, 0] 5 (by kernel_rfl) ?_
              refine c_seq [1, 1, 1, 1, 1, 1, 1, 0, 1, 0, 0, 1, 1, 0, 0, 1, 1, 1, 0, 0, 1, 1, 0, 0, 0] [1, 1, 1, 1, 1, 1, 1, 0, 1, 0, 0, 1, 1, 0, 0, 1, 1, 1, 0, 0, 1, 1, 0, 0, 1] (by kernel_rfl) ?_
              refine c_reg 19 (by kernel_rfl) ?_
              have hi348 : q < (([toReceive (evs la) (evs lb) (((n0 % 2).toNat : Nat) : Int), toAnswer (evs la) (evs lb) (((n0 % 2).toNat : Nat) : Int), toTimeout (evs la) (((n0 % 2).toNat : Nat) : Int)][j]'hi311)).length := (by have hq := h338.ln; first | omega | (simp only [List.length_append, List.length_cons, List.length_nil, List.length_map] at *; omega))
              obtain ⟨b342, o343, c344, he345, hs346, hr347⟩ := (h338).at q hi348
              obtain ⟨o349, ho349⟩ : ∃ o, o = o343 + q * 7 := ⟨_, rfl⟩
              obtain ⟨x350, hx351⟩ : ∃ x, x = (([toReceive (evs la) (evs lb) (((n0 % 2).toNat : Nat) : Int), toAnswer (evs la) (evs lb) (((n0 % 2).toNat : Nat) : Int), toTimeout (evs la) (((n0 % 2).toNat : Nat) : Int)][j]'hi311)[q]'hi348) := ⟨_, rfl⟩
              rw [← hx351] at hr347
              have hr347 : c344 = [(Value.int .i64 (x350.channel)), (uv x350.seq), (uv x350.timeout), (sv x350.denom), (uv x350.amount), (sv x350.src), (sv x350.dst)] := hr347
              subst hr347
              have hs346 : Seg s332 w331 b342 o349 [(Value.int .i64 (x350.channel)), (uv x350.seq), (uv x350.timeout), (sv x350.denom), (uv x350.amount), (sv x350.src), (sv x350.dst)] := by rw [ho349]; exact hs346
              refine r_at (r_val (d := 76) (op := (Op.indexAddr 43 (Operand.tmp 72) (Operand.tmp 74))) hF340 (by kernel_rfl) (by kernel_rfl) (Value.pointer (some ⟨b342, o349, none⟩)) w331 (by rw [ho349]; exact exec_index (len := m318) (cap := c316) he345 (by kernel_rfl) (kd := .i64) q (by kernel_rfl) (by have := h338.ln; omega) 7 U43 L56.s) ?_)
              intro a352 hF353
              refine r_at (r_val (d := 77) (op := (Op.load 56 (Operand.tmp 76))) hF353 (by kernel_rfl) (by kernel_rfl) (Value.agg #[(Value.int .i64 (x350.channel)), (uv x350.seq), (uv x350.timeout), (sv x350.denom), (uv x350.amount), (sv x350.src), (sv x350.dst)]) w331 (exec_load L56 (.inl rfl) (by kernel_rfl) hs346.cell) ?_)
              intro a354 hF355
              refine r_at (r_new (d := 19) (op := (Op.alloc 56)) hF355 (by kernel_rfl) (by kernel_rfl) s332 [(Value.int .i64 ((0 : Nat) : Int)), (uv 0), (uv 0), (sv []), (uv 0), (sv []), (sv [])] 56 (exec_alloc [(Value.int .i64 ((0 : Nat) : Int)), (uv 0), (uv 0), (sv []), (uv 0), (sv []), (sv [])] (fun _ => .inl (by kernel_rfl))) ?_)
              intro a356 s357 w358 b359 hb360 st361 hB362 hF363
              have hz364 := hS334.size
              have hS365 := hS334.then st361
              refine r_at (r_store (t := 56) (x := (Operand.tmp 19)) (y := (Operand.tmp 77)) hF363 (by kernel_rfl) (by kernel_rfl) hB362 0 [(Value.int .i64 (x350.channel)), (uv x350.seq), (uv x350.timeout), (sv x350.denom), (uv x350.amount), (sv x350.src), (sv x350.dst)] [(Value.int .i64 (x350.channel)), (uv x350.seq), (uv x350.timeout), (sv x350.denom), (uv x350.amount), (sv x350.src), (sv x350.dst)] (by kernel_rfl) (by kernel_rfl) 7 true L56 rfl (by kernel_rfl) (Nat.le_of_ble_eq_true (by kernel_rfl)) (by kernel_rfl) ?_)
              intro a366 w367 st368 hB369 hF370
              have hS371 := hS365.and st368 (fun b e => by subst e; omega)
              have hF372 := hF370.keep [19, 10, 17, 66, 67, 68, 72, 73, 74] [(19, (Value.pointer (some ⟨b359, 0, none⟩))), (10, (Value.slice A71 m73 cp72)), (17, (Value.int .i64 ((i2 : Nat) : Int))), (66, (Value.slice (some ⟨g281, 0, none⟩) 3 3)), (67, (Value.int .i64 ((3 : Nat) : Int))), (68, (Value.int .i64 ((j : Nat) : Int))), (72, (Value.slice A315 m318 c316)), (73, (Value.int .i64 ((m318 : Nat) : Int))), (74, (Value.int .i64 ((q : Nat) : Int)))] (by kernel_rfl)
              refine r_end (by kernel_rfl) ?_
              refine c_seq [1, 1, 1, 1, 1, 1, 1, 0, 1, 0, 0, 1, 1, 0, 0, 1, 1, 1, 0, 0, 1, 1, 0, 0, 1, 0] [1, 1, 1, 1, 1, 1, 1, 0, 1, 0, 0, 1, 1, 0, 0, 1, 1, 1, 0, 0, 1, 1, 0, 0, 1, 1] (by kernel_rfl) ?_
              refine c_block [1, 1, 1, 1, 1, 1, 1, 0, 1, 0, 0, 1, 1, 0, 0, 1, 1, 1, 0, 0, 1, 1, 0, 0, 1, 0, 0] 6 (by kernel_rfl) ?_
              have h378 : Rd tPacket s357 w367 (Value.slice A71 m73 cp72) (sentL ((evs la).take (k)) (((n0 % 2).toNat : Nat) : Int)) := ((h336.step st361).step st368)
              have h379 : Rd (tSl tPacket) s357 w367 (Value.slice (some ⟨g281, 0, none⟩) 3 3) [toReceive (evs la) (evs lb) (((n0 % 2).toNat : Nat) : Int), toAnswer (evs la) (evs lb) (((n0 % 2).toNat : Nat) : Int), toTimeout (evs la) (((n0 % 2).toNat : Nat) : Int)] := ((h337.step st361).step st368)
              have h380 : Rd tPacket s357 w367 (Value.slice A315 m318 c316) ([toReceive (evs la) (evs lb) (((n0 % 2).toNat : Nat) : Int), toAnswer (evs la) (evs lb) (((n0 % 2).toNat : Nat) : Int), toTimeout (evs la) (((n0 % 2).toNat : Nat) : Int)][j]'hi311) := ((h338.step st361).step st368)
              refine c_loop [1, 1, 1, 1, 1, 1, 1, 0, 1, 0, 0, 1, 1, 0, 0, 1, 1, 1, 0, 0, 1, 1, 0, 0, 1, 0, 0, 0] (by kernel_rfl) (fun (i3 : Nat) a373 w374 => ∃ (s375 : Nat → Nat), Fr a373 100 [(10, (Value.slice A71 m73 cp72)), (17, (Value.int .i64 ((i3 : Nat) : Int))), (19, (Value.pointer (some ⟨b359, 0, none⟩))), (66, (Value.slice (some ⟨g281, 0, none⟩) 3 3)), (67, (Value.int .i64 ((3 : Nat) : Int))), (68, (Value.int .i64 ((j : Nat) : Int))), (72, (Value.slice A315 m318 c316)), (73, (Value.int .i64 ((m318 : Nat) : Int))), (74, (Value.int .i64 ((q : Nat) : Int)))] ∧ Stp noM σ w s375 w374 ∧ Rd tPacket s375 w374 (Value.slice A71 m73 cp72) (sentL ((evs la).take (k)) (((n0 % 2).toNat : Nat) : Int)) ∧ Rd (tSl tPacket) s375 w374 (Value.slice (some ⟨g281, 0, none⟩) 3 3) [toReceive (evs la) (evs lb) (((n0 % 2).toNat : Nat) : Int), toAnswer (evs la) (evs lb) (((n0 % 2).toNat : Nat) : Int), toTimeout (evs la) (((n0 % 2).toNat : Nat) : Int)] ∧ Rd tPacket s375 w374 (Value.slice A315 m318 c316) ([toReceive (evs la) (evs lb) (((n0 % 2).toNat : Nat) : Int), toAnswer (evs la) (evs lb) (((n0 % 2).toNat : Nat) : Int), toTimeout (evs la) (((n0 % 2).toNat : Nat) : Int)][j]'hi311) ∧ Bx s375 w374 b359 [(Value.int .i64 (x350.channel)), (uv x350.seq), (uv x350.timeout), (sv x350.denom), (uv x350.amount), (sv x350.src), (sv x350.dst)] 56 ∧ List.Sublist (([toReceive (evs la) (evs lb) (((n0 % 2).toNat : Nat) : Int), toAnswer (evs la) (evs lb) (((n0 % 2).toNat : Nat) : Int), toTimeout (evs la) (((n0 % 2).toNat : Nat) : Int)][j]'hi311).drop q) ((sentL ((evs la).take (k)) (((n0 % 2).toNat : Nat) : Int)).drop (i3))) (fun i3 => (sentL ((evs la).take (k)) (((n0 % 2).toNat : Nat) : Int)).length - i3) i2 ?_ ?_
              · skip
                have hF381 := hF372.keep [10, 17, 19, 66, 67, 68, 72, 73, 74] [(10, (Value.slice A71 m73 cp72)), (17, (Value.int .i64 ((i2 : Nat) : Int))), (19, (Value.pointer (some ⟨b359, 0, none⟩))), (66, (Value.slice (some ⟨g281, 0, none⟩) 3 3)), (67, (Value.int .i64 ((3 : Nat) : Int))), (68, (Value.int .i64 ((j : Nat) : Int))), (72, (Value.slice A315 m318 c316)), (73, (Value.int .i64 ((m318 : Nat) : Int))), (74, (Value.int .i64 ((q : Nat) : Int)))] (by kernel_rfl)
                exact ⟨s357, hF381, hS371, h378, h379, h380, hB369, hsub⟩
              · rintro i3 a373 w374 ⟨s375, hF376, hS377, h382, h383, h384, h385, hsub3⟩
                have hlt3 := sub_lt (by omega) hsub3
                refine c_seq [1, 1, 1, 1, 1, 1, 1, 0, 1, 0, 0, 1, 1, 0, 0, 1, 1, 1, 0, 0, 1, 1, 0, 0, 1, 0, 0, 0, 0] [1, 1, 1, 1, 1, 1, 1, 0, 1, 0, 0, 1, 1, 0, 0, 1, 1, 1, 0, 0, 1, 1, 0, 0, 1, 0, 0, 0, 1] (by kernel_rfl) ?_
                refine c_seq [1, 1, 1, 1, 1, 1, 1, 0, 1, 0, 0, 1, 1, 0, 0, 1, 1, 1, 0, 0, 1, 1, 0, 0, 1, 0, 0, 0, 0, 0] [1, 1, 1, 1, 1, 1, 1, 0, 1, 0, 0, 1, 1, 0, 0, 1, 1, 1, 0, 0, 1, 1, 0, 0, 1, 0, 0, 0, 0, 1] (by kernel_rfl) ?_
                refine c_plan 20 (by kernel_rfl) (by kernel_rfl) s375 (fun b => b ≠ b359 ∧ True) [(0, true), (1, true), (2, true), (3, true), (4, true), (5, true), (6, true), (7, true), (8, true), (9, true), (10, true), (11, true)] [(0, 302231454903657293676544, 131072), (0, 604462909807314587353088, 1024), (2, 1208925819614629174706176, 604462909807314587353088), (5, 2417851639229258349412352, 1511157274518286468382720), (8, 4835703278458516698824704, 2417851639229258349412352), (16, 9671406556917033397649408, 4835703278458516698825728), (16, 19342813113834066795298816, 4835703278458516698955776), (112, 38685626227668133590597632, 33849922949209616891772928), (144, 77371252455336267181195264, 43521329506126650289422336), (16, 154742504910672534362390528, 4835703278458516699348992), (784, 309485009821345068724781056, 236949460644467318242410496), (1040, 618970019642690137449562112, 314320713099803585423605760)] (by kernel_rfl) (by kernel_rfl) (by kernel_rfl) (by kernel_rfl) ?_
                intro w386 st387
                have hS388 := hS377.then st387
                refine p_run (d := 78) (v := (Value.int .i64 ((i3 : Nat) : Int))) hF376 (by kernel_rfl) (fun _ => by kernel_rfl) (fun _ _ _ h => h) ?_
                intro a389 hF390
                refine p_run (d := 79) (v := (Value.slice A71 m73 cp72)) hF390 (by kernel_rfl) (fun _ => by kernel_rfl) (fun _ _ _ h => h) ?_
                intro a391 hF392
                refine p_run (d := 80) (v := (Value.int .i64 ((m73 : Nat) : Int))) hF392 (by kernel_rfl) (fun _ => by kernel_rfl) (fun _ _ _ h => h) ?_
                intro a393 hF394
                refine p_run (d := 81) (v := (Value.bool (decide (((i3 : Nat) : Int) < ((m73 : Nat) : Int))))) hF394 (by kernel_rfl) (fun _ => by kernel_rfl) (fun _ _ _ h => h) ?_
                intro a395 hF396
                have hF397 := hF396.set 81 (Value.bool (decide (((i3 : Nat) : Int) < ((m73 : Nat) : Int)))) (Value.bool true) (by kernel_rfl) (Eq.trans (congrArg Value.bool (cmp_nat_lss _ _)) (congrArg Value.bool ((decide_eq_true (by have := sub_lt (by omega) hsub3; omega)) : (decide ((i3 : Nat) < m73)) = true)))
                refine p_run (d := 82) (v := (Value.bool true)) hF397 (by kernel_rfl) (fun _ => by kernel_rfl) (fun _ _ _ h => h) ?_
                intro a398 hF399
                have hF400 := hF399.keep [82, 10, 17, 19, 66, 67, 68, 72, 73, 74] [(82, (Value.bool true)), (10, (Value.slice A71 m73 cp72)), (17, (Value.int .i64 ((i3 : Nat) : Int))), (19, (Value.pointer (some ⟨b359, 0, none⟩))), (66, (Value.slice (some ⟨g281, 0, none⟩) 3 3)), (67, (Value.int .i64 ((3 : Nat) : Int))), (68, (Value.int .i64 ((j : Nat) : Int))), (72, (Value.slice A315 m318 c316)), (73, (Value.int .i64 ((m318 : Nat) : Int))), (74, (Value.int .i64 ((q : Nat) : Int)))] (by kernel_rfl)
                refine p_run (d := 83) (v := (Value.slice A71 m73 cp72)) hF400 (by kernel_rfl) (fun _ => by kernel_rfl) (fun _ _ _ h => h) ?_
                intro a401 hF402
                refine p_run (d := 84) (v := (Value.int .i64 ((i3 : Nat) : Int))) hF402 (by kernel_rfl) (fun _ => by kernel_rfl) (fun _ _ _ h => h) ?_
                intro a403 hF404
                have h405 : Rd tPacket s375 w386 (Value.slice A71 m73 cp72) (sentL ((evs la).take (k)) (((n0 % 2).toNat : Nat) : Int)) := (h382.step st387)
                have hi412 : i3 < (sentL ((evs la).take (k)) (((n0 % 2).toNat : Nat) : Int)).length := (by have hq := h405.ln; first | omega | (simp only [List.length_append, List.length_cons, List.length_nil, List.length_map] at *; omega))
                obtain ⟨b406, o407, c408, he409, hs410, hr411⟩ := (h405).at i3 hi412
                obtain ⟨o413, ho413⟩ : ∃ o, o = o407 + i3 * 7 := ⟨_, rfl⟩
                obtain ⟨x414, hx415⟩ : ∃ x, x = ((sentL ((evs la).take (k)) (((n0 % 2).toNat : Nat) : Int))[i3]'hi412) := ⟨_, rfl⟩
                rw [← hx415] at hr411
                have hr411 : c408 = [(Value.int .i64 (x414.channel)), (uv x414.seq), (uv x414.timeout), (sv x414.denom), (uv x414.amount), (sv x414.src), (sv x414.dst)] := hr411
                subst hr411
                have hs410 : Seg s375 w386 b406 o413 [(Value.int .i64 (x414.channel)), (uv x414.seq), (uv x414.timeout), (sv x414.denom), (uv x414.amount), (sv x414.src), (sv x414.dst)] := by rw [ho413]; exact hs410
                refine p_val (d := 85) (op := (Op.indexAddr 43 (Operand.tmp 83) (Operand.tmp 84))) (v := (Value.pointer (some ⟨b406, o413, none⟩))) hF404 (by kernel_rfl) (by kernel_rfl) (fun w9 ⟨s9, hw9⟩ => (by rw [ho413]; exact exec_index (len := m73) (cap := cp72) he409 (by kernel_rfl) (kd := .i64) i3 (by kernel_rfl) (by have := h405.ln; omega) 7 U43 L56.s)) (fun _ _ _ h => h) ?_
                intro a416 hF417
                refine p_val (d := 86) (op := (Op.load 56 (Operand.tmp 85))) (v := (Value.agg #[(Value.int .i64 (x414.channel)), (uv x414.seq), (uv x414.timeout), (sv x414.denom), (uv x414.amount), (sv x414.src), (sv x414.dst)])) hF417 (by kernel_rfl) (by kernel_rfl) (fun w9 ⟨s9, hw9⟩ => (exec_load L56 (.inl rfl) (by kernel_rfl) (hs410.step hw9).cell)) (fun _ _ _ h => h) ?_
                intro a418 hF419
                have hF420 := hF419.keep [86, 82, 10, 17, 19, 66, 67, 68, 72, 73, 74] [(86, (Value.agg #[(Value.int .i64 (x414.channel)), (uv x414.seq), (uv x414.timeout), (sv x414.denom), (uv x414.amount), (sv x414.src), (sv x414.dst)])), (82, (Value.bool true)), (10, (Value.slice A71 m73 cp72)), (17, (Value.int .i64 ((i3 : Nat) : Int))), (19, (Value.pointer (some ⟨b359, 0, none⟩))), (66, (Value.slice (some ⟨g281, 0, none⟩) 3 3)), (67, (Value.int .i64 ((3 : Nat) : Int))), (68, (Value.int .i64 ((j : Nat) : Int))), (72, (Value.slice A315 m318 c316)), (73, (Value.int .i64 ((m318 : Nat) : Int))), (74, (Value.int .i64 ((q : Nat) : Int)))] (by kernel_rfl)
                have h421 : Bx s375 w386 b359 [(Value.int .i64 (x350.channel)), (uv x350.seq), (uv x350.timeout), (sv x350.denom), (uv x350.amount), (sv x350.src), (sv x350.dst)] 56 := (h385.step' st387)
                refine p_val (d := 87) (op := (Op.load 56 (Operand.tmp 19))) (v := (Value.agg #[(Value.int .i64 (x350.channel)), (uv x350.seq), (uv x350.timeout), (sv x350.denom), (uv x350.amount), (sv x350.src), (sv x350.dst)])) hF420 (by kernel_rfl) (by kernel_rfl) (fun w9 ⟨s9, hw9⟩ => (exec_load L56 (.inl rfl) (by kernel_rfl) (Bx.cells (h421.step hw9 (fun h => h.1 rfl)) 0 7 [(Value.int .i64 (x350.channel)), (uv x350.seq), (uv x350.timeout), (sv x350.denom), (uv x350.amount), (sv x350.src), (sv x350.dst)] (by kernel_rfl)))) (fun _ _ _ h => h) ?_
                intro a422 hF423
                refine p_val (d := 88) (op := (Op.binOp BinOp.neq 56 (Operand.tmp 86) (Operand.tmp 87) 56)) (v := (Value.bool (!decide (x414 = x350)))) hF423 (by kernel_rfl) (by kernel_rfl) (fun w9 ⟨s9, hw9⟩ => (exec_neS (r := decide (x414 = x350)) (by kernel_rfl) (by kernel_rfl) (by kernel_rfl) (fun w => eqin56 9998 x414 x350 w))) (fun _ _ _ h => h) ?_
                intro a424 hF425
                refine p_run (d := 89) (v := (Value.bool (!decide (x414 = x350)))) hF425 (by kernel_rfl) (fun _ => by kernel_rfl) (fun _ _ _ h => h) ?_
                intro a426 hF427
                have hF428 := hF427.keep [89, 10, 17, 19, 66, 67, 68, 72, 73, 74] [(89, (Value.bool (!decide (x414 = x350)))), (10, (Value.slice A71 m73 cp72)), (17, (Value.int .i64 ((i3 : Nat) : Int))), (19, (Value.pointer (some ⟨b359, 0, none⟩))), (66, (Value.slice (some ⟨g281, 0, none⟩) 3 3)), (67, (Value.int .i64 ((3 : Nat) : Int))), (68, (Value.int .i64 ((j : Nat) : Int))), (72, (Value.slice A315 m318 c316)), (73, (Value.int .i64 ((m318 : Nat) : Int))), (74, (Value.int .i64 ((q : Nat) : Int)))] (by kernel_rfl)
                refine p_end ?_
                refine c_cond [1, 1, 1, 1, 1, 1, 1, 0, 1, 0, 0, 1, 1, 0, 0, 1, 1, 1, 0, 0, 1, 1, 0, 0, 1, 0, 0, 0, 0, 1, 0] [1, 1, 1, 1, 1, 1, 1, 0, 1, 0, 0, 1, 1, 0, 0, 1, 1, 1, 0, 0, 1, 1, 0, 0, 1, 0, 0, 0, 0, 1, 1] 89 (by kernel_rfl) hF428 (!decide (x414 = x350)) (by kernel_rfl) (fun hc429 => ?_) (fun hc429 => ?_)
                · skip
                  have hc429 : ¬ (x414 = x350) := by simpa using hc429
                  refine c_skip (by kernel_rfl) ?_
                  refine c_block [1, 1, 1, 1, 1, 1, 1, 0, 1, 0, 0, 1, 1, 0, 0, 1, 1, 1, 0, 0, 1, 1, 0, 0, 1, 0, 0, 0, 1, 0] 7 (by kernel_rfl) ?_
                  refine c_reg 21 (by kernel_rfl) ?_
                  refine r_runk 1 [90, 10, 19, 66, 67, 68, 72, 73, 74] [(90, (Value.int .i64 ((i3 : Nat) : Int))), (10, (Value.slice A71 m73 cp72)), (19, (Value.pointer (some ⟨b359, 0, none⟩))), (66, (Value.slice (some ⟨g281, 0, none⟩) 3 3)), (67, (Value.int .i64 ((3 : Nat) : Int))), (68, (Value.int .i64 ((j : Nat) : Int))), (72, (Value.slice A315 m318 c316)), (73, (Value.int .i64 ((m318 : Nat) : Int))), (74, (Value.int .i64 ((q : Nat) : Int)))] hF428 (by kernel_rfl) (by kernel_rfl) ?_
                  intro a430 hF431
                  refine r_one (d := 91) (v0 := (Value.int .i64 (IntKind.i64.wrap (((i3 : Nat) : Int) + ((1 : Nat) : Int))))) (v := (Value.int .i64 ((i3 + 1 : Nat) : Int))) hF431 (by kernel_rfl) (by kernel_rfl) (congrArg (Value.int .i64) (i64_eq (by omega) (by omega) (by omega))) ?_
                  intro a432 hF433
                  refine r_runk 1 [17, 10, 19, 66, 67, 68, 72, 73, 74] [(17, (Value.int .i64 ((i3 + 1 : Nat) : Int))), (10, (Value.slice A71 m73 cp72)), (19, (Value.pointer (some ⟨b359, 0, none⟩))), (66, (Value.slice (some ⟨g281, 0, none⟩) 3 3)), (67, (Value.int .i64 ((3 : Nat) : Int))), (68, (Value.int .i64 ((j : Nat) : Int))), (72, (Value.slice A315 m318 c316)), (73, (Value.int .i64 ((m318 : Nat) : Int))), (74, (Value.int .i64 ((q : Nat) : Int)))] hF433 (by kernel_rfl) (by kernel_rfl) ?_
                  intro a434 hF435
                  refine r_end (by kernel_rfl) ?_
                  have h436 : Rd (tSl tPacket) s375 w386 (Value.slice (some ⟨g281, 0, none⟩) 3 3) [toReceive (evs la) (evs lb) (((n0 % 2).toNat : Nat) : Int), toAnswer (evs la) (evs lb) (((n0 % 2).toNat : Nat) : Int), toTimeout (evs la) (((n0 % 2).toNat : Nat) : Int)] := (h383.step st387)
                  have h437 : Rd tPacket s375 w386 (Value.slice A315 m318 c316) ([toReceive (evs la) (evs lb) (((n0 % 2).toNat : Nat) : Int), toAnswer (evs la) (evs lb) (((n0 % 2).toNat : Nat) : Int), toTimeout (evs la) (((n0 % 2).toNat : Nat) : Int)][j]'hi311) := (h384.step st387)
                  have hF438 := hF435.keep [10, 17, 19, 66, 67, 68, 72, 73, 74] [(10, (Value.slice A71 m73 cp72)), (17, (Value.int .i64 ((i3 + 1 : Nat) : Int))), (19, (Value.pointer (some ⟨b359, 0, none⟩))), (66, (Value.slice (some ⟨g281, 0, none⟩) 3 3)), (67, (Value.int .i64 ((3 : Nat) : Int))), (68, (Value.int .i64 ((j : Nat) : Int))), (72, (Value.slice A315 m318 c316)), (73, (Value.int .i64 ((m318 : Nat) : Int))), (74, (Value.int .i64 ((q : Nat) : Int)))] (by kernel_rfl)
                  exact ⟨i3 + 1, ⟨s375, hF438, hS388, h405, h436, h437, h421, (by subst hx351 hx415; exact sub_skip (by omega) (sub_lt (by omega) hsub3) hsub3 hc429)⟩, (by have := sub_lt (by omega) hsub3; omega)⟩
                · skip
                  have hc429 : (x414 = x350) := by simpa using hc429
                  refine c_exit 6 (by kernel_rfl) ?_
                  refine c_seq [1, 1, 1, 1, 1, 1, 1, 0, 1, 0, 0, 1, 1, 0, 0, 1, 1, 1, 0, 0, 1, 1, 0, 0, 1, 1, 0] [1, 1, 1, 1, 1, 1, 1, 0, 1, 0, 0, 1, 1, 0, 0, 1, 1, 1, 0, 0, 1, 1, 0, 0, 1, 1, 1] (by kernel_rfl) ?_
                  refine c_seq [1, 1, 1, 1, 1, 1, 1, 0, 1, 0, 0, 1, 1, 0, 0, 1, 1, 1, 0, 0, 1, 1, 0, 0, 1, 1, 0, 0] [1, 1, 1, 1, 1, 1, 1, 0, 1, 0, 0, 1, 1, 0, 0, 1, 1, 1, 0, 0, 1, 1, 0, 0, 1, 1, 0, 1] (by kernel_rfl) ?_
                  refine c_reg 22 (by kernel_rfl) ?_
                  refine r_runk 3 [94, 92, 10, 17, 66, 67, 68, 72, 73, 74] [(94, (Value.int .i64 ((m73 : Nat) : Int))), (92, (Value.int .i64 ((i3 : Nat) : Int))), (10, (Value.slice A71 m73 cp72)), (17, (Value.int .i64 ((i3 : Nat) : Int))), (66, (Value.slice (some ⟨g281, 0, none⟩) 3 3)), (67, (Value.int .i64 ((3 : Nat) : Int))), (68, (Value.int .i64 ((j : Nat) : Int))), (72, (Value.slice A315 m318 c316)), (73, (Value.int .i64 ((m318 : Nat) : Int))), (74, (Value.int .i64 ((q : Nat) : Int)))] hF428 (by kernel_rfl) (by kernel_rfl) ?_
                  intro a439 hF440
                  refine r_one (d := 95) (v0 := (Value.bool (((i3 : Nat) : Int) == ((m73 : Nat) : Int)))) (v := (Value.bool false)) hF440 (by kernel_rfl) (by kernel_rfl) (Eq.trans (congrArg Value.bool (cmp_nat_eql _ _)) (congrArg Value.bool ((decide_eq_false (by have := sub_lt (by omega) hsub3; omega)) : (decide ((i3 : Nat) = m73)) = false))) ?_
                  intro a441 hF442
                  have hF443 := hF442.keep [95, 10, 17, 66, 67, 68, 72, 73, 74] [(95, (Value.bool false)), (10, (Value.slice A71 m73 cp72)), (17, (Value.int .i64 ((i3 : Nat) : Int))), (66, (Value.slice (some ⟨g281, 0, none⟩) 3 3)), (67, (Value.int .i64 ((3 : Nat) : Int))), (68, (Value.int .i64 ((j : Nat) : Int))), (72, (Value.slice A315 m318 c316)), (73, (Value.int .i64 ((m318 : Nat) : Int))), (74, (Value.int .i64 ((q : Nat) : Int)))] (by kernel_rfl)
                  refine r_end (by kernel_rfl) ?_
                  refine c_cond_false [1, 1, 1, 1, 1, 1, 1, 0, 1, 0, 0, 1, 1, 0, 0, 1, 1, 1, 0, 0, 1, 1, 0, 0, 1, 1, 0, 1, 0] [1, 1, 1, 1, 1, 1, 1, 0, 1, 0, 0, 1, 1, 0, 0, 1, 1, 1, 0, 0, 1, 1, 0, 0, 1, 1, 0, 1, 1] 95 (by kernel_rfl) hF443 (by kernel_rfl) ?_
                  refine c_skip (by kernel_rfl) ?_
                  refine c_reg 24 (by kernel_rfl) ?_
                  refine r_runk 1 [96, 10, 66, 67, 68, 72, 73, 74] [(96, (Value.int .i64 ((i3 : Nat) : Int))), (10, (Value.slice A71 m73 cp72)), (66, (Value.slice (some ⟨g281, 0, none⟩) 3 3)), (67, (Value.int .i64 ((3 : Nat) : Int))), (68, (Value.int .i64 ((j : Nat) : Int))), (72, (Value.slice A315 m318 c316)), (73, (Value.int .i64 ((m318 : Nat) : Int))), (74, (Value.int .i64 ((q : Nat) : Int)))] hF443 (by kernel_rfl) (by kernel_rfl) ?_
                  intro a444 hF445
                  refine r_one (d := 97) (v0 := (Value.int .i64 (IntKind.i64.wrap (((i3 : Nat) : Int) + ((1 : Nat) : Int))))) (v := (Value.int .i64 ((i3 + 1 : Nat) : Int))) hF445 (by kernel_rfl) (by kernel_rfl) (congrArg (Value.int .i64) (i64_eq (by omega) (by omega) (by omega))) ?_
                  intro a446 hF447
                  refine r_runk 1 [17, 10, 66, 67, 68, 72, 73, 74] [(17, (Value.int .i64 ((i3 + 1 : Nat) : Int))), (10, (Value.slice A71 m73 cp72)), (66, (Value.slice (some ⟨g281, 0, none⟩) 3 3)), (67, (Value.int .i64 ((3 : Nat) : Int))), (68, (Value.int .i64 ((j : Nat) : Int))), (72, (Value.slice A315 m318 c316)), (73, (Value.int .i64 ((m318 : Nat) : Int))), (74, (Value.int .i64 ((q : Nat) : Int)))] hF447 (by kernel_rfl) (by kernel_rfl) ?_
                  intro a448 hF449
                  refine r_end (by kernel_rfl) ?_
                  refine c_reg 25 (by kernel_rfl) ?_
                  refine r_one (d := 98) (v0 := (Value.int .i64 (IntKind.i64.wrap (((q : Nat) : Int) + ((1 : Nat) : Int))))) (v := (Value.int .i64 ((q + 1 : Nat) : Int))) hF449 (by kernel_rfl) (by kernel_rfl) (congrArg (Value.int .i64) (i64_eq (by omega) (by omega) (by omega))) ?_
                  intro a450 hF451
                  refine r_runk 1 [74, 17, 10, 66, 67, 68, 72, 73] [(74, (Value.int .i64 ((q + 1 : Nat) : Int))), (17, (Value.int .i64 ((i3 + 1 : Nat) : Int))), (10, (Value.slice A71 m73 cp72)), (66, (Value.slice (some ⟨g281, 0, none⟩) 3 3)), (67, (Value.int .i64 ((3 : Nat) : Int))), (68, (Value.int .i64 ((j : Nat) : Int))), (72, (Value.slice A315 m318 c316)), (73, (Value.int .i64 ((m318 : Nat) : Int)))] hF451 (by kernel_rfl) (by kernel_rfl) ?_
                  intro a452 hF453
                  refine r_end (by kernel_rfl) ?_
                  have h454 : Rd (tSl tPacket) s375 w386 (Value.slice (some ⟨g281, 0, none⟩) 3 3) [toReceive (evs la) (evs lb) (((n0 % 2).toNat : Nat) : Int), toAnswer (evs la) (evs lb) (((n0 % 2).toNat : Nat) : Int), toTimeout (evs la) (((n0 % 2).toNat : Nat) : Int)] := (h383.step st387)
                  have h455 : Rd tPacket s375 w386 (Value.slice A315 m318 c316) ([toReceive (evs la) (evs lb) (((n0 % 2).toNat : Nat) : Int), toAnswer (evs la) (evs lb) (((n0 % 2).toNat : Nat) : Int), toTimeout (evs la) (((n0 % 2).toNat : Nat) : Int)][j]'hi311) := (h384.step st387)
                  have hF456 := hF453.keep [10, 17, 66, 67, 68, 72, 73, 74] [(10, (Value.slice A71 m73 cp72)), (17, (Value.int .i64 ((i3 + 1 : Nat) : Int))), (66, (Value.slice (some ⟨g281, 0, none⟩) 3 3)), (67, (Value.int .i64 ((3 : Nat) : Int))), (68, (Value.int .i64 ((j : Nat) : Int))), (72, (Value.slice A315 m318 c316)), (73, (Value.int .i64 ((m318 : Nat) : Int))), (74, (Value.int .i64 ((q + 1 : Nat) : Int)))] (by kernel_rfl)
                  exact ⟨q + 1, ⟨s375, i3 + 1, hF456, hS388, h405, h454, h455, (by omega), (sub_take (by omega) (by have := sub_lt (by omega) hsub3; omega) hsub3)⟩, by omega⟩
            · skip
              have hc341 := of_decide_eq_false hc341
              refine c_exit 4 (by kernel_rfl) ?_
              refine c_reg 26 (by kernel_rfl) ?_
              refine r_one (d := 99) (v0 := (Value.int .i64 (IntKind.i64.wrap (((j : Nat) : Int) + ((1 : Nat) : Int))))) (v := (Value.int .i64 ((j + 1 : Nat) : Int))) hF340 (by kernel_rfl) (by kernel_rfl) (congrArg (Value.int .i64) (i64_eq (by omega) (by omega) (by omega))) ?_
              intro a457 hF458
              refine r_runk 1 [68, 10, 66, 67] [(68, (Value.int .i64 ((j + 1 : Nat) : Int))), (10, (Value.slice A71 m73 cp72)), (66, (Value.slice (some ⟨g281, 0, none⟩) 3 3)), (67, (Value.int .i64 ((3 : Nat) : Int)))] hF458 (by kernel_rfl) (by kernel_rfl) ?_
              intro a459 hF460
              refine r_end (by kernel_rfl) ?_
              have hF461 := hF460.keep [10, 66, 67, 68] [(10, (Value.slice A71 m73 cp72)), (66, (Value.slice (some ⟨g281, 0, none⟩) 3 3)), (67, (Value.int .i64 ((3 : Nat) : Int))), (68, (Value.int .i64 ((j + 1 : Nat) : Int)))] (by kernel_rfl)
              exact ⟨j + 1, ⟨s332, hF461, hS334, h336, h337, (by omega)⟩, by omega⟩
        · skip
          have hc304 := of_decide_eq_false hc304
          refine c_exit 2 (by kernel_rfl) ?_
          refine c_seq [1, 1, 1, 1, 1, 1, 1, 1, 0] [1, 1, 1, 1, 1, 1, 1, 1, 1] (by kernel_rfl) ?_
          refine c_reg 27 (by kernel_rfl) ?_
          refine r_runk 1 [6] [(6, (Value.bool true))] hF303 (by kernel_rfl) (by kernel_rfl) ?_
          intro a462 hF463
          refine r_end (by kernel_rfl) ?_
          refine c_ret (by kernel_rfl) ?_
          try dsimp only [Exit.then, Exit.inBlock]
          refine f_ret1 hF463 6 (by kernel_rfl) (Value.bool true) (by kernel_rfl) s295 hS297 ?_
          rfl
end Go.Proofs.Ytaoamokfbhlaaaa.E
