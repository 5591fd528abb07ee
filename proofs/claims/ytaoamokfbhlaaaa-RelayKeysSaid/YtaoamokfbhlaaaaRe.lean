/- Walks, printed by a program of this session. -/
import Derived.Test.YtaoamokfbhlaaaaK
import Derived.Test.Ytaoamokfbhlaaaapure21b
import Derived.Test.YtaoamokfbhlaaaaRt
set_option linter.unusedVariables false
set_option linter.unusedSimpArgs false
set_option maxRecDepth 100000
namespace Go.Proofs.Ytaoamokfbhlaaaa.E
open Go Go.RowKit
open Go.Proofs
theorem events_calls (σ : Nat → Nat) (w : World) {v0 : Value} {la : List Small} (h0 : Rd tSmall σ w v0 la) :
    Ctr Try.prog 26 [v0] noM σ w (fun σ' w' v => Own tEvent 60 w.heap.size σ' w' v (evs la)) := by
  obtain ⟨A0, c0, rfl, hlA0⟩ := h0.form
  have hbdA0 : la.length ≤ 140737488355328 := by have h := h0.bd; have e : tSmall.by_ = 5 := rfl; rw [e] at h; omega
  refine ctr_enter Try.func26 c26 (by kernel_rfl) 44 (by kernel_rfl) (Nat.le_of_ble_eq_true (by kernel_rfl)) [(0, (Value.slice A0 la.length c0))] (by kernel_rfl) ?_
  intro a hF1
  have hS2 := Stp.refl noM σ w
  refine c_seq [0] [1] (by kernel_rfl) ?_
  refine c_reg 0 (by kernel_rfl) ?_
  refine r_runk 1 [0] [(0, (Value.slice A0 la.length c0))] hF1 (by kernel_rfl) (by kernel_rfl) ?_
  intro a3 hF4
  refine r_end (by kernel_rfl) ?_
  refine c_seq [1, 0] [1, 1] (by kernel_rfl) ?_
  refine c_reg 1 (by kernel_rfl) ?_
  refine r_runk 1 [3, 0] [(3, (Value.slice none 0 0)), (0, (Value.slice A0 la.length c0))] hF4 (by kernel_rfl) (by kernel_rfl) ?_
  intro a5 hF6
  refine r_end (by kernel_rfl) ?_
  refine c_seq [1, 1, 0] [1, 1, 1] (by kernel_rfl) ?_
  refine c_seq [1, 1, 0, 0] [1, 1, 0, 1] (by kernel_rfl) ?_
  refine c_reg 2 (by kernel_rfl) ?_
  refine r_runk 3 [9, 8, 7, 3] [(9, (Value.int .i64 ((0 : Nat) : Int))), (8, (Value.int .i64 ((la.length : Nat) : Int))), (7, (Value.slice A0 la.length c0)), (3, (Value.slice none 0 0))] hF6 (by kernel_rfl) (by kernel_rfl) ?_
  intro a7 hF8
  refine r_end (by kernel_rfl) ?_
  refine c_block [1, 1, 0, 1, 0] 0 (by kernel_rfl) ?_
  refine c_loop [1, 1, 0, 1, 0, 0] (by kernel_rfl) (fun (k : Nat) a9 w10 => ∃ (s11 : Nat → Nat) (A14 : Option Addr) (cp15 : Nat) (m16 : Nat), Fr a9 44 [(3, (Value.slice A14 m16 cp15)), (7, (Value.slice A0 la.length c0)), (8, (Value.int .i64 ((la.length : Nat) : Int))), (9, (Value.int .i64 ((k : Nat) : Int)))] ∧ Stp noM σ w s11 w10 ∧ Own tEvent 60 w.heap.size s11 w10 (Value.slice A14 m16 cp15) ((la.take (k)).map convE) ∧ k ≤ la.length ∧ k ≤ 61) (fun k => la.length - k) 0 ?_ ?_
  · skip
    have hF18 := hF8.keep [3, 7, 8, 9] [(3, (Value.slice none 0 0)), (7, (Value.slice A0 la.length c0)), (8, (Value.int .i64 ((la.length : Nat) : Int))), (9, (Value.int .i64 ((0 : Nat) : Int)))] (by kernel_rfl)
    exact ⟨σ, none, 0, 0, hF18, hS2, (Own.nil _ _ _ _ _), (by omega), (by omega)⟩
  · rintro k a9 w10 ⟨s11, A14, cp15, m16, hF12, hS13, hO19, hk, hk61⟩
    have hln20 := hO19.ln
    refine c_seq [1, 1, 0, 1, 0, 0, 0] [1, 1, 0, 1, 0, 0, 1] (by kernel_rfl) ?_
    refine c_reg 3 (by kernel_rfl) ?_
    refine r_one (d := 10) (v0 := (Value.bool (decide (((k : Nat) : Int) < ((la.length : Nat) : Int))))) (v := (Value.bool (decide ((k : Nat) < la.length)))) hF12 (by kernel_rfl) (by kernel_rfl) (congrArg Value.bool (cmp_nat_lss _ _)) ?_
    intro a21 hF22
    refine r_end (by kernel_rfl) ?_
    refine c_seq [1, 1, 0, 1, 0, 0, 1, 0] [1, 1, 0, 1, 0, 0, 1, 1] (by kernel_rfl) ?_
    refine c_cond [1, 1, 0, 1, 0, 0, 1, 0, 0] [1, 1, 0, 1, 0, 0, 1, 0, 1] 10 (by kernel_rfl) hF22 (decide ((k : Nat) < la.length)) (by kernel_rfl) (fun hc23 => ?_) (fun hc23 => ?_)
    · skip
      have hc23 := of_decide_eq_true hc23
      refine c_skip (by kernel_rfl) ?_
      refine c_seq [1, 1, 0, 1, 0, 0, 1, 1, 0] [1, 1, 0, 1, 0, 0, 1, 1, 1] (by kernel_rfl) ?_
      refine c_block [1, 1, 0, 1, 0, 0, 1, 1, 0, 0] 1 (by kernel_rfl) ?_
      refine c_seq [1, 1, 0, 1, 0, 0, 1, 1, 0, 0, 0] [1, 1, 0, 1, 0, 0, 1, 1, 0, 0, 1] (by kernel_rfl) ?_
      refine c_reg 4 (by kernel_rfl) ?_
      refine r_runk 1 [11, 3, 7, 8, 9] [(11, (Value.int .i64 ((k : Nat) : Int))), (3, (Value.slice A14 m16 cp15)), (7, (Value.slice A0 la.length c0)), (8, (Value.int .i64 ((la.length : Nat) : Int))), (9, (Value.int .i64 ((k : Nat) : Int)))] hF22 (by kernel_rfl) (by kernel_rfl) ?_
      intro a24 hF25
      have h26 : Rd tSmall s11 w10 (Value.slice A0 la.length c0) la := h0.step hS13
      have hi33 : k < (la).length := (by have hq := h26.ln; first | omega | (simp only [List.length_append, List.length_cons, List.length_nil, List.length_map] at *; omega))
      obtain ⟨b27, o28, c29, he30, hs31, hr32⟩ := (h26).at k hi33
      obtain ⟨o34, ho34⟩ : ∃ o, o = o28 + k * 5 := ⟨_, rfl⟩
      obtain ⟨x35, hx36⟩ : ∃ x, x = (la[k]'hi33) := ⟨_, rfl⟩
      rw [← hx36] at hr32
      have hr32 : c29 = [(bv x35.kind), (bv x35.channel), (bv x35.seq), (Value.bool x35.late), (Value.bool x35.ok)] := hr32
      subst hr32
      have hs31 : Seg s11 w10 b27 o34 [(bv x35.kind), (bv x35.channel), (bv x35.seq), (Value.bool x35.late), (Value.bool x35.ok)] := by rw [ho34]; exact hs31
      refine r_at (r_val (d := 12) (op := (Op.indexAddr 40 (Operand.tmp 7) (Operand.tmp 9))) hF25 (by kernel_rfl) (by kernel_rfl) (Value.pointer (some ⟨b27, o34, none⟩)) w10 (by rw [ho34]; exact exec_index (len := la.length) (cap := c0) he30 (by kernel_rfl) (kd := .i64) k (by kernel_rfl) (by have := h26.ln; omega) 5 U40 L68.s) ?_)
      intro a37 hF38
      refine r_at (r_val (d := 13) (op := (Op.load 68 (Operand.tmp 12))) hF38 (by kernel_rfl) (by kernel_rfl) (Value.agg #[(bv x35.kind), (bv x35.channel), (bv x35.seq), (Value.bool x35.late), (Value.bool x35.ok)]) w10 (exec_load L68 (.inl rfl) (by kernel_rfl) hs31.cell) ?_)
      intro a39 hF40
      refine r_at (r_new (d := 5) (op := (Op.alloc 68)) hF40 (by kernel_rfl) (by kernel_rfl) s11 [(bv 0), (bv 0), (bv 0), (Value.bool false), (Value.bool false)] 68 (exec_alloc [(bv 0), (bv 0), (bv 0), (Value.bool false), (Value.bool false)] (fun _ => .inl (by kernel_rfl))) ?_)
      intro a41 s42 w43 b44 hb45 st46 hB47 hF48
      have hz49 := hS13.size
      have ne50 : ¬ Value.ownBlock (Value.slice A14 m16 cp15) = some b44 := fun e => by have := hO19.lt e; omega
      have hS51 := hS13.then st46
      refine r_runk 1 [4, 5, 13, 3, 7, 8, 9] [(4, (Value.int .i64 ((k : Nat) : Int))), (5, (Value.pointer (some ⟨b44, 0, none⟩))), (13, (Value.agg #[(bv x35.kind), (bv x35.channel), (bv x35.seq), (Value.bool x35.late), (Value.bool x35.ok)])), (3, (Value.slice A14 m16 cp15)), (7, (Value.slice A0 la.length c0)), (8, (Value.int .i64 ((la.length : Nat) : Int))), (9, (Value.int .i64 ((k : Nat) : Int)))] hF48 (by kernel_rfl) (by kernel_rfl) ?_
      intro a52 hF53
      refine r_at (r_store (t := 68) (x := (Operand.tmp 5)) (y := (Operand.tmp 13)) hF53 (by kernel_rfl) (by kernel_rfl) hB47 0 [(bv x35.kind), (bv x35.channel), (bv x35.seq), (Value.bool x35.late), (Value.bool x35.ok)] [(bv x35.kind), (bv x35.channel), (bv x35.seq), (Value.bool x35.late), (Value.bool x35.ok)] (by kernel_rfl) (by kernel_rfl) 5 true L68 rfl (by kernel_rfl) (Nat.le_of_ble_eq_true (by kernel_rfl)) (by kernel_rfl) ?_)
      intro a54 w55 st56 hB57 hF58
      have hS59 := hS51.and st56 (fun b e => by subst e; omega)
      have hF60 := hF58.keep [4, 5, 3, 7, 8, 9] [(4, (Value.int .i64 ((k : Nat) : Int))), (5, (Value.pointer (some ⟨b44, 0, none⟩))), (3, (Value.slice A14 m16 cp15)), (7, (Value.slice A0 la.length c0)), (8, (Value.int .i64 ((la.length : Nat) : Int))), (9, (Value.int .i64 ((k : Nat) : Int)))] (by kernel_rfl)
      refine r_end (by kernel_rfl) ?_
      refine c_seq [1, 1, 0, 1, 0, 0, 1, 1, 0, 0, 1, 0] [1, 1, 0, 1, 0, 0, 1, 1, 0, 0, 1, 1] (by kernel_rfl) ?_
      refine c_seq [1, 1, 0, 1, 0, 0, 1, 1, 0, 0, 1, 0, 0] [1, 1, 0, 1, 0, 0, 1, 1, 0, 0, 1, 0, 1] (by kernel_rfl) ?_
      refine c_reg 5 (by kernel_rfl) ?_
      refine r_runk 1 [14, 5, 3, 7, 8, 9] [(14, (Value.int .i64 ((k : Nat) : Int))), (5, (Value.pointer (some ⟨b44, 0, none⟩))), (3, (Value.slice A14 m16 cp15)), (7, (Value.slice A0 la.length c0)), (8, (Value.int .i64 ((la.length : Nat) : Int))), (9, (Value.int .i64 ((k : Nat) : Int)))] hF60 (by kernel_rfl) (by kernel_rfl) ?_
      intro a61 hF62
      refine r_one (d := 15) (v0 := (Value.bool (decide (((k : Nat) : Int) > ((60 : Nat) : Int))))) (v := (Value.bool (decide ((k : Nat) > 60)))) hF62 (by kernel_rfl) (by kernel_rfl) (congrArg Value.bool (cmp_nat_gtr _ _)) ?_
      intro a63 hF64
      have hF65 := hF64.keep [15, 5, 3, 7, 8, 9] [(15, (Value.bool (decide ((k : Nat) > 60)))), (5, (Value.pointer (some ⟨b44, 0, none⟩))), (3, (Value.slice A14 m16 cp15)), (7, (Value.slice A0 la.length c0)), (8, (Value.int .i64 ((la.length : Nat) : Int))), (9, (Value.int .i64 ((k : Nat) : Int)))] (by kernel_rfl)
      refine r_end (by kernel_rfl) ?_
      refine c_cond [1, 1, 0, 1, 0, 0, 1, 1, 0, 0, 1, 0, 1, 0] [1, 1, 0, 1, 0, 0, 1, 1, 0, 0, 1, 0, 1, 1] 15 (by kernel_rfl) hF65 (decide ((k : Nat) > 60)) (by kernel_rfl) (fun hc66 => ?_) (fun hc66 => ?_)
      · skip
        have hc66 := of_decide_eq_true hc66
        refine c_exit 0 (by kernel_rfl) ?_
        refine c_seq [1, 1, 1, 0] [1, 1, 1, 1] (by kernel_rfl) ?_
        refine c_reg 13 (by kernel_rfl) ?_
        refine r_runk 2 [2] [(2, (Value.slice A14 m16 cp15))] hF65 (by kernel_rfl) (by kernel_rfl) ?_
        intro a67 hF68
        refine r_end (by kernel_rfl) ?_
        refine c_ret (by kernel_rfl) ?_
        try dsimp only [Exit.then, Exit.inBlock]
        have h69 : Own tEvent 60 w.heap.size s42 w55 (Value.slice A14 m16 cp15) ((la.take (k)).map convE) := ((hO19.step' st46).step st56 (fun g hg e => ne50 (by subst e; exact hg)))
        refine f_ret1 hF68 2 (by kernel_rfl) (Value.slice A14 m16 cp15) (by kernel_rfl) s42 hS59 ?_
        have h9 := h69
        rw [evs_end (by omega) (by omega) (by omega)] at h9
        exact h9
      · skip
        have hc66 := of_decide_eq_false hc66
        refine c_skip (by kernel_rfl) ?_
        refine c_seq [1, 1, 0, 1, 0, 0, 1, 1, 0, 0, 1, 1, 0] [1, 1, 0, 1, 0, 0, 1, 1, 0, 0, 1, 1, 1] (by kernel_rfl) ?_
        refine c_reg 6 (by kernel_rfl) ?_
        refine r_runk 1 [16, 5, 3, 7, 8, 9] [(16, (Value.pointer (some ⟨b44, 0, none⟩))), (5, (Value.pointer (some ⟨b44, 0, none⟩))), (3, (Value.slice A14 m16 cp15)), (7, (Value.slice A0 la.length c0)), (8, (Value.int .i64 ((la.length : Nat) : Int))), (9, (Value.int .i64 ((k : Nat) : Int)))] hF65 (by kernel_rfl) (by kernel_rfl) ?_
        intro a70 hF71
        refine r_at (r_val (d := 17) (op := (Op.load 5 (Operand.tmp 16))) hF71 (by kernel_rfl) (by kernel_rfl) (bv x35.kind) w55 (exec_load L5 (.inr rfl) (by kernel_rfl) (Bx.cells hB57 0 1 [(bv x35.kind)] (by kernel_rfl))) ?_)
        intro a72 hF73
        refine r_one (d := 18) (v0 := (Value.int .u8 (Int.tmod ((x35.kind).toNat : Int) ((4 : UInt8).toNat : Int)))) (v := (bv (x35.kind % 4))) hF73 (by kernel_rfl) (by kernel_rfl) (congrArg (Value.int .u8) (u8_rem x35.kind 4 (by decide))) ?_
        intro a74 hF75
        refine r_one (d := 19) (v0 := (Value.int .u8 (IntKind.u8.wrap (((1 : UInt8).toNat : Int) + ((x35.kind % 4).toNat : Int))))) (v := (bv ((1 : UInt8) + (x35.kind % 4)))) hF75 (by kernel_rfl) (by kernel_rfl) (congrArg (Value.int .u8) (u8_add _ _)) ?_
        intro a76 hF77
        refine r_runk 1 [20, 19, 5, 3, 7, 8, 9] [(20, (Value.pointer (some ⟨b44, 1, none⟩))), (19, (bv ((1 : UInt8) + (x35.kind % 4)))), (5, (Value.pointer (some ⟨b44, 0, none⟩))), (3, (Value.slice A14 m16 cp15)), (7, (Value.slice A0 la.length c0)), (8, (Value.int .i64 ((la.length : Nat) : Int))), (9, (Value.int .i64 ((k : Nat) : Int)))] hF77 (by kernel_rfl) (by kernel_rfl) ?_
        intro a78 hF79
        refine r_at (r_val (d := 21) (op := (Op.load 5 (Operand.tmp 20))) hF79 (by kernel_rfl) (by kernel_rfl) (bv x35.channel) w55 (exec_load L5 (.inr rfl) (by kernel_rfl) (Bx.cells hB57 1 1 [(bv x35.channel)] (by kernel_rfl))) ?_)
        intro a80 hF81
        refine r_one (d := 22) (v0 := (Value.int .u8 (Int.tmod ((x35.channel).toNat : Int) ((2 : UInt8).toNat : Int)))) (v := (bv (x35.channel % 2))) hF81 (by kernel_rfl) (by kernel_rfl) (congrArg (Value.int .u8) (u8_rem x35.channel 2 (by decide))) ?_
        intro a82 hF83
        refine r_one (d := 23) (v0 := (Value.int .i64 (IntKind.i64.wrap ((x35.channel % 2).toNat : Int)))) (v := (Value.int .i64 (((x35.channel % 2).toNat : Nat) : Int))) hF83 (by kernel_rfl) (by kernel_rfl) (congrArg (Value.int .i64) (u8_i64 (x35.channel % 2))) ?_
        intro a84 hF85
        refine r_runk 1 [24, 23, 19, 5, 3, 7, 8, 9] [(24, (Value.pointer (some ⟨b44, 2, none⟩))), (23, (Value.int .i64 (((x35.channel % 2).toNat : Nat) : Int))), (19, (bv ((1 : UInt8) + (x35.kind % 4)))), (5, (Value.pointer (some ⟨b44, 0, none⟩))), (3, (Value.slice A14 m16 cp15)), (7, (Value.slice A0 la.length c0)), (8, (Value.int .i64 ((la.length : Nat) : Int))), (9, (Value.int .i64 ((k : Nat) : Int)))] hF85 (by kernel_rfl) (by kernel_rfl) ?_
        intro a86 hF87
        refine r_at (r_val (d := 25) (op := (Op.load 5 (Operand.tmp 24))) hF87 (by kernel_rfl) (by kernel_rfl) (bv x35.seq) w55 (exec_load L5 (.inr rfl) (by kernel_rfl) (Bx.cells hB57 2 1 [(bv x35.seq)] (by kernel_rfl))) ?_)
        intro a88 hF89
        refine r_one (d := 26) (v0 := (Value.int .u8 (Int.tmod ((x35.seq).toNat : Int) ((6 : UInt8).toNat : Int)))) (v := (bv (x35.seq % 6))) hF89 (by kernel_rfl) (by kernel_rfl) (congrArg (Value.int .u8) (u8_rem x35.seq 6 (by decide))) ?_
        intro a90 hF91
        refine r_one (d := 27) (v0 := (Value.int .u64 (IntKind.u64.wrap ((x35.seq % 6).toNat : Int)))) (v := (uv ((x35.seq % 6).toUInt64))) hF91 (by kernel_rfl) (by kernel_rfl) (congrArg (Value.int .u64) (u8_u64 (x35.seq % 6))) ?_
        intro a92 hF93
        refine r_runk 2 [29, 5, 3, 7, 8, 9] [(29, (Value.agg #[(bv ((1 : UInt8) + (x35.kind % 4))), (Value.int .i64 (((x35.channel % 2).toNat : Nat) : Int)), (uv ((x35.seq % 6).toUInt64)), (uv 0), (sv []), (uv 5), (sv []), (sv []), (Value.bool false), (Value.int .i64 ((0 : Nat) : Int))])), (5, (Value.pointer (some ⟨b44, 0, none⟩))), (3, (Value.slice A14 m16 cp15)), (7, (Value.slice A0 la.length c0)), (8, (Value.int .i64 ((la.length : Nat) : Int))), (9, (Value.int .i64 ((k : Nat) : Int)))] hF93 (by kernel_rfl) (by kernel_rfl) ?_
        intro a94 hF95
        have h96 : Own tEvent 60 w.heap.size s42 w55 (Value.slice A14 m16 cp15) ((la.take (k)).map convE) := ((hO19.step' st46).step st56 (fun g hg e => ne50 (by subst e; exact hg)))
        refine r_at (r_new (d := 6) (op := (Op.alloc 60)) hF95 (by kernel_rfl) (by kernel_rfl) s42 [(bv 0), (Value.int .i64 ((0 : Nat) : Int)), (uv 0), (uv 0), (sv []), (uv 0), (sv []), (sv []), (Value.bool false), (Value.int .i64 ((0 : Nat) : Int))] 60 (exec_alloc [(bv 0), (Value.int .i64 ((0 : Nat) : Int)), (uv 0), (uv 0), (sv []), (uv 0), (sv []), (sv []), (Value.bool false), (Value.int .i64 ((0 : Nat) : Int))] (fun _ => .inl (by kernel_rfl))) ?_)
        intro a97 s98 w99 b100 hb101 st102 hB103 hF104
        have hz105 := hS59.size
        have ne106 : ¬ Value.ownBlock (Value.slice A14 m16 cp15) = some b100 := fun e => by have := h96.lt e; omega
        have ne107 : b44 < b100 := by have := hB57.lt; omega
        have hS108 := hS59.then st102
        refine r_at (r_store (t := 60) (x := (Operand.tmp 6)) (y := (Operand.tmp 29)) hF104 (by kernel_rfl) (by kernel_rfl) hB103 0 [(bv ((1 : UInt8) + (x35.kind % 4))), (Value.int .i64 (((x35.channel % 2).toNat : Nat) : Int)), (uv ((x35.seq % 6).toUInt64)), (uv 0), (sv []), (uv 5), (sv []), (sv []), (Value.bool false), (Value.int .i64 ((0 : Nat) : Int))] [(bv ((1 : UInt8) + (x35.kind % 4))), (Value.int .i64 (((x35.channel % 2).toNat : Nat) : Int)), (uv ((x35.seq % 6).toUInt64)), (uv 0), (sv []), (uv 5), (sv []), (sv []), (Value.bool false), (Value.int .i64 ((0 : Nat) : Int))] (by kernel_rfl) (by kernel_rfl) 10 true L60 rfl (by kernel_rfl) (Nat.le_of_ble_eq_true (by kernel_rfl)) (by kernel_rfl) ?_)
        intro a109 w110 st111 hB112 hF113
        have hS114 := hS108.and st111 (fun b e => by subst e; omega)
        have hF115 := hF113.keep [6, 5, 3, 7, 8, 9] [(6, (Value.pointer (some ⟨b100, 0, none⟩))), (5, (Value.pointer (some ⟨b44, 0, none⟩))), (3, (Value.slice A14 m16 cp15)), (7, (Value.slice A0 la.length c0)), (8, (Value.int .i64 ((la.length : Nat) : Int))), (9, (Value.int .i64 ((k : Nat) : Int)))] (by kernel_rfl)
        refine r_end (by kernel_rfl) ?_
        refine c_seq [1, 1, 0, 1, 0, 0, 1, 1, 0, 0, 1, 1, 1, 0] [1, 1, 0, 1, 0, 0, 1, 1, 0, 0, 1, 1, 1, 1] (by kernel_rfl) ?_
        refine c_seq [1, 1, 0, 1, 0, 0, 1, 1, 0, 0, 1, 1, 1, 0, 0] [1, 1, 0, 1, 0, 0, 1, 1, 0, 0, 1, 1, 1, 0, 1] (by kernel_rfl) ?_
        refine c_reg 7 (by kernel_rfl) ?_
        refine r_runk 1 [30, 6, 5, 3, 7, 8, 9] [(30, (Value.pointer (some ⟨b44, 3, none⟩))), (6, (Value.pointer (some ⟨b100, 0, none⟩))), (5, (Value.pointer (some ⟨b44, 0, none⟩))), (3, (Value.slice A14 m16 cp15)), (7, (Value.slice A0 la.length c0)), (8, (Value.int .i64 ((la.length : Nat) : Int))), (9, (Value.int .i64 ((k : Nat) : Int)))] hF115 (by kernel_rfl) (by kernel_rfl) ?_
        intro a116 hF117
        have h118 : Bx s98 w110 b44 [(bv x35.kind), (bv x35.channel), (bv x35.seq), (Value.bool x35.late), (Value.bool x35.ok)] 68 := ((hB57.step' st102).step st111 (fun e => absurd e (by omega)))
        refine r_at (r_val (d := 31) (op := (Op.load 4 (Operand.tmp 30))) hF117 (by kernel_rfl) (by kernel_rfl) (Value.bool x35.late) w110 (exec_load L4 (.inr rfl) (by kernel_rfl) (Bx.cells h118 3 1 [(Value.bool x35.late)] (by kernel_rfl))) ?_)
        intro a119 hF120
        have hF121 := hF120.keep [31, 6, 5, 3, 7, 8, 9] [(31, (Value.bool x35.late)), (6, (Value.pointer (some ⟨b100, 0, none⟩))), (5, (Value.pointer (some ⟨b44, 0, none⟩))), (3, (Value.slice A14 m16 cp15)), (7, (Value.slice A0 la.length c0)), (8, (Value.int .i64 ((la.length : Nat) : Int))), (9, (Value.int .i64 ((k : Nat) : Int)))] (by kernel_rfl)
        refine r_end (by kernel_rfl) ?_
        refine c_cond [1, 1, 0, 1, 0, 0, 1, 1, 0, 0, 1, 1, 1, 0, 1, 0] [1, 1, 0, 1, 0, 0, 1, 1, 0, 0, 1, 1, 1, 0, 1, 1] 31 (by kernel_rfl) hF121 x35.late (by kernel_rfl) (fun hc122 => ?_) (fun hc122 => ?_)
        · skip
          refine c_reg 8 (by kernel_rfl) ?_
          refine r_runk 2 [33, 6, 5, 3, 7, 8, 9] [(33, (Value.pointer (some ⟨b100, 3, none⟩))), (6, (Value.pointer (some ⟨b100, 0, none⟩))), (5, (Value.pointer (some ⟨b44, 0, none⟩))), (3, (Value.slice A14 m16 cp15)), (7, (Value.slice A0 la.length c0)), (8, (Value.int .i64 ((la.length : Nat) : Int))), (9, (Value.int .i64 ((k : Nat) : Int)))] hF121 (by kernel_rfl) (by kernel_rfl) ?_
          intro a123 hF124
          refine r_at (r_store (t := 22) (x := (Operand.tmp 33)) (y := (Operand.const (Value.int IntKind.u64 9))) hF124 (by kernel_rfl) (by kernel_rfl) hB112 3 [(uv 9)] [(bv ((1 : UInt8) + (x35.kind % 4))), (Value.int .i64 (((x35.channel % 2).toNat : Nat) : Int)), (uv ((x35.seq % 6).toUInt64)), (uv 9), (sv []), (uv 5), (sv []), (sv []), (Value.bool false), (Value.int .i64 ((0 : Nat) : Int))] (by kernel_rfl) (by kernel_rfl) 1 false L22 rfl (by kernel_rfl) (Nat.le_of_ble_eq_true (by kernel_rfl)) (by kernel_rfl) ?_)
          intro a125 w126 st127 hB128 hF129
          have hS130 := hS114.and st127 (fun b e => by subst e; omega)
          have hF131 := hF129.keep [6, 5, 3, 7, 8, 9] [(6, (Value.pointer (some ⟨b100, 0, none⟩))), (5, (Value.pointer (some ⟨b44, 0, none⟩))), (3, (Value.slice A14 m16 cp15)), (7, (Value.slice A0 la.length c0)), (8, (Value.int .i64 ((la.length : Nat) : Int))), (9, (Value.int .i64 ((k : Nat) : Int)))] (by kernel_rfl)
          refine r_end (by kernel_rfl) ?_
          refine c_seq [1, 1, 0, 1, 0, 0, 1, 1, 0, 0, 1, 1, 1, 1, 0] [1, 1, 0, 1, 0, 0, 1, 1, 0, 0, 1, 1, 1, 1, 1] (by kernel_rfl) ?_
          refine c_seq [1, 1, 0, 1, 0, 0, 1, 1, 0, 0, 1, 1, 1, 1, 0, 0] [1, 1, 0, 1, 0, 0, 1, 1, 0, 0, 1, 1, 1, 1, 0, 1] (by kernel_rfl) ?_
          refine c_reg 9 (by kernel_rfl) ?_
          refine r_runk 1 [34, 6, 3, 7, 8, 9] [(34, (Value.pointer (some ⟨b44, 4, none⟩))), (6, (Value.pointer (some ⟨b100, 0, none⟩))), (3, (Value.slice A14 m16 cp15)), (7, (Value.slice A0 la.length c0)), (8, (Value.int .i64 ((la.length : Nat) : Int))), (9, (Value.int .i64 ((k : Nat) : Int)))] hF131 (by kernel_rfl) (by kernel_rfl) ?_
          intro a132 hF133
          have h134 : Bx s98 w126 b44 [(bv x35.kind), (bv x35.channel), (bv x35.seq), (Value.bool x35.late), (Value.bool x35.ok)] 68 := (h118.step st127 (fun e => absurd e (by omega)))
          refine r_at (r_val (d := 35) (op := (Op.load 4 (Operand.tmp 34))) hF133 (by kernel_rfl) (by kernel_rfl) (Value.bool x35.ok) w126 (exec_load L4 (.inr rfl) (by kernel_rfl) (Bx.cells h134 4 1 [(Value.bool x35.ok)] (by kernel_rfl))) ?_)
          intro a135 hF136
          have hF137 := hF136.keep [35, 6, 3, 7, 8, 9] [(35, (Value.bool x35.ok)), (6, (Value.pointer (some ⟨b100, 0, none⟩))), (3, (Value.slice A14 m16 cp15)), (7, (Value.slice A0 la.length c0)), (8, (Value.int .i64 ((la.length : Nat) : Int))), (9, (Value.int .i64 ((k : Nat) : Int)))] (by kernel_rfl)
          refine r_end (by kernel_rfl) ?_
          refine c_cond [1, 1, 0, 1, 0, 0, 1, 1, 0, 0, 1, 1, 1, 1, 0, 1, 0] [1, 1, 0, 1, 0, 0, 1, 1, 0, 0, 1, 1, 1, 1, 0, 1, 1] 35 (by kernel_rfl) hF137 x35.ok (by kernel_rfl) (fun hc138 => ?_) (fun hc138 => ?_)
          · skip
            refine c_reg 10 (by kernel_rfl) ?_
            refine r_runk 2 [37, 6, 3, 7, 8, 9] [(37, (Value.pointer (some ⟨b100, 8, none⟩))), (6, (Value.pointer (some ⟨b100, 0, none⟩))), (3, (Value.slice A14 m16 cp15)), (7, (Value.slice A0 la.length c0)), (8, (Value.int .i64 ((la.length : Nat) : Int))), (9, (Value.int .i64 ((k : Nat) : Int)))] hF137 (by kernel_rfl) (by kernel_rfl) ?_
            intro a139 hF140
            refine r_at (r_store (t := 4) (x := (Operand.tmp 37)) (y := (Operand.const (Value.bool true))) hF140 (by kernel_rfl) (by kernel_rfl) hB128 8 [(Value.bool true)] [(bv ((1 : UInt8) + (x35.kind % 4))), (Value.int .i64 (((x35.channel % 2).toNat : Nat) : Int)), (uv ((x35.seq % 6).toUInt64)), (uv 9), (sv []), (uv 5), (sv []), (sv []), (Value.bool true), (Value.int .i64 ((0 : Nat) : Int))] (by kernel_rfl) (by kernel_rfl) 1 false L4 rfl (by kernel_rfl) (Nat.le_of_ble_eq_true (by kernel_rfl)) (by kernel_rfl) ?_)
            intro a141 w142 st143 hB144 hF145
            have hS146 := hS130.and st143 (fun b e => by subst e; omega)
            have hF147 := hF145.keep [6, 3, 7, 8, 9] [(6, (Value.pointer (some ⟨b100, 0, none⟩))), (3, (Value.slice A14 m16 cp15)), (7, (Value.slice A0 la.length c0)), (8, (Value.int .i64 ((la.length : Nat) : Int))), (9, (Value.int .i64 ((k : Nat) : Int)))] (by kernel_rfl)
            refine r_end (by kernel_rfl) ?_
            refine c_reg 11 (by kernel_rfl) ?_
            refine r_runk 1 [38, 6, 7, 8, 9] [(38, (Value.slice A14 m16 cp15)), (6, (Value.pointer (some ⟨b100, 0, none⟩))), (7, (Value.slice A0 la.length c0)), (8, (Value.int .i64 ((la.length : Nat) : Int))), (9, (Value.int .i64 ((k : Nat) : Int)))] hF147 (by kernel_rfl) (by kernel_rfl) ?_
            intro a148 hF149
            refine r_at (r_val (d := 39) (op := (Op.load 60 (Operand.tmp 6))) hF149 (by kernel_rfl) (by kernel_rfl) (Value.agg #[(bv ((1 : UInt8) + (x35.kind % 4))), (Value.int .i64 (((x35.channel % 2).toNat : Nat) : Int)), (uv ((x35.seq % 6).toUInt64)), (uv 9), (sv []), (uv 5), (sv []), (sv []), (Value.bool true), (Value.int .i64 ((0 : Nat) : Int))]) w142 (exec_load L60 (.inl rfl) (by kernel_rfl) (Bx.cells hB144 0 10 [(bv ((1 : UInt8) + (x35.kind % 4))), (Value.int .i64 (((x35.channel % 2).toNat : Nat) : Int)), (uv ((x35.seq % 6).toUInt64)), (uv 9), (sv []), (uv 5), (sv []), (sv []), (Value.bool true), (Value.int .i64 ((0 : Nat) : Int))] (by kernel_rfl))) ?_)
            intro a150 hF151
            have h152 : Own tEvent 60 w.heap.size s98 w142 (Value.slice A14 m16 cp15) ((la.take (k)).map convE) := ((((h96.step' st102).step st111 (fun g hg e => ne106 (by subst e; exact hg))).step st127 (fun g hg e => ne106 (by subst e; exact hg))).step st143 (fun g hg e => ne106 (by subst e; exact hg)))
            have h153 : Bx s98 w142 b44 [(bv x35.kind), (bv x35.channel), (bv x35.seq), (Value.bool x35.late), (Value.bool x35.ok)] 68 := (h134.step st143 (fun e => absurd e (by omega)))
            refine r_at (r_lit tEvent (d := 40) (t := 41) (m := 1) (parts := #[(0, (Operand.tmp 39))]) hF151 (by kernel_rfl) (by kernel_rfl) s98 [(⟨(1 : UInt8) + (x35.kind % 4), (⟨(((x35.channel % 2).toNat : Nat) : Int), (x35.seq % 6).toUInt64, 9, [], 5, [], []⟩ : Packet), (⟨true, ((0 : Nat) : Int)⟩ : Ack)⟩ : Event)] [(bv ((1 : UInt8) + (x35.kind % 4))), (Value.int .i64 (((x35.channel % 2).toNat : Nat) : Int)), (uv ((x35.seq % 6).toUInt64)), (uv 9), (sv []), (uv 5), (sv []), (sv []), (Value.bool true), (Value.int .i64 ((0 : Nat) : Int))] ⟨_, _, rfl, rfl, rfl⟩ rfl (by decide) (e := 60) (fun o e => by simp only [execOp, e]; kernel_rfl) (by decide) ?_)
            intro a154 s155 w156 g157 hg158 st159 hO160 hF161
            have hz162 := hS146.size
            have hS163 := hS146.then st159
            have hO164 : Own tEvent 60 w.heap.size s155 w156 (Value.slice (some ⟨g157, 0, none⟩) 1 1) [(⟨(1 : UInt8) + (x35.kind % 4), (⟨(((x35.channel % 2).toNat : Nat) : Int), (x35.seq % 6).toUInt64, 9, [], 5, [], []⟩ : Packet), (⟨true, ((0 : Nat) : Int)⟩ : Ack)⟩ : Event)] := (hO160.le (by omega : w.heap.size ≤ _))
            have ne166 : ∀ g, Value.ownBlock (Value.slice A14 m16 cp15) = some g → ¬ Value.ownBlock (Value.slice (some ⟨g157, 0, none⟩) 1 1) = some g := fun g hg e => by have h1 := hO160.ge e; have h2 := h152.lt hg; omega
            have ne167 : ¬ Value.ownBlock (Value.slice (some ⟨g157, 0, none⟩) 1 1) = some b44 := fun e => by have h1 := hO160.ge e; have h2 := h153.lt; omega
            have ne168 : ¬ Value.ownBlock (Value.slice (some ⟨g157, 0, none⟩) 1 1) = some b100 := fun e => by have h1 := hO160.ge e; have h2 := hB144.lt; omega
            have h169 : Own tEvent 60 w.heap.size s155 w156 (Value.slice A14 m16 cp15) ((la.take (k)).map convE) := (h152.step' st159)
            have h170 : Bx s155 w156 b44 [(bv x35.kind), (bv x35.channel), (bv x35.seq), (Value.bool x35.late), (Value.bool x35.ok)] 68 := (h153.step' st159)
            have h171 : Bx s155 w156 b100 [(bv ((1 : UInt8) + (x35.kind % 4))), (Value.int .i64 (((x35.channel % 2).toNat : Nat) : Int)), (uv ((x35.seq % 6).toUInt64)), (uv 9), (sv []), (uv 5), (sv []), (sv []), (Value.bool true), (Value.int .i64 ((0 : Nat) : Int))] 60 := (hB144.step' st159)
            have hz181 := hS163.size
            have hb180 : ((la.take (k)).map convE).length + ([(⟨(1 : UInt8) + (x35.kind % 4), (⟨(((x35.channel % 2).toNat : Nat) : Int), (x35.seq % 6).toUInt64, 9, [], 5, [], []⟩ : Packet), (⟨true, ((0 : Nat) : Int)⟩ : Ack)⟩ : Event)] : List _).length ≤ 1000000 := (by simp only [List.length_map, List.length_take, List.length_cons, List.length_nil] at *; omega)
            refine r_at (r_append tEvent S41 (d := 41) (x := (Operand.tmp 38)) (y := (Operand.tmp 40)) hF161 (by kernel_rfl) (by kernel_rfl) (by kernel_rfl) (by kernel_rfl) h169 hO164.rd (app_small hb180 (by decide)) (by omega) hz181 ?_)
            intro a172 s173 w174 v175 st176 hO177 hn178 hF179
            obtain ⟨A184, m187, c185, rfl, hl186⟩ := hO177.formL
            have hS188 := hS163.and st176 (fun b e => h169.ge e)
            have ne190 : ¬ Value.ownBlock (Value.slice A184 m187 c185) = some b44 := fun e => ne50 (hn178 _ h170.lt e)
            have ne191 : ¬ Value.ownBlock (Value.slice A184 m187 c185) = some b100 := fun e => ne106 (hn178 _ h171.lt e)
            refine r_runk 1 [3, 7, 8, 9] [(3, (Value.slice A184 m187 c185)), (7, (Value.slice A0 la.length c0)), (8, (Value.int .i64 ((la.length : Nat) : Int))), (9, (Value.int .i64 ((k : Nat) : Int)))] hF179 (by kernel_rfl) (by kernel_rfl) ?_
            intro a192 hF193
            refine r_end (by kernel_rfl) ?_
            refine c_reg 12 (by kernel_rfl) ?_
            refine r_one (d := 42) (v0 := (Value.int .i64 (IntKind.i64.wrap (((k : Nat) : Int) + ((1 : Nat) : Int))))) (v := (Value.int .i64 ((k + 1 : Nat) : Int))) hF193 (by kernel_rfl) (by kernel_rfl) (congrArg (Value.int .i64) (i64_eq (by omega) (by omega) (by omega))) ?_
            intro a194 hF195
            refine r_runk 1 [9, 3, 7, 8] [(9, (Value.int .i64 ((k + 1 : Nat) : Int))), (3, (Value.slice A184 m187 c185)), (7, (Value.slice A0 la.length c0)), (8, (Value.int .i64 ((la.length : Nat) : Int)))] hF195 (by kernel_rfl) (by kernel_rfl) ?_
            intro a196 hF197
            refine r_end (by kernel_rfl) ?_
            have hF198 := hF197.keep [3, 7, 8, 9] [(3, (Value.slice A184 m187 c185)), (7, (Value.slice A0 la.length c0)), (8, (Value.int .i64 ((la.length : Nat) : Int))), (9, (Value.int .i64 ((k + 1 : Nat) : Int)))] (by kernel_rfl)
            exact ⟨k + 1, ⟨s173, A184, c185, m187, hF198, hS188, (hO177.cast (by first | rfl | omega | (simp only [List.length_append, List.length_cons, List.length_nil, List.length_map] at *; omega)) (by subst hx36; exact (evs_step (by omega) (by unfold convE; simp [hc122, hc138])))), (by omega), (by omega)⟩, by omega⟩
          · skip
            refine c_skip (by kernel_rfl) ?_
            refine c_reg 11 (by kernel_rfl) ?_
            refine r_runk 1 [38, 6, 7, 8, 9] [(38, (Value.slice A14 m16 cp15)), (6, (Value.pointer (some ⟨b100, 0, none⟩))), (7, (Value.slice A0 la.length c0)), (8, (Value.int .i64 ((la.length : Nat) : Int))), (9, (Value.int .i64 ((k : Nat) : Int)))] hF137 (by kernel_rfl) (by kernel_rfl) ?_
            intro a199 hF200
            refine r_at (r_val (d := 39) (op := (Op.load 60 (Operand.tmp 6))) hF200 (by kernel_rfl) (by kernel_rfl) (Value.agg #[(bv ((1 : UInt8) + (x35.kind % 4))), (Value.int .i64 (((x35.channel % 2).toNat : Nat) : Int)), (uv ((x35.seq % 6).toUInt64)), (uv 9), (sv []), (uv 5), (sv []), (sv []), (Value.bool false), (Value.int .i64 ((0 : Nat) : Int))]) w126 (exec_load L60 (.inl rfl) (by kernel_rfl) (Bx.cells hB128 0 10 [(bv ((1 : UInt8) + (x35.kind % 4))), (Value.int .i64 (((x35.channel % 2).toNat : Nat) : Int)), (uv ((x35.seq % 6).toUInt64)), (uv 9), (sv []), (uv 5), (sv []), (sv []), (Value.bool false), (Value.int .i64 ((0 : Nat) : Int))] (by kernel_rfl))) ?_)
            intro a201 hF202
            have h203 : Own tEvent 60 w.heap.size s98 w126 (Value.slice A14 m16 cp15) ((la.take (k)).map convE) := (((h96.step' st102).step st111 (fun g hg e => ne106 (by subst e; exact hg))).step st127 (fun g hg e => ne106 (by subst e; exact hg)))
            refine r_at (r_lit tEvent (d := 40) (t := 41) (m := 1) (parts := #[(0, (Operand.tmp 39))]) hF202 (by kernel_rfl) (by kernel_rfl) s98 [(⟨(1 : UInt8) + (x35.kind % 4), (⟨(((x35.channel % 2).toNat : Nat) : Int), (x35.seq % 6).toUInt64, 9, [], 5, [], []⟩ : Packet), (⟨false, ((0 : Nat) : Int)⟩ : Ack)⟩ : Event)] [(bv ((1 : UInt8) + (x35.kind % 4))), (Value.int .i64 (((x35.channel % 2).toNat : Nat) : Int)), (uv ((x35.seq % 6).toUInt64)), (uv 9), (sv []), (uv 5), (sv []), (sv []), (Value.bool false), (Value.int .i64 ((0 : Nat) : Int))] ⟨_, _, rfl, rfl, rfl⟩ rfl (by decide) (e := 60) (fun o e => by simp only [execOp, e]; kernel_rfl) (by decide) ?_)
            intro a204 s205 w206 g207 hg208 st209 hO210 hF211
            have hz212 := hS130.size
            have hS213 := hS130.then st209
            have hO214 : Own tEvent 60 w.heap.size s205 w206 (Value.slice (some ⟨g207, 0, none⟩) 1 1) [(⟨(1 : UInt8) + (x35.kind % 4), (⟨(((x35.channel % 2).toNat : Nat) : Int), (x35.seq % 6).toUInt64, 9, [], 5, [], []⟩ : Packet), (⟨false, ((0 : Nat) : Int)⟩ : Ack)⟩ : Event)] := (hO210.le (by omega : w.heap.size ≤ _))
            have ne216 : ∀ g, Value.ownBlock (Value.slice A14 m16 cp15) = some g → ¬ Value.ownBlock (Value.slice (some ⟨g207, 0, none⟩) 1 1) = some g := fun g hg e => by have h1 := hO210.ge e; have h2 := h203.lt hg; omega
            have ne217 : ¬ Value.ownBlock (Value.slice (some ⟨g207, 0, none⟩) 1 1) = some b44 := fun e => by have h1 := hO210.ge e; have h2 := h134.lt; omega
            have ne218 : ¬ Value.ownBlock (Value.slice (some ⟨g207, 0, none⟩) 1 1) = some b100 := fun e => by have h1 := hO210.ge e; have h2 := hB128.lt; omega
            have h219 : Own tEvent 60 w.heap.size s205 w206 (Value.slice A14 m16 cp15) ((la.take (k)).map convE) := (h203.step' st209)
            have h220 : Bx s205 w206 b44 [(bv x35.kind), (bv x35.channel), (bv x35.seq), (Value.bool x35.late), (Value.bool x35.ok)] 68 := (h134.step' st209)
            have h221 : Bx s205 w206 b100 [(bv ((1 : UInt8) + (x35.kind % 4))), (Value.int .i64 (((x35.channel % 2).toNat : Nat) : Int)), (uv ((x35.seq % 6).toUInt64)), (uv 9), (sv []), (uv 5), (sv []), (sv []), (Value.bool false), (Value.int .i64 ((0 : Nat) : Int))] 60 := (hB128.step' st209)
            have hz231 := hS213.size
            have hb230 : ((la.take (k)).map convE).length + ([(⟨(1 : UInt8) + (x35.kind % 4), (⟨(((x35.channel % 2).toNat : Nat) : Int), (x35.seq % 6).toUInt64, 9, [], 5, [], []⟩ : Packet), (⟨false, ((0 : Nat) : Int)⟩ : Ack)⟩ : Event)] : List _).length ≤ 1000000 := (by simp only [List.length_map, List.length_take, List.length_cons, List.length_nil] at *; omega)
            refine r_at (r_append tEvent S41 (d := 41) (x := (Operand.tmp 38)) (y := (Operand.tmp 40)) hF211 (by kernel_rfl) (by kernel_rfl) (by kernel_rfl) (by kernel_rfl) h219 hO214.rd (app_small hb230 (by decide)) (by omega) hz231 ?_)
            intro a222 s223 w224 v225 st226 hO227 hn228 hF229
            obtain ⟨A234, m237, c235, rfl, hl236⟩ := hO227.formL
            have hS238 := hS213.and st226 (fun b e => h219.ge e)
            have ne240 : ¬ Value.ownBlock (Value.slice A234 m237 c235) = some b44 := fun e => ne50 (hn228 _ h220.lt e)
            have ne241 : ¬ Value.ownBlock (Value.slice A234 m237 c235) = some b100 := fun e => ne106 (hn228 _ h221.lt e)
            refine r_runk 1 [3, 7, 8, 9] [(3, (Value.slice A234 m237 c235)), (7, (Value.slice A0 la.length c0)), (8, (Value.int .i64 ((la.length : Nat) : Int))), (9, (Value.int .i64 ((k : Nat) : Int)))] hF229 (by kernel_rfl) (by kernel_rfl) ?_
            intro a242 hF243
            refine r_end (by kernel_rfl) ?_
            refine c_reg 12 (by kernel_rfl) ?_
            refine r_one (d := 42) (v0 := (Value.int .i64 (IntKind.i64.wrap (((k : Nat) : Int) + ((1 : Nat) : Int))))) (v := (Value.int .i64 ((k + 1 : Nat) : Int))) hF243 (by kernel_rfl) (by kernel_rfl) (congrArg (Value.int .i64) (i64_eq (by omega) (by omega) (by omega))) ?_
            intro a244 hF245
            refine r_runk 1 [9, 3, 7, 8] [(9, (Value.int .i64 ((k + 1 : Nat) : Int))), (3, (Value.slice A234 m237 c235)), (7, (Value.slice A0 la.length c0)), (8, (Value.int .i64 ((la.length : Nat) : Int)))] hF245 (by kernel_rfl) (by kernel_rfl) ?_
            intro a246 hF247
            refine r_end (by kernel_rfl) ?_
            have hF248 := hF247.keep [3, 7, 8, 9] [(3, (Value.slice A234 m237 c235)), (7, (Value.slice A0 la.length c0)), (8, (Value.int .i64 ((la.length : Nat) : Int))), (9, (Value.int .i64 ((k + 1 : Nat) : Int)))] (by kernel_rfl)
            exact ⟨k + 1, ⟨s223, A234, c235, m237, hF248, hS238, (hO227.cast (by first | rfl | omega | (simp only [List.length_append, List.length_cons, List.length_nil, List.length_map] at *; omega)) (by subst hx36; exact (evs_step (by omega) (by unfold convE; simp [hc122, hc138])))), (by omega), (by omega)⟩, by omega⟩
        · skip
          refine c_skip (by kernel_rfl) ?_
          refine c_seq [1, 1, 0, 1, 0, 0, 1, 1, 0, 0, 1, 1, 1, 1, 0] [1, 1, 0, 1, 0, 0, 1, 1, 0, 0, 1, 1, 1, 1, 1] (by kernel_rfl) ?_
          refine c_seq [1, 1, 0, 1, 0, 0, 1, 1, 0, 0, 1, 1, 1, 1, 0, 0] [1, 1, 0, 1, 0, 0, 1, 1, 0, 0, 1, 1, 1, 1, 0, 1] (by kernel_rfl) ?_
          refine c_reg 9 (by kernel_rfl) ?_
          refine r_runk 1 [34, 6, 3, 7, 8, 9] [(34, (Value.pointer (some ⟨b44, 4, none⟩))), (6, (Value.pointer (some ⟨b100, 0, none⟩))), (3, (Value.slice A14 m16 cp15)), (7, (Value.slice A0 la.length c0)), (8, (Value.int .i64 ((la.length : Nat) : Int))), (9, (Value.int .i64 ((k : Nat) : Int)))] hF121 (by kernel_rfl) (by kernel_rfl) ?_
          intro a249 hF250
          refine r_at (r_val (d := 35) (op := (Op.load 4 (Operand.tmp 34))) hF250 (by kernel_rfl) (by kernel_rfl) (Value.bool x35.ok) w110 (exec_load L4 (.inr rfl) (by kernel_rfl) (Bx.cells h118 4 1 [(Value.bool x35.ok)] (by kernel_rfl))) ?_)
          intro a251 hF252
          have hF253 := hF252.keep [35, 6, 3, 7, 8, 9] [(35, (Value.bool x35.ok)), (6, (Value.pointer (some ⟨b100, 0, none⟩))), (3, (Value.slice A14 m16 cp15)), (7, (Value.slice A0 la.length c0)), (8, (Value.int .i64 ((la.length : Nat) : Int))), (9, (Value.int .i64 ((k : Nat) : Int)))] (by kernel_rfl)
          refine r_end (by kernel_rfl) ?_
          refine c_cond [1, 1, 0, 1, 0, 0, 1, 1, 0, 0, 1, 1, 1, 1, 0, 1, 0] [1, 1, 0, 1, 0, 0, 1, 1, 0, 0, 1, 1, 1, 1, 0, 1, 1] 35 (by kernel_rfl) hF253 x35.ok (by kernel_rfl) (fun hc254 => ?_) (fun hc254 => ?_)
          · skip
            refine c_reg 10 (by kernel_rfl) ?_
            refine r_runk 2 [37, 6, 3, 7, 8, 9] [(37, (Value.pointer (some ⟨b100, 8, none⟩))), (6, (Value.pointer (some ⟨b100, 0, none⟩))), (3, (Value.slice A14 m16 cp15)), (7, (Value.slice A0 la.length c0)), (8, (Value.int .i64 ((la.length : Nat) : Int))), (9, (Value.int .i64 ((k : Nat) : Int)))] hF253 (by kernel_rfl) (by kernel_rfl) ?_
            intro a255 hF256
            refine r_at (r_store (t := 4) (x := (Operand.tmp 37)) (y := (Operand.const (Value.bool true))) hF256 (by kernel_rfl) (by kernel_rfl) hB112 8 [(Value.bool true)] [(bv ((1 : UInt8) + (x35.kind % 4))), (Value.int .i64 (((x35.channel % 2).toNat : Nat) : Int)), (uv ((x35.seq % 6).toUInt64)), (uv 0), (sv []), (uv 5), (sv []), (sv []), (Value.bool true), (Value.int .i64 ((0 : Nat) : Int))] (by kernel_rfl) (by kernel_rfl) 1 false L4 rfl (by kernel_rfl) (Nat.le_of_ble_eq_true (by kernel_rfl)) (by kernel_rfl) ?_)
            intro a257 w258 st259 hB260 hF261
            have hS262 := hS114.and st259 (fun b e => by subst e; omega)
            have hF263 := hF261.keep [6, 3, 7, 8, 9] [(6, (Value.pointer (some ⟨b100, 0, none⟩))), (3, (Value.slice A14 m16 cp15)), (7, (Value.slice A0 la.length c0)), (8, (Value.int .i64 ((la.length : Nat) : Int))), (9, (Value.int .i64 ((k : Nat) : Int)))] (by kernel_rfl)
            refine r_end (by kernel_rfl) ?_
            refine c_reg 11 (by kernel_rfl) ?_
            refine r_runk 1 [38, 6, 7, 8, 9] [(38, (Value.slice A14 m16 cp15)), (6, (Value.pointer (some ⟨b100, 0, none⟩))), (7, (Value.slice A0 la.length c0)), (8, (Value.int .i64 ((la.length : Nat) : Int))), (9, (Value.int .i64 ((k : Nat) : Int)))] hF263 (by kernel_rfl) (by kernel_rfl) ?_
            intro a264 hF265
            refine r_at (r_val (d := 39) (op := (Op.load 60 (Operand.tmp 6))) hF265 (by kernel_rfl) (by kernel_rfl) (Value.agg #[(bv ((1 : UInt8) + (x35.kind % 4))), (Value.int .i64 (((x35.channel % 2).toNat : Nat) : Int)), (uv ((x35.seq % 6).toUInt64)), (uv 0), (sv []), (uv 5), (sv []), (sv []), (Value.bool true), (Value.int .i64 ((0 : Nat) : Int))]) w258 (exec_load L60 (.inl rfl) (by kernel_rfl) (Bx.cells hB260 0 10 [(bv ((1 : UInt8) + (x35.kind % 4))), (Value.int .i64 (((x35.channel % 2).toNat : Nat) : Int)), (uv ((x35.seq % 6).toUInt64)), (uv 0), (sv []), (uv 5), (sv []), (sv []), (Value.bool true), (Value.int .i64 ((0 : Nat) : Int))] (by kernel_rfl))) ?_)
            intro a266 hF267
            have h268 : Own tEvent 60 w.heap.size s98 w258 (Value.slice A14 m16 cp15) ((la.take (k)).map convE) := (((h96.step' st102).step st111 (fun g hg e => ne106 (by subst e; exact hg))).step st259 (fun g hg e => ne106 (by subst e; exact hg)))
            have h269 : Bx s98 w258 b44 [(bv x35.kind), (bv x35.channel), (bv x35.seq), (Value.bool x35.late), (Value.bool x35.ok)] 68 := (h118.step st259 (fun e => absurd e (by omega)))
            refine r_at (r_lit tEvent (d := 40) (t := 41) (m := 1) (parts := #[(0, (Operand.tmp 39))]) hF267 (by kernel_rfl) (by kernel_rfl) s98 [(⟨(1 : UInt8) + (x35.kind % 4), (⟨(((x35.channel % 2).toNat : Nat) : Int), (x35.seq % 6).toUInt64, 0, [], 5, [], []⟩ : Packet), (⟨true, ((0 : Nat) : Int)⟩ : Ack)⟩ : Event)] [(bv ((1 : UInt8) + (x35.kind % 4))), (Value.int .i64 (((x35.channel % 2).toNat : Nat) : Int)), (uv ((x35.seq % 6).toUInt64)), (uv 0), (sv []), (uv 5), (sv []), (sv []), (Value.bool true), (Value.int .i64 ((0 : Nat) : Int))] ⟨_, _, rfl, rfl, rfl⟩ rfl (by decide) (e := 60) (fun o e => by simp only [execOp, e]; kernel_rfl) (by decide) ?_)
            intro a270 s271 w272 g273 hg274 st275 hO276 hF277
            have hz278 := hS262.size
            have hS279 := hS262.then st275
            have hO280 : Own tEvent 60 w.heap.size s271 w272 (Value.slice (some ⟨g273, 0, none⟩) 1 1) [(⟨(1 : UInt8) + (x35.kind % 4), (⟨(((x35.channel % 2).toNat : Nat) : Int), (x35.seq % 6).toUInt64, 0, [], 5, [], []⟩ : Packet), (⟨true, ((0 : Nat) : Int)⟩ : Ack)⟩ : Event)] := (hO276.le (by omega : w.heap.size ≤ _))
            have ne282 : ∀ g, Value.ownBlock (Value.slice A14 m16 cp15) = some g → ¬ Value.ownBlock (Value.slice (some ⟨g273, 0, none⟩) 1 1) = some g := fun g hg e => by have h1 := hO276.ge e; have h2 := h268.lt hg; omega
            have ne283 : ¬ Value.ownBlock (Value.slice (some ⟨g273, 0, none⟩) 1 1) = some b44 := fun e => by have h1 := hO276.ge e; have h2 := h269.lt; omega
            have ne284 : ¬ Value.ownBlock (Value.slice (some ⟨g273, 0, none⟩) 1 1) = some b100 := fun e => by have h1 := hO276.ge e; have h2 := hB260.lt; omega
            have h285 : Own tEvent 60 w.heap.size s271 w272 (Value.slice A14 m16 cp15) ((la.take (k)).map convE) := (h268.step' st275)
            have h286 : Bx s271 w272 b44 [(bv x35.kind), (bv x35.channel), (bv x35.seq), (Value.bool x35.late), (Value.bool x35.ok)] 68 := (h269.step' st275)
            have h287 : Bx s271 w272 b100 [(bv ((1 : UInt8) + (x35.kind % 4))), (Value.int .i64 (((x35.channel % 2).toNat : Nat) : Int)), (uv ((x35.seq % 6).toUInt64)), (uv 0), (sv []), (uv 5), (sv []), (sv []), (Value.bool true), (Value.int .i64 ((0 : Nat) : Int))] 60 := (hB260.step' st275)
            have hz297 := hS279.size
            have hb296 : ((la.take (k)).map convE).length + ([(⟨(1 : UInt8) + (x35.kind % 4), (⟨(((x35.channel % 2).toNat : Nat) : Int), (x35.seq % 6).toUInt64, 0, [], 5, [], []⟩ : Packet), (⟨true, ((0 : Nat) : Int)⟩ : Ack)⟩ : Event)] : List _).length ≤ 1000000 := (by simp only [List.length_map, List.length_take, List.length_cons, List.length_nil] at *; omega)
            refine r_at (r_append tEvent S41 (d := 41) (x := (Operand.tmp 38)) (y := (Operand.tmp 40)) hF277 (by kernel_rfl) (by kernel_rfl) (by kernel_rfl) (by kernel_rfl) h285 hO280.rd (app_small hb296 (by decide)) (by omega) hz297 ?_)
            intro a288 s289 w290 v291 st292 hO293 hn294 hF295
            obtain ⟨A300, m303, c301, rfl, hl302⟩ := hO293.formL
            have hS304 := hS279.and st292 (fun b e => h285.ge e)
            have ne306 : ¬ Value.ownBlock (Value.slice A300 m303 c301) = some b44 := fun e => ne50 (hn294 _ h286.lt e)
            have ne307 : ¬ Value.ownBlock (Value.slice A300 m303 c301) = some b100 := fun e => ne106 (hn294 _ h287.lt e)
            refine r_runk 1 [3, 7, 8, 9] [(3, (Value.slice A300 m303 c301)), (7, (Value.slice A0 la.length c0)), (8, (Value.int .i64 ((la.length : Nat) : Int))), (9, (Value.int .i64 ((k : Nat) : Int)))] hF295 (by kernel_rfl) (by kernel_rfl) ?_
            intro a308 hF309
            refine r_end (by kernel_rfl) ?_
            refine c_reg 12 (by kernel_rfl) ?_
            refine r_one (d := 42) (v0 := (Value.int .i64 (IntKind.i64.wrap (((k : Nat) : Int) + ((1 : Nat) : Int))))) (v := (Value.int .i64 ((k + 1 : Nat) : Int))) hF309 (by kernel_rfl) (by kernel_rfl) (congrArg (Value.int .i64) (i64_eq (by omega) (by omega) (by omega))) ?_
            intro a310 hF311
            refine r_runk 1 [9, 3, 7, 8] [(9, (Value.int .i64 ((k + 1 : Nat) : Int))), (3, (Value.slice A300 m303 c301)), (7, (Value.slice A0 la.length c0)), (8, (Value.int .i64 ((la.length : Nat) : Int)))] hF311 (by kernel_rfl) (by kernel_rfl) ?_
            intro a312 hF313
            refine r_end (by kernel_rfl) ?_
            have hF314 := hF313.keep [3, 7, 8, 9] [(3, (Value.slice A300 m303 c301)), (7, (Value.slice A0 la.length c0)), (8, (Value.int .i64 ((la.length : Nat) : Int))), (9, (Value.int .i64 ((k + 1 : Nat) : Int)))] (by kernel_rfl)
            exact ⟨k + 1, ⟨s289, A300, c301, m303, hF314, hS304, (hO293.cast (by first | rfl | omega | (simp only [List.length_append, List.length_cons, List.length_nil, List.length_map] at *; omega)) (by subst hx36; exact (evs_step (by omega) (by unfold convE; simp [hc122, hc254])))), (by omega), (by omega)⟩, by omega⟩
          · skip
            refine c_skip (by kernel_rfl) ?_
            refine c_reg 11 (by kernel_rfl) ?_
            refine r_runk 1 [38, 6, 7, 8, 9] [(38, (Value.slice A14 m16 cp15)), (6, (Value.pointer (some ⟨b100, 0, none⟩))), (7, (Value.slice A0 la.length c0)), (8, (Value.int .i64 ((la.length : Nat) : Int))), (9, (Value.int .i64 ((k : Nat) : Int)))] hF253 (by kernel_rfl) (by kernel_rfl) ?_
            intro a315 hF316
            refine r_at (r_val (d := 39) (op := (Op.load 60 (Operand.tmp 6))) hF316 (by kernel_rfl) (by kernel_rfl) (Value.agg #[(bv ((1 : UInt8) + (x35.kind % 4))), (Value.int .i64 (((x35.channel % 2).toNat : Nat) : Int)), (uv ((x35.seq % 6).toUInt64)), (uv 0), (sv []), (uv 5), (sv []), (sv []), (Value.bool false), (Value.int .i64 ((0 : Nat) : Int))]) w110 (exec_load L60 (.inl rfl) (by kernel_rfl) (Bx.cells hB112 0 10 [(bv ((1 : UInt8) + (x35.kind % 4))), (Value.int .i64 (((x35.channel % 2).toNat : Nat) : Int)), (uv ((x35.seq % 6).toUInt64)), (uv 0), (sv []), (uv 5), (sv []), (sv []), (Value.bool false), (Value.int .i64 ((0 : Nat) : Int))] (by kernel_rfl))) ?_)
            intro a317 hF318
            have h319 : Own tEvent 60 w.heap.size s98 w110 (Value.slice A14 m16 cp15) ((la.take (k)).map convE) := ((h96.step' st102).step st111 (fun g hg e => ne106 (by subst e; exact hg)))
            refine r_at (r_lit tEvent (d := 40) (t := 41) (m := 1) (parts := #[(0, (Operand.tmp 39))]) hF318 (by kernel_rfl) (by kernel_rfl) s98 [(⟨(1 : UInt8) + (x35.kind % 4), (⟨(((x35.channel % 2).toNat : Nat) : Int), (x35.seq % 6).toUInt64, 0, [], 5, [], []⟩ : Packet), (⟨false, ((0 : Nat) : Int)⟩ : Ack)⟩ : Event)] [(bv ((1 : UInt8) + (x35.kind % 4))), (Value.int .i64 (((x35.channel % 2).toNat : Nat) : Int)), (uv ((x35.seq % 6).toUInt64)), (uv 0), (sv []), (uv 5), (sv []), (sv []), (Value.bool false), (Value.int .i64 ((0 : Nat) : Int))] ⟨_, _, rfl, rfl, rfl⟩ rfl (by decide) (e := 60) (fun o e => by simp only [execOp, e]; kernel_rfl) (by decide) ?_)
            intro a320 s321 w322 g323 hg324 st325 hO326 hF327
            have hz328 := hS114.size
            have hS329 := hS114.then st325
            have hO330 : Own tEvent 60 w.heap.size s321 w322 (Value.slice (some ⟨g323, 0, none⟩) 1 1) [(⟨(1 : UInt8) + (x35.kind % 4), (⟨(((x35.channel % 2).toNat : Nat) : Int), (x35.seq % 6).toUInt64, 0, [], 5, [], []⟩ : Packet), (⟨false, ((0 : Nat) : Int)⟩ : Ack)⟩ : Event)] := (hO326.le (by omega : w.heap.size ≤ _))
            have ne332 : ∀ g, Value.ownBlock (Value.slice A14 m16 cp15) = some g → ¬ Value.ownBlock (Value.slice (some ⟨g323, 0, none⟩) 1 1) = some g := fun g hg e => by have h1 := hO326.ge e; have h2 := h319.lt hg; omega
            have ne333 : ¬ Value.ownBlock (Value.slice (some ⟨g323, 0, none⟩) 1 1) = some b44 := fun e => by have h1 := hO326.ge e; have h2 := h118.lt; omega
            have ne334 : ¬ Value.ownBlock (Value.slice (some ⟨g323, 0, none⟩) 1 1) = some b100 := fun e => by have h1 := hO326.ge e; have h2 := hB112.lt; omega
            have h335 : Own tEvent 60 w.heap.size s321 w322 (Value.slice A14 m16 cp15) ((la.take (k)).map convE) := (h319.step' st325)
            have h336 : Bx s321 w322 b44 [(bv x35.kind), (bv x35.channel), (bv x35.seq), (Value.bool x35.late), (Value.bool x35.ok)] 68 := (h118.step' st325)
            have h337 : Bx s321 w322 b100 [(bv ((1 : UInt8) + (x35.kind % 4))), (Value.int .i64 (((x35.channel % 2).toNat : Nat) : Int)), (uv ((x35.seq % 6).toUInt64)), (uv 0), (sv []), (uv 5), (sv []), (sv []), (Value.bool false), (Value.int .i64 ((0 : Nat) : Int))] 60 := (hB112.step' st325)
            have hz347 := hS329.size
            have hb346 : ((la.take (k)).map convE).length + ([(⟨(1 : UInt8) + (x35.kind % 4), (⟨(((x35.channel % 2).toNat : Nat) : Int), (x35.seq % 6).toUInt64, 0, [], 5, [], []⟩ : Packet), (⟨false, ((0 : Nat) : Int)⟩ : Ack)⟩ : Event)] : List _).length ≤ 1000000 := (by simp only [List.length_map, List.length_take, List.length_cons, List.length_nil] at *; omega)
            refine r_at (r_append tEvent S41 (d := 41) (x := (Operand.tmp 38)) (y := (Operand.tmp 40)) hF327 (by kernel_rfl) (by kernel_rfl) (by kernel_rfl) (by kernel_rfl) h335 hO330.rd (app_small hb346 (by decide)) (by omega) hz347 ?_)
            intro a338 s339 w340 v341 st342 hO343 hn344 hF345
            obtain ⟨A350, m353, c351, rfl, hl352⟩ := hO343.formL
            have hS354 := hS329.and st342 (fun b e => h335.ge e)
            have ne356 : ¬ Value.ownBlock (Value.slice A350 m353 c351) = some b44 := fun e => ne50 (hn344 _ h336.lt e)
            have ne357 : ¬ Value.ownBlock (Value.slice A350 m353 c351) = some b100 := fun e => ne106 (hn344 _ h337.lt e)
            refine r_runk 1 [3, 7, 8, 9] [(3, (Value.slice A350 m353 c351)), (7, (Value.slice A0 la.length c0)), (8, (Value.int .i64 ((la.length : Nat) : Int))), (9, (Value.int .i64 ((k : Nat) : Int)))] hF345 (by kernel_rfl) (by kernel_rfl) ?_
            intro a358 hF359
            refine r_end (by kernel_rfl) ?_
            refine c_reg 12 (by kernel_rfl) ?_
            refine r_one (d := 42) (v0 := (Value.int .i64 (IntKind.i64.wrap (((k : Nat) : Int) + ((1 : Nat) : Int))))) (v := (Value.int .i64 ((k + 1 : Nat) : Int))) hF359 (by kernel_rfl) (by kernel_rfl) (congrArg (Value.int .i64) (i64_eq (by omega) (by omega) (by omega))) ?_
            intro a360 hF361
            refine r_runk 1 [9, 3, 7, 8] [(9, (Value.int .i64 ((k + 1 : Nat) : Int))), (3, (Value.slice A350 m353 c351)), (7, (Value.slice A0 la.length c0)), (8, (Value.int .i64 ((la.length : Nat) : Int)))] hF361 (by kernel_rfl) (by kernel_rfl) ?_
            intro a362 hF363
            refine r_end (by kernel_rfl) ?_
            have hF364 := hF363.keep [3, 7, 8, 9] [(3, (Value.slice A350 m353 c351)), (7, (Value.slice A0 la.length c0)), (8, (Value.int .i64 ((la.length : Nat) : Int))), (9, (Value.int .i64 ((k + 1 : Nat) : Int)))] (by kernel_rfl)
            exact ⟨k + 1, ⟨s339, A350, c351, m353, hF364, hS354, (hO343.cast (by first | rfl | omega | (simp only [List.length_append, List.length_cons, List.length_nil, List.length_map] at *; omega)) (by subst hx36; exact (evs_step (by omega) (by unfold convE; simp [hc122, hc254])))), (by omega), (by omega)⟩, by omega⟩
    · skip
      have hc23 := of_decide_eq_false hc23
      refine c_exit 0 (by kernel_rfl) ?_
      refine c_seq [1, 1, 1, 0] [1, 1, 1, 1] (by kernel_rfl) ?_
      refine c_reg 13 (by kernel_rfl) ?_
      refine r_runk 2 [2] [(2, (Value.slice A14 m16 cp15))] hF22 (by kernel_rfl) (by kernel_rfl) ?_
      intro a365 hF366
      refine r_end (by kernel_rfl) ?_
      refine c_ret (by kernel_rfl) ?_
      try dsimp only [Exit.then, Exit.inBlock]
      refine f_ret1 hF366 2 (by kernel_rfl) (Value.slice A14 m16 cp15) (by kernel_rfl) s11 hS13 ?_
      have h9 := hO19
      rw [evs_end (by omega) (by omega) (by omega)] at h9
      exact h9
end Go.Proofs.Ytaoamokfbhlaaaa.E
