/- Walks, printed by a program of this session. -/
import Derived.Test.YtaoamokfbhlaaaaK
import Derived.Test.Ytaoamokfbhlaaaapure17c
import Derived.Test.YtaoamokfbhlaaaaKn
import Derived.Test.YtaoamokfbhlaaaaKa
set_option linter.unusedVariables false
set_option linter.unusedSimpArgs false
set_option maxRecDepth 100000
namespace Go.Proofs.Ytaoamokfbhlaaaa.E
open Go Go.RowKit
open Go.Proofs
theorem keysApart_calls (σ : Nat → Nat) (w : World) (c d : UInt8) (n m : UInt64) :
    Ctr Try.prog 3 [(bv c), (bv d), (uv n), (uv m)] noM σ w (fun σ' w' v => v = .bool true) := by
  refine ctr_enter Try.func3 c3 (by kernel_rfl) 124 (by kernel_rfl) (Nat.le_of_ble_eq_true (by kernel_rfl)) [(0, (bv c)), (1, (bv d)), (2, (uv n)), (3, (uv m))] (by kernel_rfl) ?_
  intro a hF1
  have hS2 := Stp.refl noM σ w
  refine c_seq [0] [1] (by kernel_rfl) ?_
  refine c_reg 0 (by kernel_rfl) ?_
  refine r_runk 1 [0, 1, 2, 3] [(0, (bv c)), (1, (bv d)), (2, (uv n)), (3, (uv m))] hF1 (by kernel_rfl) (by kernel_rfl) ?_
  intro a3 hF4
  refine r_end (by kernel_rfl) ?_
  refine c_seq [1, 0] [1, 1] (by kernel_rfl) ?_
  refine c_seq [1, 0, 0] [1, 0, 1] (by kernel_rfl) ?_
  refine c_reg 1 (by kernel_rfl) ?_
  refine r_at (r_call (d := (some 20)) (f := 10) (args := #[]) (tys := #[]) hF4 (by kernel_rfl) (by kernel_rfl) C10 [] (by kernel_rfl) (awake17_calls σ w ) ?_)
  intro a5 s6 w7 v8 st9 hP10 hF11
  have hz12 := hS2.size
  have hS13 := hS2.then st9
  subst hP10
  refine r_runk 1 [21, 0, 1, 2, 3] [(21, (Value.bool false)), (0, (bv c)), (1, (bv d)), (2, (uv n)), (3, (uv m))] hF11 (by kernel_rfl) (by kernel_rfl) ?_
  intro a14 hF15
  refine r_end (by kernel_rfl) ?_
  refine c_cond_false [1, 0, 1, 0] [1, 0, 1, 1] 21 (by kernel_rfl) hF15 (by kernel_rfl) ?_
  refine c_skip (by kernel_rfl) ?_
  refine c_seq [1, 1, 0] [1, 1, 1] (by kernel_rfl) ?_
  refine c_reg 3 (by kernel_rfl) ?_
  refine r_at (r_makeMap (d := 22) (t := 24) hF15 (by kernel_rfl) (by kernel_rfl) s6 (sv) (Value.bool) ?_)
  intro a16 s17 w18 b19 hb20 st21 hB22 hF23
  have hz24 := hS13.size
  have hS25 := hS13.then st21
  refine r_runk 1 [9, 0, 1, 2, 3] [(9, (Value.map (some b19))), (0, (bv c)), (1, (bv d)), (2, (uv n)), (3, (uv m))] hF23 (by kernel_rfl) (by kernel_rfl) ?_
  intro a26 hF27
  refine r_end (by kernel_rfl) ?_
  refine c_seq [1, 1, 1, 0] [1, 1, 1, 1] (by kernel_rfl) ?_
  refine c_reg 4 (by kernel_rfl) ?_
  refine r_runk 1 [10, 9, 0, 1, 2, 3] [(10, (Value.int .i64 ((0 : Nat) : Int))), (9, (Value.map (some b19))), (0, (bv c)), (1, (bv d)), (2, (uv n)), (3, (uv m))] hF27 (by kernel_rfl) (by kernel_rfl) ?_
  intro a28 hF29
  refine r_end (by kernel_rfl) ?_
  refine c_seq [1, 1, 1, 1, 0] [1, 1, 1, 1, 1] (by kernel_rfl) ?_
  refine c_seq [1, 1, 1, 1, 0, 0] [1, 1, 1, 1, 0, 1] (by kernel_rfl) ?_
  refine c_reg 5 (by kernel_rfl) ?_
  refine r_runk 1 [23, 10, 9, 0, 1, 2, 3] [(23, (bv c)), (10, (Value.int .i64 ((0 : Nat) : Int))), (9, (Value.map (some b19))), (0, (bv c)), (1, (bv d)), (2, (uv n)), (3, (uv m))] hF29 (by kernel_rfl) (by kernel_rfl) ?_
  intro a30 hF31
  refine r_one (d := 24) (v0 := (Value.int .u8 (Int.tmod ((c).toNat : Int) ((10 : UInt8).toNat : Int)))) (v := (bv (c % 10))) hF31 (by kernel_rfl) (by kernel_rfl) (congrArg (Value.int .u8) (u8_rem c 10 (by decide))) ?_
  intro a32 hF33
  refine r_one (d := 25) (v0 := (Value.int .i64 (IntKind.i64.wrap ((c % 10).toNat : Int)))) (v := (Value.int .i64 (((c % 10).toNat : Nat) : Int))) hF33 (by kernel_rfl) (by kernel_rfl) (congrArg (Value.int .i64) (u8_i64 (c % 10))) ?_
  intro a34 hF35
  refine r_runk 1 [26, 25, 10, 9, 0, 1, 2, 3] [(26, (bv d)), (25, (Value.int .i64 (((c % 10).toNat : Nat) : Int))), (10, (Value.int .i64 ((0 : Nat) : Int))), (9, (Value.map (some b19))), (0, (bv c)), (1, (bv d)), (2, (uv n)), (3, (uv m))] hF35 (by kernel_rfl) (by kernel_rfl) ?_
  intro a36 hF37
  refine r_one (d := 27) (v0 := (Value.int .u8 (Int.tmod ((d).toNat : Int) ((10 : UInt8).toNat : Int)))) (v := (bv (d % 10))) hF37 (by kernel_rfl) (by kernel_rfl) (congrArg (Value.int .u8) (u8_rem d 10 (by decide))) ?_
  intro a38 hF39
  refine r_one (d := 28) (v0 := (Value.int .i64 (IntKind.i64.wrap ((d % 10).toNat : Int)))) (v := (Value.int .i64 (((d % 10).toNat : Nat) : Int))) hF39 (by kernel_rfl) (by kernel_rfl) (congrArg (Value.int .i64) (u8_i64 (d % 10))) ?_
  intro a40 hF41
  refine r_at (r_lit tI64 (d := 29) (t := 25) (m := 2) (parts := #[(0, (Operand.tmp 25)), (1, (Operand.tmp 28))]) hF41 (by kernel_rfl) (by kernel_rfl) s17 [(((c % 10).toNat : Nat) : Int), (((d % 10).toNat : Nat) : Int)] [(Value.int .i64 (((c % 10).toNat : Nat) : Int)), (Value.int .i64 (((d % 10).toNat : Nat) : Int))] ⟨_, _, rfl, rfl, ⟨_, _, rfl, rfl, rfl⟩⟩ rfl (by decide) (e := 3) (fun o e => by simp only [execOp, e]; kernel_rfl) (by decide) ?_)
  intro a42 s43 w44 g45 hg46 st47 hO48 hF49
  have hz50 := hS25.size
  have hS51 := hS25.then st47
  have hO52 : Own tI64 3 w.heap.size s43 w44 (Value.slice (some ⟨g45, 0, none⟩) 2 2) [(((c % 10).toNat : Nat) : Int), (((d % 10).toNat : Nat) : Int)] := (hO48.le (by omega : w.heap.size ≤ _))
  have ne54 : ¬ Value.ownBlock (Value.slice (some ⟨g45, 0, none⟩) 2 2) = some b19 := fun e => by have h1 := hO48.ge e; have h2 := hB22.lt; omega
  refine r_runk 2 [31, 30, 29, 10, 9, 0, 1, 2, 3] [(31, (Value.int .i64 ((0 : Nat) : Int))), (30, (Value.int .i64 ((2 : Nat) : Int))), (29, (Value.slice (some ⟨g45, 0, none⟩) 2 2)), (10, (Value.int .i64 ((0 : Nat) : Int))), (9, (Value.map (some b19))), (0, (bv c)), (1, (bv d)), (2, (uv n)), (3, (uv m))] hF49 (by kernel_rfl) (by kernel_rfl) ?_
  intro a55 hF56
  refine r_end (by kernel_rfl) ?_
  refine c_block [1, 1, 1, 1, 0, 1, 0] 0 (by kernel_rfl) ?_
  have h62 : Mp w44 b19 sv Value.bool [] := (hB22.step' st47)
  refine c_loop [1, 1, 1, 1, 0, 1, 0, 0] (by kernel_rfl) (fun (i : Nat) a57 w58 => ∃ (s59 : Nat → Nat), Fr a57 124 [(0, (bv c)), (1, (bv d)), (2, (uv n)), (3, (uv m)), (9, (Value.map (some b19))), (10, (Value.int .i64 ((12 * (i) : Nat) : Int))), (29, (Value.slice (some ⟨g45, 0, none⟩) 2 2)), (30, (Value.int .i64 ((2 : Nat) : Int))), (31, (Value.int .i64 ((i : Nat) : Int)))] ∧ Stp noM σ w s59 w58 ∧ Rd tI64 s59 w58 (Value.slice (some ⟨g45, 0, none⟩) 2 2) [(((c % 10).toNat : Nat) : Int), (((d % 10).toNat : Nat) : Int)] ∧ Mp w58 b19 sv Value.bool (putAll (outK (((c % 10).toNat : Nat) : Int) (((d % 10).toNat : Nat) : Int) n m (i))) ∧ i ≤ 2) (fun i => 2 - i) 0 ?_ ?_
  · skip
    have hF63 := hF56.set 10 (Value.int .i64 ((0 : Nat) : Int)) (Value.int .i64 ((12 * (0) : Nat) : Int)) (by kernel_rfl) (congrArg (Value.int .i64) (by omega))
    have hF64 := hF63.keep [0, 1, 2, 3, 9, 10, 29, 30, 31] [(0, (bv c)), (1, (bv d)), (2, (uv n)), (3, (uv m)), (9, (Value.map (some b19))), (10, (Value.int .i64 ((12 * (0) : Nat) : Int))), (29, (Value.slice (some ⟨g45, 0, none⟩) 2 2)), (30, (Value.int .i64 ((2 : Nat) : Int))), (31, (Value.int .i64 ((0 : Nat) : Int)))] (by kernel_rfl)
    exact ⟨s43, hF64, hS51, hO52.rd, h62, (by omega)⟩
  · rintro i a57 w58 ⟨s59, hF60, hS61, h65, h66, hi⟩
    refine c_seq [1, 1, 1, 1, 0, 1, 0, 0, 0] [1, 1, 1, 1, 0, 1, 0, 0, 1] (by kernel_rfl) ?_
    refine c_reg 6 (by kernel_rfl) ?_
    refine r_one (d := 32) (v0 := (Value.bool (decide (((i : Nat) : Int) < ((2 : Nat) : Int))))) (v := (Value.bool (decide ((i : Nat) < 2)))) hF60 (by kernel_rfl) (by kernel_rfl) (congrArg Value.bool (cmp_nat_lss _ _)) ?_
    intro a67 hF68
    refine r_end (by kernel_rfl) ?_
    refine c_seq [1, 1, 1, 1, 0, 1, 0, 0, 1, 0] [1, 1, 1, 1, 0, 1, 0, 0, 1, 1] (by kernel_rfl) ?_
    refine c_cond [1, 1, 1, 1, 0, 1, 0, 0, 1, 0, 0] [1, 1, 1, 1, 0, 1, 0, 0, 1, 0, 1] 32 (by kernel_rfl) hF68 (decide ((i : Nat) < 2)) (by kernel_rfl) (fun hc69 => ?_) (fun hc69 => ?_)
    · skip
      have hc69 := of_decide_eq_true hc69
      refine c_skip (by kernel_rfl) ?_
      refine c_seq [1, 1, 1, 1, 0, 1, 0, 0, 1, 1, 0] [1, 1, 1, 1, 0, 1, 0, 0, 1, 1, 1] (by kernel_rfl) ?_
      refine c_block [1, 1, 1, 1, 0, 1, 0, 0, 1, 1, 0, 0] 1 (by kernel_rfl) ?_
      refine c_seq [1, 1, 1, 1, 0, 1, 0, 0, 1, 1, 0, 0, 0] [1, 1, 1, 1, 0, 1, 0, 0, 1, 1, 0, 0, 1] (by kernel_rfl) ?_
      refine c_reg 7 (by kernel_rfl) ?_
      have hi76 : i < ([(((c % 10).toNat : Nat) : Int), (((d % 10).toNat : Nat) : Int)]).length := (by have hq := h65.ln; first | omega | (simp only [List.length_append, List.length_cons, List.length_nil, List.length_map] at *; omega))
      obtain ⟨b70, o71, c72, he73, hs74, hr75⟩ := (h65).at i hi76
      obtain ⟨o77, ho77⟩ : ∃ o, o = o71 + i * 1 := ⟨_, rfl⟩
      obtain ⟨x78, hx79⟩ : ∃ x, x = ([(((c % 10).toNat : Nat) : Int), (((d % 10).toNat : Nat) : Int)][i]'hi76) := ⟨_, rfl⟩
      rw [← hx79] at hr75
      have hr75 : c72 = [(Value.int .i64 (x78))] := hr75
      subst hr75
      have hs74 : Seg s59 w58 b70 o77 [(Value.int .i64 (x78))] := by rw [ho77]; exact hs74
      refine r_at (r_val (d := 33) (op := (Op.indexAddr 25 (Operand.tmp 29) (Operand.tmp 31))) hF68 (by kernel_rfl) (by kernel_rfl) (Value.pointer (some ⟨b70, o77, none⟩)) w58 (by rw [ho77]; exact exec_index (len := 2) (cap := 2) he73 (by kernel_rfl) (kd := .i64) i (by kernel_rfl) (by have := h65.ln; omega) 1 U25 L3.s) ?_)
      intro a80 hF81
      refine r_at (r_val (d := 34) (op := (Op.load 3 (Operand.tmp 33))) hF81 (by kernel_rfl) (by kernel_rfl) (Value.int .i64 (x78)) w58 (exec_load L3 (.inr rfl) (by kernel_rfl) hs74.cell) ?_)
      intro a82 hF83
      refine r_runk 1 [12, 0, 1, 2, 3, 9, 10, 29, 30, 31] [(12, (Value.int .i64 (x78))), (0, (bv c)), (1, (bv d)), (2, (uv n)), (3, (uv m)), (9, (Value.map (some b19))), (10, (Value.int .i64 ((12 * (i) : Nat) : Int))), (29, (Value.slice (some ⟨g45, 0, none⟩) 2 2)), (30, (Value.int .i64 ((2 : Nat) : Int))), (31, (Value.int .i64 ((i : Nat) : Int)))] hF83 (by kernel_rfl) (by kernel_rfl) ?_
      intro a84 hF85
      refine r_end (by kernel_rfl) ?_
      refine c_seq [1, 1, 1, 1, 0, 1, 0, 0, 1, 1, 0, 0, 1, 0] [1, 1, 1, 1, 0, 1, 0, 0, 1, 1, 0, 0, 1, 1] (by kernel_rfl) ?_
      refine c_seq [1, 1, 1, 1, 0, 1, 0, 0, 1, 1, 0, 0, 1, 0, 0] [1, 1, 1, 1, 0, 1, 0, 0, 1, 1, 0, 0, 1, 0, 1] (by kernel_rfl) ?_
      refine c_reg 8 (by kernel_rfl) ?_
      refine r_runk 2 [36, 35, 12, 0, 1, 2, 3, 9, 10, 29, 30, 31] [(36, (uv m)), (35, (uv n)), (12, (Value.int .i64 (x78))), (0, (bv c)), (1, (bv d)), (2, (uv n)), (3, (uv m)), (9, (Value.map (some b19))), (10, (Value.int .i64 ((12 * (i) : Nat) : Int))), (29, (Value.slice (some ⟨g45, 0, none⟩) 2 2)), (30, (Value.int .i64 ((2 : Nat) : Int))), (31, (Value.int .i64 ((i : Nat) : Int)))] hF85 (by kernel_rfl) (by kernel_rfl) ?_
      intro a86 hF87
      refine r_at (r_lit tU64 (d := 37) (t := 26) (m := 2) (parts := #[(0, (Operand.tmp 35)), (1, (Operand.tmp 36))]) hF87 (by kernel_rfl) (by kernel_rfl) s59 [n, m] [(uv n), (uv m)] ⟨_, _, rfl, rfl, ⟨_, _, rfl, rfl, rfl⟩⟩ rfl (by decide) (e := 22) (fun o e => by simp only [execOp, e]; kernel_rfl) (by decide) ?_)
      intro a88 s89 w90 g91 hg92 st93 hO94 hF95
      have hz96 := hS61.size
      have hS97 := hS61.then st93
      have hO98 : Own tU64 22 w.heap.size s89 w90 (Value.slice (some ⟨g91, 0, none⟩) 2 2) [n, m] := (hO94.le (by omega : w.heap.size ≤ _))
      have ne100 : ¬ Value.ownBlock (Value.slice (some ⟨g91, 0, none⟩) 2 2) = some b19 := fun e => by have h1 := hO94.ge e; have h2 := h66.lt; omega
      refine r_runk 2 [39, 38, 37, 12, 0, 1, 2, 3, 9, 10, 29, 30, 31] [(39, (Value.int .i64 ((0 : Nat) : Int))), (38, (Value.int .i64 ((2 : Nat) : Int))), (37, (Value.slice (some ⟨g91, 0, none⟩) 2 2)), (12, (Value.int .i64 (x78))), (0, (bv c)), (1, (bv d)), (2, (uv n)), (3, (uv m)), (9, (Value.map (some b19))), (10, (Value.int .i64 ((12 * (i) : Nat) : Int))), (29, (Value.slice (some ⟨g45, 0, none⟩) 2 2)), (30, (Value.int .i64 ((2 : Nat) : Int))), (31, (Value.int .i64 ((i : Nat) : Int)))] hF95 (by kernel_rfl) (by kernel_rfl) ?_
      intro a101 hF102
      refine r_end (by kernel_rfl) ?_
      refine c_block [1, 1, 1, 1, 0, 1, 0, 0, 1, 1, 0, 0, 1, 0, 1, 0] 2 (by kernel_rfl) ?_
      have h108 : Rd tI64 s89 w90 (Value.slice (some ⟨g45, 0, none⟩) 2 2) [(((c % 10).toNat : Nat) : Int), (((d % 10).toNat : Nat) : Int)] := (h65.step st93)
      have h109 : Mp w90 b19 sv Value.bool (putAll (outK (((c % 10).toNat : Nat) : Int) (((d % 10).toNat : Nat) : Int) n m (i))) := (h66.step' st93)
      refine c_loop [1, 1, 1, 1, 0, 1, 0, 0, 1, 1, 0, 0, 1, 0, 1, 0, 0] (by kernel_rfl) (fun (j : Nat) a103 w104 => ∃ (s105 : Nat → Nat), Fr a103 124 [(0, (bv c)), (1, (bv d)), (2, (uv n)), (3, (uv m)), (9, (Value.map (some b19))), (10, (Value.int .i64 ((12 * i + 4 * (j) : Nat) : Int))), (12, (Value.int .i64 (x78))), (29, (Value.slice (some ⟨g45, 0, none⟩) 2 2)), (30, (Value.int .i64 ((2 : Nat) : Int))), (31, (Value.int .i64 ((i : Nat) : Int))), (37, (Value.slice (some ⟨g91, 0, none⟩) 2 2)), (38, (Value.int .i64 ((2 : Nat) : Int))), (39, (Value.int .i64 ((j : Nat) : Int)))] ∧ Stp noM σ w s105 w104 ∧ Rd tI64 s105 w104 (Value.slice (some ⟨g45, 0, none⟩) 2 2) [(((c % 10).toNat : Nat) : Int), (((d % 10).toNat : Nat) : Int)] ∧ Rd tU64 s105 w104 (Value.slice (some ⟨g91, 0, none⟩) 2 2) [n, m] ∧ Mp w104 b19 sv Value.bool (putAll (outK (((c % 10).toNat : Nat) : Int) (((d % 10).toNat : Nat) : Int) n m (i) ++ midK x78 n m (j))) ∧ j ≤ 2) (fun j => 2 - j) 0 ?_ ?_
      · skip
        have hF110 := hF102.set 10 (Value.int .i64 ((12 * (i) : Nat) : Int)) (Value.int .i64 ((12 * i + 4 * (0) : Nat) : Int)) (by kernel_rfl) (congrArg (Value.int .i64) (by omega))
        have hF111 := hF110.keep [0, 1, 2, 3, 9, 10, 12, 29, 30, 31, 37, 38, 39] [(0, (bv c)), (1, (bv d)), (2, (uv n)), (3, (uv m)), (9, (Value.map (some b19))), (10, (Value.int .i64 ((12 * i + 4 * (0) : Nat) : Int))), (12, (Value.int .i64 (x78))), (29, (Value.slice (some ⟨g45, 0, none⟩) 2 2)), (30, (Value.int .i64 ((2 : Nat) : Int))), (31, (Value.int .i64 ((i : Nat) : Int))), (37, (Value.slice (some ⟨g91, 0, none⟩) 2 2)), (38, (Value.int .i64 ((2 : Nat) : Int))), (39, (Value.int .i64 ((0 : Nat) : Int)))] (by kernel_rfl)
        exact ⟨s89, hF111, hS97, h108, hO98.rd, (by have h9 := h109; simpa [midK] using h9), (by omega)⟩
      · rintro j a103 w104 ⟨s105, hF106, hS107, h112, h113, h114, hj⟩
        refine c_seq [1, 1, 1, 1, 0, 1, 0, 0, 1, 1, 0, 0, 1, 0, 1, 0, 0, 0] [1, 1, 1, 1, 0, 1, 0, 0, 1, 1, 0, 0, 1, 0, 1, 0, 0, 1] (by kernel_rfl) ?_
        refine c_reg 9 (by kernel_rfl) ?_
        refine r_one (d := 40) (v0 := (Value.bool (decide (((j : Nat) : Int) < ((2 : Nat) : Int))))) (v := (Value.bool (decide ((j : Nat) < 2)))) hF106 (by kernel_rfl) (by kernel_rfl) (congrArg Value.bool (cmp_nat_lss _ _)) ?_
        intro a115 hF116
        refine r_end (by kernel_rfl) ?_
        refine c_seq [1, 1, 1, 1, 0, 1, 0, 0, 1, 1, 0, 0, 1, 0, 1, 0, 0, 1, 0] [1, 1, 1, 1, 0, 1, 0, 0, 1, 1, 0, 0, 1, 0, 1, 0, 0, 1, 1] (by kernel_rfl) ?_
        refine c_cond [1, 1, 1, 1, 0, 1, 0, 0, 1, 1, 0, 0, 1, 0, 1, 0, 0, 1, 0, 0] [1, 1, 1, 1, 0, 1, 0, 0, 1, 1, 0, 0, 1, 0, 1, 0, 0, 1, 0, 1] 40 (by kernel_rfl) hF116 (decide ((j : Nat) < 2)) (by kernel_rfl) (fun hc117 => ?_) (fun hc117 => ?_)
        · skip
          have hc117 := of_decide_eq_true hc117
          refine c_skip (by kernel_rfl) ?_
          refine c_seq [1, 1, 1, 1, 0, 1, 0, 0, 1, 1, 0, 0, 1, 0, 1, 0, 0, 1, 1, 0] [1, 1, 1, 1, 0, 1, 0, 0, 1, 1, 0, 0, 1, 0, 1, 0, 0, 1, 1, 1] (by kernel_rfl) ?_
          refine c_block [1, 1, 1, 1, 0, 1, 0, 0, 1, 1, 0, 0, 1, 0, 1, 0, 0, 1, 1, 0, 0] 3 (by kernel_rfl) ?_
          refine c_seq [1, 1, 1, 1, 0, 1, 0, 0, 1, 1, 0, 0, 1, 0, 1, 0, 0, 1, 1, 0, 0, 0] [1, 1, 1, 1, 0, 1, 0, 0, 1, 1, 0, 0, 1, 0, 1, 0, 0, 1, 1, 0, 0, 1] (by kernel_rfl) ?_
          refine c_reg 10 (by kernel_rfl) ?_
          have hi124 : j < ([n, m]).length := (by have hq := h113.ln; first | omega | (simp only [List.length_append, List.length_cons, List.length_nil, List.length_map] at *; omega))
          obtain ⟨b118, o119, c120, he121, hs122, hr123⟩ := (h113).at j hi124
          obtain ⟨o125, ho125⟩ : ∃ o, o = o119 + j * 1 := ⟨_, rfl⟩
          obtain ⟨x126, hx127⟩ : ∃ x, x = ([n, m][j]'hi124) := ⟨_, rfl⟩
          rw [← hx127] at hr123
          have hr123 : c120 = [(uv x126)] := hr123
          subst hr123
          have hs122 : Seg s105 w104 b118 o125 [(uv x126)] := by rw [ho125]; exact hs122
          refine r_at (r_val (d := 41) (op := (Op.indexAddr 26 (Operand.tmp 37) (Operand.tmp 39))) hF116 (by kernel_rfl) (by kernel_rfl) (Value.pointer (some ⟨b118, o125, none⟩)) w104 (by rw [ho125]; exact exec_index (len := 2) (cap := 2) he121 (by kernel_rfl) (kd := .i64) j (by kernel_rfl) (by have := h113.ln; omega) 1 U26 L22.s) ?_)
          intro a128 hF129
          refine r_at (r_val (d := 42) (op := (Op.load 22 (Operand.tmp 41))) hF129 (by kernel_rfl) (by kernel_rfl) (uv x126) w104 (exec_load L22 (.inr rfl) (by kernel_rfl) hs122.cell) ?_)
          intro a130 hF131
          refine r_runk 1 [14, 0, 1, 2, 3, 9, 10, 12, 29, 30, 31, 37, 38, 39] [(14, (uv x126)), (0, (bv c)), (1, (bv d)), (2, (uv n)), (3, (uv m)), (9, (Value.map (some b19))), (10, (Value.int .i64 ((12 * i + 4 * (j) : Nat) : Int))), (12, (Value.int .i64 (x78))), (29, (Value.slice (some ⟨g45, 0, none⟩) 2 2)), (30, (Value.int .i64 ((2 : Nat) : Int))), (31, (Value.int .i64 ((i : Nat) : Int))), (37, (Value.slice (some ⟨g91, 0, none⟩) 2 2)), (38, (Value.int .i64 ((2 : Nat) : Int))), (39, (Value.int .i64 ((j : Nat) : Int)))] hF131 (by kernel_rfl) (by kernel_rfl) ?_
          intro a132 hF133
          refine r_end (by kernel_rfl) ?_
          refine c_seq [1, 1, 1, 1, 0, 1, 0, 0, 1, 1, 0, 0, 1, 0, 1, 0, 0, 1, 1, 0, 0, 1, 0] [1, 1, 1, 1, 0, 1, 0, 0, 1, 1, 0, 0, 1, 0, 1, 0, 0, 1, 1, 0, 0, 1, 1] (by kernel_rfl) ?_
          refine c_reg 11 (by kernel_rfl) ?_
          refine r_runk 2 [44, 43, 14, 0, 1, 2, 3, 9, 10, 12, 29, 30, 31, 37, 38, 39] [(44, (uv x126)), (43, (Value.int .i64 (x78))), (14, (uv x126)), (0, (bv c)), (1, (bv d)), (2, (uv n)), (3, (uv m)), (9, (Value.map (some b19))), (10, (Value.int .i64 ((12 * i + 4 * (j) : Nat) : Int))), (12, (Value.int .i64 (x78))), (29, (Value.slice (some ⟨g45, 0, none⟩) 2 2)), (30, (Value.int .i64 ((2 : Nat) : Int))), (31, (Value.int .i64 ((i : Nat) : Int))), (37, (Value.slice (some ⟨g91, 0, none⟩) 2 2)), (38, (Value.int .i64 ((2 : Nat) : Int))), (39, (Value.int .i64 ((j : Nat) : Int)))] hF133 (by kernel_rfl) (by kernel_rfl) ?_
          intro a134 hF135
          refine r_at (r_call (d := (some 45)) (f := 11) (args := #[(Operand.tmp 43), (Operand.tmp 44)]) (tys := #[3, 22]) hF135 (by kernel_rfl) (by kernel_rfl) C11 [(Value.int .i64 (x78)), (uv x126)] (by kernel_rfl) (commit_calls s105 w104 (x78 : Int) x126) ?_)
          intro a136 s137 w138 v139 st140 hP141 hF142
          have hz143 := hS107.size
          have hS144 := hS107.then st140
          have hP145 := hP141.rd
          obtain ⟨A146, m149, c147, rfl, hl148⟩ := hP145.formL
          have hbd150 : (ofL 99 (x78 : Int) [x126]).length ≤ 140737488355328 := Nat.le_trans (Nat.le_mul_of_pos_right _ (by decide)) hP145.bd
          refine r_runk 2 [47, 46, 45, 14, 0, 1, 2, 3, 9, 10, 12, 29, 30, 31, 37, 38, 39] [(47, (uv x126)), (46, (Value.int .i64 (x78))), (45, (Value.slice A146 m149 c147)), (14, (uv x126)), (0, (bv c)), (1, (bv d)), (2, (uv n)), (3, (uv m)), (9, (Value.map (some b19))), (10, (Value.int .i64 ((12 * i + 4 * (j) : Nat) : Int))), (12, (Value.int .i64 (x78))), (29, (Value.slice (some ⟨g45, 0, none⟩) 2 2)), (30, (Value.int .i64 ((2 : Nat) : Int))), (31, (Value.int .i64 ((i : Nat) : Int))), (37, (Value.slice (some ⟨g91, 0, none⟩) 2 2)), (38, (Value.int .i64 ((2 : Nat) : Int))), (39, (Value.int .i64 ((j : Nat) : Int)))] hF142 (by kernel_rfl) (by kernel_rfl) ?_
          intro a151 hF152
          have h153 : Mp w138 b19 sv Value.bool (putAll (outK (((c % 10).toNat : Nat) : Int) (((d % 10).toNat : Nat) : Int) n m (i) ++ midK x78 n m (j))) := (h114.step' st140)
          refine r_at (r_call (d := (some 48)) (f := 12) (args := #[(Operand.tmp 46), (Operand.tmp 47)]) (tys := #[3, 22]) hF152 (by kernel_rfl) (by kernel_rfl) C12 [(Value.int .i64 (x78)), (uv x126)] (by kernel_rfl) (answer_calls s137 w138 (x78 : Int) x126) ?_)
          intro a154 s155 w156 v157 st158 hP159 hF160
          have hz161 := hS144.size
          have hS162 := hS144.then st158
          have hP163 := hP159.rd
          obtain ⟨A164, m167, c165, rfl, hl166⟩ := hP163.formL
          have hbd168 : (ofL 97 (x78 : Int) [x126]).length ≤ 140737488355328 := Nat.le_trans (Nat.le_mul_of_pos_right _ (by decide)) hP163.bd
          refine r_runk 2 [50, 49, 48, 45, 14, 0, 1, 2, 3, 9, 10, 12, 29, 30, 31, 37, 38, 39] [(50, (uv x126)), (49, (Value.int .i64 (x78))), (48, (Value.slice A164 m167 c165)), (45, (Value.slice A146 m149 c147)), (14, (uv x126)), (0, (bv c)), (1, (bv d)), (2, (uv n)), (3, (uv m)), (9, (Value.map (some b19))), (10, (Value.int .i64 ((12 * i + 4 * (j) : Nat) : Int))), (12, (Value.int .i64 (x78))), (29, (Value.slice (some ⟨g45, 0, none⟩) 2 2)), (30, (Value.int .i64 ((2 : Nat) : Int))), (31, (Value.int .i64 ((i : Nat) : Int))), (37, (Value.slice (some ⟨g91, 0, none⟩) 2 2)), (38, (Value.int .i64 ((2 : Nat) : Int))), (39, (Value.int .i64 ((j : Nat) : Int)))] hF160 (by kernel_rfl) (by kernel_rfl) ?_
          intro a169 hF170
          have h171 : Mp w156 b19 sv Value.bool (putAll (outK (((c % 10).toNat : Nat) : Int) (((d % 10).toNat : Nat) : Int) n m (i) ++ midK x78 n m (j))) := (h153.step' st158)
          refine r_at (r_call (d := (some 51)) (f := 13) (args := #[(Operand.tmp 49), (Operand.tmp 50)]) (tys := #[3, 22]) hF170 (by kernel_rfl) (by kernel_rfl) C13 [(Value.int .i64 (x78)), (uv x126)] (by kernel_rfl) (receipt_calls s155 w156 (x78 : Int) x126) ?_)
          intro a172 s173 w174 v175 st176 hP177 hF178
          have hz179 := hS162.size
          have hS180 := hS162.then st176
          have hP181 := hP177.rd
          obtain ⟨A182, m185, c183, rfl, hl184⟩ := hP181.formL
          have hbd186 : (ofL 114 (x78 : Int) [x126]).length ≤ 140737488355328 := Nat.le_trans (Nat.le_mul_of_pos_right _ (by decide)) hP181.bd
          refine r_runk 2 [53, 52, 51, 48, 45, 0, 1, 2, 3, 9, 10, 12, 29, 30, 31, 37, 38, 39] [(53, (uv x126)), (52, (Value.int .i64 (x78))), (51, (Value.slice A182 m185 c183)), (48, (Value.slice A164 m167 c165)), (45, (Value.slice A146 m149 c147)), (0, (bv c)), (1, (bv d)), (2, (uv n)), (3, (uv m)), (9, (Value.map (some b19))), (10, (Value.int .i64 ((12 * i + 4 * (j) : Nat) : Int))), (12, (Value.int .i64 (x78))), (29, (Value.slice (some ⟨g45, 0, none⟩) 2 2)), (30, (Value.int .i64 ((2 : Nat) : Int))), (31, (Value.int .i64 ((i : Nat) : Int))), (37, (Value.slice (some ⟨g91, 0, none⟩) 2 2)), (38, (Value.int .i64 ((2 : Nat) : Int))), (39, (Value.int .i64 ((j : Nat) : Int)))] hF178 (by kernel_rfl) (by kernel_rfl) ?_
          intro a187 hF188
          have h189 : Mp w174 b19 sv Value.bool (putAll (outK (((c % 10).toNat : Nat) : Int) (((d % 10).toNat : Nat) : Int) n m (i) ++ midK x78 n m (j))) := (h171.step' st176)
          refine r_at (r_call (d := (some 54)) (f := 14) (args := #[(Operand.tmp 52), (Operand.tmp 53)]) (tys := #[3, 22]) hF188 (by kernel_rfl) (by kernel_rfl) C14 [(Value.int .i64 (x78)), (uv x126)] (by kernel_rfl) (word_calls s173 w174 (x78 : Int) x126) ?_)
          intro a190 s191 w192 v193 st194 hP195 hF196
          have hz197 := hS180.size
          have hS198 := hS180.then st194
          have hP199 := hP195.rd
          obtain ⟨A200, m203, c201, rfl, hl202⟩ := hP199.formL
          have hbd204 : (ofL 119 (x78 : Int) [x126]).length ≤ 140737488355328 := Nat.le_trans (Nat.le_mul_of_pos_right _ (by decide)) hP199.bd
          have h205 : Rd tU8 s191 w192 (Value.slice A146 m149 c147) (ofL 99 (x78 : Int) [x126]) := (((hP145.step st158).step st176).step st194)
          have h206 : Rd tU8 s191 w192 (Value.slice A164 m167 c165) (ofL 97 (x78 : Int) [x126]) := ((hP163.step st176).step st194)
          have h207 : Rd tU8 s191 w192 (Value.slice A182 m185 c183) (ofL 114 (x78 : Int) [x126]) := (hP181.step st194)
          have h208 : Mp w192 b19 sv Value.bool (putAll (outK (((c % 10).toNat : Nat) : Int) (((d % 10).toNat : Nat) : Int) n m (i) ++ midK x78 n m (j))) := (h189.step' st194)
          refine r_at (r_lit (tSl tU8) (d := 55) (t := 29) (m := 4) (parts := #[(0, (Operand.tmp 45)), (1, (Operand.tmp 48)), (2, (Operand.tmp 51)), (3, (Operand.tmp 54))]) hF196 (by kernel_rfl) (by kernel_rfl) s191 [ofL 99 (x78 : Int) [x126], ofL 97 (x78 : Int) [x126], ofL 114 (x78 : Int) [x126], ofL 119 (x78 : Int) [x126]] [(Value.slice A146 m149 c147), (Value.slice A164 m167 c165), (Value.slice A182 m185 c183), (Value.slice A200 m203 c201)] ⟨_, _, rfl, ⟨_, rfl, h205⟩, ⟨_, _, rfl, ⟨_, rfl, h206⟩, ⟨_, _, rfl, ⟨_, rfl, h207⟩, ⟨_, _, rfl, ⟨_, rfl, hP199⟩, rfl⟩⟩⟩⟩ rfl (by decide) (e := 27) (fun o e => by simp only [execOp, e]; kernel_rfl) (by decide) ?_)
          intro a209 s210 w211 g212 hg213 st214 hO215 hF216
          have hz217 := hS198.size
          have hS218 := hS198.then st214
          have hO219 : Own (tSl tU8) 27 w.heap.size s210 w211 (Value.slice (some ⟨g212, 0, none⟩) 4 4) [ofL 99 (x78 : Int) [x126], ofL 97 (x78 : Int) [x126], ofL 114 (x78 : Int) [x126], ofL 119 (x78 : Int) [x126]] := (hO215.le (by omega : w.heap.size ≤ _))
          have ne221 : ¬ Value.ownBlock (Value.slice (some ⟨g212, 0, none⟩) 4 4) = some b19 := fun e => by have h1 := hO215.ge e; have h2 := h208.lt; omega
          refine r_runk 2 [57, 56, 55, 0, 1, 2, 3, 9, 10, 12, 29, 30, 31, 37, 38, 39] [(57, (Value.int .i64 ((0 : Nat) : Int))), (56, (Value.int .i64 ((4 : Nat) : Int))), (55, (Value.slice (some ⟨g212, 0, none⟩) 4 4)), (0, (bv c)), (1, (bv d)), (2, (uv n)), (3, (uv m)), (9, (Value.map (some b19))), (10, (Value.int .i64 ((12 * i + 4 * (j) : Nat) : Int))), (12, (Value.int .i64 (x78))), (29, (Value.slice (some ⟨g45, 0, none⟩) 2 2)), (30, (Value.int .i64 ((2 : Nat) : Int))), (31, (Value.int .i64 ((i : Nat) : Int))), (37, (Value.slice (some ⟨g91, 0, none⟩) 2 2)), (38, (Value.int .i64 ((2 : Nat) : Int))), (39, (Value.int .i64 ((j : Nat) : Int)))] hF216 (by kernel_rfl) (by kernel_rfl) ?_
          intro a222 hF223
          refine r_end (by kernel_rfl) ?_
          refine c_block [1, 1, 1, 1, 0, 1, 0, 0, 1, 1, 0, 0, 1, 0, 1, 0, 0, 1, 1, 0, 0, 1, 1, 0] 4 (by kernel_rfl) ?_
          have h229 : Rd tI64 s210 w211 (Value.slice (some ⟨g45, 0, none⟩) 2 2) [(((c % 10).toNat : Nat) : Int), (((d % 10).toNat : Nat) : Int)] := (((((h112.step st140).step st158).step st176).step st194).step st214)
          have h230 : Rd tU64 s210 w211 (Value.slice (some ⟨g91, 0, none⟩) 2 2) [n, m] := (((((h113.step st140).step st158).step st176).step st194).step st214)
          have h231 : Mp w211 b19 sv Value.bool (putAll (outK (((c % 10).toNat : Nat) : Int) (((d % 10).toNat : Nat) : Int) n m (i) ++ midK x78 n m (j))) := (h208.step' st214)
          refine c_loop [1, 1, 1, 1, 0, 1, 0, 0, 1, 1, 0, 0, 1, 0, 1, 0, 0, 1, 1, 0, 0, 1, 1, 0, 0] (by kernel_rfl) (fun (q : Nat) a224 w225 => ∃ (s226 : Nat → Nat), Fr a224 124 [(0, (bv c)), (1, (bv d)), (2, (uv n)), (3, (uv m)), (9, (Value.map (some b19))), (10, (Value.int .i64 ((12 * i + 4 * j + (q) : Nat) : Int))), (12, (Value.int .i64 (x78))), (29, (Value.slice (some ⟨g45, 0, none⟩) 2 2)), (30, (Value.int .i64 ((2 : Nat) : Int))), (31, (Value.int .i64 ((i : Nat) : Int))), (37, (Value.slice (some ⟨g91, 0, none⟩) 2 2)), (38, (Value.int .i64 ((2 : Nat) : Int))), (39, (Value.int .i64 ((j : Nat) : Int))), (55, (Value.slice (some ⟨g212, 0, none⟩) 4 4)), (56, (Value.int .i64 ((4 : Nat) : Int))), (57, (Value.int .i64 ((q : Nat) : Int)))] ∧ Stp noM σ w s226 w225 ∧ Rd tI64 s226 w225 (Value.slice (some ⟨g45, 0, none⟩) 2 2) [(((c % 10).toNat : Nat) : Int), (((d % 10).toNat : Nat) : Int)] ∧ Rd tU64 s226 w225 (Value.slice (some ⟨g91, 0, none⟩) 2 2) [n, m] ∧ Rd (tSl tU8) s226 w225 (Value.slice (some ⟨g212, 0, none⟩) 4 4) [ofL 99 (x78 : Int) [x126], ofL 97 (x78 : Int) [x126], ofL 114 (x78 : Int) [x126], ofL 119 (x78 : Int) [x126]] ∧ Mp w225 b19 sv Value.bool (putAll (outK (((c % 10).toNat : Nat) : Int) (((d % 10).toNat : Nat) : Int) n m (i) ++ midK x78 n m j ++ [ofL 99 (x78 : Int) [x126], ofL 97 (x78 : Int) [x126], ofL 114 (x78 : Int) [x126], ofL 119 (x78 : Int) [x126]].take (q))) ∧ q ≤ 4) (fun q => 4 - q) 0 ?_ ?_
          · skip
            have hF232 := hF223.set 10 (Value.int .i64 ((12 * i + 4 * (j) : Nat) : Int)) (Value.int .i64 ((12 * i + 4 * j + (0) : Nat) : Int)) (by kernel_rfl) (congrArg (Value.int .i64) (by omega))
            have hF233 := hF232.keep [0, 1, 2, 3, 9, 10, 12, 29, 30, 31, 37, 38, 39, 55, 56, 57] [(0, (bv c)), (1, (bv d)), (2, (uv n)), (3, (uv m)), (9, (Value.map (some b19))), (10, (Value.int .i64 ((12 * i + 4 * j + (0) : Nat) : Int))), (12, (Value.int .i64 (x78))), (29, (Value.slice (some ⟨g45, 0, none⟩) 2 2)), (30, (Value.int .i64 ((2 : Nat) : Int))), (31, (Value.int .i64 ((i : Nat) : Int))), (37, (Value.slice (some ⟨g91, 0, none⟩) 2 2)), (38, (Value.int .i64 ((2 : Nat) : Int))), (39, (Value.int .i64 ((j : Nat) : Int))), (55, (Value.slice (some ⟨g212, 0, none⟩) 4 4)), (56, (Value.int .i64 ((4 : Nat) : Int))), (57, (Value.int .i64 ((0 : Nat) : Int)))] (by kernel_rfl)
            exact ⟨s210, hF233, hS218, h229, h230, hO219.rd, (by have h9 := h231; simpa using h9), (by omega)⟩
          · rintro q a224 w225 ⟨s226, hF227, hS228, h234, h235, h236, h237, hq⟩
            refine c_seq [1, 1, 1, 1, 0, 1, 0, 0, 1, 1, 0, 0, 1, 0, 1, 0, 0, 1, 1, 0, 0, 1, 1, 0, 0, 0] [1, 1, 1, 1, 0, 1, 0, 0, 1, 1, 0, 0, 1, 0, 1, 0, 0, 1, 1, 0, 0, 1, 1, 0, 0, 1] (by kernel_rfl) ?_
            refine c_reg 12 (by kernel_rfl) ?_
            refine r_one (d := 58) (v0 := (Value.bool (decide (((q : Nat) : Int) < ((4 : Nat) : Int))))) (v := (Value.bool (decide ((q : Nat) < 4)))) hF227 (by kernel_rfl) (by kernel_rfl) (congrArg Value.bool (cmp_nat_lss _ _)) ?_
            intro a238 hF239
            refine r_end (by kernel_rfl) ?_
            refine c_seq [1, 1, 1, 1, 0, 1, 0, 0, 1, 1, 0, 0, 1, 0, 1, 0, 0, 1, 1, 0, 0, 1, 1, 0, 0, 1, 0] [1, 1, 1, 1, 0, 1, 0, 0, 1, 1, 0, 0, 1, 0, 1, 0, 0, 1, 1, 0, 0, 1, 1, 0, 0, 1, 1] (by kernel_rfl) ?_
            refine c_cond [1, 1, 1, 1, 0, 1, 0, 0, 1, 1, 0, 0, 1, 0, 1, 0, 0, 1, 1, 0, 0, 1, 1, 0, 0, 1, 0, 0] [1, 1, 1, 1, 0, 1, 0, 0, 1, 1, 0, 0, 1, 0, 1, 0, 0, 1, 1, 0, 0, 1, 1, 0, 0, 1, 0, 1] 58 (by kernel_rfl) hF239 (decide ((q : Nat) < 4)) (by kernel_rfl) (fun hc240 => ?_) (fun hc240 => ?_)
            · skip
              have hc240 := of_decide_eq_true hc240
              refine c_skip (by kernel_rfl) ?_
              refine c_seq [1, 1, 1, 1, 0, 1, 0, 0, 1, 1, 0, 0, 1, 0, 1, 0, 0, 1, 1, 0, 0, 1, 1, 0, 0, 1, 1, 0] [1, 1, 1, 1, 0, 1, 0, 0, 1, 1, 0, 0, 1, 0, 1, 0, 0, 1, 1, 0, 0, 1, 1, 0, 0, 1, 1, 1] (by kernel_rfl) ?_
              refine c_block [1, 1, 1, 1, 0, 1, 0, 0, 1, 1, 0, 0, 1, 0, 1, 0, 0, 1, 1, 0, 0, 1, 1, 0, 0, 1, 1, 0, 0] 5 (by kernel_rfl) ?_
              refine c_seq [1, 1, 1, 1, 0, 1, 0, 0, 1, 1, 0, 0, 1, 0, 1, 0, 0, 1, 1, 0, 0, 1, 1, 0, 0, 1, 1, 0, 0, 0] [1, 1, 1, 1, 0, 1, 0, 0, 1, 1, 0, 0, 1, 0, 1, 0, 0, 1, 1, 0, 0, 1, 1, 0, 0, 1, 1, 0, 0, 1] (by kernel_rfl) ?_
              refine c_reg 13 (by kernel_rfl) ?_
              have hi247 : q < ([ofL 99 (x78 : Int) [x126], ofL 97 (x78 : Int) [x126], ofL 114 (x78 : Int) [x126], ofL 119 (x78 : Int) [x126]]).length := (by have hq := h236.ln; first | omega | (simp only [List.length_append, List.length_cons, List.length_nil, List.length_map] at *; omega))
              obtain ⟨b241, o242, c243, he244, hs245, hr246⟩ := (h236).at q hi247
              obtain ⟨o248, ho248⟩ : ∃ o, o = o242 + q * 1 := ⟨_, rfl⟩
              obtain ⟨v249, rfl, hr250⟩ := hr246
              obtain ⟨A251, m254, c252, rfl, hl253⟩ := hr250.formL
              have hbd255 : (([ofL 99 (x78 : Int) [x126], ofL 97 (x78 : Int) [x126], ofL 114 (x78 : Int) [x126], ofL 119 (x78 : Int) [x126]][q]'hi247)).length ≤ 140737488355328 := Nat.le_trans (Nat.le_mul_of_pos_right _ (by decide)) hr250.bd
              have hs245 : Seg s226 w225 b241 o248 [(Value.slice A251 m254 c252)] := by rw [ho248]; exact hs245
              refine r_at (r_val (d := 59) (op := (Op.indexAddr 29 (Operand.tmp 55) (Operand.tmp 57))) hF239 (by kernel_rfl) (by kernel_rfl) (Value.pointer (some ⟨b241, o248, none⟩)) w225 (by rw [ho248]; exact exec_index (len := 4) (cap := 4) he244 (by kernel_rfl) (kd := .i64) q (by kernel_rfl) (by have := h236.ln; omega) 1 U29 L27.s) ?_)
              intro a256 hF257
              refine r_at (r_val (d := 60) (op := (Op.load 27 (Operand.tmp 59))) hF257 (by kernel_rfl) (by kernel_rfl) (Value.slice A251 m254 c252) w225 (exec_load L27 (.inr rfl) (by kernel_rfl) hs245.cell) ?_)
              intro a258 hF259
              refine r_runk 1 [16, 0, 1, 2, 3, 9, 10, 12, 29, 30, 31, 37, 38, 39, 55, 56, 57] [(16, (Value.slice A251 m254 c252)), (0, (bv c)), (1, (bv d)), (2, (uv n)), (3, (uv m)), (9, (Value.map (some b19))), (10, (Value.int .i64 ((12 * i + 4 * j + (q) : Nat) : Int))), (12, (Value.int .i64 (x78))), (29, (Value.slice (some ⟨g45, 0, none⟩) 2 2)), (30, (Value.int .i64 ((2 : Nat) : Int))), (31, (Value.int .i64 ((i : Nat) : Int))), (37, (Value.slice (some ⟨g91, 0, none⟩) 2 2)), (38, (Value.int .i64 ((2 : Nat) : Int))), (39, (Value.int .i64 ((j : Nat) : Int))), (55, (Value.slice (some ⟨g212, 0, none⟩) 4 4)), (56, (Value.int .i64 ((4 : Nat) : Int))), (57, (Value.int .i64 ((q : Nat) : Int)))] hF259 (by kernel_rfl) (by kernel_rfl) ?_
              intro a260 hF261
              refine r_end (by kernel_rfl) ?_
              refine c_seq [1, 1, 1, 1, 0, 1, 0, 0, 1, 1, 0, 0, 1, 0, 1, 0, 0, 1, 1, 0, 0, 1, 1, 0, 0, 1, 1, 0, 0, 1, 0] [1, 1, 1, 1, 0, 1, 0, 0, 1, 1, 0, 0, 1, 0, 1, 0, 0, 1, 1, 0, 0, 1, 1, 0, 0, 1, 1, 0, 0, 1, 1] (by kernel_rfl) ?_
              refine c_reg 14 (by kernel_rfl) ?_
              refine r_runk 2 [62, 61, 0, 1, 2, 3, 9, 10, 12, 29, 30, 31, 37, 38, 39, 55, 56, 57] [(62, (Value.slice A251 m254 c252)), (61, (Value.map (some b19))), (0, (bv c)), (1, (bv d)), (2, (uv n)), (3, (uv m)), (9, (Value.map (some b19))), (10, (Value.int .i64 ((12 * i + 4 * j + (q) : Nat) : Int))), (12, (Value.int .i64 (x78))), (29, (Value.slice (some ⟨g45, 0, none⟩) 2 2)), (30, (Value.int .i64 ((2 : Nat) : Int))), (31, (Value.int .i64 ((i : Nat) : Int))), (37, (Value.slice (some ⟨g91, 0, none⟩) 2 2)), (38, (Value.int .i64 ((2 : Nat) : Int))), (39, (Value.int .i64 ((j : Nat) : Int))), (55, (Value.slice (some ⟨g212, 0, none⟩) 4 4)), (56, (Value.int .i64 ((4 : Nat) : Int))), (57, (Value.int .i64 ((q : Nat) : Int)))] hF261 (by kernel_rfl) (by kernel_rfl) ?_
              intro a262 hF263
              refine r_at (r_val (d := 63) (op := (Op.convert 27 9 (Operand.tmp 62))) hF263 (by kernel_rfl) (by kernel_rfl) (sv ([ofL 99 (x78 : Int) [x126], ofL 97 (x78 : Int) [x126], ofL 114 (x78 : Int) [x126], ofL 119 (x78 : Int) [x126]][q]'hi247)) w225 (exec_b2s U27 U5 U9 (by kernel_rfl) hr250) ?_)
              intro a264 hF265
              refine r_at (r_mapUpdate (enc := sv) (ev := Value.bool) (t := 24) (x := (Operand.tmp 61)) (y := (Operand.tmp 63)) (z := (Operand.const (Value.bool true))) hF265 (by kernel_rfl) (by kernel_rfl) (key_string U9) U24 h237 ([ofL 99 (x78 : Int) [x126], ofL 97 (x78 : Int) [x126], ofL 114 (x78 : Int) [x126], ofL 119 (x78 : Int) [x126]][q]'hi247) true (by kernel_rfl) (by kernel_rfl) (by kernel_rfl) s226 ?_)
              intro a266 w267 st268 hB269 hF270
              have hS271 := hS228.and st268 (fun b e => by subst e; omega)
              have hF272 := hF270.keep [0, 1, 2, 3, 9, 10, 12, 29, 30, 31, 37, 38, 39, 55, 56, 57] [(0, (bv c)), (1, (bv d)), (2, (uv n)), (3, (uv m)), (9, (Value.map (some b19))), (10, (Value.int .i64 ((12 * i + 4 * j + (q) : Nat) : Int))), (12, (Value.int .i64 (x78))), (29, (Value.slice (some ⟨g45, 0, none⟩) 2 2)), (30, (Value.int .i64 ((2 : Nat) : Int))), (31, (Value.int .i64 ((i : Nat) : Int))), (37, (Value.slice (some ⟨g91, 0, none⟩) 2 2)), (38, (Value.int .i64 ((2 : Nat) : Int))), (39, (Value.int .i64 ((j : Nat) : Int))), (55, (Value.slice (some ⟨g212, 0, none⟩) 4 4)), (56, (Value.int .i64 ((4 : Nat) : Int))), (57, (Value.int .i64 ((q : Nat) : Int)))] (by kernel_rfl)
              refine r_end (by kernel_rfl) ?_
              refine c_reg 15 (by kernel_rfl) ?_
              refine r_runk 1 [64, 0, 1, 2, 3, 9, 12, 29, 30, 31, 37, 38, 39, 55, 56, 57] [(64, (Value.int .i64 ((12 * i + 4 * j + (q) : Nat) : Int))), (0, (bv c)), (1, (bv d)), (2, (uv n)), (3, (uv m)), (9, (Value.map (some b19))), (12, (Value.int .i64 (x78))), (29, (Value.slice (some ⟨g45, 0, none⟩) 2 2)), (30, (Value.int .i64 ((2 : Nat) : Int))), (31, (Value.int .i64 ((i : Nat) : Int))), (37, (Value.slice (some ⟨g91, 0, none⟩) 2 2)), (38, (Value.int .i64 ((2 : Nat) : Int))), (39, (Value.int .i64 ((j : Nat) : Int))), (55, (Value.slice (some ⟨g212, 0, none⟩) 4 4)), (56, (Value.int .i64 ((4 : Nat) : Int))), (57, (Value.int .i64 ((q : Nat) : Int)))] hF272 (by kernel_rfl) (by kernel_rfl) ?_
              intro a273 hF274
              refine r_one (d := 65) (v0 := (Value.int .i64 (IntKind.i64.wrap (((12 * i + 4 * j + (q) : Nat) : Int) + ((1 : Nat) : Int))))) (v := (Value.int .i64 (((12 * i + 4 * j + (q)) + 1 : Nat) : Int))) hF274 (by kernel_rfl) (by kernel_rfl) (congrArg (Value.int .i64) (i64_eq (by omega) (by omega) (by omega))) ?_
              intro a275 hF276
              refine r_runk 1 [10, 0, 1, 2, 3, 9, 12, 29, 30, 31, 37, 38, 39, 55, 56, 57] [(10, (Value.int .i64 (((12 * i + 4 * j + (q)) + 1 : Nat) : Int))), (0, (bv c)), (1, (bv d)), (2, (uv n)), (3, (uv m)), (9, (Value.map (some b19))), (12, (Value.int .i64 (x78))), (29, (Value.slice (some ⟨g45, 0, none⟩) 2 2)), (30, (Value.int .i64 ((2 : Nat) : Int))), (31, (Value.int .i64 ((i : Nat) : Int))), (37, (Value.slice (some ⟨g91, 0, none⟩) 2 2)), (38, (Value.int .i64 ((2 : Nat) : Int))), (39, (Value.int .i64 ((j : Nat) : Int))), (55, (Value.slice (some ⟨g212, 0, none⟩) 4 4)), (56, (Value.int .i64 ((4 : Nat) : Int))), (57, (Value.int .i64 ((q : Nat) : Int)))] hF276 (by kernel_rfl) (by kernel_rfl) ?_
              intro a277 hF278
              refine r_end (by kernel_rfl) ?_
              refine c_reg 16 (by kernel_rfl) ?_
              refine r_one (d := 66) (v0 := (Value.int .i64 (IntKind.i64.wrap (((q : Nat) : Int) + ((1 : Nat) : Int))))) (v := (Value.int .i64 ((q + 1 : Nat) : Int))) hF278 (by kernel_rfl) (by kernel_rfl) (congrArg (Value.int .i64) (i64_eq (by omega) (by omega) (by omega))) ?_
              intro a279 hF280
              refine r_runk 1 [57, 10, 0, 1, 2, 3, 9, 12, 29, 30, 31, 37, 38, 39, 55, 56] [(57, (Value.int .i64 ((q + 1 : Nat) : Int))), (10, (Value.int .i64 (((12 * i + 4 * j + (q)) + 1 : Nat) : Int))), (0, (bv c)), (1, (bv d)), (2, (uv n)), (3, (uv m)), (9, (Value.map (some b19))), (12, (Value.int .i64 (x78))), (29, (Value.slice (some ⟨g45, 0, none⟩) 2 2)), (30, (Value.int .i64 ((2 : Nat) : Int))), (31, (Value.int .i64 ((i : Nat) : Int))), (37, (Value.slice (some ⟨g91, 0, none⟩) 2 2)), (38, (Value.int .i64 ((2 : Nat) : Int))), (39, (Value.int .i64 ((j : Nat) : Int))), (55, (Value.slice (some ⟨g212, 0, none⟩) 4 4)), (56, (Value.int .i64 ((4 : Nat) : Int)))] hF280 (by kernel_rfl) (by kernel_rfl) ?_
              intro a281 hF282
              refine r_end (by kernel_rfl) ?_
              have h283 : Rd tI64 s226 w267 (Value.slice (some ⟨g45, 0, none⟩) 2 2) [(((c % 10).toNat : Nat) : Int), (((d % 10).toNat : Nat) : Int)] := (h234.step st268)
              have h284 : Rd tU64 s226 w267 (Value.slice (some ⟨g91, 0, none⟩) 2 2) [n, m] := (h235.step st268)
              have h285 : Rd (tSl tU8) s226 w267 (Value.slice (some ⟨g212, 0, none⟩) 4 4) [ofL 99 (x78 : Int) [x126], ofL 97 (x78 : Int) [x126], ofL 114 (x78 : Int) [x126], ofL 119 (x78 : Int) [x126]] := (h236.step st268)
              have hF286 := hF282.set 10 (Value.int .i64 (((12 * i + 4 * j + (q)) + 1 : Nat) : Int)) (Value.int .i64 ((12 * i + 4 * j + (q + 1) : Nat) : Int)) (by kernel_rfl) (congrArg (Value.int .i64) (by omega))
              have hF287 := hF286.keep [0, 1, 2, 3, 9, 10, 12, 29, 30, 31, 37, 38, 39, 55, 56, 57] [(0, (bv c)), (1, (bv d)), (2, (uv n)), (3, (uv m)), (9, (Value.map (some b19))), (10, (Value.int .i64 ((12 * i + 4 * j + (q + 1) : Nat) : Int))), (12, (Value.int .i64 (x78))), (29, (Value.slice (some ⟨g45, 0, none⟩) 2 2)), (30, (Value.int .i64 ((2 : Nat) : Int))), (31, (Value.int .i64 ((i : Nat) : Int))), (37, (Value.slice (some ⟨g91, 0, none⟩) 2 2)), (38, (Value.int .i64 ((2 : Nat) : Int))), (39, (Value.int .i64 ((j : Nat) : Int))), (55, (Value.slice (some ⟨g212, 0, none⟩) 4 4)), (56, (Value.int .i64 ((4 : Nat) : Int))), (57, (Value.int .i64 ((q + 1 : Nat) : Int)))] (by kernel_rfl)
              exact ⟨q + 1, ⟨s226, hF287, hS271, h283, h284, h285, (by have h9 := hB269; rw [put_step (by simp; omega)] at h9; exact h9), (by omega)⟩, by omega⟩
            · skip
              have hc240 := of_decide_eq_false hc240
              refine c_exit 4 (by kernel_rfl) ?_
              refine c_reg 17 (by kernel_rfl) ?_
              refine r_one (d := 67) (v0 := (Value.int .i64 (IntKind.i64.wrap (((j : Nat) : Int) + ((1 : Nat) : Int))))) (v := (Value.int .i64 ((j + 1 : Nat) : Int))) hF239 (by kernel_rfl) (by kernel_rfl) (congrArg (Value.int .i64) (i64_eq (by omega) (by omega) (by omega))) ?_
              intro a288 hF289
              refine r_runk 1 [39, 0, 1, 2, 3, 9, 10, 12, 29, 30, 31, 37, 38] [(39, (Value.int .i64 ((j + 1 : Nat) : Int))), (0, (bv c)), (1, (bv d)), (2, (uv n)), (3, (uv m)), (9, (Value.map (some b19))), (10, (Value.int .i64 ((12 * i + 4 * j + (q) : Nat) : Int))), (12, (Value.int .i64 (x78))), (29, (Value.slice (some ⟨g45, 0, none⟩) 2 2)), (30, (Value.int .i64 ((2 : Nat) : Int))), (31, (Value.int .i64 ((i : Nat) : Int))), (37, (Value.slice (some ⟨g91, 0, none⟩) 2 2)), (38, (Value.int .i64 ((2 : Nat) : Int)))] hF289 (by kernel_rfl) (by kernel_rfl) ?_
              intro a290 hF291
              refine r_end (by kernel_rfl) ?_
              have hF292 := hF291.set 10 (Value.int .i64 ((12 * i + 4 * j + (q) : Nat) : Int)) (Value.int .i64 ((12 * i + 4 * (j + 1) : Nat) : Int)) (by kernel_rfl) (congrArg (Value.int .i64) (by omega))
              have hF293 := hF292.keep [0, 1, 2, 3, 9, 10, 12, 29, 30, 31, 37, 38, 39] [(0, (bv c)), (1, (bv d)), (2, (uv n)), (3, (uv m)), (9, (Value.map (some b19))), (10, (Value.int .i64 ((12 * i + 4 * (j + 1) : Nat) : Int))), (12, (Value.int .i64 (x78))), (29, (Value.slice (some ⟨g45, 0, none⟩) 2 2)), (30, (Value.int .i64 ((2 : Nat) : Int))), (31, (Value.int .i64 ((i : Nat) : Int))), (37, (Value.slice (some ⟨g91, 0, none⟩) 2 2)), (38, (Value.int .i64 ((2 : Nat) : Int))), (39, (Value.int .i64 ((j + 1 : Nat) : Int)))] (by kernel_rfl)
              exact ⟨j + 1, ⟨s226, hF293, hS228, h234, h235, (by have h9 := h237; have hq : q = 4 := (by omega); subst hq; subst hx127; rw [← midK_succ _ _ _ _ (by omega)]; simpa [four1, List.append_assoc] using h9), (by omega)⟩, by omega⟩
        · skip
          have hc117 := of_decide_eq_false hc117
          refine c_exit 2 (by kernel_rfl) ?_
          refine c_seq [1, 1, 1, 1, 0, 1, 0, 0, 1, 1, 0, 0, 1, 1, 0] [1, 1, 1, 1, 0, 1, 0, 0, 1, 1, 0, 0, 1, 1, 1] (by kernel_rfl) ?_
          refine c_reg 18 (by kernel_rfl) ?_
          refine r_runk 1 [68, 0, 1, 2, 3, 9, 10, 12, 29, 30, 31] [(68, (Value.int .i64 (x78))), (0, (bv c)), (1, (bv d)), (2, (uv n)), (3, (uv m)), (9, (Value.map (some b19))), (10, (Value.int .i64 ((12 * i + 4 * (j) : Nat) : Int))), (12, (Value.int .i64 (x78))), (29, (Value.slice (some ⟨g45, 0, none⟩) 2 2)), (30, (Value.int .i64 ((2 : Nat) : Int))), (31, (Value.int .i64 ((i : Nat) : Int)))] hF116 (by kernel_rfl) (by kernel_rfl) ?_
          intro a294 hF295
          refine r_at (r_call (d := (some 69)) (f := 15) (args := #[(Operand.tmp 68)]) (tys := #[3]) hF295 (by kernel_rfl) (by kernel_rfl) C15 [(Value.int .i64 (x78))] (by kernel_rfl) (sent_calls s105 w104 (x78 : Int)) ?_)
          intro a296 s297 w298 v299 st300 hP301 hF302
          have hz303 := hS107.size
          have hS304 := hS107.then st300
          have hP305 := hP301.rd
          obtain ⟨A306, m309, c307, rfl, hl308⟩ := hP305.formL
          have hbd310 : (ofL 115 (x78 : Int) []).length ≤ 140737488355328 := Nat.le_trans (Nat.le_mul_of_pos_right _ (by decide)) hP305.bd
          refine r_runk 1 [70, 69, 0, 1, 2, 3, 9, 10, 12, 29, 30, 31] [(70, (Value.int .i64 (x78))), (69, (Value.slice A306 m309 c307)), (0, (bv c)), (1, (bv d)), (2, (uv n)), (3, (uv m)), (9, (Value.map (some b19))), (10, (Value.int .i64 ((12 * i + 4 * (j) : Nat) : Int))), (12, (Value.int .i64 (x78))), (29, (Value.slice (some ⟨g45, 0, none⟩) 2 2)), (30, (Value.int .i64 ((2 : Nat) : Int))), (31, (Value.int .i64 ((i : Nat) : Int)))] hF302 (by kernel_rfl) (by kernel_rfl) ?_
          intro a311 hF312
          have h313 : Mp w298 b19 sv Value.bool (putAll (outK (((c % 10).toNat : Nat) : Int) (((d % 10).toNat : Nat) : Int) n m (i) ++ midK x78 n m (j))) := (h114.step' st300)
          refine r_at (r_call (d := (some 71)) (f := 16) (args := #[(Operand.tmp 70)]) (tys := #[3]) hF312 (by kernel_rfl) (by kernel_rfl) C16 [(Value.int .i64 (x78))] (by kernel_rfl) (got_calls s297 w298 (x78 : Int)) ?_)
          intro a314 s315 w316 v317 st318 hP319 hF320
          have hz321 := hS304.size
          have hS322 := hS304.then st318
          have hP323 := hP319.rd
          obtain ⟨A324, m327, c325, rfl, hl326⟩ := hP323.formL
          have hbd328 : (ofL 110 (x78 : Int) []).length ≤ 140737488355328 := Nat.le_trans (Nat.le_mul_of_pos_right _ (by decide)) hP323.bd
          refine r_runk 1 [72, 71, 69, 0, 1, 2, 3, 9, 10, 12, 29, 30, 31] [(72, (Value.int .i64 (x78))), (71, (Value.slice A324 m327 c325)), (69, (Value.slice A306 m309 c307)), (0, (bv c)), (1, (bv d)), (2, (uv n)), (3, (uv m)), (9, (Value.map (some b19))), (10, (Value.int .i64 ((12 * i + 4 * (j) : Nat) : Int))), (12, (Value.int .i64 (x78))), (29, (Value.slice (some ⟨g45, 0, none⟩) 2 2)), (30, (Value.int .i64 ((2 : Nat) : Int))), (31, (Value.int .i64 ((i : Nat) : Int)))] hF320 (by kernel_rfl) (by kernel_rfl) ?_
          intro a329 hF330
          have h331 : Mp w316 b19 sv Value.bool (putAll (outK (((c % 10).toNat : Nat) : Int) (((d % 10).toNat : Nat) : Int) n m (i) ++ midK x78 n m (j))) := (h313.step' st318)
          refine r_at (r_call (d := (some 73)) (f := 17) (args := #[(Operand.tmp 72)]) (tys := #[3]) hF330 (by kernel_rfl) (by kernel_rfl) C17 [(Value.int .i64 (x78))] (by kernel_rfl) (acked_calls s315 w316 (x78 : Int)) ?_)
          intro a332 s333 w334 v335 st336 hP337 hF338
          have hz339 := hS322.size
          have hS340 := hS322.then st336
          have hP341 := hP337.rd
          obtain ⟨A342, m345, c343, rfl, hl344⟩ := hP341.formL
          have hbd346 : (ofL 107 (x78 : Int) []).length ≤ 140737488355328 := Nat.le_trans (Nat.le_mul_of_pos_right _ (by decide)) hP341.bd
          refine r_runk 1 [74, 73, 71, 69, 0, 1, 2, 3, 9, 10, 29, 30, 31] [(74, (Value.int .i64 (x78))), (73, (Value.slice A342 m345 c343)), (71, (Value.slice A324 m327 c325)), (69, (Value.slice A306 m309 c307)), (0, (bv c)), (1, (bv d)), (2, (uv n)), (3, (uv m)), (9, (Value.map (some b19))), (10, (Value.int .i64 ((12 * i + 4 * (j) : Nat) : Int))), (29, (Value.slice (some ⟨g45, 0, none⟩) 2 2)), (30, (Value.int .i64 ((2 : Nat) : Int))), (31, (Value.int .i64 ((i : Nat) : Int)))] hF338 (by kernel_rfl) (by kernel_rfl) ?_
          intro a347 hF348
          have h349 : Mp w334 b19 sv Value.bool (putAll (outK (((c % 10).toNat : Nat) : Int) (((d % 10).toNat : Nat) : Int) n m (i) ++ midK x78 n m (j))) := (h331.step' st336)
          refine r_at (r_call (d := (some 75)) (f := 18) (args := #[(Operand.tmp 74)]) (tys := #[3]) hF348 (by kernel_rfl) (by kernel_rfl) C18 [(Value.int .i64 (x78))] (by kernel_rfl) (closed_calls s333 w334 (x78 : Int)) ?_)
          intro a350 s351 w352 v353 st354 hP355 hF356
          have hz357 := hS340.size
          have hS358 := hS340.then st354
          have hP359 := hP355.rd
          obtain ⟨A360, m363, c361, rfl, hl362⟩ := hP359.formL
          have hbd364 : (ofL 120 (x78 : Int) []).length ≤ 140737488355328 := Nat.le_trans (Nat.le_mul_of_pos_right _ (by decide)) hP359.bd
          have h365 : Rd tU8 s351 w352 (Value.slice A306 m309 c307) (ofL 115 (x78 : Int) []) := (((hP305.step st318).step st336).step st354)
          have h366 : Rd tU8 s351 w352 (Value.slice A324 m327 c325) (ofL 110 (x78 : Int) []) := ((hP323.step st336).step st354)
          have h367 : Rd tU8 s351 w352 (Value.slice A342 m345 c343) (ofL 107 (x78 : Int) []) := (hP341.step st354)
          have h368 : Mp w352 b19 sv Value.bool (putAll (outK (((c % 10).toNat : Nat) : Int) (((d % 10).toNat : Nat) : Int) n m (i) ++ midK x78 n m (j))) := (h349.step' st354)
          refine r_at (r_lit (tSl tU8) (d := 76) (t := 29) (m := 4) (parts := #[(0, (Operand.tmp 69)), (1, (Operand.tmp 71)), (2, (Operand.tmp 73)), (3, (Operand.tmp 75))]) hF356 (by kernel_rfl) (by kernel_rfl) s351 [ofL 115 (x78 : Int) [], ofL 110 (x78 : Int) [], ofL 107 (x78 : Int) [], ofL 120 (x78 : Int) []] [(Value.slice A306 m309 c307), (Value.slice A324 m327 c325), (Value.slice A342 m345 c343), (Value.slice A360 m363 c361)] ⟨_, _, rfl, ⟨_, rfl, h365⟩, ⟨_, _, rfl, ⟨_, rfl, h366⟩, ⟨_, _, rfl, ⟨_, rfl, h367⟩, ⟨_, _, rfl, ⟨_, rfl, hP359⟩, rfl⟩⟩⟩⟩ rfl (by decide) (e := 27) (fun o e => by simp only [execOp, e]; kernel_rfl) (by decide) ?_)
          intro a369 s370 w371 g372 hg373 st374 hO375 hF376
          have hz377 := hS358.size
          have hS378 := hS358.then st374
          have hO379 : Own (tSl tU8) 27 w.heap.size s370 w371 (Value.slice (some ⟨g372, 0, none⟩) 4 4) [ofL 115 (x78 : Int) [], ofL 110 (x78 : Int) [], ofL 107 (x78 : Int) [], ofL 120 (x78 : Int) []] := (hO375.le (by omega : w.heap.size ≤ _))
          have ne381 : ¬ Value.ownBlock (Value.slice (some ⟨g372, 0, none⟩) 4 4) = some b19 := fun e => by have h1 := hO375.ge e; have h2 := h368.lt; omega
          refine r_runk 2 [78, 77, 76, 0, 1, 2, 3, 9, 10, 29, 30, 31] [(78, (Value.int .i64 ((0 : Nat) : Int))), (77, (Value.int .i64 ((4 : Nat) : Int))), (76, (Value.slice (some ⟨g372, 0, none⟩) 4 4)), (0, (bv c)), (1, (bv d)), (2, (uv n)), (3, (uv m)), (9, (Value.map (some b19))), (10, (Value.int .i64 ((12 * i + 4 * (j) : Nat) : Int))), (29, (Value.slice (some ⟨g45, 0, none⟩) 2 2)), (30, (Value.int .i64 ((2 : Nat) : Int))), (31, (Value.int .i64 ((i : Nat) : Int)))] hF376 (by kernel_rfl) (by kernel_rfl) ?_
          intro a382 hF383
          refine r_end (by kernel_rfl) ?_
          refine c_block [1, 1, 1, 1, 0, 1, 0, 0, 1, 1, 0, 0, 1, 1, 1, 0] 6 (by kernel_rfl) ?_
          have h389 : Rd tI64 s370 w371 (Value.slice (some ⟨g45, 0, none⟩) 2 2) [(((c % 10).toNat : Nat) : Int), (((d % 10).toNat : Nat) : Int)] := (((((h112.step st300).step st318).step st336).step st354).step st374)
          have h390 : Mp w371 b19 sv Value.bool (putAll (outK (((c % 10).toNat : Nat) : Int) (((d % 10).toNat : Nat) : Int) n m (i) ++ midK x78 n m (j))) := (h368.step' st374)
          refine c_loop [1, 1, 1, 1, 0, 1, 0, 0, 1, 1, 0, 0, 1, 1, 1, 0, 0] (by kernel_rfl) (fun (q2 : Nat) a384 w385 => ∃ (s386 : Nat → Nat), Fr a384 124 [(0, (bv c)), (1, (bv d)), (2, (uv n)), (3, (uv m)), (9, (Value.map (some b19))), (10, (Value.int .i64 ((12 * i + 8 + (q2) : Nat) : Int))), (29, (Value.slice (some ⟨g45, 0, none⟩) 2 2)), (30, (Value.int .i64 ((2 : Nat) : Int))), (31, (Value.int .i64 ((i : Nat) : Int))), (76, (Value.slice (some ⟨g372, 0, none⟩) 4 4)), (77, (Value.int .i64 ((4 : Nat) : Int))), (78, (Value.int .i64 ((q2 : Nat) : Int)))] ∧ Stp noM σ w s386 w385 ∧ Rd tI64 s386 w385 (Value.slice (some ⟨g45, 0, none⟩) 2 2) [(((c % 10).toNat : Nat) : Int), (((d % 10).toNat : Nat) : Int)] ∧ Rd (tSl tU8) s386 w385 (Value.slice (some ⟨g372, 0, none⟩) 4 4) [ofL 115 (x78 : Int) [], ofL 110 (x78 : Int) [], ofL 107 (x78 : Int) [], ofL 120 (x78 : Int) []] ∧ Mp w385 b19 sv Value.bool (putAll ((outK (((c % 10).toNat : Nat) : Int) (((d % 10).toNat : Nat) : Int) n m (i) ++ midK x78 n m 2) ++ [ofL 115 (x78 : Int) [], ofL 110 (x78 : Int) [], ofL 107 (x78 : Int) [], ofL 120 (x78 : Int) []].take (q2))) ∧ q2 ≤ 4) (fun q2 => 4 - q2) 0 ?_ ?_
          · skip
            have hF391 := hF383.set 10 (Value.int .i64 ((12 * i + 4 * (j) : Nat) : Int)) (Value.int .i64 ((12 * i + 8 + (0) : Nat) : Int)) (by kernel_rfl) (congrArg (Value.int .i64) (by omega))
            have hF392 := hF391.keep [0, 1, 2, 3, 9, 10, 29, 30, 31, 76, 77, 78] [(0, (bv c)), (1, (bv d)), (2, (uv n)), (3, (uv m)), (9, (Value.map (some b19))), (10, (Value.int .i64 ((12 * i + 8 + (0) : Nat) : Int))), (29, (Value.slice (some ⟨g45, 0, none⟩) 2 2)), (30, (Value.int .i64 ((2 : Nat) : Int))), (31, (Value.int .i64 ((i : Nat) : Int))), (76, (Value.slice (some ⟨g372, 0, none⟩) 4 4)), (77, (Value.int .i64 ((4 : Nat) : Int))), (78, (Value.int .i64 ((0 : Nat) : Int)))] (by kernel_rfl)
            exact ⟨s370, hF392, hS378, h389, hO379.rd, (by have h9 := h390; have hj2 : j = 2 := (by omega); subst hj2; simpa using h9), (by omega)⟩
          · rintro q2 a384 w385 ⟨s386, hF387, hS388, h393, h394, h395, hq2⟩
            refine c_seq [1, 1, 1, 1, 0, 1, 0, 0, 1, 1, 0, 0, 1, 1, 1, 0, 0, 0] [1, 1, 1, 1, 0, 1, 0, 0, 1, 1, 0, 0, 1, 1, 1, 0, 0, 1] (by kernel_rfl) ?_
            refine c_reg 19 (by kernel_rfl) ?_
            refine r_one (d := 79) (v0 := (Value.bool (decide (((q2 : Nat) : Int) < ((4 : Nat) : Int))))) (v := (Value.bool (decide ((q2 : Nat) < 4)))) hF387 (by kernel_rfl) (by kernel_rfl) (congrArg Value.bool (cmp_nat_lss _ _)) ?_
            intro a396 hF397
            refine r_end (by kernel_rfl) ?_
            refine c_seq [1, 1, 1, 1, 0, 1, 0, 0, 1, 1, 0, 0, 1, 1, 1, 0, 0, 1, 0] [1, 1, 1, 1, 0, 1, 0, 0, 1, 1, 0, 0, 1, 1, 1, 0, 0, 1, 1] (by kernel_rfl) ?_
            refine c_cond [1, 1, 1, 1, 0, 1, 0, 0, 1, 1, 0, 0, 1, 1, 1, 0, 0, 1, 0, 0] [1, 1, 1, 1, 0, 1, 0, 0, 1, 1, 0, 0, 1, 1, 1, 0, 0, 1, 0, 1] 79 (by kernel_rfl) hF397 (decide ((q2 : Nat) < 4)) (by kernel_rfl) (fun hc398 => ?_) (fun hc398 => ?_)
            · skip
              have hc398 := of_decide_eq_true hc398
              refine c_skip (by kernel_rfl) ?_
              refine c_seq [1, 1, 1, 1, 0, 1, 0, 0, 1, 1, 0, 0, 1, 1, 1, 0, 0, 1, 1, 0] [1, 1, 1, 1, 0, 1, 0, 0, 1, 1, 0, 0, 1, 1, 1, 0, 0, 1, 1, 1] (by kernel_rfl) ?_
              refine c_block [1, 1, 1, 1, 0, 1, 0, 0, 1, 1, 0, 0, 1, 1, 1, 0, 0, 1, 1, 0, 0] 7 (by kernel_rfl) ?_
              refine c_seq [1, 1, 1, 1, 0, 1, 0, 0, 1, 1, 0, 0, 1, 1, 1, 0, 0, 1, 1, 0, 0, 0] [1, 1, 1, 1, 0, 1, 0, 0, 1, 1, 0, 0, 1, 1, 1, 0, 0, 1, 1, 0, 0, 1] (by kernel_rfl) ?_
              refine c_reg 20 (by kernel_rfl) ?_
              have hi405 : q2 < ([ofL 115 (x78 : Int) [], ofL 110 (x78 : Int) [], ofL 107 (x78 : Int) [], ofL 120 (x78 : Int) []]).length := (by have hq := h394.ln; first | omega | (simp only [List.length_append, List.length_cons, List.length_nil, List.length_map] at *; omega))
              obtain ⟨b399, o400, c401, he402, hs403, hr404⟩ := (h394).at q2 hi405
              obtain ⟨o406, ho406⟩ : ∃ o, o = o400 + q2 * 1 := ⟨_, rfl⟩
              obtain ⟨v407, rfl, hr408⟩ := hr404
              obtain ⟨A409, m412, c410, rfl, hl411⟩ := hr408.formL
              have hbd413 : (([ofL 115 (x78 : Int) [], ofL 110 (x78 : Int) [], ofL 107 (x78 : Int) [], ofL 120 (x78 : Int) []][q2]'hi405)).length ≤ 140737488355328 := Nat.le_trans (Nat.le_mul_of_pos_right _ (by decide)) hr408.bd
              have hs403 : Seg s386 w385 b399 o406 [(Value.slice A409 m412 c410)] := by rw [ho406]; exact hs403
              refine r_at (r_val (d := 80) (op := (Op.indexAddr 29 (Operand.tmp 76) (Operand.tmp 78))) hF397 (by kernel_rfl) (by kernel_rfl) (Value.pointer (some ⟨b399, o406, none⟩)) w385 (by rw [ho406]; exact exec_index (len := 4) (cap := 4) he402 (by kernel_rfl) (kd := .i64) q2 (by kernel_rfl) (by have := h394.ln; omega) 1 U29 L27.s) ?_)
              intro a414 hF415
              refine r_at (r_val (d := 81) (op := (Op.load 27 (Operand.tmp 80))) hF415 (by kernel_rfl) (by kernel_rfl) (Value.slice A409 m412 c410) w385 (exec_load L27 (.inr rfl) (by kernel_rfl) hs403.cell) ?_)
              intro a416 hF417
              refine r_runk 1 [18, 0, 1, 2, 3, 9, 10, 29, 30, 31, 76, 77, 78] [(18, (Value.slice A409 m412 c410)), (0, (bv c)), (1, (bv d)), (2, (uv n)), (3, (uv m)), (9, (Value.map (some b19))), (10, (Value.int .i64 ((12 * i + 8 + (q2) : Nat) : Int))), (29, (Value.slice (some ⟨g45, 0, none⟩) 2 2)), (30, (Value.int .i64 ((2 : Nat) : Int))), (31, (Value.int .i64 ((i : Nat) : Int))), (76, (Value.slice (some ⟨g372, 0, none⟩) 4 4)), (77, (Value.int .i64 ((4 : Nat) : Int))), (78, (Value.int .i64 ((q2 : Nat) : Int)))] hF417 (by kernel_rfl) (by kernel_rfl) ?_
              intro a418 hF419
              refine r_end (by kernel_rfl) ?_
              refine c_seq [1, 1, 1, 1, 0, 1, 0, 0, 1, 1, 0, 0, 1, 1, 1, 0, 0, 1, 1, 0, 0, 1, 0] [1, 1, 1, 1, 0, 1, 0, 0, 1, 1, 0, 0, 1, 1, 1, 0, 0, 1, 1, 0, 0, 1, 1] (by kernel_rfl) ?_
              refine c_reg 21 (by kernel_rfl) ?_
              refine r_runk 2 [83, 82, 0, 1, 2, 3, 9, 10, 29, 30, 31, 76, 77, 78] [(83, (Value.slice A409 m412 c410)), (82, (Value.map (some b19))), (0, (bv c)), (1, (bv d)), (2, (uv n)), (3, (uv m)), (9, (Value.map (some b19))), (10, (Value.int .i64 ((12 * i + 8 + (q2) : Nat) : Int))), (29, (Value.slice (some ⟨g45, 0, none⟩) 2 2)), (30, (Value.int .i64 ((2 : Nat) : Int))), (31, (Value.int .i64 ((i : Nat) : Int))), (76, (Value.slice (some ⟨g372, 0, none⟩) 4 4)), (77, (Value.int .i64 ((4 : Nat) : Int))), (78, (Value.int .i64 ((q2 : Nat) : Int)))] hF419 (by kernel_rfl) (by kernel_rfl) ?_
              intro a420 hF421
              refine r_at (r_val (d := 84) (op := (Op.convert 27 9 (Operand.tmp 83))) hF421 (by kernel_rfl) (by kernel_rfl) (sv ([ofL 115 (x78 : Int) [], ofL 110 (x78 : Int) [], ofL 107 (x78 : Int) [], ofL 120 (x78 : Int) []][q2]'hi405)) w385 (exec_b2s U27 U5 U9 (by kernel_rfl) hr408) ?_)
              intro a422 hF423
              refine r_at (r_mapUpdate (enc := sv) (ev := Value.bool) (t := 24) (x := (Operand.tmp 82)) (y := (Operand.tmp 84)) (z := (Operand.const (Value.bool true))) hF423 (by kernel_rfl) (by kernel_rfl) (key_string U9) U24 h395 ([ofL 115 (x78 : Int) [], ofL 110 (x78 : Int) [], ofL 107 (x78 : Int) [], ofL 120 (x78 : Int) []][q2]'hi405) true (by kernel_rfl) (by kernel_rfl) (by kernel_rfl) s386 ?_)
              intro a424 w425 st426 hB427 hF428
              have hS429 := hS388.and st426 (fun b e => by subst e; omega)
              have hF430 := hF428.keep [0, 1, 2, 3, 9, 10, 29, 30, 31, 76, 77, 78] [(0, (bv c)), (1, (bv d)), (2, (uv n)), (3, (uv m)), (9, (Value.map (some b19))), (10, (Value.int .i64 ((12 * i + 8 + (q2) : Nat) : Int))), (29, (Value.slice (some ⟨g45, 0, none⟩) 2 2)), (30, (Value.int .i64 ((2 : Nat) : Int))), (31, (Value.int .i64 ((i : Nat) : Int))), (76, (Value.slice (some ⟨g372, 0, none⟩) 4 4)), (77, (Value.int .i64 ((4 : Nat) : Int))), (78, (Value.int .i64 ((q2 : Nat) : Int)))] (by kernel_rfl)
              refine r_end (by kernel_rfl) ?_
              refine c_reg 22 (by kernel_rfl) ?_
              refine r_runk 1 [85, 0, 1, 2, 3, 9, 29, 30, 31, 76, 77, 78] [(85, (Value.int .i64 ((12 * i + 8 + (q2) : Nat) : Int))), (0, (bv c)), (1, (bv d)), (2, (uv n)), (3, (uv m)), (9, (Value.map (some b19))), (29, (Value.slice (some ⟨g45, 0, none⟩) 2 2)), (30, (Value.int .i64 ((2 : Nat) : Int))), (31, (Value.int .i64 ((i : Nat) : Int))), (76, (Value.slice (some ⟨g372, 0, none⟩) 4 4)), (77, (Value.int .i64 ((4 : Nat) : Int))), (78, (Value.int .i64 ((q2 : Nat) : Int)))] hF430 (by kernel_rfl) (by kernel_rfl) ?_
              intro a431 hF432
              refine r_one (d := 86) (v0 := (Value.int .i64 (IntKind.i64.wrap (((12 * i + 8 + (q2) : Nat) : Int) + ((1 : Nat) : Int))))) (v := (Value.int .i64 (((12 * i + 8 + (q2)) + 1 : Nat) : Int))) hF432 (by kernel_rfl) (by kernel_rfl) (congrArg (Value.int .i64) (i64_eq (by omega) (by omega) (by omega))) ?_
              intro a433 hF434
              refine r_runk 1 [10, 0, 1, 2, 3, 9, 29, 30, 31, 76, 77, 78] [(10, (Value.int .i64 (((12 * i + 8 + (q2)) + 1 : Nat) : Int))), (0, (bv c)), (1, (bv d)), (2, (uv n)), (3, (uv m)), (9, (Value.map (some b19))), (29, (Value.slice (some ⟨g45, 0, none⟩) 2 2)), (30, (Value.int .i64 ((2 : Nat) : Int))), (31, (Value.int .i64 ((i : Nat) : Int))), (76, (Value.slice (some ⟨g372, 0, none⟩) 4 4)), (77, (Value.int .i64 ((4 : Nat) : Int))), (78, (Value.int .i64 ((q2 : Nat) : Int)))] hF434 (by kernel_rfl) (by kernel_rfl) ?_
              intro a435 hF436
              refine r_end (by kernel_rfl) ?_
              refine c_reg 23 (by kernel_rfl) ?_
              refine r_one (d := 87) (v0 := (Value.int .i64 (IntKind.i64.wrap (((q2 : Nat) : Int) + ((1 : Nat) : Int))))) (v := (Value.int .i64 ((q2 + 1 : Nat) : Int))) hF436 (by kernel_rfl) (by kernel_rfl) (congrArg (Value.int .i64) (i64_eq (by omega) (by omega) (by omega))) ?_
              intro a437 hF438
              refine r_runk 1 [78, 10, 0, 1, 2, 3, 9, 29, 30, 31, 76, 77] [(78, (Value.int .i64 ((q2 + 1 : Nat) : Int))), (10, (Value.int .i64 (((12 * i + 8 + (q2)) + 1 : Nat) : Int))), (0, (bv c)), (1, (bv d)), (2, (uv n)), (3, (uv m)), (9, (Value.map (some b19))), (29, (Value.slice (some ⟨g45, 0, none⟩) 2 2)), (30, (Value.int .i64 ((2 : Nat) : Int))), (31, (Value.int .i64 ((i : Nat) : Int))), (76, (Value.slice (some ⟨g372, 0, none⟩) 4 4)), (77, (Value.int .i64 ((4 : Nat) : Int)))] hF438 (by kernel_rfl) (by kernel_rfl) ?_
              intro a439 hF440
              refine r_end (by kernel_rfl) ?_
              have h441 : Rd tI64 s386 w425 (Value.slice (some ⟨g45, 0, none⟩) 2 2) [(((c % 10).toNat : Nat) : Int), (((d % 10).toNat : Nat) : Int)] := (h393.step st426)
              have h442 : Rd (tSl tU8) s386 w425 (Value.slice (some ⟨g372, 0, none⟩) 4 4) [ofL 115 (x78 : Int) [], ofL 110 (x78 : Int) [], ofL 107 (x78 : Int) [], ofL 120 (x78 : Int) []] := (h394.step st426)
              have hF443 := hF440.set 10 (Value.int .i64 (((12 * i + 8 + (q2)) + 1 : Nat) : Int)) (Value.int .i64 ((12 * i + 8 + (q2 + 1) : Nat) : Int)) (by kernel_rfl) (congrArg (Value.int .i64) (by omega))
              have hF444 := hF443.keep [0, 1, 2, 3, 9, 10, 29, 30, 31, 76, 77, 78] [(0, (bv c)), (1, (bv d)), (2, (uv n)), (3, (uv m)), (9, (Value.map (some b19))), (10, (Value.int .i64 ((12 * i + 8 + (q2 + 1) : Nat) : Int))), (29, (Value.slice (some ⟨g45, 0, none⟩) 2 2)), (30, (Value.int .i64 ((2 : Nat) : Int))), (31, (Value.int .i64 ((i : Nat) : Int))), (76, (Value.slice (some ⟨g372, 0, none⟩) 4 4)), (77, (Value.int .i64 ((4 : Nat) : Int))), (78, (Value.int .i64 ((q2 + 1 : Nat) : Int)))] (by kernel_rfl)
              exact ⟨q2 + 1, ⟨s386, hF444, hS429, h441, h442, (by have h9 := hB427; rw [put_step (by simp; omega)] at h9; exact h9), (by omega)⟩, by omega⟩
            · skip
              have hc398 := of_decide_eq_false hc398
              refine c_exit 6 (by kernel_rfl) ?_
              refine c_reg 24 (by kernel_rfl) ?_
              refine r_one (d := 88) (v0 := (Value.int .i64 (IntKind.i64.wrap (((i : Nat) : Int) + ((1 : Nat) : Int))))) (v := (Value.int .i64 ((i + 1 : Nat) : Int))) hF397 (by kernel_rfl) (by kernel_rfl) (congrArg (Value.int .i64) (i64_eq (by omega) (by omega) (by omega))) ?_
              intro a445 hF446
              refine r_runk 1 [31, 0, 1, 2, 3, 9, 10, 29, 30] [(31, (Value.int .i64 ((i + 1 : Nat) : Int))), (0, (bv c)), (1, (bv d)), (2, (uv n)), (3, (uv m)), (9, (Value.map (some b19))), (10, (Value.int .i64 ((12 * i + 8 + (q2) : Nat) : Int))), (29, (Value.slice (some ⟨g45, 0, none⟩) 2 2)), (30, (Value.int .i64 ((2 : Nat) : Int)))] hF446 (by kernel_rfl) (by kernel_rfl) ?_
              intro a447 hF448
              refine r_end (by kernel_rfl) ?_
              have hF449 := hF448.set 10 (Value.int .i64 ((12 * i + 8 + (q2) : Nat) : Int)) (Value.int .i64 ((12 * (i + 1) : Nat) : Int)) (by kernel_rfl) (congrArg (Value.int .i64) (by omega))
              have hF450 := hF449.keep [0, 1, 2, 3, 9, 10, 29, 30, 31] [(0, (bv c)), (1, (bv d)), (2, (uv n)), (3, (uv m)), (9, (Value.map (some b19))), (10, (Value.int .i64 ((12 * (i + 1) : Nat) : Int))), (29, (Value.slice (some ⟨g45, 0, none⟩) 2 2)), (30, (Value.int .i64 ((2 : Nat) : Int))), (31, (Value.int .i64 ((i + 1 : Nat) : Int)))] (by kernel_rfl)
              exact ⟨i + 1, ⟨s386, hF450, hS388, h393, (by have h9 := h395; have hq : q2 = 4 := (by omega); subst hq; subst hx79; rw [← outK_succ _ _ _ _ _ (by omega)]; simpa [four0, List.append_assoc] using h9), (by omega)⟩, by omega⟩
    · skip
      have hc69 := of_decide_eq_false hc69
      refine c_exit 0 (by kernel_rfl) ?_
      refine c_seq [1, 1, 1, 1, 1, 0] [1, 1, 1, 1, 1, 1] (by kernel_rfl) ?_
      refine c_reg 25 (by kernel_rfl) ?_
      refine r_runk 1 [19, 0, 1, 2, 3, 9, 10] [(19, (Value.int .i64 ((24 : Nat) : Int))), (0, (bv c)), (1, (bv d)), (2, (uv n)), (3, (uv m)), (9, (Value.map (some b19))), (10, (Value.int .i64 ((12 * (i) : Nat) : Int)))] hF68 (by kernel_rfl) (by kernel_rfl) ?_
      intro a451 hF452
      refine r_end (by kernel_rfl) ?_
      refine c_seq [1, 1, 1, 1, 1, 1, 0] [1, 1, 1, 1, 1, 1, 1] (by kernel_rfl) ?_
      refine c_seq [1, 1, 1, 1, 1, 1, 0, 0] [1, 1, 1, 1, 1, 1, 0, 1] (by kernel_rfl) ?_
      refine c_reg 26 (by kernel_rfl) ?_
      refine r_runk 2 [90, 89, 19, 0, 1, 2, 3, 9, 10] [(90, (uv m)), (89, (uv n)), (19, (Value.int .i64 ((24 : Nat) : Int))), (0, (bv c)), (1, (bv d)), (2, (uv n)), (3, (uv m)), (9, (Value.map (some b19))), (10, (Value.int .i64 ((12 * (i) : Nat) : Int)))] hF452 (by kernel_rfl) (by kernel_rfl) ?_
      intro a453 hF454
      refine r_one (d := 91) (v0 := (Value.bool (((n).toNat : Int) == ((m).toNat : Int)))) (v := (Value.bool (decide ((n : UInt64) = m)))) hF454 (by kernel_rfl) (by kernel_rfl) (congrArg Value.bool (cmp_u64_eql _ _)) ?_
      intro a455 hF456
      have hF457 := hF456.keep [91, 19, 0, 1, 2, 3, 9, 10] [(91, (Value.bool (decide ((n : UInt64) = m)))), (19, (Value.int .i64 ((24 : Nat) : Int))), (0, (bv c)), (1, (bv d)), (2, (uv n)), (3, (uv m)), (9, (Value.map (some b19))), (10, (Value.int .i64 ((12 * (i) : Nat) : Int)))] (by kernel_rfl)
      refine r_end (by kernel_rfl) ?_
      refine c_cond [1, 1, 1, 1, 1, 1, 0, 1, 0] [1, 1, 1, 1, 1, 1, 0, 1, 1] 91 (by kernel_rfl) hF457 (decide ((n : UInt64) = m)) (by kernel_rfl) (fun hc458 => ?_) (fun hc458 => ?_)
      · skip
        have hc458 := of_decide_eq_true hc458
        refine c_reg 27 (by kernel_rfl) ?_
        refine r_runk 1 [19, 0, 1, 2, 3, 9, 10] [(19, (Value.int .i64 ((16 : Nat) : Int))), (0, (bv c)), (1, (bv d)), (2, (uv n)), (3, (uv m)), (9, (Value.map (some b19))), (10, (Value.int .i64 ((12 * (i) : Nat) : Int)))] hF457 (by kernel_rfl) (by kernel_rfl) ?_
        intro a459 hF460
        refine r_end (by kernel_rfl) ?_
        refine c_seq [1, 1, 1, 1, 1, 1, 1, 0] [1, 1, 1, 1, 1, 1, 1, 1] (by kernel_rfl) ?_
        refine c_seq [1, 1, 1, 1, 1, 1, 1, 0, 0] [1, 1, 1, 1, 1, 1, 1, 0, 1] (by kernel_rfl) ?_
        refine c_reg 28 (by kernel_rfl) ?_
        refine r_runk 1 [92, 19, 0, 1, 2, 3, 9, 10] [(92, (bv c)), (19, (Value.int .i64 ((16 : Nat) : Int))), (0, (bv c)), (1, (bv d)), (2, (uv n)), (3, (uv m)), (9, (Value.map (some b19))), (10, (Value.int .i64 ((12 * (i) : Nat) : Int)))] hF460 (by kernel_rfl) (by kernel_rfl) ?_
        intro a461 hF462
        refine r_one (d := 93) (v0 := (Value.int .u8 (Int.tmod ((c).toNat : Int) ((10 : UInt8).toNat : Int)))) (v := (bv (c % 10))) hF462 (by kernel_rfl) (by kernel_rfl) (congrArg (Value.int .u8) (u8_rem c 10 (by decide))) ?_
        intro a463 hF464
        refine r_runk 1 [94, 93, 19, 0, 2, 3, 9, 10] [(94, (bv d)), (93, (bv (c % 10))), (19, (Value.int .i64 ((16 : Nat) : Int))), (0, (bv c)), (2, (uv n)), (3, (uv m)), (9, (Value.map (some b19))), (10, (Value.int .i64 ((12 * (i) : Nat) : Int)))] hF464 (by kernel_rfl) (by kernel_rfl) ?_
        intro a465 hF466
        refine r_one (d := 95) (v0 := (Value.int .u8 (Int.tmod ((d).toNat : Int) ((10 : UInt8).toNat : Int)))) (v := (bv (d % 10))) hF466 (by kernel_rfl) (by kernel_rfl) (congrArg (Value.int .u8) (u8_rem d 10 (by decide))) ?_
        intro a467 hF468
        refine r_one (d := 96) (v0 := (Value.bool (((c % 10).toNat : Int) == ((d % 10).toNat : Int)))) (v := (Value.bool (decide ((c % 10 : UInt8) = d % 10)))) hF468 (by kernel_rfl) (by kernel_rfl) (congrArg Value.bool (cmp_u8_eql _ _)) ?_
        intro a469 hF470
        have hF471 := hF470.keep [96, 19, 0, 2, 3, 9, 10] [(96, (Value.bool (decide ((c % 10 : UInt8) = d % 10)))), (19, (Value.int .i64 ((16 : Nat) : Int))), (0, (bv c)), (2, (uv n)), (3, (uv m)), (9, (Value.map (some b19))), (10, (Value.int .i64 ((12 * (i) : Nat) : Int)))] (by kernel_rfl)
        refine r_end (by kernel_rfl) ?_
        refine c_cond [1, 1, 1, 1, 1, 1, 1, 0, 1, 0] [1, 1, 1, 1, 1, 1, 1, 0, 1, 1] 96 (by kernel_rfl) hF471 (decide ((c % 10 : UInt8) = d % 10)) (by kernel_rfl) (fun hc472 => ?_) (fun hc472 => ?_)
        · skip
          have hc472 := of_decide_eq_true hc472
          refine c_reg 29 (by kernel_rfl) ?_
          refine r_runk 3 [19, 0, 2, 3, 9, 10] [(19, (Value.int .i64 ((8 : Nat) : Int))), (0, (bv c)), (2, (uv n)), (3, (uv m)), (9, (Value.map (some b19))), (10, (Value.int .i64 ((12 * (i) : Nat) : Int)))] hF471 (by kernel_rfl) (by kernel_rfl) ?_
          intro a473 hF474
          refine r_end (by kernel_rfl) ?_
          refine c_seq [1, 1, 1, 1, 1, 1, 1, 1, 0] [1, 1, 1, 1, 1, 1, 1, 1, 1] (by kernel_rfl) ?_
          refine c_plan 30 (by kernel_rfl) (by kernel_rfl) s59 (fun b => b ≠ b19 ∧ True) [(0, true), (1, true), (2, true), (3, true), (4, true), (5, true), (6, true), (7, true), (8, true), (9, true), (10, true), (11, true), (14, true), (15, true), (16, true), (20, true), (21, true), (22, true), (12, false), (13, true), (17, false), (18, true), (19, true), (23, true), (24, true), (25, true)] [(0, 633825300114114700748351602688, 1024), (1, 1267650600228229401496703205376, 633825300114114700748351602688), (2, 2535301200456458802993406410752, 1267650600228229401496703205376), (4, 5070602400912917605986812821504, 2535301200456458802993406411264), (12, 10141204801825835211973625643008, 7605903601369376408980219232256), (4, 20282409603651670423947251286016, 2535301200456458802993406935040), (52, 40564819207303340847894502572032, 32958915605933964438914283339776), (68, 81129638414606681695789005144064, 43100120407759799650887908982784), (144, 162259276829213363391578010288128, 81129638414606681695789005144064), (256, 324518553658426726783156020576256, 162259276829213363391578010288129), (768, 649037107316853453566312041152512, 486777830487640090174734030864384), (256, 1298074214633706907132624082305024, 162259276829213363391578010288132), (3328, 2596148429267413814265248164610048, 2109370598779773724090514133745664), (4352, 5192296858534827628530496329220096, 2758407706096627177656826174898176), (256, 10384593717069655257060992658440192, 162259276829213363391578010288129), (16640, 20769187434139310514121985316880384, 10546852993898868620452570668728320), (256, 41538374868278621028243970633760768, 162259276829213363391578010288136), (102656, 83076749736557242056487941267521536, 62469821579247144905757533960929280), (131328, 166153499473114484112975882535043072, 83239009013386455419879519277809664), (270592, 332306998946228968225951765070086144, 171508055608478525104897956874551296), (256, 664613997892457936451903530140172288, 162259276829213363391578010288132), (256, 1329227995784915872903807060280344576, 162259276829213363391578010288136), (3145984, 2658455991569831745807614120560689152, 1994004252954203022719102168430804992), (4718848, 5316911983139663491615228241121378304, 2990925249792889927396957463641063424), (8388864, 10633823966279326983230456482242756608, 5317074242416492704978619819131666432), (33554431, 256, 10633823966279326983230456482242756608)] (by kernel_rfl) (by kernel_rfl) (by kernel_rfl) (by kernel_rfl) ?_
          intro w475 st476
          have hS477 := hS61.then st476
          refine p_run (d := 99) (v := (Value.int .i64 ((12 * (i) : Nat) : Int))) hF474 (by kernel_rfl) (fun _ => by kernel_rfl) (fun _ _ _ h => h) ?_
          intro a478 hF479
          refine p_run (d := 100) (v := (Value.bool (((12 * (i) : Nat) : Int) == ((24 : Nat) : Int)))) hF479 (by kernel_rfl) (fun _ => by kernel_rfl) (fun _ _ _ h => h) ?_
          intro a480 hF481
          have hF482 := hF481.set 100 (Value.bool (((12 * (i) : Nat) : Int) == ((24 : Nat) : Int))) (Value.bool true) (by kernel_rfl) (Eq.trans (congrArg Value.bool (cmp_nat_eql _ _)) (congrArg Value.bool ((decide_eq_true (by omega)) : (decide ((12 * (i) : Nat) = 24)) = true)))
          refine p_run (d := 101) (v := (Value.bool true)) hF482 (by kernel_rfl) (fun _ => by kernel_rfl) (fun _ _ _ h => h) ?_
          intro a483 hF484
          refine p_run (d := 102) (v := (Value.map (some b19))) hF484 (by kernel_rfl) (fun _ => by kernel_rfl) (fun _ _ _ h => h) ?_
          intro a485 hF486
          have h487 : Mp w475 b19 sv Value.bool (putAll (outK (((c % 10).toNat : Nat) : Int) (((d % 10).toNat : Nat) : Int) n m (i))) := (h66.step' st476)
          refine p_val (d := 103) (op := (Op.call (Call.mk (Callee.builtin Builtin.len) #[(Operand.tmp 102)] #[24]))) (v := (Value.int .i64 (((putAll (outK (((c % 10).toNat : Nat) : Int) (((d % 10).toNat : Nat) : Int) n m (i))).length : Nat) : Int))) hF486 (by kernel_rfl) (by kernel_rfl) (fun w9 ⟨s9, hw9⟩ => (exec_mlen U24 (h487.step hw9 (fun h => h.1 rfl)) (by kernel_rfl))) (fun _ _ _ h => h) ?_
          intro a488 hF489
          refine p_run (d := 104) (v := (Value.int .i64 ((8 : Nat) : Int))) hF489 (by kernel_rfl) (fun _ => by kernel_rfl) (fun _ _ _ h => h) ?_
          intro a490 hF491
          refine p_run (d := 105) (v := (Value.bool ((((putAll (outK (((c % 10).toNat : Nat) : Int) (((d % 10).toNat : Nat) : Int) n m (i))).length : Nat) : Int) == ((8 : Nat) : Int)))) hF491 (by kernel_rfl) (fun _ => by kernel_rfl) (fun _ _ _ h => h) ?_
          intro a492 hF493
          have hF494 := hF493.set 105 (Value.bool ((((putAll (outK (((c % 10).toNat : Nat) : Int) (((d % 10).toNat : Nat) : Int) n m (i))).length : Nat) : Int) == ((8 : Nat) : Int))) (Value.bool true) (by kernel_rfl) (Eq.trans (congrArg Value.bool (cmp_nat_eql _ _)) (congrArg Value.bool ((decide_eq_true (by have hi2 : i = 2 := (by omega); subst hi2; rw [count_of (c % 10) (d % 10) (mod10 c) (mod10 d)]; subst hc458; rw [hc472]; exact count8)) : (decide (((putAll (outK (((c % 10).toNat : Nat) : Int) (((d % 10).toNat : Nat) : Int) n m (i))).length : Nat) = 8)) = true)))
          refine p_run (d := 106) (v := (Value.bool true)) hF494 (by kernel_rfl) (fun _ => by kernel_rfl) (fun _ _ _ h => h) ?_
          intro a495 hF496
          have hF497 := hF496.keep [106, 0, 2, 3] [(106, (Value.bool true)), (0, (bv c)), (2, (uv n)), (3, (uv m))] (by kernel_rfl)
          refine p_run (d := 107) (v := (Value.bool true)) hF497 (by kernel_rfl) (fun _ => by kernel_rfl) (fun _ _ _ h => h) ?_
          intro a498 hF499
          refine p_run (d := 108) (v := (bv c)) hF499 (by kernel_rfl) (fun _ => by kernel_rfl) (fun _ _ _ h => h) ?_
          intro a500 hF501
          refine p_run (d := 109) (v := (Value.int .i64 (IntKind.i64.wrap ((c).toNat : Int)))) hF501 (by kernel_rfl) (fun _ => by kernel_rfl) (fun _ _ _ h => h) ?_
          intro a502 hF503
          have hF504 := hF503.set 109 (Value.int .i64 (IntKind.i64.wrap ((c).toNat : Int))) (Value.int .i64 (((c).toNat : Nat) : Int)) (by kernel_rfl) (congrArg (Value.int .i64) (u8_i64 c))
          refine p_run (d := 110) (v := (uv n)) hF504 (by kernel_rfl) (fun _ => by kernel_rfl) (fun _ _ _ h => h) ?_
          intro a505 hF506
          refine p_run (d := 113) (v := (bv c)) hF506 (by kernel_rfl) (fun _ => by kernel_rfl) (fun _ _ _ h => h) ?_
          intro a507 hF508
          refine p_run (d := 114) (v := (Value.int .i64 (IntKind.i64.wrap ((c).toNat : Int)))) hF508 (by kernel_rfl) (fun _ => by kernel_rfl) (fun _ _ _ h => h) ?_
          intro a509 hF510
          have hF511 := hF510.set 114 (Value.int .i64 (IntKind.i64.wrap ((c).toNat : Int))) (Value.int .i64 (((c).toNat : Nat) : Int)) (by kernel_rfl) (congrArg (Value.int .i64) (u8_i64 c))
          refine p_run (d := 115) (v := (uv m)) hF511 (by kernel_rfl) (fun _ => by kernel_rfl) (fun _ _ _ h => h) ?_
          intro a512 hF513
          refine p_run (d := 119) (v := (uv n)) hF513 (by kernel_rfl) (fun _ => by kernel_rfl) (fun _ _ _ h => h) ?_
          intro a514 hF515
          refine p_run (d := 120) (v := (uv m)) hF515 (by kernel_rfl) (fun _ => by kernel_rfl) (fun _ _ _ h => h) ?_
          intro a516 hF517
          refine p_run (d := 121) (v := (Value.bool (decide (((n).toNat : Int) < ((m).toNat : Int))))) hF517 (by kernel_rfl) (fun _ => by kernel_rfl) (fun _ _ _ h => h) ?_
          intro a518 hF519
          have hF520 := hF519.set 121 (Value.bool (decide (((n).toNat : Int) < ((m).toNat : Int)))) (Value.bool (decide ((n : UInt64) < m))) (by kernel_rfl) (congrArg Value.bool (cmp_u64_lss _ _))
          have hF521 := hF520.keep [121, 115, 114, 110, 109, 107] [(121, (Value.bool (decide ((n : UInt64) < m)))), (115, (uv m)), (114, (Value.int .i64 (((c).toNat : Nat) : Int))), (110, (uv n)), (109, (Value.int .i64 (((c).toNat : Nat) : Int))), (107, (Value.bool true))] (by kernel_rfl)
          refine p_do (r_call (d := (some 111)) (f := 11) (args := #[(Operand.tmp 109), (Operand.tmp 110)]) (tys := #[3, 22]) hF521 (by kernel_rfl) (by kernel_rfl) C11 [(Value.int .i64 (((c).toNat : Nat) : Int)), (uv n)] (by kernel_rfl) (commit_calls s59 w475 (((c).toNat : Nat) : Int) n) ?_)
          intro a522 s523 w524 v525 st526 hP527 hF528
          have hz529 := hS477.size
          have hS530 := hS477.then st526
          refine ⟨s523, st526.mono (fun b _ e => (fun _ e => e.elim) b e), ?_⟩
          have hP531 := hP527.rd
          obtain ⟨A532, m535, c533, rfl, hl534⟩ := hP531.formL
          have hbd536 : (ofL 99 (((c).toNat : Nat) : Int) [n]).length ≤ 140737488355328 := Nat.le_trans (Nat.le_mul_of_pos_right _ (by decide)) hP531.bd
          refine p_val (d := 112) (op := (Op.convert 27 9 (Operand.tmp 111))) (v := (sv (ofL 99 (((c).toNat : Nat) : Int) [n]))) hF528 (by kernel_rfl) (by kernel_rfl) (fun w9 ⟨s9, hw9⟩ => (exec_b2s U27 U5 U9 (by kernel_rfl) (hP531.step hw9))) (fun _ _ _ h => h) ?_
          intro a537 hF538
          have h539 : Mp w524 b19 sv Value.bool (putAll (outK (((c % 10).toNat : Nat) : Int) (((d % 10).toNat : Nat) : Int) n m (i))) := (h487.step' st526)
          refine p_do (r_call (d := (some 116)) (f := 11) (args := #[(Operand.tmp 114), (Operand.tmp 115)]) (tys := #[3, 22]) hF538 (by kernel_rfl) (by kernel_rfl) C11 [(Value.int .i64 (((c).toNat : Nat) : Int)), (uv m)] (by kernel_rfl) (commit_calls s523 w524 (((c).toNat : Nat) : Int) m) ?_)
          intro a540 s541 w542 v543 st544 hP545 hF546
          have hz547 := hS530.size
          have hS548 := hS530.then st544
          refine ⟨s541, st544.mono (fun b _ e => (fun _ e => e.elim) b e), ?_⟩
          have hP549 := hP545.rd
          obtain ⟨A550, m553, c551, rfl, hl552⟩ := hP549.formL
          have hbd554 : (ofL 99 (((c).toNat : Nat) : Int) [m]).length ≤ 140737488355328 := Nat.le_trans (Nat.le_mul_of_pos_right _ (by decide)) hP549.bd
          refine p_val (d := 117) (op := (Op.convert 27 9 (Operand.tmp 116))) (v := (sv (ofL 99 (((c).toNat : Nat) : Int) [m]))) hF546 (by kernel_rfl) (by kernel_rfl) (fun w9 ⟨s9, hw9⟩ => (exec_b2s U27 U5 U9 (by kernel_rfl) (hP549.step hw9))) (fun _ _ _ h => h) ?_
          intro a555 hF556
          refine p_run (d := 118) (v := (Value.bool (Op.bytesLess (⟨(ofL 99 (((c).toNat : Nat) : Int) [n]).toArray⟩ : ByteArray).toList (⟨(ofL 99 (((c).toNat : Nat) : Int) [m]).toArray⟩ : ByteArray).toList))) hF556 (by kernel_rfl) (fun _ => by kernel_rfl) (fun _ _ _ h => h) ?_
          intro a557 hF558
          have hF559 := hF558.set 118 (Value.bool (Op.bytesLess (⟨(ofL 99 (((c).toNat : Nat) : Int) [n]).toArray⟩ : ByteArray).toList (⟨(ofL 99 (((c).toNat : Nat) : Int) [m]).toArray⟩ : ByteArray).toList)) (Value.bool (Op.bytesLess (ofL 99 (((c).toNat : Nat) : Int) [n]) (ofL 99 (((c).toNat : Nat) : Int) [m]))) (by kernel_rfl) (congrArg Value.bool (str_lss _ _))
          refine p_run (d := 122) (v := (Value.bool ((Op.bytesLess (ofL 99 (((c).toNat : Nat) : Int) [n]) (ofL 99 (((c).toNat : Nat) : Int) [m])) == (decide ((n : UInt64) < m))))) hF559 (by kernel_rfl) (fun _ => by kernel_rfl) (fun _ _ _ h => h) ?_
          intro a560 hF561
          have hF562 := hF561.set 122 (Value.bool ((Op.bytesLess (ofL 99 (((c).toNat : Nat) : Int) [n]) (ofL 99 (((c).toNat : Nat) : Int) [m])) == (decide ((n : UInt64) < m)))) (Value.bool true) (by kernel_rfl) (congrArg Value.bool (by rw [less_key]; simp))
          refine p_run (d := 123) (v := (Value.bool true)) hF562 (by kernel_rfl) (fun _ => by kernel_rfl) (fun _ _ _ h => h) ?_
          intro a563 hF564
          refine p_run (d := 8) (v := (Value.bool true)) hF564 (by kernel_rfl) (fun _ => by kernel_rfl) (fun _ _ _ h => h) ?_
          intro a565 hF566
          have hF567 := hF566.keep [8] [(8, (Value.bool true))] (by kernel_rfl)
          refine p_end ?_
          refine c_ret (by kernel_rfl) ?_
          try dsimp only [Exit.then, Exit.inBlock]
          refine f_ret1 hF567 8 (by kernel_rfl) (Value.bool true) (by kernel_rfl) s541 hS548 ?_
          exact rfl
        · skip
          have hc472 := of_decide_eq_false hc472
          refine c_skip (by kernel_rfl) ?_
          refine c_seq [1, 1, 1, 1, 1, 1, 1, 1, 0] [1, 1, 1, 1, 1, 1, 1, 1, 1] (by kernel_rfl) ?_
          refine c_plan 30 (by kernel_rfl) (by kernel_rfl) s59 (fun b => b ≠ b19 ∧ True) [(0, true), (1, true), (2, true), (3, true), (4, true), (5, true), (6, true), (7, true), (8, true), (9, true), (10, true), (11, true), (14, true), (15, true), (16, true), (20, true), (21, true), (22, true), (12, false), (13, true), (17, false), (18, true), (19, true), (23, true), (24, true), (25, true)] [(0, 633825300114114700748351602688, 1024), (1, 1267650600228229401496703205376, 633825300114114700748351602688), (2, 2535301200456458802993406410752, 1267650600228229401496703205376), (4, 5070602400912917605986812821504, 2535301200456458802993406411264), (12, 10141204801825835211973625643008, 7605903601369376408980219232256), (4, 20282409603651670423947251286016, 2535301200456458802993406935040), (52, 40564819207303340847894502572032, 32958915605933964438914283339776), (68, 81129638414606681695789005144064, 43100120407759799650887908982784), (144, 162259276829213363391578010288128, 81129638414606681695789005144064), (256, 324518553658426726783156020576256, 162259276829213363391578010288129), (768, 649037107316853453566312041152512, 486777830487640090174734030864384), (256, 1298074214633706907132624082305024, 162259276829213363391578010288132), (3328, 2596148429267413814265248164610048, 2109370598779773724090514133745664), (4352, 5192296858534827628530496329220096, 2758407706096627177656826174898176), (256, 10384593717069655257060992658440192, 162259276829213363391578010288129), (16640, 20769187434139310514121985316880384, 10546852993898868620452570668728320), (256, 41538374868278621028243970633760768, 162259276829213363391578010288136), (102656, 83076749736557242056487941267521536, 62469821579247144905757533960929280), (131328, 166153499473114484112975882535043072, 83239009013386455419879519277809664), (270592, 332306998946228968225951765070086144, 171508055608478525104897956874551296), (256, 664613997892457936451903530140172288, 162259276829213363391578010288132), (256, 1329227995784915872903807060280344576, 162259276829213363391578010288136), (3145984, 2658455991569831745807614120560689152, 1994004252954203022719102168430804992), (4718848, 5316911983139663491615228241121378304, 2990925249792889927396957463641063424), (8388864, 10633823966279326983230456482242756608, 5317074242416492704978619819131666432), (33554431, 256, 10633823966279326983230456482242756608)] (by kernel_rfl) (by kernel_rfl) (by kernel_rfl) (by kernel_rfl) ?_
          intro w568 st569
          have hS570 := hS61.then st569
          refine p_run (d := 99) (v := (Value.int .i64 ((12 * (i) : Nat) : Int))) hF471 (by kernel_rfl) (fun _ => by kernel_rfl) (fun _ _ _ h => h) ?_
          intro a571 hF572
          refine p_run (d := 100) (v := (Value.bool (((12 * (i) : Nat) : Int) == ((24 : Nat) : Int)))) hF572 (by kernel_rfl) (fun _ => by kernel_rfl) (fun _ _ _ h => h) ?_
          intro a573 hF574
          have hF575 := hF574.set 100 (Value.bool (((12 * (i) : Nat) : Int) == ((24 : Nat) : Int))) (Value.bool true) (by kernel_rfl) (Eq.trans (congrArg Value.bool (cmp_nat_eql _ _)) (congrArg Value.bool ((decide_eq_true (by omega)) : (decide ((12 * (i) : Nat) = 24)) = true)))
          refine p_run (d := 101) (v := (Value.bool true)) hF575 (by kernel_rfl) (fun _ => by kernel_rfl) (fun _ _ _ h => h) ?_
          intro a576 hF577
          refine p_run (d := 102) (v := (Value.map (some b19))) hF577 (by kernel_rfl) (fun _ => by kernel_rfl) (fun _ _ _ h => h) ?_
          intro a578 hF579
          have h580 : Mp w568 b19 sv Value.bool (putAll (outK (((c % 10).toNat : Nat) : Int) (((d % 10).toNat : Nat) : Int) n m (i))) := (h66.step' st569)
          refine p_val (d := 103) (op := (Op.call (Call.mk (Callee.builtin Builtin.len) #[(Operand.tmp 102)] #[24]))) (v := (Value.int .i64 (((putAll (outK (((c % 10).toNat : Nat) : Int) (((d % 10).toNat : Nat) : Int) n m (i))).length : Nat) : Int))) hF579 (by kernel_rfl) (by kernel_rfl) (fun w9 ⟨s9, hw9⟩ => (exec_mlen U24 (h580.step hw9 (fun h => h.1 rfl)) (by kernel_rfl))) (fun _ _ _ h => h) ?_
          intro a581 hF582
          refine p_run (d := 104) (v := (Value.int .i64 ((16 : Nat) : Int))) hF582 (by kernel_rfl) (fun _ => by kernel_rfl) (fun _ _ _ h => h) ?_
          intro a583 hF584
          refine p_run (d := 105) (v := (Value.bool ((((putAll (outK (((c % 10).toNat : Nat) : Int) (((d % 10).toNat : Nat) : Int) n m (i))).length : Nat) : Int) == ((16 : Nat) : Int)))) hF584 (by kernel_rfl) (fun _ => by kernel_rfl) (fun _ _ _ h => h) ?_
          intro a585 hF586
          have hF587 := hF586.set 105 (Value.bool ((((putAll (outK (((c % 10).toNat : Nat) : Int) (((d % 10).toNat : Nat) : Int) n m (i))).length : Nat) : Int) == ((16 : Nat) : Int))) (Value.bool true) (by kernel_rfl) (Eq.trans (congrArg Value.bool (cmp_nat_eql _ _)) (congrArg Value.bool ((decide_eq_true (by have hi2 : i = 2 := (by omega); subst hi2; rw [count_of (c % 10) (d % 10) (mod10 c) (mod10 d)]; subst hc458; exact count16 hc472)) : (decide (((putAll (outK (((c % 10).toNat : Nat) : Int) (((d % 10).toNat : Nat) : Int) n m (i))).length : Nat) = 16)) = true)))
          have hF588 := hF587.keep [105, 101, 0, 2, 3] [(105, (Value.bool true)), (101, (Value.bool true)), (0, (bv c)), (2, (uv n)), (3, (uv m))] (by kernel_rfl)
          refine p_run (d := 106) (v := (Value.bool true)) hF588 (by kernel_rfl) (fun _ => by kernel_rfl) (fun _ _ _ h => h) ?_
          intro a589 hF590
          refine p_run (d := 107) (v := (Value.bool true)) hF590 (by kernel_rfl) (fun _ => by kernel_rfl) (fun _ _ _ h => h) ?_
          intro a591 hF592
          refine p_run (d := 108) (v := (bv c)) hF592 (by kernel_rfl) (fun _ => by kernel_rfl) (fun _ _ _ h => h) ?_
          intro a593 hF594
          refine p_run (d := 109) (v := (Value.int .i64 (IntKind.i64.wrap ((c).toNat : Int)))) hF594 (by kernel_rfl) (fun _ => by kernel_rfl) (fun _ _ _ h => h) ?_
          intro a595 hF596
          have hF597 := hF596.set 109 (Value.int .i64 (IntKind.i64.wrap ((c).toNat : Int))) (Value.int .i64 (((c).toNat : Nat) : Int)) (by kernel_rfl) (congrArg (Value.int .i64) (u8_i64 c))
          refine p_run (d := 110) (v := (uv n)) hF597 (by kernel_rfl) (fun _ => by kernel_rfl) (fun _ _ _ h => h) ?_
          intro a598 hF599
          refine p_run (d := 113) (v := (bv c)) hF599 (by kernel_rfl) (fun _ => by kernel_rfl) (fun _ _ _ h => h) ?_
          intro a600 hF601
          refine p_run (d := 114) (v := (Value.int .i64 (IntKind.i64.wrap ((c).toNat : Int)))) hF601 (by kernel_rfl) (fun _ => by kernel_rfl) (fun _ _ _ h => h) ?_
          intro a602 hF603
          have hF604 := hF603.set 114 (Value.int .i64 (IntKind.i64.wrap ((c).toNat : Int))) (Value.int .i64 (((c).toNat : Nat) : Int)) (by kernel_rfl) (congrArg (Value.int .i64) (u8_i64 c))
          refine p_run (d := 115) (v := (uv m)) hF604 (by kernel_rfl) (fun _ => by kernel_rfl) (fun _ _ _ h => h) ?_
          intro a605 hF606
          refine p_run (d := 119) (v := (uv n)) hF606 (by kernel_rfl) (fun _ => by kernel_rfl) (fun _ _ _ h => h) ?_
          intro a607 hF608
          have hF609 := hF608.keep [119, 115, 114, 110, 109, 107, 3] [(119, (uv n)), (115, (uv m)), (114, (Value.int .i64 (((c).toNat : Nat) : Int))), (110, (uv n)), (109, (Value.int .i64 (((c).toNat : Nat) : Int))), (107, (Value.bool true)), (3, (uv m))] (by kernel_rfl)
          refine p_run (d := 120) (v := (uv m)) hF609 (by kernel_rfl) (fun _ => by kernel_rfl) (fun _ _ _ h => h) ?_
          intro a610 hF611
          refine p_run (d := 121) (v := (Value.bool (decide (((n).toNat : Int) < ((m).toNat : Int))))) hF611 (by kernel_rfl) (fun _ => by kernel_rfl) (fun _ _ _ h => h) ?_
          intro a612 hF613
          have hF614 := hF613.set 121 (Value.bool (decide (((n).toNat : Int) < ((m).toNat : Int)))) (Value.bool (decide ((n : UInt64) < m))) (by kernel_rfl) (congrArg Value.bool (cmp_u64_lss _ _))
          refine p_do (r_call (d := (some 111)) (f := 11) (args := #[(Operand.tmp 109), (Operand.tmp 110)]) (tys := #[3, 22]) hF614 (by kernel_rfl) (by kernel_rfl) C11 [(Value.int .i64 (((c).toNat : Nat) : Int)), (uv n)] (by kernel_rfl) (commit_calls s59 w568 (((c).toNat : Nat) : Int) n) ?_)
          intro a615 s616 w617 v618 st619 hP620 hF621
          have hz622 := hS570.size
          have hS623 := hS570.then st619
          refine ⟨s616, st619.mono (fun b _ e => (fun _ e => e.elim) b e), ?_⟩
          have hP624 := hP620.rd
          obtain ⟨A625, m628, c626, rfl, hl627⟩ := hP624.formL
          have hbd629 : (ofL 99 (((c).toNat : Nat) : Int) [n]).length ≤ 140737488355328 := Nat.le_trans (Nat.le_mul_of_pos_right _ (by decide)) hP624.bd
          refine p_val (d := 112) (op := (Op.convert 27 9 (Operand.tmp 111))) (v := (sv (ofL 99 (((c).toNat : Nat) : Int) [n]))) hF621 (by kernel_rfl) (by kernel_rfl) (fun w9 ⟨s9, hw9⟩ => (exec_b2s U27 U5 U9 (by kernel_rfl) (hP624.step hw9))) (fun _ _ _ h => h) ?_
          intro a630 hF631
          have h632 : Mp w617 b19 sv Value.bool (putAll (outK (((c % 10).toNat : Nat) : Int) (((d % 10).toNat : Nat) : Int) n m (i))) := (h580.step' st619)
          refine p_do (r_call (d := (some 116)) (f := 11) (args := #[(Operand.tmp 114), (Operand.tmp 115)]) (tys := #[3, 22]) hF631 (by kernel_rfl) (by kernel_rfl) C11 [(Value.int .i64 (((c).toNat : Nat) : Int)), (uv m)] (by kernel_rfl) (commit_calls s616 w617 (((c).toNat : Nat) : Int) m) ?_)
          intro a633 s634 w635 v636 st637 hP638 hF639
          have hz640 := hS623.size
          have hS641 := hS623.then st637
          refine ⟨s634, st637.mono (fun b _ e => (fun _ e => e.elim) b e), ?_⟩
          have hP642 := hP638.rd
          obtain ⟨A643, m646, c644, rfl, hl645⟩ := hP642.formL
          have hbd647 : (ofL 99 (((c).toNat : Nat) : Int) [m]).length ≤ 140737488355328 := Nat.le_trans (Nat.le_mul_of_pos_right _ (by decide)) hP642.bd
          refine p_val (d := 117) (op := (Op.convert 27 9 (Operand.tmp 116))) (v := (sv (ofL 99 (((c).toNat : Nat) : Int) [m]))) hF639 (by kernel_rfl) (by kernel_rfl) (fun w9 ⟨s9, hw9⟩ => (exec_b2s U27 U5 U9 (by kernel_rfl) (hP642.step hw9))) (fun _ _ _ h => h) ?_
          intro a648 hF649
          refine p_run (d := 118) (v := (Value.bool (Op.bytesLess (⟨(ofL 99 (((c).toNat : Nat) : Int) [n]).toArray⟩ : ByteArray).toList (⟨(ofL 99 (((c).toNat : Nat) : Int) [m]).toArray⟩ : ByteArray).toList))) hF649 (by kernel_rfl) (fun _ => by kernel_rfl) (fun _ _ _ h => h) ?_
          intro a650 hF651
          have hF652 := hF651.set 118 (Value.bool (Op.bytesLess (⟨(ofL 99 (((c).toNat : Nat) : Int) [n]).toArray⟩ : ByteArray).toList (⟨(ofL 99 (((c).toNat : Nat) : Int) [m]).toArray⟩ : ByteArray).toList)) (Value.bool (Op.bytesLess (ofL 99 (((c).toNat : Nat) : Int) [n]) (ofL 99 (((c).toNat : Nat) : Int) [m]))) (by kernel_rfl) (congrArg Value.bool (str_lss _ _))
          have hF653 := hF652.keep [118, 121, 107] [(118, (Value.bool (Op.bytesLess (ofL 99 (((c).toNat : Nat) : Int) [n]) (ofL 99 (((c).toNat : Nat) : Int) [m])))), (121, (Value.bool (decide ((n : UInt64) < m)))), (107, (Value.bool true))] (by kernel_rfl)
          refine p_run (d := 122) (v := (Value.bool ((Op.bytesLess (ofL 99 (((c).toNat : Nat) : Int) [n]) (ofL 99 (((c).toNat : Nat) : Int) [m])) == (decide ((n : UInt64) < m))))) hF653 (by kernel_rfl) (fun _ => by kernel_rfl) (fun _ _ _ h => h) ?_
          intro a654 hF655
          have hF656 := hF655.set 122 (Value.bool ((Op.bytesLess (ofL 99 (((c).toNat : Nat) : Int) [n]) (ofL 99 (((c).toNat : Nat) : Int) [m])) == (decide ((n : UInt64) < m)))) (Value.bool true) (by kernel_rfl) (congrArg Value.bool (by rw [less_key]; simp))
          refine p_run (d := 123) (v := (Value.bool true)) hF656 (by kernel_rfl) (fun _ => by kernel_rfl) (fun _ _ _ h => h) ?_
          intro a657 hF658
          refine p_run (d := 8) (v := (Value.bool true)) hF658 (by kernel_rfl) (fun _ => by kernel_rfl) (fun _ _ _ h => h) ?_
          intro a659 hF660
          refine p_end ?_
          have hF661 := hF660.keep [8] [(8, (Value.bool true))] (by kernel_rfl)
          refine c_ret (by kernel_rfl) ?_
          try dsimp only [Exit.then, Exit.inBlock]
          refine f_ret1 hF661 8 (by kernel_rfl) (Value.bool true) (by kernel_rfl) s634 hS641 ?_
          exact rfl
      · skip
        have hc458 := of_decide_eq_false hc458
        refine c_skip (by kernel_rfl) ?_
        refine c_seq [1, 1, 1, 1, 1, 1, 1, 0] [1, 1, 1, 1, 1, 1, 1, 1] (by kernel_rfl) ?_
        refine c_seq [1, 1, 1, 1, 1, 1, 1, 0, 0] [1, 1, 1, 1, 1, 1, 1, 0, 1] (by kernel_rfl) ?_
        refine c_reg 28 (by kernel_rfl) ?_
        refine r_runk 1 [92, 19, 0, 1, 2, 3, 9, 10] [(92, (bv c)), (19, (Value.int .i64 ((24 : Nat) : Int))), (0, (bv c)), (1, (bv d)), (2, (uv n)), (3, (uv m)), (9, (Value.map (some b19))), (10, (Value.int .i64 ((12 * (i) : Nat) : Int)))] hF457 (by kernel_rfl) (by kernel_rfl) ?_
        intro a662 hF663
        refine r_one (d := 93) (v0 := (Value.int .u8 (Int.tmod ((c).toNat : Int) ((10 : UInt8).toNat : Int)))) (v := (bv (c % 10))) hF663 (by kernel_rfl) (by kernel_rfl) (congrArg (Value.int .u8) (u8_rem c 10 (by decide))) ?_
        intro a664 hF665
        refine r_runk 1 [94, 93, 19, 0, 2, 3, 9, 10] [(94, (bv d)), (93, (bv (c % 10))), (19, (Value.int .i64 ((24 : Nat) : Int))), (0, (bv c)), (2, (uv n)), (3, (uv m)), (9, (Value.map (some b19))), (10, (Value.int .i64 ((12 * (i) : Nat) : Int)))] hF665 (by kernel_rfl) (by kernel_rfl) ?_
        intro a666 hF667
        refine r_one (d := 95) (v0 := (Value.int .u8 (Int.tmod ((d).toNat : Int) ((10 : UInt8).toNat : Int)))) (v := (bv (d % 10))) hF667 (by kernel_rfl) (by kernel_rfl) (congrArg (Value.int .u8) (u8_rem d 10 (by decide))) ?_
        intro a668 hF669
        refine r_one (d := 96) (v0 := (Value.bool (((c % 10).toNat : Int) == ((d % 10).toNat : Int)))) (v := (Value.bool (decide ((c % 10 : UInt8) = d % 10)))) hF669 (by kernel_rfl) (by kernel_rfl) (congrArg Value.bool (cmp_u8_eql _ _)) ?_
        intro a670 hF671
        have hF672 := hF671.keep [96, 19, 0, 2, 3, 9, 10] [(96, (Value.bool (decide ((c % 10 : UInt8) = d % 10)))), (19, (Value.int .i64 ((24 : Nat) : Int))), (0, (bv c)), (2, (uv n)), (3, (uv m)), (9, (Value.map (some b19))), (10, (Value.int .i64 ((12 * (i) : Nat) : Int)))] (by kernel_rfl)
        refine r_end (by kernel_rfl) ?_
        refine c_cond [1, 1, 1, 1, 1, 1, 1, 0, 1, 0] [1, 1, 1, 1, 1, 1, 1, 0, 1, 1] 96 (by kernel_rfl) hF672 (decide ((c % 10 : UInt8) = d % 10)) (by kernel_rfl) (fun hc673 => ?_) (fun hc673 => ?_)
        · skip
          have hc673 := of_decide_eq_true hc673
          refine c_reg 29 (by kernel_rfl) ?_
          refine r_runk 3 [19, 0, 2, 3, 9, 10] [(19, (Value.int .i64 ((12 : Nat) : Int))), (0, (bv c)), (2, (uv n)), (3, (uv m)), (9, (Value.map (some b19))), (10, (Value.int .i64 ((12 * (i) : Nat) : Int)))] hF672 (by kernel_rfl) (by kernel_rfl) ?_
          intro a674 hF675
          refine r_end (by kernel_rfl) ?_
          refine c_seq [1, 1, 1, 1, 1, 1, 1, 1, 0] [1, 1, 1, 1, 1, 1, 1, 1, 1] (by kernel_rfl) ?_
          refine c_plan 30 (by kernel_rfl) (by kernel_rfl) s59 (fun b => b ≠ b19 ∧ True) [(0, true), (1, true), (2, true), (3, true), (4, true), (5, true), (6, true), (7, true), (8, true), (9, true), (10, true), (11, true), (14, true), (15, true), (16, true), (20, true), (21, true), (22, true), (12, false), (13, true), (17, false), (18, true), (19, true), (23, true), (24, true), (25, true)] [(0, 633825300114114700748351602688, 1024), (1, 1267650600228229401496703205376, 633825300114114700748351602688), (2, 2535301200456458802993406410752, 1267650600228229401496703205376), (4, 5070602400912917605986812821504, 2535301200456458802993406411264), (12, 10141204801825835211973625643008, 7605903601369376408980219232256), (4, 20282409603651670423947251286016, 2535301200456458802993406935040), (52, 40564819207303340847894502572032, 32958915605933964438914283339776), (68, 81129638414606681695789005144064, 43100120407759799650887908982784), (144, 162259276829213363391578010288128, 81129638414606681695789005144064), (256, 324518553658426726783156020576256, 162259276829213363391578010288129), (768, 649037107316853453566312041152512, 486777830487640090174734030864384), (256, 1298074214633706907132624082305024, 162259276829213363391578010288132), (3328, 2596148429267413814265248164610048, 2109370598779773724090514133745664), (4352, 5192296858534827628530496329220096, 2758407706096627177656826174898176), (256, 10384593717069655257060992658440192, 162259276829213363391578010288129), (16640, 20769187434139310514121985316880384, 10546852993898868620452570668728320), (256, 41538374868278621028243970633760768, 162259276829213363391578010288136), (102656, 83076749736557242056487941267521536, 62469821579247144905757533960929280), (131328, 166153499473114484112975882535043072, 83239009013386455419879519277809664), (270592, 332306998946228968225951765070086144, 171508055608478525104897956874551296), (256, 664613997892457936451903530140172288, 162259276829213363391578010288132), (256, 1329227995784915872903807060280344576, 162259276829213363391578010288136), (3145984, 2658455991569831745807614120560689152, 1994004252954203022719102168430804992), (4718848, 5316911983139663491615228241121378304, 2990925249792889927396957463641063424), (8388864, 10633823966279326983230456482242756608, 5317074242416492704978619819131666432), (33554431, 256, 10633823966279326983230456482242756608)] (by kernel_rfl) (by kernel_rfl) (by kernel_rfl) (by kernel_rfl) ?_
          intro w676 st677
          have hS678 := hS61.then st677
          refine p_run (d := 99) (v := (Value.int .i64 ((12 * (i) : Nat) : Int))) hF675 (by kernel_rfl) (fun _ => by kernel_rfl) (fun _ _ _ h => h) ?_
          intro a679 hF680
          refine p_run (d := 100) (v := (Value.bool (((12 * (i) : Nat) : Int) == ((24 : Nat) : Int)))) hF680 (by kernel_rfl) (fun _ => by kernel_rfl) (fun _ _ _ h => h) ?_
          intro a681 hF682
          have hF683 := hF682.set 100 (Value.bool (((12 * (i) : Nat) : Int) == ((24 : Nat) : Int))) (Value.bool true) (by kernel_rfl) (Eq.trans (congrArg Value.bool (cmp_nat_eql _ _)) (congrArg Value.bool ((decide_eq_true (by omega)) : (decide ((12 * (i) : Nat) = 24)) = true)))
          refine p_run (d := 101) (v := (Value.bool true)) hF683 (by kernel_rfl) (fun _ => by kernel_rfl) (fun _ _ _ h => h) ?_
          intro a684 hF685
          refine p_run (d := 102) (v := (Value.map (some b19))) hF685 (by kernel_rfl) (fun _ => by kernel_rfl) (fun _ _ _ h => h) ?_
          intro a686 hF687
          have h688 : Mp w676 b19 sv Value.bool (putAll (outK (((c % 10).toNat : Nat) : Int) (((d % 10).toNat : Nat) : Int) n m (i))) := (h66.step' st677)
          refine p_val (d := 103) (op := (Op.call (Call.mk (Callee.builtin Builtin.len) #[(Operand.tmp 102)] #[24]))) (v := (Value.int .i64 (((putAll (outK (((c % 10).toNat : Nat) : Int) (((d % 10).toNat : Nat) : Int) n m (i))).length : Nat) : Int))) hF687 (by kernel_rfl) (by kernel_rfl) (fun w9 ⟨s9, hw9⟩ => (exec_mlen U24 (h688.step hw9 (fun h => h.1 rfl)) (by kernel_rfl))) (fun _ _ _ h => h) ?_
          intro a689 hF690
          refine p_run (d := 104) (v := (Value.int .i64 ((12 : Nat) : Int))) hF690 (by kernel_rfl) (fun _ => by kernel_rfl) (fun _ _ _ h => h) ?_
          intro a691 hF692
          refine p_run (d := 105) (v := (Value.bool ((((putAll (outK (((c % 10).toNat : Nat) : Int) (((d % 10).toNat : Nat) : Int) n m (i))).length : Nat) : Int) == ((12 : Nat) : Int)))) hF692 (by kernel_rfl) (fun _ => by kernel_rfl) (fun _ _ _ h => h) ?_
          intro a693 hF694
          have hF695 := hF694.set 105 (Value.bool ((((putAll (outK (((c % 10).toNat : Nat) : Int) (((d % 10).toNat : Nat) : Int) n m (i))).length : Nat) : Int) == ((12 : Nat) : Int))) (Value.bool true) (by kernel_rfl) (Eq.trans (congrArg Value.bool (cmp_nat_eql _ _)) (congrArg Value.bool ((decide_eq_true (by have hi2 : i = 2 := (by omega); subst hi2; rw [count_of (c % 10) (d % 10) (mod10 c) (mod10 d)]; rw [hc673]; exact count12 hc458)) : (decide (((putAll (outK (((c % 10).toNat : Nat) : Int) (((d % 10).toNat : Nat) : Int) n m (i))).length : Nat) = 12)) = true)))
          refine p_run (d := 106) (v := (Value.bool true)) hF695 (by kernel_rfl) (fun _ => by kernel_rfl) (fun _ _ _ h => h) ?_
          intro a696 hF697
          have hF698 := hF697.keep [106, 0, 2, 3] [(106, (Value.bool true)), (0, (bv c)), (2, (uv n)), (3, (uv m))] (by kernel_rfl)
          refine p_run (d := 107) (v := (Value.bool true)) hF698 (by kernel_rfl) (fun _ => by kernel_rfl) (fun _ _ _ h => h) ?_
          intro a699 hF700
          refine p_run (d := 108) (v := (bv c)) hF700 (by kernel_rfl) (fun _ => by kernel_rfl) (fun _ _ _ h => h) ?_
          intro a701 hF702
          refine p_run (d := 109) (v := (Value.int .i64 (IntKind.i64.wrap ((c).toNat : Int)))) hF702 (by kernel_rfl) (fun _ => by kernel_rfl) (fun _ _ _ h => h) ?_
          intro a703 hF704
          have hF705 := hF704.set 109 (Value.int .i64 (IntKind.i64.wrap ((c).toNat : Int))) (Value.int .i64 (((c).toNat : Nat) : Int)) (by kernel_rfl) (congrArg (Value.int .i64) (u8_i64 c))
          refine p_run (d := 110) (v := (uv n)) hF705 (by kernel_rfl) (fun _ => by kernel_rfl) (fun _ _ _ h => h) ?_
          intro a706 hF707
          refine p_run (d := 113) (v := (bv c)) hF707 (by kernel_rfl) (fun _ => by kernel_rfl) (fun _ _ _ h => h) ?_
          intro a708 hF709
          refine p_run (d := 114) (v := (Value.int .i64 (IntKind.i64.wrap ((c).toNat : Int)))) hF709 (by kernel_rfl) (fun _ => by kernel_rfl) (fun _ _ _ h => h) ?_
          intro a710 hF711
          have hF712 := hF711.set 114 (Value.int .i64 (IntKind.i64.wrap ((c).toNat : Int))) (Value.int .i64 (((c).toNat : Nat) : Int)) (by kernel_rfl) (congrArg (Value.int .i64) (u8_i64 c))
          refine p_run (d := 115) (v := (uv m)) hF712 (by kernel_rfl) (fun _ => by kernel_rfl) (fun _ _ _ h => h) ?_
          intro a713 hF714
          refine p_run (d := 119) (v := (uv n)) hF714 (by kernel_rfl) (fun _ => by kernel_rfl) (fun _ _ _ h => h) ?_
          intro a715 hF716
          refine p_run (d := 120) (v := (uv m)) hF716 (by kernel_rfl) (fun _ => by kernel_rfl) (fun _ _ _ h => h) ?_
          intro a717 hF718
          refine p_run (d := 121) (v := (Value.bool (decide (((n).toNat : Int) < ((m).toNat : Int))))) hF718 (by kernel_rfl) (fun _ => by kernel_rfl) (fun _ _ _ h => h) ?_
          intro a719 hF720
          have hF721 := hF720.set 121 (Value.bool (decide (((n).toNat : Int) < ((m).toNat : Int)))) (Value.bool (decide ((n : UInt64) < m))) (by kernel_rfl) (congrArg Value.bool (cmp_u64_lss _ _))
          have hF722 := hF721.keep [121, 115, 114, 110, 109, 107] [(121, (Value.bool (decide ((n : UInt64) < m)))), (115, (uv m)), (114, (Value.int .i64 (((c).toNat : Nat) : Int))), (110, (uv n)), (109, (Value.int .i64 (((c).toNat : Nat) : Int))), (107, (Value.bool true))] (by kernel_rfl)
          refine p_do (r_call (d := (some 111)) (f := 11) (args := #[(Operand.tmp 109), (Operand.tmp 110)]) (tys := #[3, 22]) hF722 (by kernel_rfl) (by kernel_rfl) C11 [(Value.int .i64 (((c).toNat : Nat) : Int)), (uv n)] (by kernel_rfl) (commit_calls s59 w676 (((c).toNat : Nat) : Int) n) ?_)
          intro a723 s724 w725 v726 st727 hP728 hF729
          have hz730 := hS678.size
          have hS731 := hS678.then st727
          refine ⟨s724, st727.mono (fun b _ e => (fun _ e => e.elim) b e), ?_⟩
          have hP732 := hP728.rd
          obtain ⟨A733, m736, c734, rfl, hl735⟩ := hP732.formL
          have hbd737 : (ofL 99 (((c).toNat : Nat) : Int) [n]).length ≤ 140737488355328 := Nat.le_trans (Nat.le_mul_of_pos_right _ (by decide)) hP732.bd
          refine p_val (d := 112) (op := (Op.convert 27 9 (Operand.tmp 111))) (v := (sv (ofL 99 (((c).toNat : Nat) : Int) [n]))) hF729 (by kernel_rfl) (by kernel_rfl) (fun w9 ⟨s9, hw9⟩ => (exec_b2s U27 U5 U9 (by kernel_rfl) (hP732.step hw9))) (fun _ _ _ h => h) ?_
          intro a738 hF739
          have h740 : Mp w725 b19 sv Value.bool (putAll (outK (((c % 10).toNat : Nat) : Int) (((d % 10).toNat : Nat) : Int) n m (i))) := (h688.step' st727)
          refine p_do (r_call (d := (some 116)) (f := 11) (args := #[(Operand.tmp 114), (Operand.tmp 115)]) (tys := #[3, 22]) hF739 (by kernel_rfl) (by kernel_rfl) C11 [(Value.int .i64 (((c).toNat : Nat) : Int)), (uv m)] (by kernel_rfl) (commit_calls s724 w725 (((c).toNat : Nat) : Int) m) ?_)
          intro a741 s742 w743 v744 st745 hP746 hF747
          have hz748 := hS731.size
          have hS749 := hS731.then st745
          refine ⟨s742, st745.mono (fun b _ e => (fun _ e => e.elim) b e), ?_⟩
          have hP750 := hP746.rd
          obtain ⟨A751, m754, c752, rfl, hl753⟩ := hP750.formL
          have hbd755 : (ofL 99 (((c).toNat : Nat) : Int) [m]).length ≤ 140737488355328 := Nat.le_trans (Nat.le_mul_of_pos_right _ (by decide)) hP750.bd
          refine p_val (d := 117) (op := (Op.convert 27 9 (Operand.tmp 116))) (v := (sv (ofL 99 (((c).toNat : Nat) : Int) [m]))) hF747 (by kernel_rfl) (by kernel_rfl) (fun w9 ⟨s9, hw9⟩ => (exec_b2s U27 U5 U9 (by kernel_rfl) (hP750.step hw9))) (fun _ _ _ h => h) ?_
          intro a756 hF757
          refine p_run (d := 118) (v := (Value.bool (Op.bytesLess (⟨(ofL 99 (((c).toNat : Nat) : Int) [n]).toArray⟩ : ByteArray).toList (⟨(ofL 99 (((c).toNat : Nat) : Int) [m]).toArray⟩ : ByteArray).toList))) hF757 (by kernel_rfl) (fun _ => by kernel_rfl) (fun _ _ _ h => h) ?_
          intro a758 hF759
          have hF760 := hF759.set 118 (Value.bool (Op.bytesLess (⟨(ofL 99 (((c).toNat : Nat) : Int) [n]).toArray⟩ : ByteArray).toList (⟨(ofL 99 (((c).toNat : Nat) : Int) [m]).toArray⟩ : ByteArray).toList)) (Value.bool (Op.bytesLess (ofL 99 (((c).toNat : Nat) : Int) [n]) (ofL 99 (((c).toNat : Nat) : Int) [m]))) (by kernel_rfl) (congrArg Value.bool (str_lss _ _))
          refine p_run (d := 122) (v := (Value.bool ((Op.bytesLess (ofL 99 (((c).toNat : Nat) : Int) [n]) (ofL 99 (((c).toNat : Nat) : Int) [m])) == (decide ((n : UInt64) < m))))) hF760 (by kernel_rfl) (fun _ => by kernel_rfl) (fun _ _ _ h => h) ?_
          intro a761 hF762
          have hF763 := hF762.set 122 (Value.bool ((Op.bytesLess (ofL 99 (((c).toNat : Nat) : Int) [n]) (ofL 99 (((c).toNat : Nat) : Int) [m])) == (decide ((n : UInt64) < m)))) (Value.bool true) (by kernel_rfl) (congrArg Value.bool (by rw [less_key]; simp))
          refine p_run (d := 123) (v := (Value.bool true)) hF763 (by kernel_rfl) (fun _ => by kernel_rfl) (fun _ _ _ h => h) ?_
          intro a764 hF765
          refine p_run (d := 8) (v := (Value.bool true)) hF765 (by kernel_rfl) (fun _ => by kernel_rfl) (fun _ _ _ h => h) ?_
          intro a766 hF767
          have hF768 := hF767.keep [8] [(8, (Value.bool true))] (by kernel_rfl)
          refine p_end ?_
          refine c_ret (by kernel_rfl) ?_
          try dsimp only [Exit.then, Exit.inBlock]
          refine f_ret1 hF768 8 (by kernel_rfl) (Value.bool true) (by kernel_rfl) s742 hS749 ?_
          exact rfl
        · skip
          have hc673 := of_decide_eq_false hc673
          refine c_skip (by kernel_rfl) ?_
          refine c_seq [1, 1, 1, 1, 1, 1, 1, 1, 0] [1, 1, 1, 1, 1, 1, 1, 1, 1] (by kernel_rfl) ?_
          refine c_plan 30 (by kernel_rfl) (by kernel_rfl) s59 (fun b => b ≠ b19 ∧ True) [(0, true), (1, true), (2, true), (3, true), (4, true), (5, true), (6, true), (7, true), (8, true), (9, true), (10, true), (11, true), (14, true), (15, true), (16, true), (20, true), (21, true), (22, true), (12, false), (13, true), (17, false), (18, true), (19, true), (23, true), (24, true), (25, true)] [(0, 633825300114114700748351602688, 1024), (1, 1267650600228229401496703205376, 633825300114114700748351602688), (2, 2535301200456458802993406410752, 1267650600228229401496703205376), (4, 5070602400912917605986812821504, 2535301200456458802993406411264), (12, 10141204801825835211973625643008, 7605903601369376408980219232256), (4, 20282409603651670423947251286016, 2535301200456458802993406935040), (52, 40564819207303340847894502572032, 32958915605933964438914283339776), (68, 81129638414606681695789005144064, 43100120407759799650887908982784), (144, 162259276829213363391578010288128, 81129638414606681695789005144064), (256, 324518553658426726783156020576256, 162259276829213363391578010288129), (768, 649037107316853453566312041152512, 486777830487640090174734030864384), (256, 1298074214633706907132624082305024, 162259276829213363391578010288132), (3328, 2596148429267413814265248164610048, 2109370598779773724090514133745664), (4352, 5192296858534827628530496329220096, 2758407706096627177656826174898176), (256, 10384593717069655257060992658440192, 162259276829213363391578010288129), (16640, 20769187434139310514121985316880384, 10546852993898868620452570668728320), (256, 41538374868278621028243970633760768, 162259276829213363391578010288136), (102656, 83076749736557242056487941267521536, 62469821579247144905757533960929280), (131328, 166153499473114484112975882535043072, 83239009013386455419879519277809664), (270592, 332306998946228968225951765070086144, 171508055608478525104897956874551296), (256, 664613997892457936451903530140172288, 162259276829213363391578010288132), (256, 1329227995784915872903807060280344576, 162259276829213363391578010288136), (3145984, 2658455991569831745807614120560689152, 1994004252954203022719102168430804992), (4718848, 5316911983139663491615228241121378304, 2990925249792889927396957463641063424), (8388864, 10633823966279326983230456482242756608, 5317074242416492704978619819131666432), (33554431, 256, 10633823966279326983230456482242756608)] (by kernel_rfl) (by kernel_rfl) (by kernel_rfl) (by kernel_rfl) ?_
          intro w769 st770
          have hS771 := hS61.then st770
          refine p_run (d := 99) (v := (Value.int .i64 ((12 * (i) : Nat) : Int))) hF672 (by kernel_rfl) (fun _ => by kernel_rfl) (fun _ _ _ h => h) ?_
          intro a772 hF773
          refine p_run (d := 100) (v := (Value.bool (((12 * (i) : Nat) : Int) == ((24 : Nat) : Int)))) hF773 (by kernel_rfl) (fun _ => by kernel_rfl) (fun _ _ _ h => h) ?_
          intro a774 hF775
          have hF776 := hF775.set 100 (Value.bool (((12 * (i) : Nat) : Int) == ((24 : Nat) : Int))) (Value.bool true) (by kernel_rfl) (Eq.trans (congrArg Value.bool (cmp_nat_eql _ _)) (congrArg Value.bool ((decide_eq_true (by omega)) : (decide ((12 * (i) : Nat) = 24)) = true)))
          refine p_run (d := 101) (v := (Value.bool true)) hF776 (by kernel_rfl) (fun _ => by kernel_rfl) (fun _ _ _ h => h) ?_
          intro a777 hF778
          refine p_run (d := 102) (v := (Value.map (some b19))) hF778 (by kernel_rfl) (fun _ => by kernel_rfl) (fun _ _ _ h => h) ?_
          intro a779 hF780
          have h781 : Mp w769 b19 sv Value.bool (putAll (outK (((c % 10).toNat : Nat) : Int) (((d % 10).toNat : Nat) : Int) n m (i))) := (h66.step' st770)
          refine p_val (d := 103) (op := (Op.call (Call.mk (Callee.builtin Builtin.len) #[(Operand.tmp 102)] #[24]))) (v := (Value.int .i64 (((putAll (outK (((c % 10).toNat : Nat) : Int) (((d % 10).toNat : Nat) : Int) n m (i))).length : Nat) : Int))) hF780 (by kernel_rfl) (by kernel_rfl) (fun w9 ⟨s9, hw9⟩ => (exec_mlen U24 (h781.step hw9 (fun h => h.1 rfl)) (by kernel_rfl))) (fun _ _ _ h => h) ?_
          intro a782 hF783
          refine p_run (d := 104) (v := (Value.int .i64 ((24 : Nat) : Int))) hF783 (by kernel_rfl) (fun _ => by kernel_rfl) (fun _ _ _ h => h) ?_
          intro a784 hF785
          refine p_run (d := 105) (v := (Value.bool ((((putAll (outK (((c % 10).toNat : Nat) : Int) (((d % 10).toNat : Nat) : Int) n m (i))).length : Nat) : Int) == ((24 : Nat) : Int)))) hF785 (by kernel_rfl) (fun _ => by kernel_rfl) (fun _ _ _ h => h) ?_
          intro a786 hF787
          have hF788 := hF787.set 105 (Value.bool ((((putAll (outK (((c % 10).toNat : Nat) : Int) (((d % 10).toNat : Nat) : Int) n m (i))).length : Nat) : Int) == ((24 : Nat) : Int))) (Value.bool true) (by kernel_rfl) (Eq.trans (congrArg Value.bool (cmp_nat_eql _ _)) (congrArg Value.bool ((decide_eq_true (by have hi2 : i = 2 := (by omega); subst hi2; rw [count_of (c % 10) (d % 10) (mod10 c) (mod10 d)]; exact count24 hc458 hc673)) : (decide (((putAll (outK (((c % 10).toNat : Nat) : Int) (((d % 10).toNat : Nat) : Int) n m (i))).length : Nat) = 24)) = true)))
          have hF789 := hF788.keep [105, 101, 0, 2, 3] [(105, (Value.bool true)), (101, (Value.bool true)), (0, (bv c)), (2, (uv n)), (3, (uv m))] (by kernel_rfl)
          refine p_run (d := 106) (v := (Value.bool true)) hF789 (by kernel_rfl) (fun _ => by kernel_rfl) (fun _ _ _ h => h) ?_
          intro a790 hF791
          refine p_run (d := 107) (v := (Value.bool true)) hF791 (by kernel_rfl) (fun _ => by kernel_rfl) (fun _ _ _ h => h) ?_
          intro a792 hF793
          refine p_run (d := 108) (v := (bv c)) hF793 (by kernel_rfl) (fun _ => by kernel_rfl) (fun _ _ _ h => h) ?_
          intro a794 hF795
          refine p_run (d := 109) (v := (Value.int .i64 (IntKind.i64.wrap ((c).toNat : Int)))) hF795 (by kernel_rfl) (fun _ => by kernel_rfl) (fun _ _ _ h => h) ?_
          intro a796 hF797
          have hF798 := hF797.set 109 (Value.int .i64 (IntKind.i64.wrap ((c).toNat : Int))) (Value.int .i64 (((c).toNat : Nat) : Int)) (by kernel_rfl) (congrArg (Value.int .i64) (u8_i64 c))
          refine p_run (d := 110) (v := (uv n)) hF798 (by kernel_rfl) (fun _ => by kernel_rfl) (fun _ _ _ h => h) ?_
          intro a799 hF800
          refine p_run (d := 113) (v := (bv c)) hF800 (by kernel_rfl) (fun _ => by kernel_rfl) (fun _ _ _ h => h) ?_
          intro a801 hF802
          refine p_run (d := 114) (v := (Value.int .i64 (IntKind.i64.wrap ((c).toNat : Int)))) hF802 (by kernel_rfl) (fun _ => by kernel_rfl) (fun _ _ _ h => h) ?_
          intro a803 hF804
          have hF805 := hF804.set 114 (Value.int .i64 (IntKind.i64.wrap ((c).toNat : Int))) (Value.int .i64 (((c).toNat : Nat) : Int)) (by kernel_rfl) (congrArg (Value.int .i64) (u8_i64 c))
          refine p_run (d := 115) (v := (uv m)) hF805 (by kernel_rfl) (fun _ => by kernel_rfl) (fun _ _ _ h => h) ?_
          intro a806 hF807
          refine p_run (d := 119) (v := (uv n)) hF807 (by kernel_rfl) (fun _ => by kernel_rfl) (fun _ _ _ h => h) ?_
          intro a808 hF809
          have hF810 := hF809.keep [119, 115, 114, 110, 109, 107, 3] [(119, (uv n)), (115, (uv m)), (114, (Value.int .i64 (((c).toNat : Nat) : Int))), (110, (uv n)), (109, (Value.int .i64 (((c).toNat : Nat) : Int))), (107, (Value.bool true)), (3, (uv m))] (by kernel_rfl)
          refine p_run (d := 120) (v := (uv m)) hF810 (by kernel_rfl) (fun _ => by kernel_rfl) (fun _ _ _ h => h) ?_
          intro a811 hF812
          refine p_run (d := 121) (v := (Value.bool (decide (((n).toNat : Int) < ((m).toNat : Int))))) hF812 (by kernel_rfl) (fun _ => by kernel_rfl) (fun _ _ _ h => h) ?_
          intro a813 hF814
          have hF815 := hF814.set 121 (Value.bool (decide (((n).toNat : Int) < ((m).toNat : Int)))) (Value.bool (decide ((n : UInt64) < m))) (by kernel_rfl) (congrArg Value.bool (cmp_u64_lss _ _))
          refine p_do (r_call (d := (some 111)) (f := 11) (args := #[(Operand.tmp 109), (Operand.tmp 110)]) (tys := #[3, 22]) hF815 (by kernel_rfl) (by kernel_rfl) C11 [(Value.int .i64 (((c).toNat : Nat) : Int)), (uv n)] (by kernel_rfl) (commit_calls s59 w769 (((c).toNat : Nat) : Int) n) ?_)
          intro a816 s817 w818 v819 st820 hP821 hF822
          have hz823 := hS771.size
          have hS824 := hS771.then st820
          refine ⟨s817, st820.mono (fun b _ e => (fun _ e => e.elim) b e), ?_⟩
          have hP825 := hP821.rd
          obtain ⟨A826, m829, c827, rfl, hl828⟩ := hP825.formL
          have hbd830 : (ofL 99 (((c).toNat : Nat) : Int) [n]).length ≤ 140737488355328 := Nat.le_trans (Nat.le_mul_of_pos_right _ (by decide)) hP825.bd
          refine p_val (d := 112) (op := (Op.convert 27 9 (Operand.tmp 111))) (v := (sv (ofL 99 (((c).toNat : Nat) : Int) [n]))) hF822 (by kernel_rfl) (by kernel_rfl) (fun w9 ⟨s9, hw9⟩ => (exec_b2s U27 U5 U9 (by kernel_rfl) (hP825.step hw9))) (fun _ _ _ h => h) ?_
          intro a831 hF832
          have h833 : Mp w818 b19 sv Value.bool (putAll (outK (((c % 10).toNat : Nat) : Int) (((d % 10).toNat : Nat) : Int) n m (i))) := (h781.step' st820)
          refine p_do (r_call (d := (some 116)) (f := 11) (args := #[(Operand.tmp 114), (Operand.tmp 115)]) (tys := #[3, 22]) hF832 (by kernel_rfl) (by kernel_rfl) C11 [(Value.int .i64 (((c).toNat : Nat) : Int)), (uv m)] (by kernel_rfl) (commit_calls s817 w818 (((c).toNat : Nat) : Int) m) ?_)
          intro a834 s835 w836 v837 st838 hP839 hF840
          have hz841 := hS824.size
          have hS842 := hS824.then st838
          refine ⟨s835, st838.mono (fun b _ e => (fun _ e => e.elim) b e), ?_⟩
          have hP843 := hP839.rd
          obtain ⟨A844, m847, c845, rfl, hl846⟩ := hP843.formL
          have hbd848 : (ofL 99 (((c).toNat : Nat) : Int) [m]).length ≤ 140737488355328 := Nat.le_trans (Nat.le_mul_of_pos_right _ (by decide)) hP843.bd
          refine p_val (d := 117) (op := (Op.convert 27 9 (Operand.tmp 116))) (v := (sv (ofL 99 (((c).toNat : Nat) : Int) [m]))) hF840 (by kernel_rfl) (by kernel_rfl) (fun w9 ⟨s9, hw9⟩ => (exec_b2s U27 U5 U9 (by kernel_rfl) (hP843.step hw9))) (fun _ _ _ h => h) ?_
          intro a849 hF850
          refine p_run (d := 118) (v := (Value.bool (Op.bytesLess (⟨(ofL 99 (((c).toNat : Nat) : Int) [n]).toArray⟩ : ByteArray).toList (⟨(ofL 99 (((c).toNat : Nat) : Int) [m]).toArray⟩ : ByteArray).toList))) hF850 (by kernel_rfl) (fun _ => by kernel_rfl) (fun _ _ _ h => h) ?_
          intro a851 hF852
          have hF853 := hF852.set 118 (Value.bool (Op.bytesLess (⟨(ofL 99 (((c).toNat : Nat) : Int) [n]).toArray⟩ : ByteArray).toList (⟨(ofL 99 (((c).toNat : Nat) : Int) [m]).toArray⟩ : ByteArray).toList)) (Value.bool (Op.bytesLess (ofL 99 (((c).toNat : Nat) : Int) [n]) (ofL 99 (((c).toNat : Nat) : Int) [m]))) (by kernel_rfl) (congrArg Value.bool (str_lss _ _))
          have hF854 := hF853.keep [118, 121, 107] [(118, (Value.bool (Op.bytesLess (ofL 99 (((c).toNat : Nat) : Int) [n]) (ofL 99 (((c).toNat : Nat) : Int) [m])))), (121, (Value.bool (decide ((n : UInt64) < m)))), (107, (Value.bool true))] (by kernel_rfl)
          refine p_run (d := 122) (v := (Value.bool ((Op.bytesLess (ofL 99 (((c).toNat : Nat) : Int) [n]) (ofL 99 (((c).toNat : Nat) : Int) [m])) == (decide ((n : UInt64) < m))))) hF854 (by kernel_rfl) (fun _ => by kernel_rfl) (fun _ _ _ h => h) ?_
          intro a855 hF856
          have hF857 := hF856.set 122 (Value.bool ((Op.bytesLess (ofL 99 (((c).toNat : Nat) : Int) [n]) (ofL 99 (((c).toNat : Nat) : Int) [m])) == (decide ((n : UInt64) < m)))) (Value.bool true) (by kernel_rfl) (congrArg Value.bool (by rw [less_key]; simp))
          refine p_run (d := 123) (v := (Value.bool true)) hF857 (by kernel_rfl) (fun _ => by kernel_rfl) (fun _ _ _ h => h) ?_
          intro a858 hF859
          refine p_run (d := 8) (v := (Value.bool true)) hF859 (by kernel_rfl) (fun _ => by kernel_rfl) (fun _ _ _ h => h) ?_
          intro a860 hF861
          refine p_end ?_
          have hF862 := hF861.keep [8] [(8, (Value.bool true))] (by kernel_rfl)
          refine c_ret (by kernel_rfl) ?_
          try dsimp only [Exit.then, Exit.inBlock]
          refine f_ret1 hF862 8 (by kernel_rfl) (Value.bool true) (by kernel_rfl) s835 hS842 ?_
          exact rfl
end Go.Proofs.Ytaoamokfbhlaaaa.E
