/- Walks, printed by a program of this session. -/
import Derived.Test.YtaoamokfbhlaaaaK
import Derived.Test.Ytaoamokfbhlaaaapure21
import Derived.Test.YtaoamokfbhlaaaaRq
import Derived.Test.YtaoamokfbhlaaaaRw
import Derived.Test.YtaoamokfbhlaaaaRx
import Derived.Test.YtaoamokfbhlaaaaRy
set_option linter.unusedVariables false
set_option linter.unusedSimpArgs false
set_option maxRecDepth 100000
namespace Go.Proofs.Ytaoamokfbhlaaaa.E
open Go Go.RowKit
open Go.Proofs
theorem toAnswer_calls (σ : Nat → Nat) (w : World) {v0 v1 : Value} {la lb : List Event} (h0 : Rd tEvent σ w v0 la) (h1 : Rd tEvent σ w v1 lb) (hla : la.length ≤ 1000) (c : Int) :
    Ctr Try.prog 28 [v0, v1, (iv c)] noM σ w (fun σ' w' v => ∃ v1 v2, v = .tuple #[v1, v2] ∧ Own tPacket 56 w.heap.size σ' w' v1 (toAnswer la lb c) ∧ Own tAck 53 w.heap.size σ' w' v2 ((toAnswer la lb c).map (ackOf lb))) := by
  obtain ⟨A0, c0, rfl, hlA0⟩ := h0.form
  have hbdA0 : la.length ≤ 140737488355328 := by have h := h0.bd; have e : tEvent.by_ = 104 := rfl; rw [e] at h; omega
  obtain ⟨A1, c1, rfl, hlA1⟩ := h1.form
  have hbdA1 : lb.length ≤ 140737488355328 := by have h := h1.bd; have e : tEvent.by_ = 104 := rfl; rw [e] at h; omega
  have hsl := sentL_len la c
  refine ctr_enter Try.func28 c28 (by kernel_rfl) 55 (by kernel_rfl) (Nat.le_of_ble_eq_true (by kernel_rfl)) [(0, (Value.slice A0 la.length c0)), (1, (Value.slice A1 lb.length c1)), (2, (Value.int .i64 (c)))] (by kernel_rfl) ?_
  intro a hF1
  have hS2 := Stp.refl noM σ w
  refine c_seq [0] [1] (by kernel_rfl) ?_
  refine c_reg 0 (by kernel_rfl) ?_
  refine r_runk 2 [0, 1, 2] [(0, (Value.slice A0 la.length c0)), (1, (Value.slice A1 lb.length c1)), (2, (Value.int .i64 (c)))] hF1 (by kernel_rfl) (by kernel_rfl) ?_
  intro a3 hF4
  refine r_end (by kernel_rfl) ?_
  refine c_seq [1, 0] [1, 1] (by kernel_rfl) ?_
  refine c_reg 1 (by kernel_rfl) ?_
  refine r_runk 1 [8, 0, 1, 2] [(8, (Value.slice none 0 0)), (0, (Value.slice A0 la.length c0)), (1, (Value.slice A1 lb.length c1)), (2, (Value.int .i64 (c)))] hF4 (by kernel_rfl) (by kernel_rfl) ?_
  intro a5 hF6
  refine r_end (by kernel_rfl) ?_
  refine c_seq [1, 1, 0] [1, 1, 1] (by kernel_rfl) ?_
  refine c_reg 2 (by kernel_rfl) ?_
  refine r_runk 1 [9, 8, 0, 1, 2] [(9, (Value.slice none 0 0)), (8, (Value.slice none 0 0)), (0, (Value.slice A0 la.length c0)), (1, (Value.slice A1 lb.length c1)), (2, (Value.int .i64 (c)))] hF6 (by kernel_rfl) (by kernel_rfl) ?_
  intro a7 hF8
  refine r_end (by kernel_rfl) ?_
  refine c_seq [1, 1, 1, 0] [1, 1, 1, 1] (by kernel_rfl) ?_
  refine c_seq [1, 1, 1, 0, 0] [1, 1, 1, 0, 1] (by kernel_rfl) ?_
  refine c_reg 3 (by kernel_rfl) ?_
  refine r_runk 2 [17, 16, 9, 8, 0, 1] [(17, (Value.int .i64 (c))), (16, (Value.slice A0 la.length c0)), (9, (Value.slice none 0 0)), (8, (Value.slice none 0 0)), (0, (Value.slice A0 la.length c0)), (1, (Value.slice A1 lb.length c1))] hF8 (by kernel_rfl) (by kernel_rfl) ?_
  intro a9 hF10
  refine r_at (r_call (d := (some 18)) (f := 37) (args := #[(Operand.tmp 16), (Operand.tmp 17)]) (tys := #[41, 3]) hF10 (by kernel_rfl) (by kernel_rfl) C37 [(Value.slice A0 la.length c0), (Value.int .i64 (c))] (by kernel_rfl) (relSent_calls σ w  h0 hla (c : Int)) ?_)
  intro a11 s12 w13 v14 st15 hP16 hF17
  have hz18 := hS2.size
  have hS19 := hS2.then st15
  obtain ⟨A20, m23, c21, rfl, hl22⟩ := hP16.formL
  have hO24 : Own tPacket 56 w.heap.size s12 w13 (Value.slice A20 m23 c21) (sentL la (c : Int)) := hP16.le (by omega)
  refine r_runk 2 [20, 19, 18, 9, 8, 0, 1] [(20, (Value.int .i64 ((0 : Nat) : Int))), (19, (Value.int .i64 ((m23 : Nat) : Int))), (18, (Value.slice A20 m23 c21)), (9, (Value.slice none 0 0)), (8, (Value.slice none 0 0)), (0, (Value.slice A0 la.length c0)), (1, (Value.slice A1 lb.length c1))] hF17 (by kernel_rfl) (by kernel_rfl) ?_
  intro a26 hF27
  refine r_end (by kernel_rfl) ?_
  refine c_block [1, 1, 1, 0, 1, 0] 0 (by kernel_rfl) ?_
  refine c_loop [1, 1, 1, 0, 1, 0, 0] (by kernel_rfl) (fun (k : Nat) a28 w29 => ∃ (s30 : Nat → Nat) (A33 : Option Addr) (cp34 : Nat) (m35 : Nat) (A37 : Option Addr) (cp38 : Nat) (m39 : Nat), Fr a28 55 [(0, (Value.slice A0 la.length c0)), (1, (Value.slice A1 lb.length c1)), (8, (Value.slice A33 m35 cp34)), (9, (Value.slice A37 m39 cp38)), (18, (Value.slice A20 m23 c21)), (19, (Value.int .i64 ((m23 : Nat) : Int))), (20, (Value.int .i64 ((k : Nat) : Int)))] ∧ Stp noM σ w s30 w29 ∧ Rd tPacket s30 w29 (Value.slice A20 m23 c21) (sentL la (c : Int)) ∧ Own tPacket 56 w.heap.size s30 w29 (Value.slice A33 m35 cp34) (((sentL la c).take (k)).filter (answers la lb)) ∧ Own tAck 53 w.heap.size s30 w29 (Value.slice A37 m39 cp38) ((((sentL la c).take (k)).filter (answers la lb)).map (ackOf lb)) ∧ k ≤ (sentL la c).length ∧ ∀ g, Value.ownBlock (Value.slice A33 m35 cp34) = some g → ¬ Value.ownBlock (Value.slice A37 m39 cp38) = some g) (fun k => (sentL la c).length - k) 0 ?_ ?_
  · skip
    have hF42 := hF27.keep [0, 1, 8, 9, 18, 19, 20] [(0, (Value.slice A0 la.length c0)), (1, (Value.slice A1 lb.length c1)), (8, (Value.slice none 0 0)), (9, (Value.slice none 0 0)), (18, (Value.slice A20 m23 c21)), (19, (Value.int .i64 ((m23 : Nat) : Int))), (20, (Value.int .i64 ((0 : Nat) : Int)))] (by kernel_rfl)
    exact ⟨s12, none, 0, 0, none, 0, 0, hF42, hS19, hO24.rd, (Own.nil _ _ _ _ _), (Own.nil _ _ _ _ _), (by omega), (fun g hg => by simp [Value.ownBlock] at hg)⟩
  · rintro k a28 w29 ⟨s30, A33, cp34, m35, A37, cp38, m39, hF31, hS32, h43, hO44, hO45, hk, ne41⟩
    have hln46 := hO44.ln
    have hln47 := hO45.ln
    refine c_seq [1, 1, 1, 0, 1, 0, 0, 0] [1, 1, 1, 0, 1, 0, 0, 1] (by kernel_rfl) ?_
    refine c_reg 4 (by kernel_rfl) ?_
    refine r_one (d := 21) (v0 := (Value.bool (decide (((k : Nat) : Int) < ((m23 : Nat) : Int))))) (v := (Value.bool (decide ((k : Nat) < m23)))) hF31 (by kernel_rfl) (by kernel_rfl) (congrArg Value.bool (cmp_nat_lss _ _)) ?_
    intro a48 hF49
    refine r_end (by kernel_rfl) ?_
    refine c_seq [1, 1, 1, 0, 1, 0, 0, 1, 0] [1, 1, 1, 0, 1, 0, 0, 1, 1] (by kernel_rfl) ?_
    refine c_cond [1, 1, 1, 0, 1, 0, 0, 1, 0, 0] [1, 1, 1, 0, 1, 0, 0, 1, 0, 1] 21 (by kernel_rfl) hF49 (decide ((k : Nat) < m23)) (by kernel_rfl) (fun hc50 => ?_) (fun hc50 => ?_)
    · skip
      have hc50 := of_decide_eq_true hc50
      refine c_skip (by kernel_rfl) ?_
      refine c_seq [1, 1, 1, 0, 1, 0, 0, 1, 1, 0] [1, 1, 1, 0, 1, 0, 0, 1, 1, 1] (by kernel_rfl) ?_
      refine c_block [1, 1, 1, 0, 1, 0, 0, 1, 1, 0, 0] 1 (by kernel_rfl) ?_
      refine c_seq [1, 1, 1, 0, 1, 0, 0, 1, 1, 0, 0, 0] [1, 1, 1, 0, 1, 0, 0, 1, 1, 0, 0, 1] (by kernel_rfl) ?_
      refine c_reg 5 (by kernel_rfl) ?_
      have hi57 : k < (sentL la (c : Int)).length := (by have hq := h43.ln; first | omega | (simp only [List.length_append, List.length_cons, List.length_nil, List.length_map] at *; omega))
      obtain ⟨b51, o52, c53, he54, hs55, hr56⟩ := (h43).at k hi57
      obtain ⟨o58, ho58⟩ : ∃ o, o = o52 + k * 7 := ⟨_, rfl⟩
      obtain ⟨x59, hx60⟩ : ∃ x, x = ((sentL la (c : Int))[k]'hi57) := ⟨_, rfl⟩
      rw [← hx60] at hr56
      have hr56 : c53 = [(Value.int .i64 (x59.channel)), (uv x59.seq), (uv x59.timeout), (sv x59.denom), (uv x59.amount), (sv x59.src), (sv x59.dst)] := hr56
      subst hr56
      have hs55 : Seg s30 w29 b51 o58 [(Value.int .i64 (x59.channel)), (uv x59.seq), (uv x59.timeout), (sv x59.denom), (uv x59.amount), (sv x59.src), (sv x59.dst)] := by rw [ho58]; exact hs55
      refine r_at (r_val (d := 22) (op := (Op.indexAddr 43 (Operand.tmp 18) (Operand.tmp 20))) hF49 (by kernel_rfl) (by kernel_rfl) (Value.pointer (some ⟨b51, o58, none⟩)) w29 (by rw [ho58]; exact exec_index (len := m23) (cap := c21) he54 (by kernel_rfl) (kd := .i64) k (by kernel_rfl) (by have := h43.ln; omega) 7 U43 L56.s) ?_)
      intro a61 hF62
      refine r_at (r_val (d := 23) (op := (Op.load 56 (Operand.tmp 22))) hF62 (by kernel_rfl) (by kernel_rfl) (Value.agg #[(Value.int .i64 (x59.channel)), (uv x59.seq), (uv x59.timeout), (sv x59.denom), (uv x59.amount), (sv x59.src), (sv x59.dst)]) w29 (exec_load L56 (.inl rfl) (by kernel_rfl) hs55.cell) ?_)
      intro a63 hF64
      refine r_at (r_new (d := 11) (op := (Op.alloc 56)) hF64 (by kernel_rfl) (by kernel_rfl) s30 [(Value.int .i64 ((0 : Nat) : Int)), (uv 0), (uv 0), (sv []), (uv 0), (sv []), (sv [])] 56 (exec_alloc [(Value.int .i64 ((0 : Nat) : Int)), (uv 0), (uv 0), (sv []), (uv 0), (sv []), (sv [])] (fun _ => .inl (by kernel_rfl))) ?_)
      intro a65 s66 w67 b68 hb69 st70 hB71 hF72
      have hz73 := hS32.size
      have ne74 : ¬ Value.ownBlock (Value.slice A33 m35 cp34) = some b68 := fun e => by have := hO44.lt e; omega
      have ne75 : ¬ Value.ownBlock (Value.slice A37 m39 cp38) = some b68 := fun e => by have := hO45.lt e; omega
      have hS76 := hS32.then st70
      refine r_at (r_store (t := 56) (x := (Operand.tmp 11)) (y := (Operand.tmp 23)) hF72 (by kernel_rfl) (by kernel_rfl) hB71 0 [(Value.int .i64 (x59.channel)), (uv x59.seq), (uv x59.timeout), (sv x59.denom), (uv x59.amount), (sv x59.src), (sv x59.dst)] [(Value.int .i64 (x59.channel)), (uv x59.seq), (uv x59.timeout), (sv x59.denom), (uv x59.amount), (sv x59.src), (sv x59.dst)] (by kernel_rfl) (by kernel_rfl) 7 true L56 rfl (by kernel_rfl) (Nat.le_of_ble_eq_true (by kernel_rfl)) (by kernel_rfl) ?_)
      intro a77 w78 st79 hB80 hF81
      have hS82 := hS76.and st79 (fun b e => by subst e; omega)
      have hF83 := hF81.keep [11, 0, 1, 8, 9, 18, 19, 20] [(11, (Value.pointer (some ⟨b68, 0, none⟩))), (0, (Value.slice A0 la.length c0)), (1, (Value.slice A1 lb.length c1)), (8, (Value.slice A33 m35 cp34)), (9, (Value.slice A37 m39 cp38)), (18, (Value.slice A20 m23 c21)), (19, (Value.int .i64 ((m23 : Nat) : Int))), (20, (Value.int .i64 ((k : Nat) : Int)))] (by kernel_rfl)
      refine r_end (by kernel_rfl) ?_
      refine c_seq [1, 1, 1, 0, 1, 0, 0, 1, 1, 0, 0, 1, 0] [1, 1, 1, 0, 1, 0, 0, 1, 1, 0, 0, 1, 1] (by kernel_rfl) ?_
      refine c_reg 6 (by kernel_rfl) ?_
      refine r_runk 1 [25, 11, 0, 1, 8, 9, 18, 19, 20] [(25, (Value.slice A1 lb.length c1)), (11, (Value.pointer (some ⟨b68, 0, none⟩))), (0, (Value.slice A0 la.length c0)), (1, (Value.slice A1 lb.length c1)), (8, (Value.slice A33 m35 cp34)), (9, (Value.slice A37 m39 cp38)), (18, (Value.slice A20 m23 c21)), (19, (Value.int .i64 ((m23 : Nat) : Int))), (20, (Value.int .i64 ((k : Nat) : Int)))] hF83 (by kernel_rfl) (by kernel_rfl) ?_
      intro a84 hF85
      refine r_at (r_val (d := 26) (op := (Op.load 56 (Operand.tmp 11))) hF85 (by kernel_rfl) (by kernel_rfl) (Value.agg #[(Value.int .i64 (x59.channel)), (uv x59.seq), (uv x59.timeout), (sv x59.denom), (uv x59.amount), (sv x59.src), (sv x59.dst)]) w78 (exec_load L56 (.inl rfl) (by kernel_rfl) (Bx.cells hB80 0 7 [(Value.int .i64 (x59.channel)), (uv x59.seq), (uv x59.timeout), (sv x59.denom), (uv x59.amount), (sv x59.src), (sv x59.dst)] (by kernel_rfl))) ?_)
      intro a86 hF87
      have h88 : Own tPacket 56 w.heap.size s66 w78 (Value.slice A33 m35 cp34) (((sentL la c).take (k)).filter (answers la lb)) := ((hO44.step' st70).step st79 (fun g hg e => ne74 (by subst e; exact hg)))
      have h89 : Own tAck 53 w.heap.size s66 w78 (Value.slice A37 m39 cp38) ((((sentL la c).take (k)).filter (answers la lb)).map (ackOf lb)) := ((hO45.step' st70).step st79 (fun g hg e => ne75 (by subst e; exact hg)))
      refine r_at (r_lit tU8 (d := 27) (t := 80) (m := 1) (parts := #[(0, (Operand.const (Value.int IntKind.u8 2)))]) hF87 (by kernel_rfl) (by kernel_rfl) s66 [2] [(bv 2)] ⟨_, _, rfl, rfl, rfl⟩ rfl (by decide) (e := 47) (fun o e => by simp only [execOp, e]; kernel_rfl) (by decide) ?_)
      intro a90 s91 w92 g93 hg94 st95 hO96 hF97
      have hz98 := hS82.size
      have hS99 := hS82.then st95
      have hO100 : Own tU8 47 w.heap.size s91 w92 (Value.slice (some ⟨g93, 0, none⟩) 1 1) [2] := (hO96.le (by omega : w.heap.size ≤ _))
      have ne102 : ∀ g, Value.ownBlock (Value.slice A33 m35 cp34) = some g → ¬ Value.ownBlock (Value.slice (some ⟨g93, 0, none⟩) 1 1) = some g := fun g hg e => by have h1 := hO96.ge e; have h2 := h88.lt hg; omega
      have ne103 : ∀ g, Value.ownBlock (Value.slice A37 m39 cp38) = some g → ¬ Value.ownBlock (Value.slice (some ⟨g93, 0, none⟩) 1 1) = some g := fun g hg e => by have h1 := hO96.ge e; have h2 := h89.lt hg; omega
      have ne104 : ¬ Value.ownBlock (Value.slice (some ⟨g93, 0, none⟩) 1 1) = some b68 := fun e => by have h1 := hO96.ge e; have h2 := hB80.lt; omega
      have h105 : Rd tEvent s91 w92 (Value.slice A1 lb.length c1) lb := h1.step hS99
      have h106 : Own tPacket 56 w.heap.size s91 w92 (Value.slice A33 m35 cp34) (((sentL la c).take (k)).filter (answers la lb)) := (h88.step' st95)
      have h107 : Own tAck 53 w.heap.size s91 w92 (Value.slice A37 m39 cp38) ((((sentL la c).take (k)).filter (answers la lb)).map (ackOf lb)) := (h89.step' st95)
      have h108 : Bx s91 w92 b68 [(Value.int .i64 (x59.channel)), (uv x59.seq), (uv x59.timeout), (sv x59.denom), (uv x59.amount), (sv x59.src), (sv x59.dst)] 56 := (hB80.step' st95)
      refine r_at (r_call (d := (some 28)) (f := 38) (args := #[(Operand.tmp 25), (Operand.tmp 26), (Operand.tmp 27)]) (tys := #[41, 56, 80]) hF97 (by kernel_rfl) (by kernel_rfl) C38 [(Value.slice A1 lb.length c1), (Value.agg #[(Value.int .i64 (x59.channel)), (uv x59.seq), (uv x59.timeout), (sv x59.denom), (uv x59.amount), (sv x59.src), (sv x59.dst)]), (Value.slice (some ⟨g93, 0, none⟩) 1 1)] (by kernel_rfl) (same_calls s91 w92 h105 x59 hO100.rd) ?_)
      intro a109 s110 w111 v112 st113 hP114 hF115
      have hz116 := hS99.size
      have hS117 := hS99.then st113
      subst hP114
      refine r_runk 3 [30, 29, 11, 0, 1, 8, 9, 18, 19, 20] [(30, (Value.bool ((sameL lb x59 [2]).isSome))), (29, (Value.agg #[(bv ((sameE lb x59 [2]).kind)), (Value.int .i64 (((sameE lb x59 [2]).packet).channel)), (uv (((sameE lb x59 [2]).packet).seq)), (uv (((sameE lb x59 [2]).packet).timeout)), (sv (((sameE lb x59 [2]).packet).denom)), (uv (((sameE lb x59 [2]).packet).amount)), (sv (((sameE lb x59 [2]).packet).src)), (sv (((sameE lb x59 [2]).packet).dst)), (Value.bool (((sameE lb x59 [2]).ack).ok)), (Value.int .i64 (((sameE lb x59 [2]).ack).code))])), (11, (Value.pointer (some ⟨b68, 0, none⟩))), (0, (Value.slice A0 la.length c0)), (1, (Value.slice A1 lb.length c1)), (8, (Value.slice A33 m35 cp34)), (9, (Value.slice A37 m39 cp38)), (18, (Value.slice A20 m23 c21)), (19, (Value.int .i64 ((m23 : Nat) : Int))), (20, (Value.int .i64 ((k : Nat) : Int)))] hF115 (by kernel_rfl) (by kernel_rfl) ?_
      intro a118 hF119
      have h120 : Own tPacket 56 w.heap.size s110 w111 (Value.slice A33 m35 cp34) (((sentL la c).take (k)).filter (answers la lb)) := (h106.step' st113)
      have h121 : Own tAck 53 w.heap.size s110 w111 (Value.slice A37 m39 cp38) ((((sentL la c).take (k)).filter (answers la lb)).map (ackOf lb)) := (h107.step' st113)
      have h122 : Bx s110 w111 b68 [(Value.int .i64 (x59.channel)), (uv x59.seq), (uv x59.timeout), (sv x59.denom), (uv x59.amount), (sv x59.src), (sv x59.dst)] 56 := (h108.step' st113)
      have h123 : Own tU8 47 w.heap.size s110 w111 (Value.slice (some ⟨g93, 0, none⟩) 1 1) [2] := (hO100.step' st113)
      refine r_at (r_new (d := 12) (op := (Op.alloc 60)) hF119 (by kernel_rfl) (by kernel_rfl) s110 [(bv 0), (Value.int .i64 ((0 : Nat) : Int)), (uv 0), (uv 0), (sv []), (uv 0), (sv []), (sv []), (Value.bool false), (Value.int .i64 ((0 : Nat) : Int))] 60 (exec_alloc [(bv 0), (Value.int .i64 ((0 : Nat) : Int)), (uv 0), (uv 0), (sv []), (uv 0), (sv []), (sv []), (Value.bool false), (Value.int .i64 ((0 : Nat) : Int))] (fun _ => .inl (by kernel_rfl))) ?_)
      intro a124 s125 w126 b127 hb128 st129 hB130 hF131
      have hz132 := hS117.size
      have ne133 : ¬ Value.ownBlock (Value.slice A33 m35 cp34) = some b127 := fun e => by have := h120.lt e; omega
      have ne134 : ¬ Value.ownBlock (Value.slice A37 m39 cp38) = some b127 := fun e => by have := h121.lt e; omega
      have ne135 : b68 < b127 := by have := h122.lt; omega
      have ne136 : ¬ Value.ownBlock (Value.slice (some ⟨g93, 0, none⟩) 1 1) = some b127 := fun e => by have := h123.lt e; omega
      have hS137 := hS117.then st129
      refine r_at (r_store (t := 60) (x := (Operand.tmp 12)) (y := (Operand.tmp 29)) hF131 (by kernel_rfl) (by kernel_rfl) hB130 0 [(bv ((sameE lb x59 [2]).kind)), (Value.int .i64 (((sameE lb x59 [2]).packet).channel)), (uv (((sameE lb x59 [2]).packet).seq)), (uv (((sameE lb x59 [2]).packet).timeout)), (sv (((sameE lb x59 [2]).packet).denom)), (uv (((sameE lb x59 [2]).packet).amount)), (sv (((sameE lb x59 [2]).packet).src)), (sv (((sameE lb x59 [2]).packet).dst)), (Value.bool (((sameE lb x59 [2]).ack).ok)), (Value.int .i64 (((sameE lb x59 [2]).ack).code))] [(bv ((sameE lb x59 [2]).kind)), (Value.int .i64 (((sameE lb x59 [2]).packet).channel)), (uv (((sameE lb x59 [2]).packet).seq)), (uv (((sameE lb x59 [2]).packet).timeout)), (sv (((sameE lb x59 [2]).packet).denom)), (uv (((sameE lb x59 [2]).packet).amount)), (sv (((sameE lb x59 [2]).packet).src)), (sv (((sameE lb x59 [2]).packet).dst)), (Value.bool (((sameE lb x59 [2]).ack).ok)), (Value.int .i64 (((sameE lb x59 [2]).ack).code))] (by kernel_rfl) (by kernel_rfl) 10 true L60 rfl (by kernel_rfl) (Nat.le_of_ble_eq_true (by kernel_rfl)) (by kernel_rfl) ?_)
      intro a138 w139 st140 hB141 hF142
      have hS143 := hS137.and st140 (fun b e => by subst e; omega)
      refine r_runk 1 [13, 12, 11, 0, 1, 8, 9, 18, 19, 20] [(13, (Value.bool ((sameL lb x59 [2]).isSome))), (12, (Value.pointer (some ⟨b127, 0, none⟩))), (11, (Value.pointer (some ⟨b68, 0, none⟩))), (0, (Value.slice A0 la.length c0)), (1, (Value.slice A1 lb.length c1)), (8, (Value.slice A33 m35 cp34)), (9, (Value.slice A37 m39 cp38)), (18, (Value.slice A20 m23 c21)), (19, (Value.int .i64 ((m23 : Nat) : Int))), (20, (Value.int .i64 ((k : Nat) : Int)))] hF142 (by kernel_rfl) (by kernel_rfl) ?_
      intro a144 hF145
      refine r_end (by kernel_rfl) ?_
      refine c_seq [1, 1, 1, 0, 1, 0, 0, 1, 1, 0, 0, 1, 1, 0] [1, 1, 1, 0, 1, 0, 0, 1, 1, 0, 0, 1, 1, 1] (by kernel_rfl) ?_
      refine c_reg 7 (by kernel_rfl) ?_
      refine r_runk 1 [32, 13, 12, 11, 0, 1, 8, 9, 18, 19, 20] [(32, (Value.slice A0 la.length c0)), (13, (Value.bool ((sameL lb x59 [2]).isSome))), (12, (Value.pointer (some ⟨b127, 0, none⟩))), (11, (Value.pointer (some ⟨b68, 0, none⟩))), (0, (Value.slice A0 la.length c0)), (1, (Value.slice A1 lb.length c1)), (8, (Value.slice A33 m35 cp34)), (9, (Value.slice A37 m39 cp38)), (18, (Value.slice A20 m23 c21)), (19, (Value.int .i64 ((m23 : Nat) : Int))), (20, (Value.int .i64 ((k : Nat) : Int)))] hF145 (by kernel_rfl) (by kernel_rfl) ?_
      intro a146 hF147
      have h148 : Bx s125 w139 b68 [(Value.int .i64 (x59.channel)), (uv x59.seq), (uv x59.timeout), (sv x59.denom), (uv x59.amount), (sv x59.src), (sv x59.dst)] 56 := ((h122.step' st129).step st140 (fun e => absurd e (by omega)))
      refine r_at (r_val (d := 33) (op := (Op.load 56 (Operand.tmp 11))) hF147 (by kernel_rfl) (by kernel_rfl) (Value.agg #[(Value.int .i64 (x59.channel)), (uv x59.seq), (uv x59.timeout), (sv x59.denom), (uv x59.amount), (sv x59.src), (sv x59.dst)]) w139 (exec_load L56 (.inl rfl) (by kernel_rfl) (Bx.cells h148 0 7 [(Value.int .i64 (x59.channel)), (uv x59.seq), (uv x59.timeout), (sv x59.denom), (uv x59.amount), (sv x59.src), (sv x59.dst)] (by kernel_rfl))) ?_)
      intro a149 hF150
      have h151 : Own tPacket 56 w.heap.size s125 w139 (Value.slice A33 m35 cp34) (((sentL la c).take (k)).filter (answers la lb)) := ((h120.step' st129).step st140 (fun g hg e => ne133 (by subst e; exact hg)))
      have h152 : Own tAck 53 w.heap.size s125 w139 (Value.slice A37 m39 cp38) ((((sentL la c).take (k)).filter (answers la lb)).map (ackOf lb)) := ((h121.step' st129).step st140 (fun g hg e => ne134 (by subst e; exact hg)))
      refine r_at (r_lit tU8 (d := 34) (t := 80) (m := 2) (parts := #[(0, (Operand.const (Value.int IntKind.u8 3))), (1, (Operand.const (Value.int IntKind.u8 4)))]) hF150 (by kernel_rfl) (by kernel_rfl) s125 [3, 4] [(bv 3), (bv 4)] ⟨_, _, rfl, rfl, ⟨_, _, rfl, rfl, rfl⟩⟩ rfl (by decide) (e := 47) (fun o e => by simp only [execOp, e]; kernel_rfl) (by decide) ?_)
      intro a153 s154 w155 g156 hg157 st158 hO159 hF160
      have hz161 := hS143.size
      have hS162 := hS143.then st158
      have hO163 : Own tU8 47 w.heap.size s154 w155 (Value.slice (some ⟨g156, 0, none⟩) 2 2) [3, 4] := (hO159.le (by omega : w.heap.size ≤ _))
      have ne165 : ∀ g, Value.ownBlock (Value.slice A33 m35 cp34) = some g → ¬ Value.ownBlock (Value.slice (some ⟨g156, 0, none⟩) 2 2) = some g := fun g hg e => by have h1 := hO159.ge e; have h2 := h151.lt hg; omega
      have ne166 : ∀ g, Value.ownBlock (Value.slice A37 m39 cp38) = some g → ¬ Value.ownBlock (Value.slice (some ⟨g156, 0, none⟩) 2 2) = some g := fun g hg e => by have h1 := hO159.ge e; have h2 := h152.lt hg; omega
      have ne167 : ¬ Value.ownBlock (Value.slice (some ⟨g156, 0, none⟩) 2 2) = some b68 := fun e => by have h1 := hO159.ge e; have h2 := h148.lt; omega
      have ne168 : ¬ Value.ownBlock (Value.slice (some ⟨g156, 0, none⟩) 2 2) = some b127 := fun e => by have h1 := hO159.ge e; have h2 := hB141.lt; omega
      have h169 : Rd tEvent s154 w155 (Value.slice A0 la.length c0) la := h0.step hS162
      have h170 : Own tPacket 56 w.heap.size s154 w155 (Value.slice A33 m35 cp34) (((sentL la c).take (k)).filter (answers la lb)) := (h151.step' st158)
      have h171 : Own tAck 53 w.heap.size s154 w155 (Value.slice A37 m39 cp38) ((((sentL la c).take (k)).filter (answers la lb)).map (ackOf lb)) := (h152.step' st158)
      have h172 : Bx s154 w155 b68 [(Value.int .i64 (x59.channel)), (uv x59.seq), (uv x59.timeout), (sv x59.denom), (uv x59.amount), (sv x59.src), (sv x59.dst)] 56 := (h148.step' st158)
      have h173 : Bx s154 w155 b127 [(bv ((sameE lb x59 [2]).kind)), (Value.int .i64 (((sameE lb x59 [2]).packet).channel)), (uv (((sameE lb x59 [2]).packet).seq)), (uv (((sameE lb x59 [2]).packet).timeout)), (sv (((sameE lb x59 [2]).packet).denom)), (uv (((sameE lb x59 [2]).packet).amount)), (sv (((sameE lb x59 [2]).packet).src)), (sv (((sameE lb x59 [2]).packet).dst)), (Value.bool (((sameE lb x59 [2]).ack).ok)), (Value.int .i64 (((sameE lb x59 [2]).ack).code))] 60 := (hB141.step' st158)
      refine r_at (r_call (d := (some 35)) (f := 38) (args := #[(Operand.tmp 32), (Operand.tmp 33), (Operand.tmp 34)]) (tys := #[41, 56, 80]) hF160 (by kernel_rfl) (by kernel_rfl) C38 [(Value.slice A0 la.length c0), (Value.agg #[(Value.int .i64 (x59.channel)), (uv x59.seq), (uv x59.timeout), (sv x59.denom), (uv x59.amount), (sv x59.src), (sv x59.dst)]), (Value.slice (some ⟨g156, 0, none⟩) 2 2)] (by kernel_rfl) (same_calls s154 w155 h169 x59 hO163.rd) ?_)
      intro a174 s175 w176 v177 st178 hP179 hF180
      have hz181 := hS162.size
      have hS182 := hS162.then st178
      subst hP179
      refine r_runk 3 [37, 36, 13, 12, 11, 0, 1, 8, 9, 18, 19, 20] [(37, (Value.bool ((sameL la x59 [3, 4]).isSome))), (36, (Value.agg #[(bv ((sameE la x59 [3, 4]).kind)), (Value.int .i64 (((sameE la x59 [3, 4]).packet).channel)), (uv (((sameE la x59 [3, 4]).packet).seq)), (uv (((sameE la x59 [3, 4]).packet).timeout)), (sv (((sameE la x59 [3, 4]).packet).denom)), (uv (((sameE la x59 [3, 4]).packet).amount)), (sv (((sameE la x59 [3, 4]).packet).src)), (sv (((sameE la x59 [3, 4]).packet).dst)), (Value.bool (((sameE la x59 [3, 4]).ack).ok)), (Value.int .i64 (((sameE la x59 [3, 4]).ack).code))])), (13, (Value.bool ((sameL lb x59 [2]).isSome))), (12, (Value.pointer (some ⟨b127, 0, none⟩))), (11, (Value.pointer (some ⟨b68, 0, none⟩))), (0, (Value.slice A0 la.length c0)), (1, (Value.slice A1 lb.length c1)), (8, (Value.slice A33 m35 cp34)), (9, (Value.slice A37 m39 cp38)), (18, (Value.slice A20 m23 c21)), (19, (Value.int .i64 ((m23 : Nat) : Int))), (20, (Value.int .i64 ((k : Nat) : Int)))] hF180 (by kernel_rfl) (by kernel_rfl) ?_
      intro a183 hF184
      have h185 : Own tPacket 56 w.heap.size s175 w176 (Value.slice A33 m35 cp34) (((sentL la c).take (k)).filter (answers la lb)) := (h170.step' st178)
      have h186 : Own tAck 53 w.heap.size s175 w176 (Value.slice A37 m39 cp38) ((((sentL la c).take (k)).filter (answers la lb)).map (ackOf lb)) := (h171.step' st178)
      have h187 : Bx s175 w176 b68 [(Value.int .i64 (x59.channel)), (uv x59.seq), (uv x59.timeout), (sv x59.denom), (uv x59.amount), (sv x59.src), (sv x59.dst)] 56 := (h172.step' st178)
      have h188 : Own tU8 47 w.heap.size s175 w176 (Value.slice (some ⟨g93, 0, none⟩) 1 1) [2] := ((((h123.step' st129).step st140 (fun g hg e => ne136 (by subst e; exact hg))).step' st158).step' st178)
      have h189 : Bx s175 w176 b127 [(bv ((sameE lb x59 [2]).kind)), (Value.int .i64 (((sameE lb x59 [2]).packet).channel)), (uv (((sameE lb x59 [2]).packet).seq)), (uv (((sameE lb x59 [2]).packet).timeout)), (sv (((sameE lb x59 [2]).packet).denom)), (uv (((sameE lb x59 [2]).packet).amount)), (sv (((sameE lb x59 [2]).packet).src)), (sv (((sameE lb x59 [2]).packet).dst)), (Value.bool (((sameE lb x59 [2]).ack).ok)), (Value.int .i64 (((sameE lb x59 [2]).ack).code))] 60 := (h173.step' st178)
      have h190 : Own tU8 47 w.heap.size s175 w176 (Value.slice (some ⟨g156, 0, none⟩) 2 2) [3, 4] := (hO163.step' st178)
      refine r_at (r_new (d := 14) (op := (Op.alloc 60)) hF184 (by kernel_rfl) (by kernel_rfl) s175 [(bv 0), (Value.int .i64 ((0 : Nat) : Int)), (uv 0), (uv 0), (sv []), (uv 0), (sv []), (sv []), (Value.bool false), (Value.int .i64 ((0 : Nat) : Int))] 60 (exec_alloc [(bv 0), (Value.int .i64 ((0 : Nat) : Int)), (uv 0), (uv 0), (sv []), (uv 0), (sv []), (sv []), (Value.bool false), (Value.int .i64 ((0 : Nat) : Int))] (fun _ => .inl (by kernel_rfl))) ?_)
      intro a191 s192 w193 b194 hb195 st196 hB197 hF198
      have hz199 := hS182.size
      have ne200 : ¬ Value.ownBlock (Value.slice A33 m35 cp34) = some b194 := fun e => by have := h185.lt e; omega
      have ne201 : ¬ Value.ownBlock (Value.slice A37 m39 cp38) = some b194 := fun e => by have := h186.lt e; omega
      have ne202 : b68 < b194 := by have := h187.lt; omega
      have ne203 : ¬ Value.ownBlock (Value.slice (some ⟨g93, 0, none⟩) 1 1) = some b194 := fun e => by have := h188.lt e; omega
      have ne204 : b127 < b194 := by have := h189.lt; omega
      have ne205 : ¬ Value.ownBlock (Value.slice (some ⟨g156, 0, none⟩) 2 2) = some b194 := fun e => by have := h190.lt e; omega
      have hS206 := hS182.then st196
      refine r_at (r_store (t := 60) (x := (Operand.tmp 14)) (y := (Operand.tmp 36)) hF198 (by kernel_rfl) (by kernel_rfl) hB197 0 [(bv ((sameE la x59 [3, 4]).kind)), (Value.int .i64 (((sameE la x59 [3, 4]).packet).channel)), (uv (((sameE la x59 [3, 4]).packet).seq)), (uv (((sameE la x59 [3, 4]).packet).timeout)), (sv (((sameE la x59 [3, 4]).packet).denom)), (uv (((sameE la x59 [3, 4]).packet).amount)), (sv (((sameE la x59 [3, 4]).packet).src)), (sv (((sameE la x59 [3, 4]).packet).dst)), (Value.bool (((sameE la x59 [3, 4]).ack).ok)), (Value.int .i64 (((sameE la x59 [3, 4]).ack).code))] [(bv ((sameE la x59 [3, 4]).kind)), (Value.int .i64 (((sameE la x59 [3, 4]).packet).channel)), (uv (((sameE la x59 [3, 4]).packet).seq)), (uv (((sameE la x59 [3, 4]).packet).timeout)), (sv (((sameE la x59 [3, 4]).packet).denom)), (uv (((sameE la x59 [3, 4]).packet).amount)), (sv (((sameE la x59 [3, 4]).packet).src)), (sv (((sameE la x59 [3, 4]).packet).dst)), (Value.bool (((sameE la x59 [3, 4]).ack).ok)), (Value.int .i64 (((sameE la x59 [3, 4]).ack).code))] (by kernel_rfl) (by kernel_rfl) 10 true L60 rfl (by kernel_rfl) (Nat.le_of_ble_eq_true (by kernel_rfl)) (by kernel_rfl) ?_)
      intro a207 w208 st209 hB210 hF211
      have hS212 := hS206.and st209 (fun b e => by subst e; omega)
      refine r_runk 1 [15, 13, 12, 11, 0, 1, 8, 9, 18, 19, 20] [(15, (Value.bool ((sameL la x59 [3, 4]).isSome))), (13, (Value.bool ((sameL lb x59 [2]).isSome))), (12, (Value.pointer (some ⟨b127, 0, none⟩))), (11, (Value.pointer (some ⟨b68, 0, none⟩))), (0, (Value.slice A0 la.length c0)), (1, (Value.slice A1 lb.length c1)), (8, (Value.slice A33 m35 cp34)), (9, (Value.slice A37 m39 cp38)), (18, (Value.slice A20 m23 c21)), (19, (Value.int .i64 ((m23 : Nat) : Int))), (20, (Value.int .i64 ((k : Nat) : Int)))] hF211 (by kernel_rfl) (by kernel_rfl) ?_
      intro a213 hF214
      refine r_end (by kernel_rfl) ?_
      refine c_seq [1, 1, 1, 0, 1, 0, 0, 1, 1, 0, 0, 1, 1, 1, 0] [1, 1, 1, 0, 1, 0, 0, 1, 1, 0, 0, 1, 1, 1, 1] (by kernel_rfl) ?_
      refine c_reg 8 (by kernel_rfl) ?_
      refine r_runk 2 [39, 15, 12, 11, 0, 1, 8, 9, 18, 19, 20] [(39, (Value.bool ((sameL lb x59 [2]).isSome))), (15, (Value.bool ((sameL la x59 [3, 4]).isSome))), (12, (Value.pointer (some ⟨b127, 0, none⟩))), (11, (Value.pointer (some ⟨b68, 0, none⟩))), (0, (Value.slice A0 la.length c0)), (1, (Value.slice A1 lb.length c1)), (8, (Value.slice A33 m35 cp34)), (9, (Value.slice A37 m39 cp38)), (18, (Value.slice A20 m23 c21)), (19, (Value.int .i64 ((m23 : Nat) : Int))), (20, (Value.int .i64 ((k : Nat) : Int)))] hF214 (by kernel_rfl) (by kernel_rfl) ?_
      intro a215 hF216
      rcases Bool.eq_false_or_eq_true ((sameL lb x59 [2]).isSome) with hg217 | hg217
      · skip
        have hF218 := hF216.set 39 (Value.bool ((sameL lb x59 [2]).isSome)) (Value.bool true) (by kernel_rfl) (congrArg Value.bool hg217)
        refine r_runk 3 [42, 12, 11, 0, 1, 8, 9, 18, 19, 20] [(42, (Value.bool (!((sameL la x59 [3, 4]).isSome)))), (12, (Value.pointer (some ⟨b127, 0, none⟩))), (11, (Value.pointer (some ⟨b68, 0, none⟩))), (0, (Value.slice A0 la.length c0)), (1, (Value.slice A1 lb.length c1)), (8, (Value.slice A33 m35 cp34)), (9, (Value.slice A37 m39 cp38)), (18, (Value.slice A20 m23 c21)), (19, (Value.int .i64 ((m23 : Nat) : Int))), (20, (Value.int .i64 ((k : Nat) : Int)))] hF218 (by kernel_rfl) (by kernel_rfl) ?_
        intro a219 hF220
        refine r_end (by kernel_rfl) ?_
        refine c_cond [1, 1, 1, 0, 1, 0, 0, 1, 1, 0, 0, 1, 1, 1, 1, 0] [1, 1, 1, 0, 1, 0, 0, 1, 1, 0, 0, 1, 1, 1, 1, 1] 42 (by kernel_rfl) hF220 (!((sameL la x59 [3, 4]).isSome)) (by kernel_rfl) (fun hc221 => ?_) (fun hc221 => ?_)
        · skip
          refine c_draw 9 (by kernel_rfl) (by kernel_rfl) s192 (fun b => b ≠ b68 ∧ b ≠ b127 ∧ b ≠ b194 ∧ True) 11 (by kernel_rfl) #[false, false, false, false, false, false, false, false, false, false, false] (by kernel_rfl) ?_
          intro w222 st223
          have hS224 := hS212.then st223
          refine d_run (d := 43) (v := (Value.slice A33 m35 cp34)) 0 hF220 (since_refl _ _ _) (by kernel_rfl) (by kernel_rfl) (fun _ => by kernel_rfl) (fun _ _ _ h => h) #[true, false, false, false, false, false, false, false, false, false, false] (by kernel_rfl) ?_
          intro a225 hF226
          refine d_run (d := 47) (v := (Value.slice A37 m39 cp38)) 4 hF226 (since_refl _ _ _) (by kernel_rfl) (by kernel_rfl) (fun _ => by kernel_rfl) (fun _ _ _ h => h) #[true, false, false, false, true, false, false, false, false, false, false] (by kernel_rfl) ?_
          intro a227 hF228
          refine d_run (d := 48) (v := (Value.pointer (some ⟨b127, 8, none⟩))) 5 hF228 (since_refl _ _ _) (by kernel_rfl) (by kernel_rfl) (fun _ => by kernel_rfl) (fun _ _ _ h => h) #[true, false, false, false, true, true, false, false, false, false, false] (by kernel_rfl) ?_
          intro a229 hF230
          have h231 : Bx s192 w222 b68 [(Value.int .i64 (x59.channel)), (uv x59.seq), (uv x59.timeout), (sv x59.denom), (uv x59.amount), (sv x59.src), (sv x59.dst)] 56 := (((h187.step' st196).step st209 (fun e => absurd e (by omega))).step' st223)
          refine d_val (d := 44) (op := (Op.load 56 (Operand.tmp 11))) (v := (Value.agg #[(Value.int .i64 (x59.channel)), (uv x59.seq), (uv x59.timeout), (sv x59.denom), (uv x59.amount), (sv x59.src), (sv x59.dst)])) 1 hF230 (since_refl _ _ _) (by kernel_rfl) (by kernel_rfl) (by kernel_rfl) (fun w9 ⟨s9, hw9⟩ => (exec_load L56 (.inl rfl) (by kernel_rfl) (Bx.cells (h231.step hw9 (fun h => h.1 rfl)) 0 7 [(Value.int .i64 (x59.channel)), (uv x59.seq), (uv x59.timeout), (sv x59.denom), (uv x59.amount), (sv x59.src), (sv x59.dst)] (by kernel_rfl)))) (fun _ _ _ h => h) #[true, true, false, false, true, true, false, false, false, false, false] (by kernel_rfl) ?_
          intro a232 hF233
          have hF234 := hF233.keep [44, 48, 47, 43, 0, 1, 8, 9, 18, 19, 20] [(44, (Value.agg #[(Value.int .i64 (x59.channel)), (uv x59.seq), (uv x59.timeout), (sv x59.denom), (uv x59.amount), (sv x59.src), (sv x59.dst)])), (48, (Value.pointer (some ⟨b127, 8, none⟩))), (47, (Value.slice A37 m39 cp38)), (43, (Value.slice A33 m35 cp34)), (0, (Value.slice A0 la.length c0)), (1, (Value.slice A1 lb.length c1)), (8, (Value.slice A33 m35 cp34)), (9, (Value.slice A37 m39 cp38)), (18, (Value.slice A20 m23 c21)), (19, (Value.int .i64 ((m23 : Nat) : Int))), (20, (Value.int .i64 ((k : Nat) : Int)))] (by kernel_rfl)
          have h235 : Bx s192 w222 b127 [(bv ((sameE lb x59 [2]).kind)), (Value.int .i64 (((sameE lb x59 [2]).packet).channel)), (uv (((sameE lb x59 [2]).packet).seq)), (uv (((sameE lb x59 [2]).packet).timeout)), (sv (((sameE lb x59 [2]).packet).denom)), (uv (((sameE lb x59 [2]).packet).amount)), (sv (((sameE lb x59 [2]).packet).src)), (sv (((sameE lb x59 [2]).packet).dst)), (Value.bool (((sameE lb x59 [2]).ack).ok)), (Value.int .i64 (((sameE lb x59 [2]).ack).code))] 60 := (((h189.step' st196).step st209 (fun e => absurd e (by omega))).step' st223)
          refine d_val (d := 49) (op := (Op.load 53 (Operand.tmp 48))) (v := (Value.agg #[(Value.bool (((sameE lb x59 [2]).ack).ok)), (Value.int .i64 (((sameE lb x59 [2]).ack).code))])) 6 hF234 (since_refl _ _ _) (by kernel_rfl) (by kernel_rfl) (by kernel_rfl) (fun w9 ⟨s9, hw9⟩ => (exec_load L53 (.inl rfl) (by kernel_rfl) (Bx.cells (h235.step hw9 (fun h => h.2.1 rfl)) 8 2 [(Value.bool (((sameE lb x59 [2]).ack).ok)), (Value.int .i64 (((sameE lb x59 [2]).ack).code))] (by kernel_rfl)))) (fun _ _ _ h => h) #[true, true, false, false, true, true, true, false, false, false, false] (by kernel_rfl) ?_
          intro a236 hF237
          refine d_two 2 7 (by kernel_rfl) #[true, true, true, false, true, true, true, false, false, false, false] #[true, true, false, false, true, true, true, true, false, false, false] (by kernel_rfl) (by kernel_rfl) ?_ ?_
          · skip
            have h238 : Own tPacket 56 w.heap.size s192 w222 (Value.slice A33 m35 cp34) (((sentL la c).take (k)).filter (answers la lb)) := (((h185.step' st196).step st209 (fun g hg e => ne200 (by subst e; exact hg))).step' st223)
            have h239 : Own tAck 53 w.heap.size s192 w222 (Value.slice A37 m39 cp38) ((((sentL la c).take (k)).filter (answers la lb)).map (ackOf lb)) := (((h186.step' st196).step st209 (fun g hg e => ne201 (by subst e; exact hg))).step' st223)
            have h240 : Bx s192 w222 b194 [(bv ((sameE la x59 [3, 4]).kind)), (Value.int .i64 (((sameE la x59 [3, 4]).packet).channel)), (uv (((sameE la x59 [3, 4]).packet).seq)), (uv (((sameE la x59 [3, 4]).packet).timeout)), (sv (((sameE la x59 [3, 4]).packet).denom)), (uv (((sameE la x59 [3, 4]).packet).amount)), (sv (((sameE la x59 [3, 4]).packet).src)), (sv (((sameE la x59 [3, 4]).packet).dst)), (Value.bool (((sameE la x59 [3, 4]).ack).ok)), (Value.int .i64 (((sameE la x59 [3, 4]).ack).code))] 60 := (hB210.step' st223)
            refine r_lit tPacket (d := 45) (t := 43) (m := 1) (parts := #[(0, (Operand.tmp 44))]) hF237 (by kernel_rfl) (by kernel_rfl) s192 [x59] [(Value.int .i64 (x59.channel)), (uv x59.seq), (uv x59.timeout), (sv x59.denom), (uv x59.amount), (sv x59.src), (sv x59.dst)] ⟨_, _, rfl, rfl, rfl⟩ rfl (by decide) (e := 56) (fun o e => by simp only [execOp, e]; kernel_rfl) (by decide) ?_
            intro a241 s242 w243 g244 hg245 st246 hO247 hF248
            have hz249 := hS224.size
            have hS250 := hS224.then st246
            refine d_next st246 (fun _ e => e.elim) ?_
            have hO251 : Own tPacket 56 w.heap.size s242 w243 (Value.slice (some ⟨g244, 0, none⟩) 1 1) [x59] := (hO247.le (by omega : w.heap.size ≤ _))
            have ne253 : ∀ g, Value.ownBlock (Value.slice A33 m35 cp34) = some g → ¬ Value.ownBlock (Value.slice (some ⟨g244, 0, none⟩) 1 1) = some g := fun g hg e => by have h1 := hO247.ge e; have h2 := h238.lt hg; omega
            have ne254 : ∀ g, Value.ownBlock (Value.slice A37 m39 cp38) = some g → ¬ Value.ownBlock (Value.slice (some ⟨g244, 0, none⟩) 1 1) = some g := fun g hg e => by have h1 := hO247.ge e; have h2 := h239.lt hg; omega
            have ne255 : ¬ Value.ownBlock (Value.slice (some ⟨g244, 0, none⟩) 1 1) = some b68 := fun e => by have h1 := hO247.ge e; have h2 := h231.lt; omega
            have ne256 : ¬ Value.ownBlock (Value.slice (some ⟨g244, 0, none⟩) 1 1) = some b127 := fun e => by have h1 := hO247.ge e; have h2 := h235.lt; omega
            have ne257 : ¬ Value.ownBlock (Value.slice (some ⟨g244, 0, none⟩) 1 1) = some b194 := fun e => by have h1 := hO247.ge e; have h2 := h240.lt; omega
            refine d_two 3 7 (by kernel_rfl) #[true, true, true, true, true, true, true, false, false, false, false] #[true, true, true, false, true, true, true, true, false, false, false] (by kernel_rfl) (by kernel_rfl) ?_ ?_
            · skip
              have h258 : Own tPacket 56 w.heap.size s242 w243 (Value.slice A33 m35 cp34) (((sentL la c).take (k)).filter (answers la lb)) := (h238.step' st246)
              have h259 : Bx s242 w243 b68 [(Value.int .i64 (x59.channel)), (uv x59.seq), (uv x59.timeout), (sv x59.denom), (uv x59.amount), (sv x59.src), (sv x59.dst)] 56 := (h231.step' st246)
              have h260 : Bx s242 w243 b127 [(bv ((sameE lb x59 [2]).kind)), (Value.int .i64 (((sameE lb x59 [2]).packet).channel)), (uv (((sameE lb x59 [2]).packet).seq)), (uv (((sameE lb x59 [2]).packet).timeout)), (sv (((sameE lb x59 [2]).packet).denom)), (uv (((sameE lb x59 [2]).packet).amount)), (sv (((sameE lb x59 [2]).packet).src)), (sv (((sameE lb x59 [2]).packet).dst)), (Value.bool (((sameE lb x59 [2]).ack).ok)), (Value.int .i64 (((sameE lb x59 [2]).ack).code))] 60 := (h235.step' st246)
              have h261 : Bx s242 w243 b194 [(bv ((sameE la x59 [3, 4]).kind)), (Value.int .i64 (((sameE la x59 [3, 4]).packet).channel)), (uv (((sameE la x59 [3, 4]).packet).seq)), (uv (((sameE la x59 [3, 4]).packet).timeout)), (sv (((sameE la x59 [3, 4]).packet).denom)), (uv (((sameE la x59 [3, 4]).packet).amount)), (sv (((sameE la x59 [3, 4]).packet).src)), (sv (((sameE la x59 [3, 4]).packet).dst)), (Value.bool (((sameE la x59 [3, 4]).ack).ok)), (Value.int .i64 (((sameE la x59 [3, 4]).ack).code))] 60 := (h240.step' st246)
              have h262 : Own tAck 53 w.heap.size s242 w243 (Value.slice A37 m39 cp38) ((((sentL la c).take (k)).filter (answers la lb)).map (ackOf lb)) := (h239.step' st246)
              have hz272 := hS250.size
              have hb271 : (((sentL la c).take (k)).filter (answers la lb)).length + ([x59] : List _).length ≤ 1000000 := (by have h8 := sentL_len la c; have h9 := List.length_filter_le (answers la lb) ((sentL la c).take k); simp only [List.length_map, List.length_take, List.length_cons, List.length_nil] at *; omega)
              refine r_append tPacket S43 (d := 46) (x := (Operand.tmp 43)) (y := (Operand.tmp 45)) hF248 (by kernel_rfl) (by kernel_rfl) (by kernel_rfl) (by kernel_rfl) h258 hO251.rd (app_small hb271 (by decide)) (by omega) hz272 ?_
              intro a263 s264 w265 v266 st267 hO268 hn269 hF270
              obtain ⟨A275, m278, c276, rfl, hl277⟩ := hO268.formL
              have hS279 := hS250.and st267 (fun b e => h258.ge e)
              refine d_next st267 (fun b e => ⟨fun q => ne74 (by rw [← q]; exact e), fun q => ne133 (by rw [← q]; exact e), fun q => ne200 (by rw [← q]; exact e), trivial⟩) ?_
              have ne281 : ¬ Value.ownBlock (Value.slice A275 m278 c276) = some b68 := fun e => ne74 (hn269 _ h259.lt e)
              have ne282 : ¬ Value.ownBlock (Value.slice A275 m278 c276) = some b127 := fun e => ne133 (hn269 _ h260.lt e)
              have ne283 : ¬ Value.ownBlock (Value.slice A275 m278 c276) = some b194 := fun e => ne200 (hn269 _ h261.lt e)
              have ne284 : ∀ g, Value.ownBlock (Value.slice A37 m39 cp38) = some g → ¬ Value.ownBlock (Value.slice A275 m278 c276) = some g := fun g hg e => ne41 g (hn269 _ (h262.lt hg) e) hg
              have hF285 := hF270.keep [46, 49, 47, 0, 1, 8, 9, 18, 19, 20] [(46, (Value.slice A275 m278 c276)), (49, (Value.agg #[(Value.bool (((sameE lb x59 [2]).ack).ok)), (Value.int .i64 (((sameE lb x59 [2]).ack).code))])), (47, (Value.slice A37 m39 cp38)), (0, (Value.slice A0 la.length c0)), (1, (Value.slice A1 lb.length c1)), (8, (Value.slice A33 m35 cp34)), (9, (Value.slice A37 m39 cp38)), (18, (Value.slice A20 m23 c21)), (19, (Value.int .i64 ((m23 : Nat) : Int))), (20, (Value.int .i64 ((k : Nat) : Int)))] (by kernel_rfl)
              have h286 : Own tAck 53 w.heap.size s264 w265 (Value.slice A37 m39 cp38) ((((sentL la c).take (k)).filter (answers la lb)).map (ackOf lb)) := (h262.step st267 (fun g hg e => ne41 g e hg))
              have h287 : Bx s264 w265 b68 [(Value.int .i64 (x59.channel)), (uv x59.seq), (uv x59.timeout), (sv x59.denom), (uv x59.amount), (sv x59.src), (sv x59.dst)] 56 := (h259.step st267 (fun e => ne74 e))
              have h288 : Bx s264 w265 b127 [(bv ((sameE lb x59 [2]).kind)), (Value.int .i64 (((sameE lb x59 [2]).packet).channel)), (uv (((sameE lb x59 [2]).packet).seq)), (uv (((sameE lb x59 [2]).packet).timeout)), (sv (((sameE lb x59 [2]).packet).denom)), (uv (((sameE lb x59 [2]).packet).amount)), (sv (((sameE lb x59 [2]).packet).src)), (sv (((sameE lb x59 [2]).packet).dst)), (Value.bool (((sameE lb x59 [2]).ack).ok)), (Value.int .i64 (((sameE lb x59 [2]).ack).code))] 60 := (h260.step st267 (fun e => ne133 e))
              have h289 : Bx s264 w265 b194 [(bv ((sameE la x59 [3, 4]).kind)), (Value.int .i64 (((sameE la x59 [3, 4]).packet).channel)), (uv (((sameE la x59 [3, 4]).packet).seq)), (uv (((sameE la x59 [3, 4]).packet).timeout)), (sv (((sameE la x59 [3, 4]).packet).denom)), (uv (((sameE la x59 [3, 4]).packet).amount)), (sv (((sameE la x59 [3, 4]).packet).src)), (sv (((sameE la x59 [3, 4]).packet).dst)), (Value.bool (((sameE la x59 [3, 4]).ack).ok)), (Value.int .i64 (((sameE la x59 [3, 4]).ack).code))] 60 := (h261.step st267 (fun e => ne200 e))
              refine d_do 7 (by kernel_rfl) #[true, true, true, true, true, true, true, true, false, false, false] (by kernel_rfl) (r_lit tAck (d := 50) (t := 44) (m := 1) (parts := #[(0, (Operand.tmp 49))]) hF285 (by kernel_rfl) (by kernel_rfl) s264 [((sameE lb x59 [2]).ack)] [(Value.bool (((sameE lb x59 [2]).ack).ok)), (Value.int .i64 (((sameE lb x59 [2]).ack).code))] ⟨_, _, rfl, rfl, rfl⟩ rfl (by decide) (e := 53) (fun o e => by simp only [execOp, e]; kernel_rfl) (by decide) ?_)
              intro a290 s291 w292 g293 hg294 st295 hO296 hF297
              have hz298 := hS279.size
              have hS299 := hS279.then st295
              refine d_next st295 (fun _ e => e.elim) ?_
              have hO300 : Own tAck 53 w.heap.size s291 w292 (Value.slice (some ⟨g293, 0, none⟩) 1 1) [((sameE lb x59 [2]).ack)] := (hO296.le (by omega : w.heap.size ≤ _))
              have ne302 : ∀ g, Value.ownBlock (Value.slice A37 m39 cp38) = some g → ¬ Value.ownBlock (Value.slice (some ⟨g293, 0, none⟩) 1 1) = some g := fun g hg e => by have h1 := hO296.ge e; have h2 := h286.lt hg; omega
              have ne303 : ¬ Value.ownBlock (Value.slice (some ⟨g293, 0, none⟩) 1 1) = some b68 := fun e => by have h1 := hO296.ge e; have h2 := h287.lt; omega
              have ne304 : ¬ Value.ownBlock (Value.slice (some ⟨g293, 0, none⟩) 1 1) = some b127 := fun e => by have h1 := hO296.ge e; have h2 := h288.lt; omega
              have ne305 : ¬ Value.ownBlock (Value.slice (some ⟨g293, 0, none⟩) 1 1) = some b194 := fun e => by have h1 := hO296.ge e; have h2 := h289.lt; omega
              have ne306 : ∀ g, Value.ownBlock (Value.slice A275 m278 c276) = some g → ¬ Value.ownBlock (Value.slice (some ⟨g293, 0, none⟩) 1 1) = some g := fun g hg e => by have h1 := hO296.ge e; have h2 := hO268.lt hg; omega
              have h307 : Own tAck 53 w.heap.size s291 w292 (Value.slice A37 m39 cp38) ((((sentL la c).take (k)).filter (answers la lb)).map (ackOf lb)) := (h286.step' st295)
              have h308 : Bx s291 w292 b68 [(Value.int .i64 (x59.channel)), (uv x59.seq), (uv x59.timeout), (sv x59.denom), (uv x59.amount), (sv x59.src), (sv x59.dst)] 56 := (h287.step' st295)
              have h309 : Bx s291 w292 b127 [(bv ((sameE lb x59 [2]).kind)), (Value.int .i64 (((sameE lb x59 [2]).packet).channel)), (uv (((sameE lb x59 [2]).packet).seq)), (uv (((sameE lb x59 [2]).packet).timeout)), (sv (((sameE lb x59 [2]).packet).denom)), (uv (((sameE lb x59 [2]).packet).amount)), (sv (((sameE lb x59 [2]).packet).src)), (sv (((sameE lb x59 [2]).packet).dst)), (Value.bool (((sameE lb x59 [2]).ack).ok)), (Value.int .i64 (((sameE lb x59 [2]).ack).code))] 60 := (h288.step' st295)
              have h310 : Bx s291 w292 b194 [(bv ((sameE la x59 [3, 4]).kind)), (Value.int .i64 (((sameE la x59 [3, 4]).packet).channel)), (uv (((sameE la x59 [3, 4]).packet).seq)), (uv (((sameE la x59 [3, 4]).packet).timeout)), (sv (((sameE la x59 [3, 4]).packet).denom)), (uv (((sameE la x59 [3, 4]).packet).amount)), (sv (((sameE la x59 [3, 4]).packet).src)), (sv (((sameE la x59 [3, 4]).packet).dst)), (Value.bool (((sameE la x59 [3, 4]).ack).ok)), (Value.int .i64 (((sameE la x59 [3, 4]).ack).code))] 60 := (h289.step' st295)
              have h311 : Own tPacket 56 w.heap.size s291 w292 (Value.slice A275 m278 c276) ((((sentL la c).take (k)).filter (answers la lb)) ++ [x59]) := (hO268.step' st295)
              have hz321 := hS299.size
              have hb320 : ((((sentL la c).take (k)).filter (answers la lb)).map (ackOf lb)).length + ([((sameE lb x59 [2]).ack)] : List _).length ≤ 1000000 := (by have h8 := sentL_len la c; have h9 := List.length_filter_le (answers la lb) ((sentL la c).take k); simp only [List.length_map, List.length_take, List.length_cons, List.length_nil] at *; omega)
              refine d_do 8 (by kernel_rfl) #[true, true, true, true, true, true, true, true, true, false, false] (by kernel_rfl) (r_append tAck S44 (d := 51) (x := (Operand.tmp 47)) (y := (Operand.tmp 50)) hF297 (by kernel_rfl) (by kernel_rfl) (by kernel_rfl) (by kernel_rfl) h307 hO300.rd (app_small hb320 (by decide)) (by omega) hz321 ?_)
              intro a312 s313 w314 v315 st316 hO317 hn318 hF319
              obtain ⟨A324, m327, c325, rfl, hl326⟩ := hO317.formL
              have hS328 := hS299.and st316 (fun b e => h307.ge e)
              refine d_next st316 (fun b e => ⟨fun q => ne75 (by rw [← q]; exact e), fun q => ne134 (by rw [← q]; exact e), fun q => ne201 (by rw [← q]; exact e), trivial⟩) ?_
              have ne330 : ¬ Value.ownBlock (Value.slice A324 m327 c325) = some b68 := fun e => ne75 (hn318 _ h308.lt e)
              have ne331 : ¬ Value.ownBlock (Value.slice A324 m327 c325) = some b127 := fun e => ne134 (hn318 _ h309.lt e)
              have ne332 : ¬ Value.ownBlock (Value.slice A324 m327 c325) = some b194 := fun e => ne201 (hn318 _ h310.lt e)
              have ne333 : ∀ g, Value.ownBlock (Value.slice A275 m278 c276) = some g → ¬ Value.ownBlock (Value.slice A324 m327 c325) = some g := fun g hg e => ne284 g (hn318 _ (h311.lt hg) e) hg
              refine d_run (d := 8) (v := (Value.slice A275 m278 c276)) 9 hF319 (since_refl _ _ _) (by kernel_rfl) (by kernel_rfl) (fun _ => by kernel_rfl) (fun _ _ _ h => h) #[true, true, true, true, true, true, true, true, true, true, false] (by kernel_rfl) ?_
              intro a334 hF335
              refine d_run (d := 9) (v := (Value.slice A324 m327 c325)) 10 hF335 (since_refl _ _ _) (by kernel_rfl) (by kernel_rfl) (fun _ => by kernel_rfl) (fun _ _ _ h => h) #[true, true, true, true, true, true, true, true, true, true, true] (by kernel_rfl) ?_
              intro a336 hF337
              have hF338 := hF337.keep [9, 8, 0, 1, 18, 19, 20] [(9, (Value.slice A324 m327 c325)), (8, (Value.slice A275 m278 c276)), (0, (Value.slice A0 la.length c0)), (1, (Value.slice A1 lb.length c1)), (18, (Value.slice A20 m23 c21)), (19, (Value.int .i64 ((m23 : Nat) : Int))), (20, (Value.int .i64 ((k : Nat) : Int)))] (by kernel_rfl)
              refine d_end (by kernel_rfl) ?_
              refine c_reg 10 (by kernel_rfl) ?_
              refine r_one (d := 52) (v0 := (Value.int .i64 (IntKind.i64.wrap (((k : Nat) : Int) + ((1 : Nat) : Int))))) (v := (Value.int .i64 ((k + 1 : Nat) : Int))) hF338 (by kernel_rfl) (by kernel_rfl) (congrArg (Value.int .i64) (i64_eq (by omega) (by omega) (by omega))) ?_
              intro a339 hF340
              refine r_runk 1 [20, 9, 8, 0, 1, 18, 19] [(20, (Value.int .i64 ((k + 1 : Nat) : Int))), (9, (Value.slice A324 m327 c325)), (8, (Value.slice A275 m278 c276)), (0, (Value.slice A0 la.length c0)), (1, (Value.slice A1 lb.length c1)), (18, (Value.slice A20 m23 c21)), (19, (Value.int .i64 ((m23 : Nat) : Int)))] hF340 (by kernel_rfl) (by kernel_rfl) ?_
              intro a341 hF342
              refine r_end (by kernel_rfl) ?_
              have h343 : Rd tPacket s313 w314 (Value.slice A20 m23 c21) (sentL la (c : Int)) := (((((((((((((((h43.step st70).step st79).step st95).step st113).step st129).step st140).step st158).step st178).step st196).step st209).step st223).step st246).step st267).step st295).step st316)
              have h344 : Own tPacket 56 w.heap.size s313 w314 (Value.slice A275 m278 c276) ((((sentL la c).take (k)).filter (answers la lb)) ++ [x59]) := (h311.step st316 (fun g hg e => ne284 g e hg))
              have hF345 := hF342.keep [0, 1, 8, 9, 18, 19, 20] [(0, (Value.slice A0 la.length c0)), (1, (Value.slice A1 lb.length c1)), (8, (Value.slice A275 m278 c276)), (9, (Value.slice A324 m327 c325)), (18, (Value.slice A20 m23 c21)), (19, (Value.int .i64 ((m23 : Nat) : Int))), (20, (Value.int .i64 ((k + 1 : Nat) : Int)))] (by kernel_rfl)
              exact ⟨k + 1, ⟨s313, A275, c276, m278, A324, c325, m327, hF345, hS328, h343, (h344.cast (by first | rfl | omega | (simp only [List.length_append, List.length_cons, List.length_nil, List.length_map] at *; omega)) (by subst hx60; exact (keep_yes _ _ _ _ (answers_yes hg217 hc221)))), (hO317.cast (by first | rfl | omega | (simp only [List.length_append, List.length_cons, List.length_nil, List.length_map] at *; omega)) (by subst hx60; exact (ack_yes _ _ _ _ _ ⟨(answers_yes hg217 hc221), ack_same _ _⟩))), (by omega), (fun g hg e => ne333 g hg e)⟩, by omega⟩
            · skip
              have h346 : Own tPacket 56 w.heap.size s242 w243 (Value.slice A33 m35 cp34) (((sentL la c).take (k)).filter (answers la lb)) := (h238.step' st246)
              have h347 : Own tAck 53 w.heap.size s242 w243 (Value.slice A37 m39 cp38) ((((sentL la c).take (k)).filter (answers la lb)).map (ackOf lb)) := (h239.step' st246)
              have h348 : Bx s242 w243 b68 [(Value.int .i64 (x59.channel)), (uv x59.seq), (uv x59.timeout), (sv x59.denom), (uv x59.amount), (sv x59.src), (sv x59.dst)] 56 := (h231.step' st246)
              have h349 : Bx s242 w243 b127 [(bv ((sameE lb x59 [2]).kind)), (Value.int .i64 (((sameE lb x59 [2]).packet).channel)), (uv (((sameE lb x59 [2]).packet).seq)), (uv (((sameE lb x59 [2]).packet).timeout)), (sv (((sameE lb x59 [2]).packet).denom)), (uv (((sameE lb x59 [2]).packet).amount)), (sv (((sameE lb x59 [2]).packet).src)), (sv (((sameE lb x59 [2]).packet).dst)), (Value.bool (((sameE lb x59 [2]).ack).ok)), (Value.int .i64 (((sameE lb x59 [2]).ack).code))] 60 := (h235.step' st246)
              have h350 : Bx s242 w243 b194 [(bv ((sameE la x59 [3, 4]).kind)), (Value.int .i64 (((sameE la x59 [3, 4]).packet).channel)), (uv (((sameE la x59 [3, 4]).packet).seq)), (uv (((sameE la x59 [3, 4]).packet).timeout)), (sv (((sameE la x59 [3, 4]).packet).denom)), (uv (((sameE la x59 [3, 4]).packet).amount)), (sv (((sameE la x59 [3, 4]).packet).src)), (sv (((sameE la x59 [3, 4]).packet).dst)), (Value.bool (((sameE la x59 [3, 4]).ack).ok)), (Value.int .i64 (((sameE la x59 [3, 4]).ack).code))] 60 := (h240.step' st246)
              refine r_lit tAck (d := 50) (t := 44) (m := 1) (parts := #[(0, (Operand.tmp 49))]) hF248 (by kernel_rfl) (by kernel_rfl) s242 [((sameE lb x59 [2]).ack)] [(Value.bool (((sameE lb x59 [2]).ack).ok)), (Value.int .i64 (((sameE lb x59 [2]).ack).code))] ⟨_, _, rfl, rfl, rfl⟩ rfl (by decide) (e := 53) (fun o e => by simp only [execOp, e]; kernel_rfl) (by decide) ?_
              intro a351 s352 w353 g354 hg355 st356 hO357 hF358
              have hz359 := hS250.size
              have hS360 := hS250.then st356
              refine d_next st356 (fun _ e => e.elim) ?_
              have hO361 : Own tAck 53 w.heap.size s352 w353 (Value.slice (some ⟨g354, 0, none⟩) 1 1) [((sameE lb x59 [2]).ack)] := (hO357.le (by omega : w.heap.size ≤ _))
              have ne363 : ∀ g, Value.ownBlock (Value.slice A33 m35 cp34) = some g → ¬ Value.ownBlock (Value.slice (some ⟨g354, 0, none⟩) 1 1) = some g := fun g hg e => by have h1 := hO357.ge e; have h2 := h346.lt hg; omega
              have ne364 : ∀ g, Value.ownBlock (Value.slice A37 m39 cp38) = some g → ¬ Value.ownBlock (Value.slice (some ⟨g354, 0, none⟩) 1 1) = some g := fun g hg e => by have h1 := hO357.ge e; have h2 := h347.lt hg; omega
              have ne365 : ¬ Value.ownBlock (Value.slice (some ⟨g354, 0, none⟩) 1 1) = some b68 := fun e => by have h1 := hO357.ge e; have h2 := h348.lt; omega
              have ne366 : ¬ Value.ownBlock (Value.slice (some ⟨g354, 0, none⟩) 1 1) = some b127 := fun e => by have h1 := hO357.ge e; have h2 := h349.lt; omega
              have ne367 : ¬ Value.ownBlock (Value.slice (some ⟨g354, 0, none⟩) 1 1) = some b194 := fun e => by have h1 := hO357.ge e; have h2 := h350.lt; omega
              have hF368 := hF358.keep [50, 45, 47, 43, 0, 1, 8, 9, 18, 19, 20] [(50, (Value.slice (some ⟨g354, 0, none⟩) 1 1)), (45, (Value.slice (some ⟨g244, 0, none⟩) 1 1)), (47, (Value.slice A37 m39 cp38)), (43, (Value.slice A33 m35 cp34)), (0, (Value.slice A0 la.length c0)), (1, (Value.slice A1 lb.length c1)), (8, (Value.slice A33 m35 cp34)), (9, (Value.slice A37 m39 cp38)), (18, (Value.slice A20 m23 c21)), (19, (Value.int .i64 ((m23 : Nat) : Int))), (20, (Value.int .i64 ((k : Nat) : Int)))] (by kernel_rfl)
              have h369 : Own tPacket 56 w.heap.size s352 w353 (Value.slice (some ⟨g244, 0, none⟩) 1 1) [x59] := (hO251.step' st356)
              have h370 : Own tPacket 56 w.heap.size s352 w353 (Value.slice A33 m35 cp34) (((sentL la c).take (k)).filter (answers la lb)) := (h346.step' st356)
              have h371 : Bx s352 w353 b68 [(Value.int .i64 (x59.channel)), (uv x59.seq), (uv x59.timeout), (sv x59.denom), (uv x59.amount), (sv x59.src), (sv x59.dst)] 56 := (h348.step' st356)
              have h372 : Bx s352 w353 b127 [(bv ((sameE lb x59 [2]).kind)), (Value.int .i64 (((sameE lb x59 [2]).packet).channel)), (uv (((sameE lb x59 [2]).packet).seq)), (uv (((sameE lb x59 [2]).packet).timeout)), (sv (((sameE lb x59 [2]).packet).denom)), (uv (((sameE lb x59 [2]).packet).amount)), (sv (((sameE lb x59 [2]).packet).src)), (sv (((sameE lb x59 [2]).packet).dst)), (Value.bool (((sameE lb x59 [2]).ack).ok)), (Value.int .i64 (((sameE lb x59 [2]).ack).code))] 60 := (h349.step' st356)
              have h373 : Bx s352 w353 b194 [(bv ((sameE la x59 [3, 4]).kind)), (Value.int .i64 (((sameE la x59 [3, 4]).packet).channel)), (uv (((sameE la x59 [3, 4]).packet).seq)), (uv (((sameE la x59 [3, 4]).packet).timeout)), (sv (((sameE la x59 [3, 4]).packet).denom)), (uv (((sameE la x59 [3, 4]).packet).amount)), (sv (((sameE la x59 [3, 4]).packet).src)), (sv (((sameE la x59 [3, 4]).packet).dst)), (Value.bool (((sameE la x59 [3, 4]).ack).ok)), (Value.int .i64 (((sameE la x59 [3, 4]).ack).code))] 60 := (h350.step' st356)
              have h374 : Own tAck 53 w.heap.size s352 w353 (Value.slice A37 m39 cp38) ((((sentL la c).take (k)).filter (answers la lb)).map (ackOf lb)) := (h347.step' st356)
              have hz384 := hS360.size
              have hb383 : (((sentL la c).take (k)).filter (answers la lb)).length + ([x59] : List _).length ≤ 1000000 := (by have h8 := sentL_len la c; have h9 := List.length_filter_le (answers la lb) ((sentL la c).take k); simp only [List.length_map, List.length_take, List.length_cons, List.length_nil] at *; omega)
              refine d_do 3 (by kernel_rfl) #[true, true, true, true, true, true, true, true, false, false, false] (by kernel_rfl) (r_append tPacket S43 (d := 46) (x := (Operand.tmp 43)) (y := (Operand.tmp 45)) hF368 (by kernel_rfl) (by kernel_rfl) (by kernel_rfl) (by kernel_rfl) h370 h369.rd (app_small hb383 (by decide)) (by omega) hz384 ?_)
              intro a375 s376 w377 v378 st379 hO380 hn381 hF382
              obtain ⟨A387, m390, c388, rfl, hl389⟩ := hO380.formL
              have hS391 := hS360.and st379 (fun b e => h370.ge e)
              refine d_next st379 (fun b e => ⟨fun q => ne74 (by rw [← q]; exact e), fun q => ne133 (by rw [← q]; exact e), fun q => ne200 (by rw [← q]; exact e), trivial⟩) ?_
              have ne393 : ¬ Value.ownBlock (Value.slice A387 m390 c388) = some b68 := fun e => ne74 (hn381 _ h371.lt e)
              have ne394 : ¬ Value.ownBlock (Value.slice A387 m390 c388) = some b127 := fun e => ne133 (hn381 _ h372.lt e)
              have ne395 : ¬ Value.ownBlock (Value.slice A387 m390 c388) = some b194 := fun e => ne200 (hn381 _ h373.lt e)
              have ne396 : ∀ g, Value.ownBlock (Value.slice A37 m39 cp38) = some g → ¬ Value.ownBlock (Value.slice A387 m390 c388) = some g := fun g hg e => ne41 g (hn381 _ (h374.lt hg) e) hg
              have h397 : Own tAck 53 w.heap.size s376 w377 (Value.slice (some ⟨g354, 0, none⟩) 1 1) [((sameE lb x59 [2]).ack)] := (hO361.step st379 (fun g hg e => ne363 g e hg))
              have h398 : Own tAck 53 w.heap.size s376 w377 (Value.slice A37 m39 cp38) ((((sentL la c).take (k)).filter (answers la lb)).map (ackOf lb)) := (h374.step st379 (fun g hg e => ne41 g e hg))
              have h399 : Bx s376 w377 b68 [(Value.int .i64 (x59.channel)), (uv x59.seq), (uv x59.timeout), (sv x59.denom), (uv x59.amount), (sv x59.src), (sv x59.dst)] 56 := (h371.step st379 (fun e => ne74 e))
              have h400 : Bx s376 w377 b127 [(bv ((sameE lb x59 [2]).kind)), (Value.int .i64 (((sameE lb x59 [2]).packet).channel)), (uv (((sameE lb x59 [2]).packet).seq)), (uv (((sameE lb x59 [2]).packet).timeout)), (sv (((sameE lb x59 [2]).packet).denom)), (uv (((sameE lb x59 [2]).packet).amount)), (sv (((sameE lb x59 [2]).packet).src)), (sv (((sameE lb x59 [2]).packet).dst)), (Value.bool (((sameE lb x59 [2]).ack).ok)), (Value.int .i64 (((sameE lb x59 [2]).ack).code))] 60 := (h372.step st379 (fun e => ne133 e))
              have h401 : Bx s376 w377 b194 [(bv ((sameE la x59 [3, 4]).kind)), (Value.int .i64 (((sameE la x59 [3, 4]).packet).channel)), (uv (((sameE la x59 [3, 4]).packet).seq)), (uv (((sameE la x59 [3, 4]).packet).timeout)), (sv (((sameE la x59 [3, 4]).packet).denom)), (uv (((sameE la x59 [3, 4]).packet).amount)), (sv (((sameE la x59 [3, 4]).packet).src)), (sv (((sameE la x59 [3, 4]).packet).dst)), (Value.bool (((sameE la x59 [3, 4]).ack).ok)), (Value.int .i64 (((sameE la x59 [3, 4]).ack).code))] 60 := (h373.step st379 (fun e => ne200 e))
              have hz411 := hS391.size
              have hb410 : ((((sentL la c).take (k)).filter (answers la lb)).map (ackOf lb)).length + ([((sameE lb x59 [2]).ack)] : List _).length ≤ 1000000 := (by have h8 := sentL_len la c; have h9 := List.length_filter_le (answers la lb) ((sentL la c).take k); simp only [List.length_map, List.length_take, List.length_cons, List.length_nil] at *; omega)
              refine d_do 8 (by kernel_rfl) #[true, true, true, true, true, true, true, true, true, false, false] (by kernel_rfl) (r_append tAck S44 (d := 51) (x := (Operand.tmp 47)) (y := (Operand.tmp 50)) hF382 (by kernel_rfl) (by kernel_rfl) (by kernel_rfl) (by kernel_rfl) h398 h397.rd (app_small hb410 (by decide)) (by omega) hz411 ?_)
              intro a402 s403 w404 v405 st406 hO407 hn408 hF409
              obtain ⟨A414, m417, c415, rfl, hl416⟩ := hO407.formL
              have hS418 := hS391.and st406 (fun b e => h398.ge e)
              refine d_next st406 (fun b e => ⟨fun q => ne75 (by rw [← q]; exact e), fun q => ne134 (by rw [← q]; exact e), fun q => ne201 (by rw [← q]; exact e), trivial⟩) ?_
              have ne420 : ¬ Value.ownBlock (Value.slice A414 m417 c415) = some b68 := fun e => ne75 (hn408 _ h399.lt e)
              have ne421 : ¬ Value.ownBlock (Value.slice A414 m417 c415) = some b127 := fun e => ne134 (hn408 _ h400.lt e)
              have ne422 : ¬ Value.ownBlock (Value.slice A414 m417 c415) = some b194 := fun e => ne201 (hn408 _ h401.lt e)
              have ne423 : ∀ g, Value.ownBlock (Value.slice A387 m390 c388) = some g → ¬ Value.ownBlock (Value.slice A414 m417 c415) = some g := fun g hg e => ne396 g (hn408 _ (hO380.lt hg) e) hg
              refine d_run (d := 8) (v := (Value.slice A387 m390 c388)) 9 hF409 (since_refl _ _ _) (by kernel_rfl) (by kernel_rfl) (fun _ => by kernel_rfl) (fun _ _ _ h => h) #[true, true, true, true, true, true, true, true, true, true, false] (by kernel_rfl) ?_
              intro a424 hF425
              have hF426 := hF425.keep [8, 51, 0, 1, 9, 18, 19, 20] [(8, (Value.slice A387 m390 c388)), (51, (Value.slice A414 m417 c415)), (0, (Value.slice A0 la.length c0)), (1, (Value.slice A1 lb.length c1)), (9, (Value.slice A37 m39 cp38)), (18, (Value.slice A20 m23 c21)), (19, (Value.int .i64 ((m23 : Nat) : Int))), (20, (Value.int .i64 ((k : Nat) : Int)))] (by kernel_rfl)
              refine d_run (d := 9) (v := (Value.slice A414 m417 c415)) 10 hF426 (since_refl _ _ _) (by kernel_rfl) (by kernel_rfl) (fun _ => by kernel_rfl) (fun _ _ _ h => h) #[true, true, true, true, true, true, true, true, true, true, true] (by kernel_rfl) ?_
              intro a427 hF428
              refine d_end (by kernel_rfl) ?_
              have hF429 := hF428.keep [9, 8, 0, 1, 18, 19, 20] [(9, (Value.slice A414 m417 c415)), (8, (Value.slice A387 m390 c388)), (0, (Value.slice A0 la.length c0)), (1, (Value.slice A1 lb.length c1)), (18, (Value.slice A20 m23 c21)), (19, (Value.int .i64 ((m23 : Nat) : Int))), (20, (Value.int .i64 ((k : Nat) : Int)))] (by kernel_rfl)
              refine c_reg 10 (by kernel_rfl) ?_
              refine r_one (d := 52) (v0 := (Value.int .i64 (IntKind.i64.wrap (((k : Nat) : Int) + ((1 : Nat) : Int))))) (v := (Value.int .i64 ((k + 1 : Nat) : Int))) hF429 (by kernel_rfl) (by kernel_rfl) (congrArg (Value.int .i64) (i64_eq (by omega) (by omega) (by omega))) ?_
              intro a430 hF431
              refine r_runk 1 [20, 9, 8, 0, 1, 18, 19] [(20, (Value.int .i64 ((k + 1 : Nat) : Int))), (9, (Value.slice A414 m417 c415)), (8, (Value.slice A387 m390 c388)), (0, (Value.slice A0 la.length c0)), (1, (Value.slice A1 lb.length c1)), (18, (Value.slice A20 m23 c21)), (19, (Value.int .i64 ((m23 : Nat) : Int)))] hF431 (by kernel_rfl) (by kernel_rfl) ?_
              intro a432 hF433
              refine r_end (by kernel_rfl) ?_
              have h434 : Rd tPacket s403 w404 (Value.slice A20 m23 c21) (sentL la (c : Int)) := (((((((((((((((h43.step st70).step st79).step st95).step st113).step st129).step st140).step st158).step st178).step st196).step st209).step st223).step st246).step st356).step st379).step st406)
              have h435 : Own tPacket 56 w.heap.size s403 w404 (Value.slice A387 m390 c388) ((((sentL la c).take (k)).filter (answers la lb)) ++ [x59]) := (hO380.step st406 (fun g hg e => ne396 g e hg))
              have hF436 := hF433.keep [0, 1, 8, 9, 18, 19, 20] [(0, (Value.slice A0 la.length c0)), (1, (Value.slice A1 lb.length c1)), (8, (Value.slice A387 m390 c388)), (9, (Value.slice A414 m417 c415)), (18, (Value.slice A20 m23 c21)), (19, (Value.int .i64 ((m23 : Nat) : Int))), (20, (Value.int .i64 ((k + 1 : Nat) : Int)))] (by kernel_rfl)
              exact ⟨k + 1, ⟨s403, A387, c388, m390, A414, c415, m417, hF436, hS418, h434, (h435.cast (by first | rfl | omega | (simp only [List.length_append, List.length_cons, List.length_nil, List.length_map] at *; omega)) (by subst hx60; exact (keep_yes _ _ _ _ (answers_yes hg217 hc221)))), (hO407.cast (by first | rfl | omega | (simp only [List.length_append, List.length_cons, List.length_nil, List.length_map] at *; omega)) (by subst hx60; exact (ack_yes _ _ _ _ _ ⟨(answers_yes hg217 hc221), ack_same _ _⟩))), (by omega), (fun g hg e => ne423 g hg e)⟩, by omega⟩
          · skip
            have h437 : Own tPacket 56 w.heap.size s192 w222 (Value.slice A33 m35 cp34) (((sentL la c).take (k)).filter (answers la lb)) := (((h185.step' st196).step st209 (fun g hg e => ne200 (by subst e; exact hg))).step' st223)
            have h438 : Own tAck 53 w.heap.size s192 w222 (Value.slice A37 m39 cp38) ((((sentL la c).take (k)).filter (answers la lb)).map (ackOf lb)) := (((h186.step' st196).step st209 (fun g hg e => ne201 (by subst e; exact hg))).step' st223)
            have h439 : Bx s192 w222 b194 [(bv ((sameE la x59 [3, 4]).kind)), (Value.int .i64 (((sameE la x59 [3, 4]).packet).channel)), (uv (((sameE la x59 [3, 4]).packet).seq)), (uv (((sameE la x59 [3, 4]).packet).timeout)), (sv (((sameE la x59 [3, 4]).packet).denom)), (uv (((sameE la x59 [3, 4]).packet).amount)), (sv (((sameE la x59 [3, 4]).packet).src)), (sv (((sameE la x59 [3, 4]).packet).dst)), (Value.bool (((sameE la x59 [3, 4]).ack).ok)), (Value.int .i64 (((sameE la x59 [3, 4]).ack).code))] 60 := (hB210.step' st223)
            refine r_lit tAck (d := 50) (t := 44) (m := 1) (parts := #[(0, (Operand.tmp 49))]) hF237 (by kernel_rfl) (by kernel_rfl) s192 [((sameE lb x59 [2]).ack)] [(Value.bool (((sameE lb x59 [2]).ack).ok)), (Value.int .i64 (((sameE lb x59 [2]).ack).code))] ⟨_, _, rfl, rfl, rfl⟩ rfl (by decide) (e := 53) (fun o e => by simp only [execOp, e]; kernel_rfl) (by decide) ?_
            intro a440 s441 w442 g443 hg444 st445 hO446 hF447
            have hz448 := hS224.size
            have hS449 := hS224.then st445
            refine d_next st445 (fun _ e => e.elim) ?_
            have hO450 : Own tAck 53 w.heap.size s441 w442 (Value.slice (some ⟨g443, 0, none⟩) 1 1) [((sameE lb x59 [2]).ack)] := (hO446.le (by omega : w.heap.size ≤ _))
            have ne452 : ∀ g, Value.ownBlock (Value.slice A33 m35 cp34) = some g → ¬ Value.ownBlock (Value.slice (some ⟨g443, 0, none⟩) 1 1) = some g := fun g hg e => by have h1 := hO446.ge e; have h2 := h437.lt hg; omega
            have ne453 : ∀ g, Value.ownBlock (Value.slice A37 m39 cp38) = some g → ¬ Value.ownBlock (Value.slice (some ⟨g443, 0, none⟩) 1 1) = some g := fun g hg e => by have h1 := hO446.ge e; have h2 := h438.lt hg; omega
            have ne454 : ¬ Value.ownBlock (Value.slice (some ⟨g443, 0, none⟩) 1 1) = some b68 := fun e => by have h1 := hO446.ge e; have h2 := h231.lt; omega
            have ne455 : ¬ Value.ownBlock (Value.slice (some ⟨g443, 0, none⟩) 1 1) = some b127 := fun e => by have h1 := hO446.ge e; have h2 := h235.lt; omega
            have ne456 : ¬ Value.ownBlock (Value.slice (some ⟨g443, 0, none⟩) 1 1) = some b194 := fun e => by have h1 := hO446.ge e; have h2 := h439.lt; omega
            have h457 : Own tPacket 56 w.heap.size s441 w442 (Value.slice A33 m35 cp34) (((sentL la c).take (k)).filter (answers la lb)) := (h437.step' st445)
            have h458 : Own tAck 53 w.heap.size s441 w442 (Value.slice A37 m39 cp38) ((((sentL la c).take (k)).filter (answers la lb)).map (ackOf lb)) := (h438.step' st445)
            have h459 : Bx s441 w442 b68 [(Value.int .i64 (x59.channel)), (uv x59.seq), (uv x59.timeout), (sv x59.denom), (uv x59.amount), (sv x59.src), (sv x59.dst)] 56 := (h231.step' st445)
            have h460 : Bx s441 w442 b127 [(bv ((sameE lb x59 [2]).kind)), (Value.int .i64 (((sameE lb x59 [2]).packet).channel)), (uv (((sameE lb x59 [2]).packet).seq)), (uv (((sameE lb x59 [2]).packet).timeout)), (sv (((sameE lb x59 [2]).packet).denom)), (uv (((sameE lb x59 [2]).packet).amount)), (sv (((sameE lb x59 [2]).packet).src)), (sv (((sameE lb x59 [2]).packet).dst)), (Value.bool (((sameE lb x59 [2]).ack).ok)), (Value.int .i64 (((sameE lb x59 [2]).ack).code))] 60 := (h235.step' st445)
            have h461 : Bx s441 w442 b194 [(bv ((sameE la x59 [3, 4]).kind)), (Value.int .i64 (((sameE la x59 [3, 4]).packet).channel)), (uv (((sameE la x59 [3, 4]).packet).seq)), (uv (((sameE la x59 [3, 4]).packet).timeout)), (sv (((sameE la x59 [3, 4]).packet).denom)), (uv (((sameE la x59 [3, 4]).packet).amount)), (sv (((sameE la x59 [3, 4]).packet).src)), (sv (((sameE la x59 [3, 4]).packet).dst)), (Value.bool (((sameE la x59 [3, 4]).ack).ok)), (Value.int .i64 (((sameE la x59 [3, 4]).ack).code))] 60 := (h439.step' st445)
            refine d_do 2 (by kernel_rfl) #[true, true, true, false, true, true, true, true, false, false, false] (by kernel_rfl) (r_lit tPacket (d := 45) (t := 43) (m := 1) (parts := #[(0, (Operand.tmp 44))]) hF447 (by kernel_rfl) (by kernel_rfl) s441 [x59] [(Value.int .i64 (x59.channel)), (uv x59.seq), (uv x59.timeout), (sv x59.denom), (uv x59.amount), (sv x59.src), (sv x59.dst)] ⟨_, _, rfl, rfl, rfl⟩ rfl (by decide) (e := 56) (fun o e => by simp only [execOp, e]; kernel_rfl) (by decide) ?_)
            intro a462 s463 w464 g465 hg466 st467 hO468 hF469
            have hz470 := hS449.size
            have hS471 := hS449.then st467
            refine d_next st467 (fun _ e => e.elim) ?_
            have hO472 : Own tPacket 56 w.heap.size s463 w464 (Value.slice (some ⟨g465, 0, none⟩) 1 1) [x59] := (hO468.le (by omega : w.heap.size ≤ _))
            have ne474 : ∀ g, Value.ownBlock (Value.slice A33 m35 cp34) = some g → ¬ Value.ownBlock (Value.slice (some ⟨g465, 0, none⟩) 1 1) = some g := fun g hg e => by have h1 := hO468.ge e; have h2 := h457.lt hg; omega
            have ne475 : ∀ g, Value.ownBlock (Value.slice A37 m39 cp38) = some g → ¬ Value.ownBlock (Value.slice (some ⟨g465, 0, none⟩) 1 1) = some g := fun g hg e => by have h1 := hO468.ge e; have h2 := h458.lt hg; omega
            have ne476 : ¬ Value.ownBlock (Value.slice (some ⟨g465, 0, none⟩) 1 1) = some b68 := fun e => by have h1 := hO468.ge e; have h2 := h459.lt; omega
            have ne477 : ¬ Value.ownBlock (Value.slice (some ⟨g465, 0, none⟩) 1 1) = some b127 := fun e => by have h1 := hO468.ge e; have h2 := h460.lt; omega
            have ne478 : ¬ Value.ownBlock (Value.slice (some ⟨g465, 0, none⟩) 1 1) = some b194 := fun e => by have h1 := hO468.ge e; have h2 := h461.lt; omega
            have hF479 := hF469.keep [45, 50, 47, 43, 0, 1, 8, 9, 18, 19, 20] [(45, (Value.slice (some ⟨g465, 0, none⟩) 1 1)), (50, (Value.slice (some ⟨g443, 0, none⟩) 1 1)), (47, (Value.slice A37 m39 cp38)), (43, (Value.slice A33 m35 cp34)), (0, (Value.slice A0 la.length c0)), (1, (Value.slice A1 lb.length c1)), (8, (Value.slice A33 m35 cp34)), (9, (Value.slice A37 m39 cp38)), (18, (Value.slice A20 m23 c21)), (19, (Value.int .i64 ((m23 : Nat) : Int))), (20, (Value.int .i64 ((k : Nat) : Int)))] (by kernel_rfl)
            have h480 : Own tPacket 56 w.heap.size s463 w464 (Value.slice A33 m35 cp34) (((sentL la c).take (k)).filter (answers la lb)) := (h457.step' st467)
            have h481 : Bx s463 w464 b68 [(Value.int .i64 (x59.channel)), (uv x59.seq), (uv x59.timeout), (sv x59.denom), (uv x59.amount), (sv x59.src), (sv x59.dst)] 56 := (h459.step' st467)
            have h482 : Bx s463 w464 b127 [(bv ((sameE lb x59 [2]).kind)), (Value.int .i64 (((sameE lb x59 [2]).packet).channel)), (uv (((sameE lb x59 [2]).packet).seq)), (uv (((sameE lb x59 [2]).packet).timeout)), (sv (((sameE lb x59 [2]).packet).denom)), (uv (((sameE lb x59 [2]).packet).amount)), (sv (((sameE lb x59 [2]).packet).src)), (sv (((sameE lb x59 [2]).packet).dst)), (Value.bool (((sameE lb x59 [2]).ack).ok)), (Value.int .i64 (((sameE lb x59 [2]).ack).code))] 60 := (h460.step' st467)
            have h483 : Bx s463 w464 b194 [(bv ((sameE la x59 [3, 4]).kind)), (Value.int .i64 (((sameE la x59 [3, 4]).packet).channel)), (uv (((sameE la x59 [3, 4]).packet).seq)), (uv (((sameE la x59 [3, 4]).packet).timeout)), (sv (((sameE la x59 [3, 4]).packet).denom)), (uv (((sameE la x59 [3, 4]).packet).amount)), (sv (((sameE la x59 [3, 4]).packet).src)), (sv (((sameE la x59 [3, 4]).packet).dst)), (Value.bool (((sameE la x59 [3, 4]).ack).ok)), (Value.int .i64 (((sameE la x59 [3, 4]).ack).code))] 60 := (h461.step' st467)
            have h484 : Own tAck 53 w.heap.size s463 w464 (Value.slice A37 m39 cp38) ((((sentL la c).take (k)).filter (answers la lb)).map (ackOf lb)) := (h458.step' st467)
            have hz494 := hS471.size
            have hb493 : (((sentL la c).take (k)).filter (answers la lb)).length + ([x59] : List _).length ≤ 1000000 := (by have h8 := sentL_len la c; have h9 := List.length_filter_le (answers la lb) ((sentL la c).take k); simp only [List.length_map, List.length_take, List.length_cons, List.length_nil] at *; omega)
            refine d_do 3 (by kernel_rfl) #[true, true, true, true, true, true, true, true, false, false, false] (by kernel_rfl) (r_append tPacket S43 (d := 46) (x := (Operand.tmp 43)) (y := (Operand.tmp 45)) hF479 (by kernel_rfl) (by kernel_rfl) (by kernel_rfl) (by kernel_rfl) h480 hO472.rd (app_small hb493 (by decide)) (by omega) hz494 ?_)
            intro a485 s486 w487 v488 st489 hO490 hn491 hF492
            obtain ⟨A497, m500, c498, rfl, hl499⟩ := hO490.formL
            have hS501 := hS471.and st489 (fun b e => h480.ge e)
            refine d_next st489 (fun b e => ⟨fun q => ne74 (by rw [← q]; exact e), fun q => ne133 (by rw [← q]; exact e), fun q => ne200 (by rw [← q]; exact e), trivial⟩) ?_
            have ne503 : ¬ Value.ownBlock (Value.slice A497 m500 c498) = some b68 := fun e => ne74 (hn491 _ h481.lt e)
            have ne504 : ¬ Value.ownBlock (Value.slice A497 m500 c498) = some b127 := fun e => ne133 (hn491 _ h482.lt e)
            have ne505 : ¬ Value.ownBlock (Value.slice A497 m500 c498) = some b194 := fun e => ne200 (hn491 _ h483.lt e)
            have ne506 : ∀ g, Value.ownBlock (Value.slice A37 m39 cp38) = some g → ¬ Value.ownBlock (Value.slice A497 m500 c498) = some g := fun g hg e => ne41 g (hn491 _ (h484.lt hg) e) hg
            have h507 : Own tAck 53 w.heap.size s486 w487 (Value.slice (some ⟨g443, 0, none⟩) 1 1) [((sameE lb x59 [2]).ack)] := ((hO450.step' st467).step st489 (fun g hg e => ne452 g e hg))
            have h508 : Own tAck 53 w.heap.size s486 w487 (Value.slice A37 m39 cp38) ((((sentL la c).take (k)).filter (answers la lb)).map (ackOf lb)) := (h484.step st489 (fun g hg e => ne41 g e hg))
            have h509 : Bx s486 w487 b68 [(Value.int .i64 (x59.channel)), (uv x59.seq), (uv x59.timeout), (sv x59.denom), (uv x59.amount), (sv x59.src), (sv x59.dst)] 56 := (h481.step st489 (fun e => ne74 e))
            have h510 : Bx s486 w487 b127 [(bv ((sameE lb x59 [2]).kind)), (Value.int .i64 (((sameE lb x59 [2]).packet).channel)), (uv (((sameE lb x59 [2]).packet).seq)), (uv (((sameE lb x59 [2]).packet).timeout)), (sv (((sameE lb x59 [2]).packet).denom)), (uv (((sameE lb x59 [2]).packet).amount)), (sv (((sameE lb x59 [2]).packet).src)), (sv (((sameE lb x59 [2]).packet).dst)), (Value.bool (((sameE lb x59 [2]).ack).ok)), (Value.int .i64 (((sameE lb x59 [2]).ack).code))] 60 := (h482.step st489 (fun e => ne133 e))
            have h511 : Bx s486 w487 b194 [(bv ((sameE la x59 [3, 4]).kind)), (Value.int .i64 (((sameE la x59 [3, 4]).packet).channel)), (uv (((sameE la x59 [3, 4]).packet).seq)), (uv (((sameE la x59 [3, 4]).packet).timeout)), (sv (((sameE la x59 [3, 4]).packet).denom)), (uv (((sameE la x59 [3, 4]).packet).amount)), (sv (((sameE la x59 [3, 4]).packet).src)), (sv (((sameE la x59 [3, 4]).packet).dst)), (Value.bool (((sameE la x59 [3, 4]).ack).ok)), (Value.int .i64 (((sameE la x59 [3, 4]).ack).code))] 60 := (h483.step st489 (fun e => ne200 e))
            have hz521 := hS501.size
            have hb520 : ((((sentL la c).take (k)).filter (answers la lb)).map (ackOf lb)).length + ([((sameE lb x59 [2]).ack)] : List _).length ≤ 1000000 := (by have h8 := sentL_len la c; have h9 := List.length_filter_le (answers la lb) ((sentL la c).take k); simp only [List.length_map, List.length_take, List.length_cons, List.length_nil] at *; omega)
            refine d_do 8 (by kernel_rfl) #[true, true, true, true, true, true, true, true, true, false, false] (by kernel_rfl) (r_append tAck S44 (d := 51) (x := (Operand.tmp 47)) (y := (Operand.tmp 50)) hF492 (by kernel_rfl) (by kernel_rfl) (by kernel_rfl) (by kernel_rfl) h508 h507.rd (app_small hb520 (by decide)) (by omega) hz521 ?_)
            intro a512 s513 w514 v515 st516 hO517 hn518 hF519
            obtain ⟨A524, m527, c525, rfl, hl526⟩ := hO517.formL
            have hS528 := hS501.and st516 (fun b e => h508.ge e)
            refine d_next st516 (fun b e => ⟨fun q => ne75 (by rw [← q]; exact e), fun q => ne134 (by rw [← q]; exact e), fun q => ne201 (by rw [← q]; exact e), trivial⟩) ?_
            have ne530 : ¬ Value.ownBlock (Value.slice A524 m527 c525) = some b68 := fun e => ne75 (hn518 _ h509.lt e)
            have ne531 : ¬ Value.ownBlock (Value.slice A524 m527 c525) = some b127 := fun e => ne134 (hn518 _ h510.lt e)
            have ne532 : ¬ Value.ownBlock (Value.slice A524 m527 c525) = some b194 := fun e => ne201 (hn518 _ h511.lt e)
            have ne533 : ∀ g, Value.ownBlock (Value.slice A497 m500 c498) = some g → ¬ Value.ownBlock (Value.slice A524 m527 c525) = some g := fun g hg e => ne506 g (hn518 _ (hO490.lt hg) e) hg
            refine d_run (d := 8) (v := (Value.slice A497 m500 c498)) 9 hF519 (since_refl _ _ _) (by kernel_rfl) (by kernel_rfl) (fun _ => by kernel_rfl) (fun _ _ _ h => h) #[true, true, true, true, true, true, true, true, true, true, false] (by kernel_rfl) ?_
            intro a534 hF535
            have hF536 := hF535.keep [8, 51, 0, 1, 9, 18, 19, 20] [(8, (Value.slice A497 m500 c498)), (51, (Value.slice A524 m527 c525)), (0, (Value.slice A0 la.length c0)), (1, (Value.slice A1 lb.length c1)), (9, (Value.slice A37 m39 cp38)), (18, (Value.slice A20 m23 c21)), (19, (Value.int .i64 ((m23 : Nat) : Int))), (20, (Value.int .i64 ((k : Nat) : Int)))] (by kernel_rfl)
            refine d_run (d := 9) (v := (Value.slice A524 m527 c525)) 10 hF536 (since_refl _ _ _) (by kernel_rfl) (by kernel_rfl) (fun _ => by kernel_rfl) (fun _ _ _ h => h) #[true, true, true, true, true, true, true, true, true, true, true] (by kernel_rfl) ?_
            intro a537 hF538
            refine d_end (by kernel_rfl) ?_
            have hF539 := hF538.keep [9, 8, 0, 1, 18, 19, 20] [(9, (Value.slice A524 m527 c525)), (8, (Value.slice A497 m500 c498)), (0, (Value.slice A0 la.length c0)), (1, (Value.slice A1 lb.length c1)), (18, (Value.slice A20 m23 c21)), (19, (Value.int .i64 ((m23 : Nat) : Int))), (20, (Value.int .i64 ((k : Nat) : Int)))] (by kernel_rfl)
            refine c_reg 10 (by kernel_rfl) ?_
            refine r_one (d := 52) (v0 := (Value.int .i64 (IntKind.i64.wrap (((k : Nat) : Int) + ((1 : Nat) : Int))))) (v := (Value.int .i64 ((k + 1 : Nat) : Int))) hF539 (by kernel_rfl) (by kernel_rfl) (congrArg (Value.int .i64) (i64_eq (by omega) (by omega) (by omega))) ?_
            intro a540 hF541
            refine r_runk 1 [20, 9, 8, 0, 1, 18, 19] [(20, (Value.int .i64 ((k + 1 : Nat) : Int))), (9, (Value.slice A524 m527 c525)), (8, (Value.slice A497 m500 c498)), (0, (Value.slice A0 la.length c0)), (1, (Value.slice A1 lb.length c1)), (18, (Value.slice A20 m23 c21)), (19, (Value.int .i64 ((m23 : Nat) : Int)))] hF541 (by kernel_rfl) (by kernel_rfl) ?_
            intro a542 hF543
            refine r_end (by kernel_rfl) ?_
            have h544 : Rd tPacket s513 w514 (Value.slice A20 m23 c21) (sentL la (c : Int)) := (((((((((((((((h43.step st70).step st79).step st95).step st113).step st129).step st140).step st158).step st178).step st196).step st209).step st223).step st445).step st467).step st489).step st516)
            have h545 : Own tPacket 56 w.heap.size s513 w514 (Value.slice A497 m500 c498) ((((sentL la c).take (k)).filter (answers la lb)) ++ [x59]) := (hO490.step st516 (fun g hg e => ne506 g e hg))
            have hF546 := hF543.keep [0, 1, 8, 9, 18, 19, 20] [(0, (Value.slice A0 la.length c0)), (1, (Value.slice A1 lb.length c1)), (8, (Value.slice A497 m500 c498)), (9, (Value.slice A524 m527 c525)), (18, (Value.slice A20 m23 c21)), (19, (Value.int .i64 ((m23 : Nat) : Int))), (20, (Value.int .i64 ((k + 1 : Nat) : Int)))] (by kernel_rfl)
            exact ⟨k + 1, ⟨s513, A497, c498, m500, A524, c525, m527, hF546, hS528, h544, (h545.cast (by first | rfl | omega | (simp only [List.length_append, List.length_cons, List.length_nil, List.length_map] at *; omega)) (by subst hx60; exact (keep_yes _ _ _ _ (answers_yes hg217 hc221)))), (hO517.cast (by first | rfl | omega | (simp only [List.length_append, List.length_cons, List.length_nil, List.length_map] at *; omega)) (by subst hx60; exact (ack_yes _ _ _ _ _ ⟨(answers_yes hg217 hc221), ack_same _ _⟩))), (by omega), (fun g hg e => ne533 g hg e)⟩, by omega⟩
        · skip
          refine c_skip (by kernel_rfl) ?_
          refine c_reg 10 (by kernel_rfl) ?_
          refine r_one (d := 52) (v0 := (Value.int .i64 (IntKind.i64.wrap (((k : Nat) : Int) + ((1 : Nat) : Int))))) (v := (Value.int .i64 ((k + 1 : Nat) : Int))) hF220 (by kernel_rfl) (by kernel_rfl) (congrArg (Value.int .i64) (i64_eq (by omega) (by omega) (by omega))) ?_
          intro a547 hF548
          refine r_runk 1 [20, 0, 1, 8, 9, 18, 19] [(20, (Value.int .i64 ((k + 1 : Nat) : Int))), (0, (Value.slice A0 la.length c0)), (1, (Value.slice A1 lb.length c1)), (8, (Value.slice A33 m35 cp34)), (9, (Value.slice A37 m39 cp38)), (18, (Value.slice A20 m23 c21)), (19, (Value.int .i64 ((m23 : Nat) : Int)))] hF548 (by kernel_rfl) (by kernel_rfl) ?_
          intro a549 hF550
          refine r_end (by kernel_rfl) ?_
          have h551 : Rd tPacket s192 w208 (Value.slice A20 m23 c21) (sentL la (c : Int)) := ((((((((((h43.step st70).step st79).step st95).step st113).step st129).step st140).step st158).step st178).step st196).step st209)
          have h552 : Own tPacket 56 w.heap.size s192 w208 (Value.slice A33 m35 cp34) (((sentL la c).take (k)).filter (answers la lb)) := ((h185.step' st196).step st209 (fun g hg e => ne200 (by subst e; exact hg)))
          have h553 : Own tAck 53 w.heap.size s192 w208 (Value.slice A37 m39 cp38) ((((sentL la c).take (k)).filter (answers la lb)).map (ackOf lb)) := ((h186.step' st196).step st209 (fun g hg e => ne201 (by subst e; exact hg)))
          have hF554 := hF550.keep [0, 1, 8, 9, 18, 19, 20] [(0, (Value.slice A0 la.length c0)), (1, (Value.slice A1 lb.length c1)), (8, (Value.slice A33 m35 cp34)), (9, (Value.slice A37 m39 cp38)), (18, (Value.slice A20 m23 c21)), (19, (Value.int .i64 ((m23 : Nat) : Int))), (20, (Value.int .i64 ((k + 1 : Nat) : Int)))] (by kernel_rfl)
          exact ⟨k + 1, ⟨s192, A33, cp34, m35, A37, cp38, m39, hF554, hS212, h551, (h552.cast (by first | rfl | omega | (simp only [List.length_append, List.length_cons, List.length_nil, List.length_map] at *; omega)) (by subst hx60; exact (keep_no _ _ _ (by omega) (answers_no2 hc221)))), (h553.cast (by first | rfl | omega | (simp only [List.length_append, List.length_cons, List.length_nil, List.length_map] at *; omega)) (by subst hx60; exact (ack_no _ _ _ _ (by omega) (answers_no2 hc221)))), (by omega), (fun g hg e => ne41 g hg e)⟩, by omega⟩
      · skip
        have hF555 := hF216.set 39 (Value.bool ((sameL lb x59 [2]).isSome)) (Value.bool false) (by kernel_rfl) (congrArg Value.bool hg217)
        refine r_runk 3 [42, 12, 11, 0, 1, 8, 9, 18, 19, 20] [(42, (Value.bool false)), (12, (Value.pointer (some ⟨b127, 0, none⟩))), (11, (Value.pointer (some ⟨b68, 0, none⟩))), (0, (Value.slice A0 la.length c0)), (1, (Value.slice A1 lb.length c1)), (8, (Value.slice A33 m35 cp34)), (9, (Value.slice A37 m39 cp38)), (18, (Value.slice A20 m23 c21)), (19, (Value.int .i64 ((m23 : Nat) : Int))), (20, (Value.int .i64 ((k : Nat) : Int)))] hF555 (by kernel_rfl) (by kernel_rfl) ?_
        intro a556 hF557
        refine r_end (by kernel_rfl) ?_
        refine c_cond_false [1, 1, 1, 0, 1, 0, 0, 1, 1, 0, 0, 1, 1, 1, 1, 0] [1, 1, 1, 0, 1, 0, 0, 1, 1, 0, 0, 1, 1, 1, 1, 1] 42 (by kernel_rfl) hF557 (by kernel_rfl) ?_
        refine c_skip (by kernel_rfl) ?_
        refine c_reg 10 (by kernel_rfl) ?_
        refine r_one (d := 52) (v0 := (Value.int .i64 (IntKind.i64.wrap (((k : Nat) : Int) + ((1 : Nat) : Int))))) (v := (Value.int .i64 ((k + 1 : Nat) : Int))) hF557 (by kernel_rfl) (by kernel_rfl) (congrArg (Value.int .i64) (i64_eq (by omega) (by omega) (by omega))) ?_
        intro a558 hF559
        refine r_runk 1 [20, 0, 1, 8, 9, 18, 19] [(20, (Value.int .i64 ((k + 1 : Nat) : Int))), (0, (Value.slice A0 la.length c0)), (1, (Value.slice A1 lb.length c1)), (8, (Value.slice A33 m35 cp34)), (9, (Value.slice A37 m39 cp38)), (18, (Value.slice A20 m23 c21)), (19, (Value.int .i64 ((m23 : Nat) : Int)))] hF559 (by kernel_rfl) (by kernel_rfl) ?_
        intro a560 hF561
        refine r_end (by kernel_rfl) ?_
        have h562 : Rd tPacket s192 w208 (Value.slice A20 m23 c21) (sentL la (c : Int)) := ((((((((((h43.step st70).step st79).step st95).step st113).step st129).step st140).step st158).step st178).step st196).step st209)
        have h563 : Own tPacket 56 w.heap.size s192 w208 (Value.slice A33 m35 cp34) (((sentL la c).take (k)).filter (answers la lb)) := ((h185.step' st196).step st209 (fun g hg e => ne200 (by subst e; exact hg)))
        have h564 : Own tAck 53 w.heap.size s192 w208 (Value.slice A37 m39 cp38) ((((sentL la c).take (k)).filter (answers la lb)).map (ackOf lb)) := ((h186.step' st196).step st209 (fun g hg e => ne201 (by subst e; exact hg)))
        have hF565 := hF561.keep [0, 1, 8, 9, 18, 19, 20] [(0, (Value.slice A0 la.length c0)), (1, (Value.slice A1 lb.length c1)), (8, (Value.slice A33 m35 cp34)), (9, (Value.slice A37 m39 cp38)), (18, (Value.slice A20 m23 c21)), (19, (Value.int .i64 ((m23 : Nat) : Int))), (20, (Value.int .i64 ((k + 1 : Nat) : Int)))] (by kernel_rfl)
        exact ⟨k + 1, ⟨s192, A33, cp34, m35, A37, cp38, m39, hF565, hS212, h562, (h563.cast (by first | rfl | omega | (simp only [List.length_append, List.length_cons, List.length_nil, List.length_map] at *; omega)) (by subst hx60; exact (keep_no _ _ _ (by omega) (answers_no1 hg217)))), (h564.cast (by first | rfl | omega | (simp only [List.length_append, List.length_cons, List.length_nil, List.length_map] at *; omega)) (by subst hx60; exact (ack_no _ _ _ _ (by omega) (answers_no1 hg217)))), (by omega), (fun g hg e => ne41 g hg e)⟩, by omega⟩
    · skip
      have hc50 := of_decide_eq_false hc50
      refine c_exit 0 (by kernel_rfl) ?_
      refine c_seq [1, 1, 1, 1, 0] [1, 1, 1, 1, 1] (by kernel_rfl) ?_
      refine c_reg 11 (by kernel_rfl) ?_
      refine r_runk 4 [7, 6] [(7, (Value.slice A37 m39 cp38)), (6, (Value.slice A33 m35 cp34))] hF49 (by kernel_rfl) (by kernel_rfl) ?_
      intro a566 hF567
      refine r_end (by kernel_rfl) ?_
      refine c_ret (by kernel_rfl) ?_
      try dsimp only [Exit.then, Exit.inBlock]
      refine f_ret2 hF567 6 7 (by kernel_rfl) (Value.slice A33 m35 cp34) (Value.slice A37 m39 cp38) (by kernel_rfl) (by kernel_rfl) s30 hS32 ?_
      have hk8 : k = (sentL la c).length := by omega
      subst hk8
      have e1 := hO44
      have e2 := hO45
      rw [List.take_length] at e1 e2
      exact ⟨_, _, rfl, e1, e2⟩
end Go.Proofs.Ytaoamokfbhlaaaa.E
