/- Walks, printed by a program of this session. -/
import Derived.Test.YtaoamokfbhlaaaaK
import Derived.Test.Ytaoamokfbhlaaaapure21
import Derived.Test.YtaoamokfbhlaaaaRq
import Derived.Test.YtaoamokfbhlaaaaRw
import Derived.Test.YtaoamokfbhlaaaaRx
set_option linter.unusedVariables false
set_option linter.unusedSimpArgs false
set_option maxRecDepth 100000
namespace Go.Proofs.Ytaoamokfbhlaaaa.E
open Go Go.RowKit
open Go.Proofs
theorem relSent_calls (σ : Nat → Nat) (w : World) {v0 : Value} {l : List Event} (h0 : Rd tEvent σ w v0 l) (hl : l.length ≤ 1000) (c : Int) :
    Ctr Try.prog 37 [v0, (iv c)] noM σ w (fun σ' w' v => Own tPacket 56 w.heap.size σ' w' v (sentL l c)) := by
  obtain ⟨A0, c0, rfl, hlA0⟩ := h0.form
  have hbdA0 : l.length ≤ 140737488355328 := by have h := h0.bd; have e : tEvent.by_ = 104 := rfl; rw [e] at h; omega
  refine ctr_enter Try.func37 c37 (by kernel_rfl) 23 (by kernel_rfl) (Nat.le_of_ble_eq_true (by kernel_rfl)) [(0, (Value.slice A0 l.length c0)), (1, (Value.int .i64 (c)))] (by kernel_rfl) ?_
  intro a hF1
  have hS2 := Stp.refl noM σ w
  refine c_seq [0] [1] (by kernel_rfl) ?_
  refine c_reg 0 (by kernel_rfl) ?_
  refine r_at (r_new (d := 3) (op := (Op.box 3 (Operand.tmp 1))) hF1 (by kernel_rfl) (by kernel_rfl) σ [(Value.int .i64 (c))] 3 (exec_box [(Value.int .i64 (c))] (by kernel_rfl)) ?_)
  intro a3 s4 w5 b6 hb7 st8 hB9 hF10
  have hz11 := hS2.size
  have hS12 := hS2.then st8
  refine r_runk 1 [3, 0] [(3, (Value.pointer (some ⟨b6, 0, none⟩))), (0, (Value.slice A0 l.length c0))] hF10 (by kernel_rfl) (by kernel_rfl) ?_
  intro a13 hF14
  refine r_end (by kernel_rfl) ?_
  refine c_seq [1, 0] [1, 1] (by kernel_rfl) ?_
  refine c_reg 1 (by kernel_rfl) ?_
  refine r_runk 1 [5, 3, 0] [(5, (Value.slice none 0 0)), (3, (Value.pointer (some ⟨b6, 0, none⟩))), (0, (Value.slice A0 l.length c0))] hF14 (by kernel_rfl) (by kernel_rfl) ?_
  intro a15 hF16
  refine r_end (by kernel_rfl) ?_
  refine c_seq [1, 1, 0] [1, 1, 1] (by kernel_rfl) ?_
  refine c_seq [1, 1, 0, 0] [1, 1, 0, 1] (by kernel_rfl) ?_
  refine c_reg 2 (by kernel_rfl) ?_
  refine r_runk 2 [9, 8, 5] [(9, (Value.func (.func 44) #[] #[(Value.pointer (some ⟨b6, 0, none⟩))])), (8, (Value.slice A0 l.length c0)), (5, (Value.slice none 0 0))] hF16 (by kernel_rfl) (by kernel_rfl) ?_
  intro a17 hF18
  have h19 : Rd tEvent s4 w5 (Value.slice A0 l.length c0) l := h0.step hS12
  have hl20 : (l).length ≤ 1000 := hl
  refine r_at (r_call (d := (some 10)) (f := 43) (args := #[(Operand.tmp 8), (Operand.tmp 9)]) (tys := #[41, 79]) hF18 (by kernel_rfl) (by kernel_rfl) C43 [(Value.slice A0 l.length c0), (Value.func (.func 44) #[] #[(Value.pointer (some ⟨b6, 0, none⟩))])] (by kernel_rfl) (keepE_calls s4 w5  h19 hl20 (Value.pointer (some ⟨b6, 0, none⟩)) 44 C44 (fun e => decide (e.kind = 1) && decide (e.packet.channel = (c : Int))) (fun x σ1 w1 st => sent1_calls σ1 w1 (hB9.step' st) x)) ?_)
  intro a21 s22 w23 v24 st25 hP26 hF27
  have hz28 := hS12.size
  have hS29 := hS12.then st25
  obtain ⟨A30, m33, c31, rfl, hl32⟩ := hP26.formL
  have hO34 : Own tEvent 60 w.heap.size s22 w23 (Value.slice A30 m33 c31) ((l).filter (fun e => decide (e.kind = 1) && decide (e.packet.channel = (c : Int)))) := hP26.le (by omega)
  have ne36 : ¬ Value.ownBlock (Value.slice A30 m33 c31) = some b6 := fun e => by have h1 := hP26.ge e; have h2 := hB9.lt; omega
  refine r_runk 2 [12, 11, 10, 5] [(12, (Value.int .i64 ((0 : Nat) : Int))), (11, (Value.int .i64 ((m33 : Nat) : Int))), (10, (Value.slice A30 m33 c31)), (5, (Value.slice none 0 0))] hF27 (by kernel_rfl) (by kernel_rfl) ?_
  intro a37 hF38
  refine r_end (by kernel_rfl) ?_
  refine c_block [1, 1, 0, 1, 0] 0 (by kernel_rfl) ?_
  refine c_loop [1, 1, 0, 1, 0, 0] (by kernel_rfl) (fun (k : Nat) a39 w40 => ∃ (s41 : Nat → Nat) (A44 : Option Addr) (cp45 : Nat) (m46 : Nat), Fr a39 23 [(5, (Value.slice A44 m46 cp45)), (10, (Value.slice A30 m33 c31)), (11, (Value.int .i64 ((m33 : Nat) : Int))), (12, (Value.int .i64 ((k : Nat) : Int)))] ∧ Stp noM σ w s41 w40 ∧ Rd tEvent s41 w40 (Value.slice A30 m33 c31) ((l).filter (fun e => decide (e.kind = 1) && decide (e.packet.channel = (c : Int)))) ∧ Own tPacket 56 w.heap.size s41 w40 (Value.slice A44 m46 cp45) ((((l).filter (fun e => decide (e.kind = 1) && decide (e.packet.channel = (c : Int)))).take (k)).map Event.packet) ∧ k ≤ ((l).filter (fun e => decide (e.kind = 1) && decide (e.packet.channel = (c : Int)))).length ∧ ((l).filter (fun e => decide (e.kind = 1) && decide (e.packet.channel = (c : Int)))).length ≤ 1000) (fun k => ((l).filter (fun e => decide (e.kind = 1) && decide (e.packet.channel = (c : Int)))).length - k) 0 ?_ ?_
  · skip
    have hF48 := hF38.keep [5, 10, 11, 12] [(5, (Value.slice none 0 0)), (10, (Value.slice A30 m33 c31)), (11, (Value.int .i64 ((m33 : Nat) : Int))), (12, (Value.int .i64 ((0 : Nat) : Int)))] (by kernel_rfl)
    exact ⟨s22, none, 0, 0, hF48, hS29, hO34.rd, (Own.nil _ _ _ _ _), (by omega), (Nat.le_trans (List.length_filter_le _ _) hl)⟩
  · rintro k a39 w40 ⟨s41, A44, cp45, m46, hF42, hS43, h49, hO50, hk, hX⟩
    have hln51 := hO50.ln
    refine c_seq [1, 1, 0, 1, 0, 0, 0] [1, 1, 0, 1, 0, 0, 1] (by kernel_rfl) ?_
    refine c_reg 3 (by kernel_rfl) ?_
    refine r_one (d := 13) (v0 := (Value.bool (decide (((k : Nat) : Int) < ((m33 : Nat) : Int))))) (v := (Value.bool (decide ((k : Nat) < m33)))) hF42 (by kernel_rfl) (by kernel_rfl) (congrArg Value.bool (cmp_nat_lss _ _)) ?_
    intro a52 hF53
    refine r_end (by kernel_rfl) ?_
    refine c_seq [1, 1, 0, 1, 0, 0, 1, 0] [1, 1, 0, 1, 0, 0, 1, 1] (by kernel_rfl) ?_
    refine c_cond [1, 1, 0, 1, 0, 0, 1, 0, 0] [1, 1, 0, 1, 0, 0, 1, 0, 1] 13 (by kernel_rfl) hF53 (decide ((k : Nat) < m33)) (by kernel_rfl) (fun hc54 => ?_) (fun hc54 => ?_)
    · skip
      have hc54 := of_decide_eq_true hc54
      refine c_skip (by kernel_rfl) ?_
      refine c_seq [1, 1, 0, 1, 0, 0, 1, 1, 0] [1, 1, 0, 1, 0, 0, 1, 1, 1] (by kernel_rfl) ?_
      refine c_block [1, 1, 0, 1, 0, 0, 1, 1, 0, 0] 1 (by kernel_rfl) ?_
      refine c_seq [1, 1, 0, 1, 0, 0, 1, 1, 0, 0, 0] [1, 1, 0, 1, 0, 0, 1, 1, 0, 0, 1] (by kernel_rfl) ?_
      refine c_reg 4 (by kernel_rfl) ?_
      have hi61 : k < ((l).filter (fun e => decide (e.kind = 1) && decide (e.packet.channel = (c : Int)))).length := (by have hq := h49.ln; first | omega | (simp only [List.length_append, List.length_cons, List.length_nil, List.length_map] at *; omega))
      obtain ⟨b55, o56, c57, he58, hs59, hr60⟩ := (h49).at k hi61
      obtain ⟨o62, ho62⟩ : ∃ o, o = o56 + k * 10 := ⟨_, rfl⟩
      obtain ⟨x63, hx64⟩ : ∃ x, x = (((l).filter (fun e => decide (e.kind = 1) && decide (e.packet.channel = (c : Int))))[k]'hi61) := ⟨_, rfl⟩
      rw [← hx64] at hr60
      have hr60 : c57 = [(bv x63.kind), (Value.int .i64 (x63.packet.channel)), (uv x63.packet.seq), (uv x63.packet.timeout), (sv x63.packet.denom), (uv x63.packet.amount), (sv x63.packet.src), (sv x63.packet.dst), (Value.bool x63.ack.ok), (Value.int .i64 (x63.ack.code))] := hr60
      subst hr60
      have hs59 : Seg s41 w40 b55 o62 [(bv x63.kind), (Value.int .i64 (x63.packet.channel)), (uv x63.packet.seq), (uv x63.packet.timeout), (sv x63.packet.denom), (uv x63.packet.amount), (sv x63.packet.src), (sv x63.packet.dst), (Value.bool x63.ack.ok), (Value.int .i64 (x63.ack.code))] := by rw [ho62]; exact hs59
      refine r_at (r_val (d := 14) (op := (Op.indexAddr 41 (Operand.tmp 10) (Operand.tmp 12))) hF53 (by kernel_rfl) (by kernel_rfl) (Value.pointer (some ⟨b55, o62, none⟩)) w40 (by rw [ho62]; exact exec_index (len := m33) (cap := c31) he58 (by kernel_rfl) (kd := .i64) k (by kernel_rfl) (by have := h49.ln; omega) 10 U41 L60.s) ?_)
      intro a65 hF66
      refine r_at (r_val (d := 15) (op := (Op.load 60 (Operand.tmp 14))) hF66 (by kernel_rfl) (by kernel_rfl) (Value.agg #[(bv x63.kind), (Value.int .i64 (x63.packet.channel)), (uv x63.packet.seq), (uv x63.packet.timeout), (sv x63.packet.denom), (uv x63.packet.amount), (sv x63.packet.src), (sv x63.packet.dst), (Value.bool x63.ack.ok), (Value.int .i64 (x63.ack.code))]) w40 (exec_load L60 (.inl rfl) (by kernel_rfl) hs59.cell) ?_)
      intro a67 hF68
      refine r_at (r_new (d := 7) (op := (Op.alloc 60)) hF68 (by kernel_rfl) (by kernel_rfl) s41 [(bv 0), (Value.int .i64 ((0 : Nat) : Int)), (uv 0), (uv 0), (sv []), (uv 0), (sv []), (sv []), (Value.bool false), (Value.int .i64 ((0 : Nat) : Int))] 60 (exec_alloc [(bv 0), (Value.int .i64 ((0 : Nat) : Int)), (uv 0), (uv 0), (sv []), (uv 0), (sv []), (sv []), (Value.bool false), (Value.int .i64 ((0 : Nat) : Int))] (fun _ => .inl (by kernel_rfl))) ?_)
      intro a69 s70 w71 b72 hb73 st74 hB75 hF76
      have hz77 := hS43.size
      have ne78 : ¬ Value.ownBlock (Value.slice A44 m46 cp45) = some b72 := fun e => by have := hO50.lt e; omega
      have hS79 := hS43.then st74
      refine r_at (r_store (t := 60) (x := (Operand.tmp 7)) (y := (Operand.tmp 15)) hF76 (by kernel_rfl) (by kernel_rfl) hB75 0 [(bv x63.kind), (Value.int .i64 (x63.packet.channel)), (uv x63.packet.seq), (uv x63.packet.timeout), (sv x63.packet.denom), (uv x63.packet.amount), (sv x63.packet.src), (sv x63.packet.dst), (Value.bool x63.ack.ok), (Value.int .i64 (x63.ack.code))] [(bv x63.kind), (Value.int .i64 (x63.packet.channel)), (uv x63.packet.seq), (uv x63.packet.timeout), (sv x63.packet.denom), (uv x63.packet.amount), (sv x63.packet.src), (sv x63.packet.dst), (Value.bool x63.ack.ok), (Value.int .i64 (x63.ack.code))] (by kernel_rfl) (by kernel_rfl) 10 true L60 rfl (by kernel_rfl) (Nat.le_of_ble_eq_true (by kernel_rfl)) (by kernel_rfl) ?_)
      intro a80 w81 st82 hB83 hF84
      have hS85 := hS79.and st82 (fun b e => by subst e; omega)
      have hF86 := hF84.keep [7, 5, 10, 11, 12] [(7, (Value.pointer (some ⟨b72, 0, none⟩))), (5, (Value.slice A44 m46 cp45)), (10, (Value.slice A30 m33 c31)), (11, (Value.int .i64 ((m33 : Nat) : Int))), (12, (Value.int .i64 ((k : Nat) : Int)))] (by kernel_rfl)
      refine r_end (by kernel_rfl) ?_
      refine c_reg 5 (by kernel_rfl) ?_
      refine r_runk 2 [17, 16, 10, 11, 12] [(17, (Value.pointer (some ⟨b72, 1, none⟩))), (16, (Value.slice A44 m46 cp45)), (10, (Value.slice A30 m33 c31)), (11, (Value.int .i64 ((m33 : Nat) : Int))), (12, (Value.int .i64 ((k : Nat) : Int)))] hF86 (by kernel_rfl) (by kernel_rfl) ?_
      intro a87 hF88
      refine r_at (r_val (d := 18) (op := (Op.load 56 (Operand.tmp 17))) hF88 (by kernel_rfl) (by kernel_rfl) (Value.agg #[(Value.int .i64 (x63.packet.channel)), (uv x63.packet.seq), (uv x63.packet.timeout), (sv x63.packet.denom), (uv x63.packet.amount), (sv x63.packet.src), (sv x63.packet.dst)]) w81 (exec_load L56 (.inl rfl) (by kernel_rfl) (Bx.cells hB83 1 7 [(Value.int .i64 (x63.packet.channel)), (uv x63.packet.seq), (uv x63.packet.timeout), (sv x63.packet.denom), (uv x63.packet.amount), (sv x63.packet.src), (sv x63.packet.dst)] (by kernel_rfl))) ?_)
      intro a89 hF90
      have h91 : Own tPacket 56 w.heap.size s70 w81 (Value.slice A44 m46 cp45) ((((l).filter (fun e => decide (e.kind = 1) && decide (e.packet.channel = (c : Int)))).take (k)).map Event.packet) := ((hO50.step' st74).step st82 (fun g hg e => ne78 (by subst e; exact hg)))
      refine r_at (r_lit tPacket (d := 19) (t := 43) (m := 1) (parts := #[(0, (Operand.tmp 18))]) hF90 (by kernel_rfl) (by kernel_rfl) s70 [x63.packet] [(Value.int .i64 (x63.packet.channel)), (uv x63.packet.seq), (uv x63.packet.timeout), (sv x63.packet.denom), (uv x63.packet.amount), (sv x63.packet.src), (sv x63.packet.dst)] ⟨_, _, rfl, rfl, rfl⟩ rfl (by decide) (e := 56) (fun o e => by simp only [execOp, e]; kernel_rfl) (by decide) ?_)
      intro a92 s93 w94 g95 hg96 st97 hO98 hF99
      have hz100 := hS85.size
      have hS101 := hS85.then st97
      have hO102 : Own tPacket 56 w.heap.size s93 w94 (Value.slice (some ⟨g95, 0, none⟩) 1 1) [x63.packet] := (hO98.le (by omega : w.heap.size ≤ _))
      have ne104 : ∀ g, Value.ownBlock (Value.slice A44 m46 cp45) = some g → ¬ Value.ownBlock (Value.slice (some ⟨g95, 0, none⟩) 1 1) = some g := fun g hg e => by have h1 := hO98.ge e; have h2 := h91.lt hg; omega
      have ne105 : ¬ Value.ownBlock (Value.slice (some ⟨g95, 0, none⟩) 1 1) = some b72 := fun e => by have h1 := hO98.ge e; have h2 := hB83.lt; omega
      have h106 : Own tPacket 56 w.heap.size s93 w94 (Value.slice A44 m46 cp45) ((((l).filter (fun e => decide (e.kind = 1) && decide (e.packet.channel = (c : Int)))).take (k)).map Event.packet) := (h91.step' st97)
      have h107 : Bx s93 w94 b72 [(bv x63.kind), (Value.int .i64 (x63.packet.channel)), (uv x63.packet.seq), (uv x63.packet.timeout), (sv x63.packet.denom), (uv x63.packet.amount), (sv x63.packet.src), (sv x63.packet.dst), (Value.bool x63.ack.ok), (Value.int .i64 (x63.ack.code))] 60 := (hB83.step' st97)
      have hz117 := hS101.size
      have hb116 : ((((l).filter (fun e => decide (e.kind = 1) && decide (e.packet.channel = (c : Int)))).take (k)).map Event.packet).length + ([x63.packet] : List _).length ≤ 1000000 := (by simp only [List.length_map, List.length_take, List.length_cons, List.length_nil] at *; omega)
      refine r_at (r_append tPacket S43 (d := 20) (x := (Operand.tmp 16)) (y := (Operand.tmp 19)) hF99 (by kernel_rfl) (by kernel_rfl) (by kernel_rfl) (by kernel_rfl) h106 hO102.rd (app_small hb116 (by decide)) (by omega) hz117 ?_)
      intro a108 s109 w110 v111 st112 hO113 hn114 hF115
      obtain ⟨A120, m123, c121, rfl, hl122⟩ := hO113.formL
      have hS124 := hS101.and st112 (fun b e => h106.ge e)
      have ne126 : ¬ Value.ownBlock (Value.slice A120 m123 c121) = some b72 := fun e => ne78 (hn114 _ h107.lt e)
      refine r_runk 1 [5, 10, 11, 12] [(5, (Value.slice A120 m123 c121)), (10, (Value.slice A30 m33 c31)), (11, (Value.int .i64 ((m33 : Nat) : Int))), (12, (Value.int .i64 ((k : Nat) : Int)))] hF115 (by kernel_rfl) (by kernel_rfl) ?_
      intro a127 hF128
      refine r_end (by kernel_rfl) ?_
      refine c_reg 6 (by kernel_rfl) ?_
      refine r_one (d := 21) (v0 := (Value.int .i64 (IntKind.i64.wrap (((k : Nat) : Int) + ((1 : Nat) : Int))))) (v := (Value.int .i64 ((k + 1 : Nat) : Int))) hF128 (by kernel_rfl) (by kernel_rfl) (congrArg (Value.int .i64) (i64_eq (by omega) (by omega) (by omega))) ?_
      intro a129 hF130
      refine r_runk 1 [12, 5, 10, 11] [(12, (Value.int .i64 ((k + 1 : Nat) : Int))), (5, (Value.slice A120 m123 c121)), (10, (Value.slice A30 m33 c31)), (11, (Value.int .i64 ((m33 : Nat) : Int)))] hF130 (by kernel_rfl) (by kernel_rfl) ?_
      intro a131 hF132
      refine r_end (by kernel_rfl) ?_
      have h133 : Rd tEvent s109 w110 (Value.slice A30 m33 c31) ((l).filter (fun e => decide (e.kind = 1) && decide (e.packet.channel = (c : Int)))) := ((((h49.step st74).step st82).step st97).step st112)
      have hF134 := hF132.keep [5, 10, 11, 12] [(5, (Value.slice A120 m123 c121)), (10, (Value.slice A30 m33 c31)), (11, (Value.int .i64 ((m33 : Nat) : Int))), (12, (Value.int .i64 ((k + 1 : Nat) : Int)))] (by kernel_rfl)
      exact ⟨k + 1, ⟨s109, A120, c121, m123, hF134, hS124, h133, (hO113.cast (by first | rfl | omega | (simp only [List.length_append, List.length_cons, List.length_nil, List.length_map] at *; omega)) (by subst hx64; exact (map_step _ _ _ _))), (by have := hk; omega), hX⟩, (by omega)⟩
    · skip
      have hc54 := of_decide_eq_false hc54
      refine c_exit 0 (by kernel_rfl) ?_
      refine c_seq [1, 1, 1, 0] [1, 1, 1, 1] (by kernel_rfl) ?_
      refine c_reg 7 (by kernel_rfl) ?_
      refine r_runk 2 [4] [(4, (Value.slice A44 m46 cp45))] hF53 (by kernel_rfl) (by kernel_rfl) ?_
      intro a135 hF136
      refine r_end (by kernel_rfl) ?_
      refine c_ret (by kernel_rfl) ?_
      try dsimp only [Exit.then, Exit.inBlock]
      refine f_ret1 hF136 4 (by kernel_rfl) (Value.slice A44 m46 cp45) (by kernel_rfl) s41 hS43 ?_
      have h9 := hO50
      have hk8 : k = (l.filter (fun e => decide (e.kind = 1) && decide (e.packet.channel = c))).length := by omega
      subst hk8
      rw [List.take_length] at h9
      exact h9
theorem same_calls (σ : Nat → Nat) (w : World) {v0 v1 : Value} {l : List Event} {kinds : List UInt8} (h0 : Rd tEvent σ w v0 l) (p : Packet) (h1 : Rd tU8 σ w v1 kinds) :
    Ctr Try.prog 38 [v0, (Value.agg #[(Value.int .i64 (p.channel)), (uv p.seq), (uv p.timeout), (sv p.denom), (uv p.amount), (sv p.src), (sv p.dst)]), v1] noM σ w (fun σ' w' v => v = .tuple #[(Value.agg #[(bv ((sameE l p kinds).kind)), (Value.int .i64 (((sameE l p kinds).packet).channel)), (uv (((sameE l p kinds).packet).seq)), (uv (((sameE l p kinds).packet).timeout)), (sv (((sameE l p kinds).packet).denom)), (uv (((sameE l p kinds).packet).amount)), (sv (((sameE l p kinds).packet).src)), (sv (((sameE l p kinds).packet).dst)), (Value.bool (((sameE l p kinds).ack).ok)), (Value.int .i64 (((sameE l p kinds).ack).code))]), .bool (sameL l p kinds).isSome]) := by
  obtain ⟨A0, c0, rfl, hlA0⟩ := h0.form
  have hbdA0 : l.length ≤ 140737488355328 := by have h := h0.bd; have e : tEvent.by_ = 104 := rfl; rw [e] at h; omega
  obtain ⟨A1, c1, rfl, hlA1⟩ := h1.form
  have hbdA1 : kinds.length ≤ 140737488355328 := by have h := h1.bd; have e : tU8.by_ = 1 := rfl; rw [e] at h; omega
  refine ctr_enter Try.func38 c38 (by kernel_rfl) 19 (by kernel_rfl) (Nat.le_of_ble_eq_true (by kernel_rfl)) [(0, (Value.slice A0 l.length c0)), (1, (Value.agg #[(Value.int .i64 (p.channel)), (uv p.seq), (uv p.timeout), (sv p.denom), (uv p.amount), (sv p.src), (sv p.dst)])), (2, (Value.slice A1 kinds.length c1))] (by kernel_rfl) ?_
  intro a hF1
  have hS2 := Stp.refl noM σ w
  refine c_seq [0] [1] (by kernel_rfl) ?_
  refine c_reg 0 (by kernel_rfl) ?_
  refine r_at (r_new (d := 4) (op := (Op.box 56 (Operand.tmp 1))) hF1 (by kernel_rfl) (by kernel_rfl) σ [(Value.int .i64 (p.channel)), (uv p.seq), (uv p.timeout), (sv p.denom), (uv p.amount), (sv p.src), (sv p.dst)] 56 (exec_box [(Value.int .i64 (p.channel)), (uv p.seq), (uv p.timeout), (sv p.denom), (uv p.amount), (sv p.src), (sv p.dst)] (by kernel_rfl)) ?_)
  intro a3 s4 w5 b6 hb7 st8 hB9 hF10
  have hz11 := hS2.size
  have hS12 := hS2.then st8
  refine r_at (r_new (d := 5) (op := (Op.box 80 (Operand.tmp 2))) hF10 (by kernel_rfl) (by kernel_rfl) s4 [(Value.slice A1 kinds.length c1)] 80 (exec_box [(Value.slice A1 kinds.length c1)] (by kernel_rfl)) ?_)
  intro a13 s14 w15 b16 hb17 st18 hB19 hF20
  have hz21 := hS12.size
  have ne22 : b6 < b16 := by have := hB9.lt; omega
  have hS23 := hS12.then st18
  have h24 : Bx s14 w15 b6 [(Value.int .i64 (p.channel)), (uv p.seq), (uv p.timeout), (sv p.denom), (uv p.amount), (sv p.src), (sv p.dst)] 56 := (hB9.step' st18)
  refine r_at (r_new (d := 6) (op := (Op.alloc 60)) hF20 (by kernel_rfl) (by kernel_rfl) s14 [(bv 0), (Value.int .i64 ((0 : Nat) : Int)), (uv 0), (uv 0), (sv []), (uv 0), (sv []), (sv []), (Value.bool false), (Value.int .i64 ((0 : Nat) : Int))] 60 (exec_alloc [(bv 0), (Value.int .i64 ((0 : Nat) : Int)), (uv 0), (uv 0), (sv []), (uv 0), (sv []), (sv []), (Value.bool false), (Value.int .i64 ((0 : Nat) : Int))] (fun _ => .inl (by kernel_rfl))) ?_)
  intro a25 s26 w27 b28 hb29 st30 hB31 hF32
  have hz33 := hS23.size
  have ne34 : b6 < b28 := by have := h24.lt; omega
  have ne35 : b16 < b28 := by have := hB19.lt; omega
  have hS36 := hS23.then st30
  refine r_runk 1 [6, 5, 4, 0] [(6, (Value.pointer (some ⟨b28, 0, none⟩))), (5, (Value.pointer (some ⟨b16, 0, none⟩))), (4, (Value.pointer (some ⟨b6, 0, none⟩))), (0, (Value.slice A0 l.length c0))] hF32 (by kernel_rfl) (by kernel_rfl) ?_
  intro a37 hF38
  refine r_end (by kernel_rfl) ?_
  refine c_seq [1, 0] [1, 1] (by kernel_rfl) ?_
  refine c_reg 1 (by kernel_rfl) ?_
  refine r_runk 2 [10, 9, 6, 0] [(10, (Value.func (.func 46) #[] #[(Value.pointer (some ⟨b16, 0, none⟩)), (Value.pointer (some ⟨b6, 0, none⟩))])), (9, (Value.slice A0 l.length c0)), (6, (Value.pointer (some ⟨b28, 0, none⟩))), (0, (Value.slice A0 l.length c0))] hF38 (by kernel_rfl) (by kernel_rfl) ?_
  intro a39 hF40
  have h41 : Rd tEvent s26 w27 (Value.slice A0 l.length c0) l := h0.step hS36
  have h42 : Bx s26 w27 b16 [(Value.slice A1 kinds.length c1)] 80 := (hB19.step' st30)
  have h43 : Bx s26 w27 b6 [(Value.int .i64 (p.channel)), (uv p.seq), (uv p.timeout), (sv p.denom), (uv p.amount), (sv p.src), (sv p.dst)] 56 := (h24.step' st30)
  have h44 : Rd tU8 s26 w27 (Value.slice A1 kinds.length c1) kinds := h1.step hS36
  refine r_at (r_call (d := (some 11)) (f := 45) (args := #[(Operand.tmp 9), (Operand.tmp 10)]) (tys := #[41, 79]) hF40 (by kernel_rfl) (by kernel_rfl) C45 [(Value.slice A0 l.length c0), (Value.func (.func 46) #[] #[(Value.pointer (some ⟨b16, 0, none⟩)), (Value.pointer (some ⟨b6, 0, none⟩))])] (by kernel_rfl) (indexFunc_calls s26 w27  h41 (Value.pointer (some ⟨b16, 0, none⟩)) (Value.pointer (some ⟨b6, 0, none⟩)) 46 C46 (isOf kinds p) (fun x σ1 w1 st => same1_calls σ1 w1 (h44.step st) (h42.step' st) (h43.step' st) x)) ?_)
  intro a45 s46 w47 v48 st49 hP50 hF51
  have hz52 := hS36.size
  have hS53 := hS36.then st49
  subst hP50
  refine r_runk 1 [8, 6, 0] [(8, (Value.int .i64 (idxI (l.findIdx? (isOf kinds p))))), (6, (Value.pointer (some ⟨b28, 0, none⟩))), (0, (Value.slice A0 l.length c0))] hF51 (by kernel_rfl) (by kernel_rfl) ?_
  intro a54 hF55
  refine r_end (by kernel_rfl) ?_
  refine c_seq [1, 1, 0] [1, 1, 1] (by kernel_rfl) ?_
  refine c_seq [1, 1, 0, 0] [1, 1, 0, 1] (by kernel_rfl) ?_
  refine c_reg 2 (by kernel_rfl) ?_
  refine r_runk 1 [12, 8, 6, 0] [(12, (Value.int .i64 (idxI (l.findIdx? (isOf kinds p))))), (8, (Value.int .i64 (idxI (l.findIdx? (isOf kinds p))))), (6, (Value.pointer (some ⟨b28, 0, none⟩))), (0, (Value.slice A0 l.length c0))] hF55 (by kernel_rfl) (by kernel_rfl) ?_
  intro a56 hF57
  refine r_one (d := 13) (v0 := (Value.bool (decide ((idxI (l.findIdx? (isOf kinds p)) : Int) < ((0 : Nat) : Int))))) (v := (Value.bool (decide ((idxI (l.findIdx? (isOf kinds p)) : Int) < ((0 : Nat) : Int))))) hF57 (by kernel_rfl) (by kernel_rfl) (congrArg Value.bool (cmp_int_lss _ _)) ?_
  intro a58 hF59
  have hF60 := hF59.keep [13, 8, 6, 0] [(13, (Value.bool (decide ((idxI (l.findIdx? (isOf kinds p)) : Int) < ((0 : Nat) : Int))))), (8, (Value.int .i64 (idxI (l.findIdx? (isOf kinds p))))), (6, (Value.pointer (some ⟨b28, 0, none⟩))), (0, (Value.slice A0 l.length c0))] (by kernel_rfl)
  refine r_end (by kernel_rfl) ?_
  refine c_cond [1, 1, 0, 1, 0] [1, 1, 0, 1, 1] 13 (by kernel_rfl) hF60 (decide ((idxI (l.findIdx? (isOf kinds p)) : Int) < ((0 : Nat) : Int))) (by kernel_rfl) (fun hc61 => ?_) (fun hc61 => ?_)
  · skip
    have hc61 := of_decide_eq_true hc61
    have hnone := idxI_neg (isOf kinds p) l (by simpa using hc61)
    refine c_seq [1, 1, 0, 1, 0, 0] [1, 1, 0, 1, 0, 1] (by kernel_rfl) ?_
    refine c_reg 3 (by kernel_rfl) ?_
    refine r_runk 1 [14, 6] [(14, (Value.agg #[(bv 0), (Value.int .i64 ((0 : Nat) : Int)), (uv 0), (uv 0), (sv []), (uv 0), (sv []), (sv []), (Value.bool false), (Value.int .i64 ((0 : Nat) : Int))])), (6, (Value.pointer (some ⟨b28, 0, none⟩)))] hF60 (by kernel_rfl) (by kernel_rfl) ?_
    intro a62 hF63
    have h64 : Bx s46 w47 b28 [(bv 0), (Value.int .i64 ((0 : Nat) : Int)), (uv 0), (uv 0), (sv []), (uv 0), (sv []), (sv []), (Value.bool false), (Value.int .i64 ((0 : Nat) : Int))] 60 := (hB31.step' st49)
    refine r_at (r_store (t := 60) (x := (Operand.tmp 6)) (y := (Operand.tmp 14)) hF63 (by kernel_rfl) (by kernel_rfl) h64 0 [(bv 0), (Value.int .i64 ((0 : Nat) : Int)), (uv 0), (uv 0), (sv []), (uv 0), (sv []), (sv []), (Value.bool false), (Value.int .i64 ((0 : Nat) : Int))] [(bv 0), (Value.int .i64 ((0 : Nat) : Int)), (uv 0), (uv 0), (sv []), (uv 0), (sv []), (sv []), (Value.bool false), (Value.int .i64 ((0 : Nat) : Int))] (by kernel_rfl) (by kernel_rfl) 10 true L60 rfl (by kernel_rfl) (Nat.le_of_ble_eq_true (by kernel_rfl)) (by kernel_rfl) ?_)
    intro a65 w66 st67 hB68 hF69
    have hS70 := hS53.and st67 (fun b e => by subst e; omega)
    refine r_runk 1 [7, 6] [(7, (Value.bool false)), (6, (Value.pointer (some ⟨b28, 0, none⟩)))] hF69 (by kernel_rfl) (by kernel_rfl) ?_
    intro a71 hF72
    refine r_end (by kernel_rfl) ?_
    refine c_ret (by kernel_rfl) ?_
    try dsimp only [Exit.then, Exit.inBlock]
    refine f_ret hF72 [.cell 6 60, .tmp 7] (by kernel_rfl) [.agg [(bv 0), (Value.int .i64 ((0 : Nat) : Int)), (uv 0), (uv 0), (sv []), (uv 0), (sv []), (sv []), (Value.bool false), (Value.int .i64 ((0 : Nat) : Int))].toArray, (Value.bool false)] (.cell (hF72.h 6 _ (by kernel_rfl)) (run_loadVar_cs (cs := [(bv 0), (Value.int .i64 ((0 : Nat) : Int)), (uv 0), (uv 0), (sv []), (uv 0), (sv []), (sv []), (Value.bool false), (Value.int .i64 ((0 : Nat) : Int))]) L60 (.inl rfl) (hB68.cells 0 10 [(bv 0), (Value.int .i64 ((0 : Nat) : Int)), (uv 0), (uv 0), (sv []), (uv 0), (sv []), (sv []), (Value.bool false), (Value.int .i64 ((0 : Nat) : Int))] (by kernel_rfl))) (.tmp (hF72.h 7 _ (by kernel_rfl)) .nil)) _ rfl s46 hS70 ?_
    unfold sameE sameL
    rw [hnone]
    rfl
  · skip
    have hc61 := of_decide_eq_false hc61
    obtain ⟨k, hk, hki, hfound⟩ := idxI_pos (isOf kinds p) l (by simpa using hc61)
    have hF73 := hF60.set 8 (Value.int .i64 (idxI (l.findIdx? (isOf kinds p)))) (Value.int .i64 ((k : Nat) : Int)) (by kernel_rfl) (congrArg (Value.int .i64) hki)
    refine c_skip (by kernel_rfl) ?_
    refine c_seq [1, 1, 1, 0] [1, 1, 1, 1] (by kernel_rfl) ?_
    refine c_reg 4 (by kernel_rfl) ?_
    refine r_runk 2 [16, 15, 6] [(16, (Value.int .i64 ((k : Nat) : Int))), (15, (Value.slice A0 l.length c0)), (6, (Value.pointer (some ⟨b28, 0, none⟩)))] hF73 (by kernel_rfl) (by kernel_rfl) ?_
    intro a74 hF75
    have h76 : Rd tEvent s46 w47 (Value.slice A0 l.length c0) l := (h41.step st49)
    have hi83 : k < (l).length := (by have hq := h76.ln; first | omega | (simp only [List.length_append, List.length_cons, List.length_nil, List.length_map] at *; omega))
    obtain ⟨b77, o78, c79, he80, hs81, hr82⟩ := (h76).at k hi83
    obtain ⟨o84, ho84⟩ : ∃ o, o = o78 + k * 10 := ⟨_, rfl⟩
    obtain ⟨x85, hx86⟩ : ∃ x, x = (l[k]'hi83) := ⟨_, rfl⟩
    rw [← hx86] at hr82
    have hr82 : c79 = [(bv x85.kind), (Value.int .i64 (x85.packet.channel)), (uv x85.packet.seq), (uv x85.packet.timeout), (sv x85.packet.denom), (uv x85.packet.amount), (sv x85.packet.src), (sv x85.packet.dst), (Value.bool x85.ack.ok), (Value.int .i64 (x85.ack.code))] := hr82
    subst hr82
    have hs81 : Seg s46 w47 b77 o84 [(bv x85.kind), (Value.int .i64 (x85.packet.channel)), (uv x85.packet.seq), (uv x85.packet.timeout), (sv x85.packet.denom), (uv x85.packet.amount), (sv x85.packet.src), (sv x85.packet.dst), (Value.bool x85.ack.ok), (Value.int .i64 (x85.ack.code))] := by rw [ho84]; exact hs81
    refine r_at (r_val (d := 17) (op := (Op.indexAddr 41 (Operand.tmp 15) (Operand.tmp 16))) hF75 (by kernel_rfl) (by kernel_rfl) (Value.pointer (some ⟨b77, o84, none⟩)) w47 (by rw [ho84]; exact exec_index (len := l.length) (cap := c0) he80 (by kernel_rfl) (kd := .i64) k (by kernel_rfl) (by have := h76.ln; omega) 10 U41 L60.s) ?_)
    intro a87 hF88
    refine r_at (r_val (d := 18) (op := (Op.load 60 (Operand.tmp 17))) hF88 (by kernel_rfl) (by kernel_rfl) (Value.agg #[(bv x85.kind), (Value.int .i64 (x85.packet.channel)), (uv x85.packet.seq), (uv x85.packet.timeout), (sv x85.packet.denom), (uv x85.packet.amount), (sv x85.packet.src), (sv x85.packet.dst), (Value.bool x85.ack.ok), (Value.int .i64 (x85.ack.code))]) w47 (exec_load L60 (.inl rfl) (by kernel_rfl) hs81.cell) ?_)
    intro a89 hF90
    have h91 : Bx s46 w47 b28 [(bv 0), (Value.int .i64 ((0 : Nat) : Int)), (uv 0), (uv 0), (sv []), (uv 0), (sv []), (sv []), (Value.bool false), (Value.int .i64 ((0 : Nat) : Int))] 60 := (hB31.step' st49)
    refine r_at (r_store (t := 60) (x := (Operand.tmp 6)) (y := (Operand.tmp 18)) hF90 (by kernel_rfl) (by kernel_rfl) h91 0 [(bv x85.kind), (Value.int .i64 (x85.packet.channel)), (uv x85.packet.seq), (uv x85.packet.timeout), (sv x85.packet.denom), (uv x85.packet.amount), (sv x85.packet.src), (sv x85.packet.dst), (Value.bool x85.ack.ok), (Value.int .i64 (x85.ack.code))] [(bv x85.kind), (Value.int .i64 (x85.packet.channel)), (uv x85.packet.seq), (uv x85.packet.timeout), (sv x85.packet.denom), (uv x85.packet.amount), (sv x85.packet.src), (sv x85.packet.dst), (Value.bool x85.ack.ok), (Value.int .i64 (x85.ack.code))] (by kernel_rfl) (by kernel_rfl) 10 true L60 rfl (by kernel_rfl) (Nat.le_of_ble_eq_true (by kernel_rfl)) (by kernel_rfl) ?_)
    intro a92 w93 st94 hB95 hF96
    have hS97 := hS53.and st94 (fun b e => by subst e; omega)
    refine r_runk 1 [7, 6] [(7, (Value.bool true)), (6, (Value.pointer (some ⟨b28, 0, none⟩)))] hF96 (by kernel_rfl) (by kernel_rfl) ?_
    intro a98 hF99
    refine r_end (by kernel_rfl) ?_
    refine c_ret (by kernel_rfl) ?_
    try dsimp only [Exit.then, Exit.inBlock]
    refine f_ret hF99 [.cell 6 60, .tmp 7] (by kernel_rfl) [.agg [(bv x85.kind), (Value.int .i64 (x85.packet.channel)), (uv x85.packet.seq), (uv x85.packet.timeout), (sv x85.packet.denom), (uv x85.packet.amount), (sv x85.packet.src), (sv x85.packet.dst), (Value.bool x85.ack.ok), (Value.int .i64 (x85.ack.code))].toArray, (Value.bool true)] (.cell (hF99.h 6 _ (by kernel_rfl)) (run_loadVar_cs (cs := [(bv x85.kind), (Value.int .i64 (x85.packet.channel)), (uv x85.packet.seq), (uv x85.packet.timeout), (sv x85.packet.denom), (uv x85.packet.amount), (sv x85.packet.src), (sv x85.packet.dst), (Value.bool x85.ack.ok), (Value.int .i64 (x85.ack.code))]) L60 (.inl rfl) (hB95.cells 0 10 [(bv x85.kind), (Value.int .i64 (x85.packet.channel)), (uv x85.packet.seq), (uv x85.packet.timeout), (sv x85.packet.denom), (uv x85.packet.amount), (sv x85.packet.src), (sv x85.packet.dst), (Value.bool x85.ack.ok), (Value.int .i64 (x85.ack.code))] (by kernel_rfl))) (.tmp (hF99.h 7 _ (by kernel_rfl)) .nil)) _ rfl s46 hS97 ?_
    subst hx86; 
    unfold sameE sameL
    rw [hfound]
    rfl
end Go.Proofs.Ytaoamokfbhlaaaa.E
