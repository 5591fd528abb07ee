/- Walks, printed by a program of this session. -/
import Derived.Test.YtaoamokfbhlaaaaK
import Derived.Test.Ytaoamokfbhlaaaapure21
import Derived.Test.YtaoamokfbhlaaaaRq
import Derived.Test.YtaoamokfbhlaaaaRw
import Derived.Test.YtaoamokfbhlaaaaRx
import Derived.Test.YtaoamokfbhlaaaaRy
set_option linter.unusedVariables false
set_option linter.unusedSimpArgs false
set_option maxRecDepth 100000
namespace Go.Proofs.Ytaoamokfbhlaaaa.E
open Go Go.RowKit
open Go.Proofs
theorem toReceive1_calls (σ : Nat → Nat) (w : World) {v0 : Value} {l : List Event} {b : Nat} (h0 : Rd tEvent σ w v0 l) (hb : Bx σ w b [v0] 41) (p : Packet) :
    Ctr Try.prog 40 [(Value.agg #[(Value.int .i64 (p.channel)), (uv p.seq), (uv p.timeout), (sv p.denom), (uv p.amount), (sv p.src), (sv p.dst)]), (Value.pointer (some ⟨b, 0, none⟩))] noM σ w (fun σ' w' v => v = .bool (sameL l p [2]).isNone) := by
  obtain ⟨A0, c0, rfl, hlA0⟩ := h0.form
  have hbdA0 : l.length ≤ 140737488355328 := by have h := h0.bd; have e : tEvent.by_ = 104 := rfl; rw [e] at h; omega
  have hbl := hb.lt
  refine ctr_enter Try.func40 c40 (by kernel_rfl) 15 (by kernel_rfl) (Nat.le_of_ble_eq_true (by kernel_rfl)) [(0, (Value.agg #[(Value.int .i64 (p.channel)), (uv p.seq), (uv p.timeout), (sv p.denom), (uv p.amount), (sv p.src), (sv p.dst)])), (1, (Value.pointer (some ⟨b, 0, none⟩)))] (by kernel_rfl) ?_
  intro a hF1
  have hS2 := Stp.refl noM σ w
  refine c_seq [0] [1] (by kernel_rfl) ?_
  refine c_reg 0 (by kernel_rfl) ?_
  refine r_at (r_new (d := 2) (op := (Op.box 56 (Operand.tmp 0))) hF1 (by kernel_rfl) (by kernel_rfl) σ [(Value.int .i64 (p.channel)), (uv p.seq), (uv p.timeout), (sv p.denom), (uv p.amount), (sv p.src), (sv p.dst)] 56 (exec_box [(Value.int .i64 (p.channel)), (uv p.seq), (uv p.timeout), (sv p.denom), (uv p.amount), (sv p.src), (sv p.dst)] (by kernel_rfl)) ?_)
  intro a3 s4 w5 b6 hb7 st8 hB9 hF10
  have hz11 := hS2.size
  have ne12 : b < b6 := by have := hb.lt; omega
  have hS13 := hS2.then st8
  refine r_runk 1 [2, 1] [(2, (Value.pointer (some ⟨b6, 0, none⟩))), (1, (Value.pointer (some ⟨b, 0, none⟩)))] hF10 (by kernel_rfl) (by kernel_rfl) ?_
  intro a14 hF15
  refine r_end (by kernel_rfl) ?_
  refine c_seq [1, 0] [1, 1] (by kernel_rfl) ?_
  refine c_reg 1 (by kernel_rfl) ?_
  have h16 : Bx s4 w5 b [(Value.slice A0 l.length c0)] 41 := hb.step' hS13
  refine r_at (r_val (d := 7) (op := (Op.load 41 (Operand.tmp 1))) hF15 (by kernel_rfl) (by kernel_rfl) (Value.slice A0 l.length c0) w5 (exec_load L41 (.inr rfl) (by kernel_rfl) (Bx.cells h16 0 1 [(Value.slice A0 l.length c0)] (by kernel_rfl))) ?_)
  intro a17 hF18
  refine r_at (r_val (d := 8) (op := (Op.load 56 (Operand.tmp 2))) hF18 (by kernel_rfl) (by kernel_rfl) (Value.agg #[(Value.int .i64 (p.channel)), (uv p.seq), (uv p.timeout), (sv p.denom), (uv p.amount), (sv p.src), (sv p.dst)]) w5 (exec_load L56 (.inl rfl) (by kernel_rfl) (Bx.cells hB9 0 7 [(Value.int .i64 (p.channel)), (uv p.seq), (uv p.timeout), (sv p.denom), (uv p.amount), (sv p.src), (sv p.dst)] (by kernel_rfl))) ?_)
  intro a19 hF20
  refine r_at (r_lit tU8 (d := 9) (t := 80) (m := 1) (parts := #[(0, (Operand.const (Value.int IntKind.u8 2)))]) hF20 (by kernel_rfl) (by kernel_rfl) s4 [2] [(bv 2)] ⟨_, _, rfl, rfl, rfl⟩ rfl (by decide) (e := 47) (fun o e => by simp only [execOp, e]; kernel_rfl) (by decide) ?_)
  intro a21 s22 w23 g24 hg25 st26 hO27 hF28
  have hz29 := hS13.size
  have hS30 := hS13.then st26
  have hO31 : Own tU8 47 w.heap.size s22 w23 (Value.slice (some ⟨g24, 0, none⟩) 1 1) [2] := (hO27.le (by omega : w.heap.size ≤ _))
  have ne33 : ¬ Value.ownBlock (Value.slice (some ⟨g24, 0, none⟩) 1 1) = some b := fun e => by have h1 := hO27.ge e; have h2 := h16.lt; omega
  have ne34 : ¬ Value.ownBlock (Value.slice (some ⟨g24, 0, none⟩) 1 1) = some b6 := fun e => by have h1 := hO27.ge e; have h2 := hB9.lt; omega
  have h35 : Rd tEvent s22 w23 (Value.slice A0 l.length c0) l := h0.step hS30
  have h36 : Bx s22 w23 b [(Value.slice A0 l.length c0)] 41 := (h16.step' st26)
  have h37 : Bx s22 w23 b6 [(Value.int .i64 (p.channel)), (uv p.seq), (uv p.timeout), (sv p.denom), (uv p.amount), (sv p.src), (sv p.dst)] 56 := (hB9.step' st26)
  refine r_at (r_call (d := (some 10)) (f := 38) (args := #[(Operand.tmp 7), (Operand.tmp 8), (Operand.tmp 9)]) (tys := #[41, 56, 80]) hF28 (by kernel_rfl) (by kernel_rfl) C38 [(Value.slice A0 l.length c0), (Value.agg #[(Value.int .i64 (p.channel)), (uv p.seq), (uv p.timeout), (sv p.denom), (uv p.amount), (sv p.src), (sv p.dst)]), (Value.slice (some ⟨g24, 0, none⟩) 1 1)] (by kernel_rfl) (same_calls s22 w23 h35 p hO31.rd) ?_)
  intro a38 s39 w40 v41 st42 hP43 hF44
  have hz45 := hS30.size
  have hS46 := hS30.then st42
  subst hP43
  refine r_runk 3 [12, 11] [(12, (Value.bool ((sameL l p [2]).isSome))), (11, (Value.agg #[(bv ((sameE l p [2]).kind)), (Value.int .i64 (((sameE l p [2]).packet).channel)), (uv (((sameE l p [2]).packet).seq)), (uv (((sameE l p [2]).packet).timeout)), (sv (((sameE l p [2]).packet).denom)), (uv (((sameE l p [2]).packet).amount)), (sv (((sameE l p [2]).packet).src)), (sv (((sameE l p [2]).packet).dst)), (Value.bool (((sameE l p [2]).ack).ok)), (Value.int .i64 (((sameE l p [2]).ack).code))]))] hF44 (by kernel_rfl) (by kernel_rfl) ?_
  intro a47 hF48
  have h49 : Bx s39 w40 b [(Value.slice A0 l.length c0)] 41 := (h36.step' st42)
  have h50 : Bx s39 w40 b6 [(Value.int .i64 (p.channel)), (uv p.seq), (uv p.timeout), (sv p.denom), (uv p.amount), (sv p.src), (sv p.dst)] 56 := (h37.step' st42)
  have h51 : Own tU8 47 w.heap.size s39 w40 (Value.slice (some ⟨g24, 0, none⟩) 1 1) [2] := (hO31.step' st42)
  refine r_at (r_new (d := 4) (op := (Op.alloc 60)) hF48 (by kernel_rfl) (by kernel_rfl) s39 [(bv 0), (Value.int .i64 ((0 : Nat) : Int)), (uv 0), (uv 0), (sv []), (uv 0), (sv []), (sv []), (Value.bool false), (Value.int .i64 ((0 : Nat) : Int))] 60 (exec_alloc [(bv 0), (Value.int .i64 ((0 : Nat) : Int)), (uv 0), (uv 0), (sv []), (uv 0), (sv []), (sv []), (Value.bool false), (Value.int .i64 ((0 : Nat) : Int))] (fun _ => .inl (by kernel_rfl))) ?_)
  intro a52 s53 w54 b55 hb56 st57 hB58 hF59
  have hz60 := hS46.size
  have ne61 : b < b55 := by have := h49.lt; omega
  have ne62 : b6 < b55 := by have := h50.lt; omega
  have ne63 : ¬ Value.ownBlock (Value.slice (some ⟨g24, 0, none⟩) 1 1) = some b55 := fun e => by have := h51.lt e; omega
  have hS64 := hS46.then st57
  refine r_at (r_store (t := 60) (x := (Operand.tmp 4)) (y := (Operand.tmp 11)) hF59 (by kernel_rfl) (by kernel_rfl) hB58 0 [(bv ((sameE l p [2]).kind)), (Value.int .i64 (((sameE l p [2]).packet).channel)), (uv (((sameE l p [2]).packet).seq)), (uv (((sameE l p [2]).packet).timeout)), (sv (((sameE l p [2]).packet).denom)), (uv (((sameE l p [2]).packet).amount)), (sv (((sameE l p [2]).packet).src)), (sv (((sameE l p [2]).packet).dst)), (Value.bool (((sameE l p [2]).ack).ok)), (Value.int .i64 (((sameE l p [2]).ack).code))] [(bv ((sameE l p [2]).kind)), (Value.int .i64 (((sameE l p [2]).packet).channel)), (uv (((sameE l p [2]).packet).seq)), (uv (((sameE l p [2]).packet).timeout)), (sv (((sameE l p [2]).packet).denom)), (uv (((sameE l p [2]).packet).amount)), (sv (((sameE l p [2]).packet).src)), (sv (((sameE l p [2]).packet).dst)), (Value.bool (((sameE l p [2]).ack).ok)), (Value.int .i64 (((sameE l p [2]).ack).code))] (by kernel_rfl) (by kernel_rfl) 10 true L60 rfl (by kernel_rfl) (Nat.le_of_ble_eq_true (by kernel_rfl)) (by kernel_rfl) ?_)
  intro a65 w66 st67 hB68 hF69
  have hS70 := hS64.and st67 (fun b e => by subst e; omega)
  refine r_runk 1 [5] [(5, (Value.bool ((sameL l p [2]).isSome)))] hF69 (by kernel_rfl) (by kernel_rfl) ?_
  intro a71 hF72
  refine r_end (by kernel_rfl) ?_
  refine c_seq [1, 1, 0] [1, 1, 1] (by kernel_rfl) ?_
  refine c_reg 2 (by kernel_rfl) ?_
  refine r_runk 3 [3] [(3, (Value.bool (!((sameL l p [2]).isSome))))] hF72 (by kernel_rfl) (by kernel_rfl) ?_
  intro a73 hF74
  refine r_end (by kernel_rfl) ?_
  refine c_ret (by kernel_rfl) ?_
  try dsimp only [Exit.then, Exit.inBlock]
  refine f_ret1 hF74 3 (by kernel_rfl) (Value.bool (!((sameL l p [2]).isSome))) (by kernel_rfl) s53 hS70 ?_
  refine congrArg Value.bool ?_
  cases h9 : sameL l p [2] <;> simp_all
theorem toTimeout1_calls (σ : Nat → Nat) (w : World) {v0 : Value} {l : List Event} {b : Nat} (h0 : Rd tEvent σ w v0 l) (hb : Bx σ w b [v0] 41) (p : Packet) :
    Ctr Try.prog 41 [(Value.agg #[(Value.int .i64 (p.channel)), (uv p.seq), (uv p.timeout), (sv p.denom), (uv p.amount), (sv p.src), (sv p.dst)]), (Value.pointer (some ⟨b, 0, none⟩))] noM σ w (fun σ' w' v => v = .bool ((sameL l p [3, 4]).isNone && !decide (p.timeout = 0))) := by
  obtain ⟨A0, c0, rfl, hlA0⟩ := h0.form
  have hbdA0 : l.length ≤ 140737488355328 := by have h := h0.bd; have e : tEvent.by_ = 104 := rfl; rw [e] at h; omega
  have hbl := hb.lt
  refine ctr_enter Try.func41 c41 (by kernel_rfl) 20 (by kernel_rfl) (Nat.le_of_ble_eq_true (by kernel_rfl)) [(0, (Value.agg #[(Value.int .i64 (p.channel)), (uv p.seq), (uv p.timeout), (sv p.denom), (uv p.amount), (sv p.src), (sv p.dst)])), (1, (Value.pointer (some ⟨b, 0, none⟩)))] (by kernel_rfl) ?_
  intro a hF1
  have hS2 := Stp.refl noM σ w
  refine c_seq [0] [1] (by kernel_rfl) ?_
  refine c_reg 0 (by kernel_rfl) ?_
  refine r_at (r_new (d := 2) (op := (Op.box 56 (Operand.tmp 0))) hF1 (by kernel_rfl) (by kernel_rfl) σ [(Value.int .i64 (p.channel)), (uv p.seq), (uv p.timeout), (sv p.denom), (uv p.amount), (sv p.src), (sv p.dst)] 56 (exec_box [(Value.int .i64 (p.channel)), (uv p.seq), (uv p.timeout), (sv p.denom), (uv p.amount), (sv p.src), (sv p.dst)] (by kernel_rfl)) ?_)
  intro a3 s4 w5 b6 hb7 st8 hB9 hF10
  have hz11 := hS2.size
  have ne12 : b < b6 := by have := hb.lt; omega
  have hS13 := hS2.then st8
  refine r_runk 1 [2, 1] [(2, (Value.pointer (some ⟨b6, 0, none⟩))), (1, (Value.pointer (some ⟨b, 0, none⟩)))] hF10 (by kernel_rfl) (by kernel_rfl) ?_
  intro a14 hF15
  refine r_end (by kernel_rfl) ?_
  refine c_seq [1, 0] [1, 1] (by kernel_rfl) ?_
  refine c_reg 1 (by kernel_rfl) ?_
  have h16 : Bx s4 w5 b [(Value.slice A0 l.length c0)] 41 := hb.step' hS13
  refine r_at (r_val (d := 7) (op := (Op.load 41 (Operand.tmp 1))) hF15 (by kernel_rfl) (by kernel_rfl) (Value.slice A0 l.length c0) w5 (exec_load L41 (.inr rfl) (by kernel_rfl) (Bx.cells h16 0 1 [(Value.slice A0 l.length c0)] (by kernel_rfl))) ?_)
  intro a17 hF18
  refine r_at (r_val (d := 8) (op := (Op.load 56 (Operand.tmp 2))) hF18 (by kernel_rfl) (by kernel_rfl) (Value.agg #[(Value.int .i64 (p.channel)), (uv p.seq), (uv p.timeout), (sv p.denom), (uv p.amount), (sv p.src), (sv p.dst)]) w5 (exec_load L56 (.inl rfl) (by kernel_rfl) (Bx.cells hB9 0 7 [(Value.int .i64 (p.channel)), (uv p.seq), (uv p.timeout), (sv p.denom), (uv p.amount), (sv p.src), (sv p.dst)] (by kernel_rfl))) ?_)
  intro a19 hF20
  refine r_at (r_lit tU8 (d := 9) (t := 80) (m := 2) (parts := #[(0, (Operand.const (Value.int IntKind.u8 3))), (1, (Operand.const (Value.int IntKind.u8 4)))]) hF20 (by kernel_rfl) (by kernel_rfl) s4 [3, 4] [(bv 3), (bv 4)] ⟨_, _, rfl, rfl, ⟨_, _, rfl, rfl, rfl⟩⟩ rfl (by decide) (e := 47) (fun o e => by simp only [execOp, e]; kernel_rfl) (by decide) ?_)
  intro a21 s22 w23 g24 hg25 st26 hO27 hF28
  have hz29 := hS13.size
  have hS30 := hS13.then st26
  have hO31 : Own tU8 47 w.heap.size s22 w23 (Value.slice (some ⟨g24, 0, none⟩) 2 2) [3, 4] := (hO27.le (by omega : w.heap.size ≤ _))
  have ne33 : ¬ Value.ownBlock (Value.slice (some ⟨g24, 0, none⟩) 2 2) = some b := fun e => by have h1 := hO27.ge e; have h2 := h16.lt; omega
  have ne34 : ¬ Value.ownBlock (Value.slice (some ⟨g24, 0, none⟩) 2 2) = some b6 := fun e => by have h1 := hO27.ge e; have h2 := hB9.lt; omega
  have h35 : Rd tEvent s22 w23 (Value.slice A0 l.length c0) l := h0.step hS30
  have h36 : Bx s22 w23 b [(Value.slice A0 l.length c0)] 41 := (h16.step' st26)
  have h37 : Bx s22 w23 b6 [(Value.int .i64 (p.channel)), (uv p.seq), (uv p.timeout), (sv p.denom), (uv p.amount), (sv p.src), (sv p.dst)] 56 := (hB9.step' st26)
  refine r_at (r_call (d := (some 10)) (f := 38) (args := #[(Operand.tmp 7), (Operand.tmp 8), (Operand.tmp 9)]) (tys := #[41, 56, 80]) hF28 (by kernel_rfl) (by kernel_rfl) C38 [(Value.slice A0 l.length c0), (Value.agg #[(Value.int .i64 (p.channel)), (uv p.seq), (uv p.timeout), (sv p.denom), (uv p.amount), (sv p.src), (sv p.dst)]), (Value.slice (some ⟨g24, 0, none⟩) 2 2)] (by kernel_rfl) (same_calls s22 w23 h35 p hO31.rd) ?_)
  intro a38 s39 w40 v41 st42 hP43 hF44
  have hz45 := hS30.size
  have hS46 := hS30.then st42
  subst hP43
  refine r_runk 3 [12, 11, 2] [(12, (Value.bool ((sameL l p [3, 4]).isSome))), (11, (Value.agg #[(bv ((sameE l p [3, 4]).kind)), (Value.int .i64 (((sameE l p [3, 4]).packet).channel)), (uv (((sameE l p [3, 4]).packet).seq)), (uv (((sameE l p [3, 4]).packet).timeout)), (sv (((sameE l p [3, 4]).packet).denom)), (uv (((sameE l p [3, 4]).packet).amount)), (sv (((sameE l p [3, 4]).packet).src)), (sv (((sameE l p [3, 4]).packet).dst)), (Value.bool (((sameE l p [3, 4]).ack).ok)), (Value.int .i64 (((sameE l p [3, 4]).ack).code))])), (2, (Value.pointer (some ⟨b6, 0, none⟩)))] hF44 (by kernel_rfl) (by kernel_rfl) ?_
  intro a47 hF48
  have h49 : Bx s39 w40 b [(Value.slice A0 l.length c0)] 41 := (h36.step' st42)
  have h50 : Bx s39 w40 b6 [(Value.int .i64 (p.channel)), (uv p.seq), (uv p.timeout), (sv p.denom), (uv p.amount), (sv p.src), (sv p.dst)] 56 := (h37.step' st42)
  have h51 : Own tU8 47 w.heap.size s39 w40 (Value.slice (some ⟨g24, 0, none⟩) 2 2) [3, 4] := (hO31.step' st42)
  refine r_at (r_new (d := 4) (op := (Op.alloc 60)) hF48 (by kernel_rfl) (by kernel_rfl) s39 [(bv 0), (Value.int .i64 ((0 : Nat) : Int)), (uv 0), (uv 0), (sv []), (uv 0), (sv []), (sv []), (Value.bool false), (Value.int .i64 ((0 : Nat) : Int))] 60 (exec_alloc [(bv 0), (Value.int .i64 ((0 : Nat) : Int)), (uv 0), (uv 0), (sv []), (uv 0), (sv []), (sv []), (Value.bool false), (Value.int .i64 ((0 : Nat) : Int))] (fun _ => .inl (by kernel_rfl))) ?_)
  intro a52 s53 w54 b55 hb56 st57 hB58 hF59
  have hz60 := hS46.size
  have ne61 : b < b55 := by have := h49.lt; omega
  have ne62 : b6 < b55 := by have := h50.lt; omega
  have ne63 : ¬ Value.ownBlock (Value.slice (some ⟨g24, 0, none⟩) 2 2) = some b55 := fun e => by have := h51.lt e; omega
  have hS64 := hS46.then st57
  refine r_at (r_store (t := 60) (x := (Operand.tmp 4)) (y := (Operand.tmp 11)) hF59 (by kernel_rfl) (by kernel_rfl) hB58 0 [(bv ((sameE l p [3, 4]).kind)), (Value.int .i64 (((sameE l p [3, 4]).packet).channel)), (uv (((sameE l p [3, 4]).packet).seq)), (uv (((sameE l p [3, 4]).packet).timeout)), (sv (((sameE l p [3, 4]).packet).denom)), (uv (((sameE l p [3, 4]).packet).amount)), (sv (((sameE l p [3, 4]).packet).src)), (sv (((sameE l p [3, 4]).packet).dst)), (Value.bool (((sameE l p [3, 4]).ack).ok)), (Value.int .i64 (((sameE l p [3, 4]).ack).code))] [(bv ((sameE l p [3, 4]).kind)), (Value.int .i64 (((sameE l p [3, 4]).packet).channel)), (uv (((sameE l p [3, 4]).packet).seq)), (uv (((sameE l p [3, 4]).packet).timeout)), (sv (((sameE l p [3, 4]).packet).denom)), (uv (((sameE l p [3, 4]).packet).amount)), (sv (((sameE l p [3, 4]).packet).src)), (sv (((sameE l p [3, 4]).packet).dst)), (Value.bool (((sameE l p [3, 4]).ack).ok)), (Value.int .i64 (((sameE l p [3, 4]).ack).code))] (by kernel_rfl) (by kernel_rfl) 10 true L60 rfl (by kernel_rfl) (Nat.le_of_ble_eq_true (by kernel_rfl)) (by kernel_rfl) ?_)
  intro a65 w66 st67 hB68 hF69
  have hS70 := hS64.and st67 (fun b e => by subst e; omega)
  refine r_runk 1 [5, 2] [(5, (Value.bool ((sameL l p [3, 4]).isSome))), (2, (Value.pointer (some ⟨b6, 0, none⟩)))] hF69 (by kernel_rfl) (by kernel_rfl) ?_
  intro a71 hF72
  refine r_end (by kernel_rfl) ?_
  refine c_seq [1, 1, 0] [1, 1, 1] (by kernel_rfl) ?_
  refine c_reg 2 (by kernel_rfl) ?_
  refine r_runk 3 [15, 2] [(15, (Value.bool (!((sameL l p [3, 4]).isSome)))), (2, (Value.pointer (some ⟨b6, 0, none⟩)))] hF72 (by kernel_rfl) (by kernel_rfl) ?_
  intro a73 hF74
  rcases Bool.eq_false_or_eq_true (!((sameL l p [3, 4]).isSome)) with hg75 | hg75
  · skip
    have hF76 := hF74.set 15 (Value.bool (!((sameL l p [3, 4]).isSome))) (Value.bool true) (by kernel_rfl) (congrArg Value.bool hg75)
    refine r_runk 1 [16, 15] [(16, (Value.pointer (some ⟨b6, 2, none⟩))), (15, (Value.bool true))] hF76 (by kernel_rfl) (by kernel_rfl) ?_
    intro a77 hF78
    have h79 : Bx s53 w66 b6 [(Value.int .i64 (p.channel)), (uv p.seq), (uv p.timeout), (sv p.denom), (uv p.amount), (sv p.src), (sv p.dst)] 56 := ((h50.step' st57).step st67 (fun e => absurd e (by omega)))
    refine r_at (r_val (d := 17) (op := (Op.load 22 (Operand.tmp 16))) hF78 (by kernel_rfl) (by kernel_rfl) (uv p.timeout) w66 (exec_load L22 (.inr rfl) (by kernel_rfl) (Bx.cells h79 2 1 [(uv p.timeout)] (by kernel_rfl))) ?_)
    intro a80 hF81
    refine r_one (d := 18) (v0 := (Value.bool (((p.timeout).toNat : Int) != ((0 : UInt64).toNat : Int)))) (v := (Value.bool (!decide ((p.timeout : UInt64) = 0)))) hF81 (by kernel_rfl) (by kernel_rfl) (congrArg Value.bool (cmp_u64_neq _ _)) ?_
    intro a82 hF83
    refine r_runk 2 [3] [(3, (Value.bool (!decide ((p.timeout : UInt64) = 0))))] hF83 (by kernel_rfl) (by kernel_rfl) ?_
    intro a84 hF85
    refine r_end (by kernel_rfl) ?_
    refine c_ret (by kernel_rfl) ?_
    try dsimp only [Exit.then, Exit.inBlock]
    refine f_ret1 hF85 3 (by kernel_rfl) (Value.bool (!decide ((p.timeout : UInt64) = 0))) (by kernel_rfl) s53 hS70 ?_
    refine congrArg Value.bool ?_
    cases h9 : sameL l p [3, 4] <;> simp_all
  · skip
    have hF86 := hF74.set 15 (Value.bool (!((sameL l p [3, 4]).isSome))) (Value.bool false) (by kernel_rfl) (congrArg Value.bool hg75)
    refine r_runk 5 [3] [(3, (Value.bool false))] hF86 (by kernel_rfl) (by kernel_rfl) ?_
    intro a87 hF88
    refine r_end (by kernel_rfl) ?_
    refine c_ret (by kernel_rfl) ?_
    try dsimp only [Exit.then, Exit.inBlock]
    refine f_ret1 hF88 3 (by kernel_rfl) (Value.bool false) (by kernel_rfl) s53 hS70 ?_
    refine congrArg Value.bool ?_
    cases h9 : sameL l p [3, 4] <;> simp_all
theorem toReceive_calls (σ : Nat → Nat) (w : World) {v0 v1 : Value} {la lb : List Event} (h0 : Rd tEvent σ w v0 la) (h1 : Rd tEvent σ w v1 lb) (hla : la.length ≤ 1000) (c : Int) :
    Ctr Try.prog 30 [v0, v1, (iv c)] noM σ w (fun σ' w' v => Own tPacket 56 w.heap.size σ' w' v (toReceive la lb c)) := by
  obtain ⟨A0, c0, rfl, hlA0⟩ := h0.form
  have hbdA0 : la.length ≤ 140737488355328 := by have h := h0.bd; have e : tEvent.by_ = 104 := rfl; rw [e] at h; omega
  obtain ⟨A1, c1, rfl, hlA1⟩ := h1.form
  have hbdA1 : lb.length ≤ 140737488355328 := by have h := h1.bd; have e : tEvent.by_ = 104 := rfl; rw [e] at h; omega
  refine ctr_enter Try.func30 c30 (by kernel_rfl) 12 (by kernel_rfl) (Nat.le_of_ble_eq_true (by kernel_rfl)) [(0, (Value.slice A0 la.length c0)), (1, (Value.slice A1 lb.length c1)), (2, (Value.int .i64 (c)))] (by kernel_rfl) ?_
  intro a hF1
  have hS2 := Stp.refl noM σ w
  refine c_seq [0] [1] (by kernel_rfl) ?_
  refine c_reg 0 (by kernel_rfl) ?_
  refine r_at (r_new (d := 4) (op := (Op.box 41 (Operand.tmp 1))) hF1 (by kernel_rfl) (by kernel_rfl) σ [(Value.slice A1 lb.length c1)] 41 (exec_box [(Value.slice A1 lb.length c1)] (by kernel_rfl)) ?_)
  intro a3 s4 w5 b6 hb7 st8 hB9 hF10
  have hz11 := hS2.size
  have hS12 := hS2.then st8
  refine r_runk 1 [4, 0, 2] [(4, (Value.pointer (some ⟨b6, 0, none⟩))), (0, (Value.slice A0 la.length c0)), (2, (Value.int .i64 (c)))] hF10 (by kernel_rfl) (by kernel_rfl) ?_
  intro a13 hF14
  refine r_end (by kernel_rfl) ?_
  refine c_seq [1, 0] [1, 1] (by kernel_rfl) ?_
  refine c_reg 1 (by kernel_rfl) ?_
  refine r_runk 2 [8, 7, 4] [(8, (Value.int .i64 (c))), (7, (Value.slice A0 la.length c0)), (4, (Value.pointer (some ⟨b6, 0, none⟩)))] hF14 (by kernel_rfl) (by kernel_rfl) ?_
  intro a15 hF16
  have h17 : Rd tEvent s4 w5 (Value.slice A0 la.length c0) la := h0.step hS12
  refine r_at (r_call (d := (some 9)) (f := 37) (args := #[(Operand.tmp 7), (Operand.tmp 8)]) (tys := #[41, 3]) hF16 (by kernel_rfl) (by kernel_rfl) C37 [(Value.slice A0 la.length c0), (Value.int .i64 (c))] (by kernel_rfl) (relSent_calls s4 w5  h17 hla (c : Int)) ?_)
  intro a18 s19 w20 v21 st22 hP23 hF24
  have hz25 := hS12.size
  have hS26 := hS12.then st22
  obtain ⟨A27, m30, c28, rfl, hl29⟩ := hP23.formL
  have hO31 : Own tPacket 56 w.heap.size s19 w20 (Value.slice A27 m30 c28) (sentL la (c : Int)) := hP23.le (by omega)
  have ne33 : ¬ Value.ownBlock (Value.slice A27 m30 c28) = some b6 := fun e => by have h1 := hP23.ge e; have h2 := hB9.lt; omega
  refine r_runk 1 [10, 9] [(10, (Value.func (.func 40) #[] #[(Value.pointer (some ⟨b6, 0, none⟩))])), (9, (Value.slice A27 m30 c28))] hF24 (by kernel_rfl) (by kernel_rfl) ?_
  intro a34 hF35
  have h36 : Bx s19 w20 b6 [(Value.slice A1 lb.length c1)] 41 := (hB9.step' st22)
  have h37 : Rd tEvent s19 w20 (Value.slice A1 lb.length c1) lb := h1.step hS26
  have hl38 : (sentL la (c : Int)).length ≤ 1000 := (Nat.le_trans (sentL_len _ _) hla)
  refine r_at (r_call (d := (some 11)) (f := 39) (args := #[(Operand.tmp 9), (Operand.tmp 10)]) (tys := #[43, 75]) hF35 (by kernel_rfl) (by kernel_rfl) C39 [(Value.slice A27 m30 c28), (Value.func (.func 40) #[] #[(Value.pointer (some ⟨b6, 0, none⟩))])] (by kernel_rfl) (keepP_calls s19 w20  hO31.rd hl38 (Value.pointer (some ⟨b6, 0, none⟩)) 40 C40 (fun p => (sameL lb p [2]).isNone) (fun x σ1 w1 st => toReceive1_calls σ1 w1 (h37.step st) (h36.step' st) x)) ?_)
  intro a39 s40 w41 v42 st43 hP44 hF45
  have hz46 := hS26.size
  have hS47 := hS26.then st43
  obtain ⟨A48, m51, c49, rfl, hl50⟩ := hP44.formL
  have hO52 : Own tPacket 56 w.heap.size s40 w41 (Value.slice A48 m51 c49) ((sentL la (c : Int)).filter (fun p => (sameL lb p [2]).isNone)) := hP44.le (by omega)
  have ne54 : ¬ Value.ownBlock (Value.slice A48 m51 c49) = some b6 := fun e => by have h1 := hP44.ge e; have h2 := h36.lt; omega
  refine r_runk 1 [6] [(6, (Value.slice A48 m51 c49))] hF45 (by kernel_rfl) (by kernel_rfl) ?_
  intro a55 hF56
  refine r_end (by kernel_rfl) ?_
  refine c_ret (by kernel_rfl) ?_
  try dsimp only [Exit.then, Exit.inBlock]
  refine f_ret1 hF56 6 (by kernel_rfl) (Value.slice A48 m51 c49) (by kernel_rfl) s40 hS47 ?_
  exact hO52
theorem toTimeout_calls (σ : Nat → Nat) (w : World) {v0 : Value} {la : List Event} (h0 : Rd tEvent σ w v0 la) (hla : la.length ≤ 1000) (c : Int) :
    Ctr Try.prog 31 [v0, (iv c)] noM σ w (fun σ' w' v => Own tPacket 56 w.heap.size σ' w' v (toTimeout la c)) := by
  obtain ⟨A0, c0, rfl, hlA0⟩ := h0.form
  have hbdA0 : la.length ≤ 140737488355328 := by have h := h0.bd; have e : tEvent.by_ = 104 := rfl; rw [e] at h; omega
  refine ctr_enter Try.func31 c31 (by kernel_rfl) 10 (by kernel_rfl) (Nat.le_of_ble_eq_true (by kernel_rfl)) [(0, (Value.slice A0 la.length c0)), (1, (Value.int .i64 (c)))] (by kernel_rfl) ?_
  intro a hF1
  have hS2 := Stp.refl noM σ w
  refine c_seq [0] [1] (by kernel_rfl) ?_
  refine c_reg 0 (by kernel_rfl) ?_
  refine r_at (r_new (d := 2) (op := (Op.box 41 (Operand.tmp 0))) hF1 (by kernel_rfl) (by kernel_rfl) σ [(Value.slice A0 la.length c0)] 41 (exec_box [(Value.slice A0 la.length c0)] (by kernel_rfl)) ?_)
  intro a3 s4 w5 b6 hb7 st8 hB9 hF10
  have hz11 := hS2.size
  have hS12 := hS2.then st8
  refine r_runk 1 [2, 1] [(2, (Value.pointer (some ⟨b6, 0, none⟩))), (1, (Value.int .i64 (c)))] hF10 (by kernel_rfl) (by kernel_rfl) ?_
  intro a13 hF14
  refine r_end (by kernel_rfl) ?_
  refine c_seq [1, 0] [1, 1] (by kernel_rfl) ?_
  refine c_reg 1 (by kernel_rfl) ?_
  refine r_at (r_val (d := 5) (op := (Op.load 41 (Operand.tmp 2))) hF14 (by kernel_rfl) (by kernel_rfl) (Value.slice A0 la.length c0) w5 (exec_load L41 (.inr rfl) (by kernel_rfl) (Bx.cells hB9 0 1 [(Value.slice A0 la.length c0)] (by kernel_rfl))) ?_)
  intro a15 hF16
  refine r_runk 1 [6, 5, 2] [(6, (Value.int .i64 (c))), (5, (Value.slice A0 la.length c0)), (2, (Value.pointer (some ⟨b6, 0, none⟩)))] hF16 (by kernel_rfl) (by kernel_rfl) ?_
  intro a17 hF18
  have h19 : Rd tEvent s4 w5 (Value.slice A0 la.length c0) la := h0.step hS12
  refine r_at (r_call (d := (some 7)) (f := 37) (args := #[(Operand.tmp 5), (Operand.tmp 6)]) (tys := #[41, 3]) hF18 (by kernel_rfl) (by kernel_rfl) C37 [(Value.slice A0 la.length c0), (Value.int .i64 (c))] (by kernel_rfl) (relSent_calls s4 w5  h19 hla (c : Int)) ?_)
  intro a20 s21 w22 v23 st24 hP25 hF26
  have hz27 := hS12.size
  have hS28 := hS12.then st24
  obtain ⟨A29, m32, c30, rfl, hl31⟩ := hP25.formL
  have hO33 : Own tPacket 56 w.heap.size s21 w22 (Value.slice A29 m32 c30) (sentL la (c : Int)) := hP25.le (by omega)
  have ne35 : ¬ Value.ownBlock (Value.slice A29 m32 c30) = some b6 := fun e => by have h1 := hP25.ge e; have h2 := hB9.lt; omega
  refine r_runk 1 [8, 7] [(8, (Value.func (.func 41) #[] #[(Value.pointer (some ⟨b6, 0, none⟩))])), (7, (Value.slice A29 m32 c30))] hF26 (by kernel_rfl) (by kernel_rfl) ?_
  intro a36 hF37
  have h38 : Bx s21 w22 b6 [(Value.slice A0 la.length c0)] 41 := (hB9.step' st24)
  have h39 : Rd tEvent s21 w22 (Value.slice A0 la.length c0) la := (h19.step st24)
  have hl40 : (sentL la (c : Int)).length ≤ 1000 := (Nat.le_trans (sentL_len _ _) hla)
  refine r_at (r_call (d := (some 9)) (f := 39) (args := #[(Operand.tmp 7), (Operand.tmp 8)]) (tys := #[43, 75]) hF37 (by kernel_rfl) (by kernel_rfl) C39 [(Value.slice A29 m32 c30), (Value.func (.func 41) #[] #[(Value.pointer (some ⟨b6, 0, none⟩))])] (by kernel_rfl) (keepP_calls s21 w22  hO33.rd hl40 (Value.pointer (some ⟨b6, 0, none⟩)) 41 C41 (fun p => ((sameL la p [3, 4]).isNone && !decide (p.timeout = 0))) (fun x σ1 w1 st => toTimeout1_calls σ1 w1 (h39.step st) (h38.step' st) x)) ?_)
  intro a41 s42 w43 v44 st45 hP46 hF47
  have hz48 := hS28.size
  have hS49 := hS28.then st45
  obtain ⟨A50, m53, c51, rfl, hl52⟩ := hP46.formL
  have hO54 : Own tPacket 56 w.heap.size s42 w43 (Value.slice A50 m53 c51) ((sentL la (c : Int)).filter (fun p => ((sameL la p [3, 4]).isNone && !decide (p.timeout = 0)))) := hP46.le (by omega)
  have ne56 : ¬ Value.ownBlock (Value.slice A50 m53 c51) = some b6 := fun e => by have h1 := hP46.ge e; have h2 := h38.lt; omega
  refine r_runk 1 [4] [(4, (Value.slice A50 m53 c51))] hF47 (by kernel_rfl) (by kernel_rfl) ?_
  intro a57 hF58
  refine r_end (by kernel_rfl) ?_
  refine c_ret (by kernel_rfl) ?_
  try dsimp only [Exit.then, Exit.inBlock]
  refine f_ret1 hF58 4 (by kernel_rfl) (Value.slice A50 m53 c51) (by kernel_rfl) s42 hS49 ?_
  exact hO54
end Go.Proofs.Ytaoamokfbhlaaaa.E
