/- Walks, printed by a program of this session. -/
import Derived.Test.YtaoamokfbhlaaaaK
import Derived.Test.Ytaoamokfbhlaaaapure21d
import Derived.Test.YtaoamokfbhlaaaaKn
import Derived.Test.YtaoamokfbhlaaaaRk
import Derived.Test.YtaoamokfbhlaaaaRlq
set_option linter.unusedVariables false
set_option linter.unusedSimpArgs false
set_option maxRecDepth 100000
namespace Go.Proofs.Ytaoamokfbhlaaaa.E
open Go Go.RowKit
open Go.Proofs
theorem relayKeys_calls (σ : Nat → Nat) (w : World) {v0 : Value} {la : List Small} (h0 : Rd tSmall σ w v0 la) (n0 : UInt8) (o : Bool) :
    Ctr Try.prog 9 [v0, (bv n0), (Value.bool o)] noM σ w (fun σ' w' v => v = .bool true) := by
  obtain ⟨A0, c0, rfl, hlA0⟩ := h0.form
  have hbdA0 : la.length ≤ 140737488355328 := by have h := h0.bd; have e : tSmall.by_ = 5 := rfl; rw [e] at h; omega
  have hev := evs_len la
  refine ctr_enter Try.func9 c9 (by kernel_rfl) 101 (by kernel_rfl) (Nat.le_of_ble_eq_true (by kernel_rfl)) [(0, (Value.slice A0 la.length c0)), (1, (bv n0)), (2, (Value.bool o))] (by kernel_rfl) ?_
  intro a hF1
  have hS2 := Stp.refl noM σ w
  refine c_seq [0] [1] (by kernel_rfl) ?_
  refine c_reg 0 (by kernel_rfl) ?_
  refine r_runk 1 [0, 1, 2] [(0, (Value.slice A0 la.length c0)), (1, (bv n0)), (2, (Value.bool o))] hF1 (by kernel_rfl) (by kernel_rfl) ?_
  intro a3 hF4
  refine r_end (by kernel_rfl) ?_
  refine c_seq [1, 0] [1, 1] (by kernel_rfl) ?_
  refine c_seq [1, 0, 0] [1, 0, 1] (by kernel_rfl) ?_
  refine c_reg 1 (by kernel_rfl) ?_
  refine r_at (r_call (d := (some 14)) (f := 25) (args := #[]) (tys := #[]) hF4 (by kernel_rfl) (by kernel_rfl) C25 [] (by kernel_rfl) (awake_calls σ w ) ?_)
  intro a5 s6 w7 v8 st9 hP10 hF11
  have hz12 := hS2.size
  have hS13 := hS2.then st9
  subst hP10
  refine r_runk 1 [15, 0, 1, 2] [(15, (Value.bool false)), (0, (Value.slice A0 la.length c0)), (1, (bv n0)), (2, (Value.bool o))] hF11 (by kernel_rfl) (by kernel_rfl) ?_
  intro a14 hF15
  refine r_end (by kernel_rfl) ?_
  refine c_cond_false [1, 0, 1, 0] [1, 0, 1, 1] 15 (by kernel_rfl) hF15 (by kernel_rfl) ?_
  refine c_skip (by kernel_rfl) ?_
  refine c_seq [1, 1, 0] [1, 1, 1] (by kernel_rfl) ?_
  refine c_reg 3 (by kernel_rfl) ?_
  refine r_runk 1 [7, 0, 1, 2] [(7, (Value.slice none 0 0)), (0, (Value.slice A0 la.length c0)), (1, (bv n0)), (2, (Value.bool o))] hF15 (by kernel_rfl) (by kernel_rfl) ?_
  intro a16 hF17
  refine r_end (by kernel_rfl) ?_
  refine c_seq [1, 1, 1, 0] [1, 1, 1, 1] (by kernel_rfl) ?_
  refine c_reg 4 (by kernel_rfl) ?_
  refine r_runk 1 [8, 7, 0, 1, 2] [(8, (Value.slice none 0 0)), (7, (Value.slice none 0 0)), (0, (Value.slice A0 la.length c0)), (1, (bv n0)), (2, (Value.bool o))] hF17 (by kernel_rfl) (by kernel_rfl) ?_
  intro a18 hF19
  refine r_end (by kernel_rfl) ?_
  refine c_seq [1, 1, 1, 1, 0] [1, 1, 1, 1, 1] (by kernel_rfl) ?_
  refine c_seq [1, 1, 1, 1, 0, 0] [1, 1, 1, 1, 0, 1] (by kernel_rfl) ?_
  refine c_reg 5 (by kernel_rfl) ?_
  refine r_runk 1 [16, 8, 7, 1, 2] [(16, (Value.slice A0 la.length c0)), (8, (Value.slice none 0 0)), (7, (Value.slice none 0 0)), (1, (bv n0)), (2, (Value.bool o))] hF19 (by kernel_rfl) (by kernel_rfl) ?_
  intro a20 hF21
  have h22 : Rd tSmall s6 w7 (Value.slice A0 la.length c0) la := h0.step hS13
  refine r_at (r_call (d := (some 17)) (f := 26) (args := #[(Operand.tmp 16)]) (tys := #[40]) hF21 (by kernel_rfl) (by kernel_rfl) C26 [(Value.slice A0 la.length c0)] (by kernel_rfl) (events_calls s6 w7 h22) ?_)
  intro a23 s24 w25 v26 st27 hP28 hF29
  have hz30 := hS13.size
  have hS31 := hS13.then st27
  obtain ⟨A32, m35, c33, rfl, hl34⟩ := hP28.formL
  have hO36 : Own tEvent 60 w.heap.size s24 w25 (Value.slice A32 m35 c33) (evs la) := hP28.le (by omega)
  refine r_runk 2 [19, 18, 17, 8, 7, 1, 2] [(19, (Value.int .i64 ((0 : Nat) : Int))), (18, (Value.int .i64 ((m35 : Nat) : Int))), (17, (Value.slice A32 m35 c33)), (8, (Value.slice none 0 0)), (7, (Value.slice none 0 0)), (1, (bv n0)), (2, (Value.bool o))] hF29 (by kernel_rfl) (by kernel_rfl) ?_
  intro a38 hF39
  refine r_end (by kernel_rfl) ?_
  refine c_block [1, 1, 1, 1, 0, 1, 0] 0 (by kernel_rfl) ?_
  refine c_loop [1, 1, 1, 1, 0, 1, 0, 0] (by kernel_rfl) (fun (k : Nat) a40 w41 => ∃ (s42 : Nat → Nat) (A45 : Option Addr) (cp46 : Nat) (m47 : Nat) (A49 : Option Addr) (cp50 : Nat) (m51 : Nat), Fr a40 101 [(1, (bv n0)), (2, (Value.bool o)), (7, (Value.slice A45 m47 cp46)), (8, (Value.slice A49 m51 cp50)), (17, (Value.slice A32 m35 c33)), (18, (Value.int .i64 ((m35 : Nat) : Int))), (19, (Value.int .i64 ((k : Nat) : Int)))] ∧ Stp noM σ w s42 w41 ∧ Rd tEvent s42 w41 (Value.slice A32 m35 c33) (evs la) ∧ Own tPacket 56 w.heap.size s42 w41 (Value.slice A45 m47 cp46) (psL (evs la) (k)) ∧ Own (tSl tU8) 27 w.heap.size s42 w41 (Value.slice A49 m51 cp50) (keysL (n0 % 6) o (psL (evs la) (k))) ∧ k ≤ (evs la).length ∧ ∀ g, Value.ownBlock (Value.slice A45 m47 cp46) = some g → ¬ Value.ownBlock (Value.slice A49 m51 cp50) = some g) (fun k => (evs la).length - k) 0 ?_ ?_
  · skip
    have hF54 := hF39.keep [1, 2, 7, 8, 17, 18, 19] [(1, (bv n0)), (2, (Value.bool o)), (7, (Value.slice none 0 0)), (8, (Value.slice none 0 0)), (17, (Value.slice A32 m35 c33)), (18, (Value.int .i64 ((m35 : Nat) : Int))), (19, (Value.int .i64 ((0 : Nat) : Int)))] (by kernel_rfl)
    exact ⟨s24, none, 0, 0, none, 0, 0, hF54, hS31, hO36.rd, (Own.nil _ _ _ _ _), (Own.nil _ _ _ _ _), (by omega), (fun g hg => by simp [Value.ownBlock] at hg)⟩
  · rintro k a40 w41 ⟨s42, A45, cp46, m47, A49, cp50, m51, hF43, hS44, h55, hO56, hO57, hk, ne53⟩
    have hln58 := hO56.ln
    have hln59 := hO57.ln
    refine c_seq [1, 1, 1, 1, 0, 1, 0, 0, 0] [1, 1, 1, 1, 0, 1, 0, 0, 1] (by kernel_rfl) ?_
    refine c_reg 6 (by kernel_rfl) ?_
    refine r_one (d := 20) (v0 := (Value.bool (decide (((k : Nat) : Int) < ((m35 : Nat) : Int))))) (v := (Value.bool (decide ((k : Nat) < m35)))) hF43 (by kernel_rfl) (by kernel_rfl) (congrArg Value.bool (cmp_nat_lss _ _)) ?_
    intro a60 hF61
    refine r_end (by kernel_rfl) ?_
    refine c_seq [1, 1, 1, 1, 0, 1, 0, 0, 1, 0] [1, 1, 1, 1, 0, 1, 0, 0, 1, 1] (by kernel_rfl) ?_
    refine c_cond [1, 1, 1, 1, 0, 1, 0, 0, 1, 0, 0] [1, 1, 1, 1, 0, 1, 0, 0, 1, 0, 1] 20 (by kernel_rfl) hF61 (decide ((k : Nat) < m35)) (by kernel_rfl) (fun hc62 => ?_) (fun hc62 => ?_)
    · skip
      have hc62 := of_decide_eq_true hc62
      refine c_skip (by kernel_rfl) ?_
      refine c_seq [1, 1, 1, 1, 0, 1, 0, 0, 1, 1, 0] [1, 1, 1, 1, 0, 1, 0, 0, 1, 1, 1] (by kernel_rfl) ?_
      refine c_block [1, 1, 1, 1, 0, 1, 0, 0, 1, 1, 0, 0] 1 (by kernel_rfl) ?_
      refine c_seq [1, 1, 1, 1, 0, 1, 0, 0, 1, 1, 0, 0, 0] [1, 1, 1, 1, 0, 1, 0, 0, 1, 1, 0, 0, 1] (by kernel_rfl) ?_
      refine c_reg 7 (by kernel_rfl) ?_
      have hi69 : k < (evs la).length := (by have hq := h55.ln; first | omega | (simp only [List.length_append, List.length_cons, List.length_nil, List.length_map] at *; omega))
      obtain ⟨b63, o64, c65, he66, hs67, hr68⟩ := (h55).at k hi69
      obtain ⟨o70, ho70⟩ : ∃ o, o = o64 + k * 10 := ⟨_, rfl⟩
      obtain ⟨x71, hx72⟩ : ∃ x, x = ((evs la)[k]'hi69) := ⟨_, rfl⟩
      rw [← hx72] at hr68
      have hr68 : c65 = [(bv x71.kind), (Value.int .i64 (x71.packet.channel)), (uv x71.packet.seq), (uv x71.packet.timeout), (sv x71.packet.denom), (uv x71.packet.amount), (sv x71.packet.src), (sv x71.packet.dst), (Value.bool x71.ack.ok), (Value.int .i64 (x71.ack.code))] := hr68
      subst hr68
      have hs67 : Seg s42 w41 b63 o70 [(bv x71.kind), (Value.int .i64 (x71.packet.channel)), (uv x71.packet.seq), (uv x71.packet.timeout), (sv x71.packet.denom), (uv x71.packet.amount), (sv x71.packet.src), (sv x71.packet.dst), (Value.bool x71.ack.ok), (Value.int .i64 (x71.ack.code))] := by rw [ho70]; exact hs67
      refine r_at (r_val (d := 21) (op := (Op.indexAddr 41 (Operand.tmp 17) (Operand.tmp 19))) hF61 (by kernel_rfl) (by kernel_rfl) (Value.pointer (some ⟨b63, o70, none⟩)) w41 (by rw [ho70]; exact exec_index (len := m35) (cap := c33) he66 (by kernel_rfl) (kd := .i64) k (by kernel_rfl) (by have := h55.ln; omega) 10 U41 L60.s) ?_)
      intro a73 hF74
      refine r_at (r_val (d := 22) (op := (Op.load 60 (Operand.tmp 21))) hF74 (by kernel_rfl) (by kernel_rfl) (Value.agg #[(bv x71.kind), (Value.int .i64 (x71.packet.channel)), (uv x71.packet.seq), (uv x71.packet.timeout), (sv x71.packet.denom), (uv x71.packet.amount), (sv x71.packet.src), (sv x71.packet.dst), (Value.bool x71.ack.ok), (Value.int .i64 (x71.ack.code))]) w41 (exec_load L60 (.inl rfl) (by kernel_rfl) hs67.cell) ?_)
      intro a75 hF76
      refine r_at (r_new (d := 10) (op := (Op.alloc 60)) hF76 (by kernel_rfl) (by kernel_rfl) s42 [(bv 0), (Value.int .i64 ((0 : Nat) : Int)), (uv 0), (uv 0), (sv []), (uv 0), (sv []), (sv []), (Value.bool false), (Value.int .i64 ((0 : Nat) : Int))] 60 (exec_alloc [(bv 0), (Value.int .i64 ((0 : Nat) : Int)), (uv 0), (uv 0), (sv []), (uv 0), (sv []), (sv []), (Value.bool false), (Value.int .i64 ((0 : Nat) : Int))] (fun _ => .inl (by kernel_rfl))) ?_)
      intro a77 s78 w79 b80 hb81 st82 hB83 hF84
      have hz85 := hS44.size
      have ne86 : ¬ Value.ownBlock (Value.slice A45 m47 cp46) = some b80 := fun e => by have := hO56.lt e; omega
      have ne87 : ¬ Value.ownBlock (Value.slice A49 m51 cp50) = some b80 := fun e => by have := hO57.lt e; omega
      have hS88 := hS44.then st82
      refine r_at (r_store (t := 60) (x := (Operand.tmp 10)) (y := (Operand.tmp 22)) hF84 (by kernel_rfl) (by kernel_rfl) hB83 0 [(bv x71.kind), (Value.int .i64 (x71.packet.channel)), (uv x71.packet.seq), (uv x71.packet.timeout), (sv x71.packet.denom), (uv x71.packet.amount), (sv x71.packet.src), (sv x71.packet.dst), (Value.bool x71.ack.ok), (Value.int .i64 (x71.ack.code))] [(bv x71.kind), (Value.int .i64 (x71.packet.channel)), (uv x71.packet.seq), (uv x71.packet.timeout), (sv x71.packet.denom), (uv x71.packet.amount), (sv x71.packet.src), (sv x71.packet.dst), (Value.bool x71.ack.ok), (Value.int .i64 (x71.ack.code))] (by kernel_rfl) (by kernel_rfl) 10 true L60 rfl (by kernel_rfl) (Nat.le_of_ble_eq_true (by kernel_rfl)) (by kernel_rfl) ?_)
      intro a89 w90 st91 hB92 hF93
      have hS94 := hS88.and st91 (fun b e => by subst e; omega)
      have hF95 := hF93.keep [10, 1, 2, 7, 8, 17, 18, 19] [(10, (Value.pointer (some ⟨b80, 0, none⟩))), (1, (bv n0)), (2, (Value.bool o)), (7, (Value.slice A45 m47 cp46)), (8, (Value.slice A49 m51 cp50)), (17, (Value.slice A32 m35 c33)), (18, (Value.int .i64 ((m35 : Nat) : Int))), (19, (Value.int .i64 ((k : Nat) : Int)))] (by kernel_rfl)
      refine r_end (by kernel_rfl) ?_
      refine c_seq [1, 1, 1, 1, 0, 1, 0, 0, 1, 1, 0, 0, 1, 0] [1, 1, 1, 1, 0, 1, 0, 0, 1, 1, 0, 0, 1, 1] (by kernel_rfl) ?_
      refine c_reg 8 (by kernel_rfl) ?_
      refine r_runk 1 [23, 1, 2, 7, 8, 17, 18, 19] [(23, (Value.pointer (some ⟨b80, 1, none⟩))), (1, (bv n0)), (2, (Value.bool o)), (7, (Value.slice A45 m47 cp46)), (8, (Value.slice A49 m51 cp50)), (17, (Value.slice A32 m35 c33)), (18, (Value.int .i64 ((m35 : Nat) : Int))), (19, (Value.int .i64 ((k : Nat) : Int)))] hF95 (by kernel_rfl) (by kernel_rfl) ?_
      intro a96 hF97
      refine r_at (r_val (d := 24) (op := (Op.load 56 (Operand.tmp 23))) hF97 (by kernel_rfl) (by kernel_rfl) (Value.agg #[(Value.int .i64 (x71.packet.channel)), (uv x71.packet.seq), (uv x71.packet.timeout), (sv x71.packet.denom), (uv x71.packet.amount), (sv x71.packet.src), (sv x71.packet.dst)]) w90 (exec_load L56 (.inl rfl) (by kernel_rfl) (Bx.cells hB92 1 7 [(Value.int .i64 (x71.packet.channel)), (uv x71.packet.seq), (uv x71.packet.timeout), (sv x71.packet.denom), (uv x71.packet.amount), (sv x71.packet.src), (sv x71.packet.dst)] (by kernel_rfl))) ?_)
      intro a98 hF99
      have h100 : Own tPacket 56 w.heap.size s78 w90 (Value.slice A45 m47 cp46) (psL (evs la) (k)) := ((hO56.step' st82).step st91 (fun g hg e => ne86 (by subst e; exact hg)))
      have h101 : Own (tSl tU8) 27 w.heap.size s78 w90 (Value.slice A49 m51 cp50) (keysL (n0 % 6) o (psL (evs la) (k))) := ((hO57.step' st82).step st91 (fun g hg e => ne87 (by subst e; exact hg)))
      refine r_at (r_new (d := 11) (op := (Op.alloc 56)) hF99 (by kernel_rfl) (by kernel_rfl) s78 [(Value.int .i64 ((0 : Nat) : Int)), (uv 0), (uv 0), (sv []), (uv 0), (sv []), (sv [])] 56 (exec_alloc [(Value.int .i64 ((0 : Nat) : Int)), (uv 0), (uv 0), (sv []), (uv 0), (sv []), (sv [])] (fun _ => .inl (by kernel_rfl))) ?_)
      intro a102 s103 w104 b105 hb106 st107 hB108 hF109
      have hz110 := hS94.size
      have ne111 : ¬ Value.ownBlock (Value.slice A45 m47 cp46) = some b105 := fun e => by have := h100.lt e; omega
      have ne112 : ¬ Value.ownBlock (Value.slice A49 m51 cp50) = some b105 := fun e => by have := h101.lt e; omega
      have ne113 : b80 < b105 := by have := hB92.lt; omega
      have hS114 := hS94.then st107
      refine r_at (r_store (t := 56) (x := (Operand.tmp 11)) (y := (Operand.tmp 24)) hF109 (by kernel_rfl) (by kernel_rfl) hB108 0 [(Value.int .i64 (x71.packet.channel)), (uv x71.packet.seq), (uv x71.packet.timeout), (sv x71.packet.denom), (uv x71.packet.amount), (sv x71.packet.src), (sv x71.packet.dst)] [(Value.int .i64 (x71.packet.channel)), (uv x71.packet.seq), (uv x71.packet.timeout), (sv x71.packet.denom), (uv x71.packet.amount), (sv x71.packet.src), (sv x71.packet.dst)] (by kernel_rfl) (by kernel_rfl) 7 true L56 rfl (by kernel_rfl) (Nat.le_of_ble_eq_true (by kernel_rfl)) (by kernel_rfl) ?_)
      intro a115 w116 st117 hB118 hF119
      have hS120 := hS114.and st117 (fun b e => by subst e; omega)
      have hF121 := hF119.keep [11, 1, 2, 7, 8, 17, 18, 19] [(11, (Value.pointer (some ⟨b105, 0, none⟩))), (1, (bv n0)), (2, (Value.bool o)), (7, (Value.slice A45 m47 cp46)), (8, (Value.slice A49 m51 cp50)), (17, (Value.slice A32 m35 c33)), (18, (Value.int .i64 ((m35 : Nat) : Int))), (19, (Value.int .i64 ((k : Nat) : Int)))] (by kernel_rfl)
      refine r_end (by kernel_rfl) ?_
      refine c_seq [1, 1, 1, 1, 0, 1, 0, 0, 1, 1, 0, 0, 1, 1, 0] [1, 1, 1, 1, 0, 1, 0, 0, 1, 1, 0, 0, 1, 1, 1] (by kernel_rfl) ?_
      refine c_reg 9 (by kernel_rfl) ?_
      refine r_runk 1 [25, 11, 1, 2, 8, 17, 18, 19] [(25, (Value.slice A45 m47 cp46)), (11, (Value.pointer (some ⟨b105, 0, none⟩))), (1, (bv n0)), (2, (Value.bool o)), (8, (Value.slice A49 m51 cp50)), (17, (Value.slice A32 m35 c33)), (18, (Value.int .i64 ((m35 : Nat) : Int))), (19, (Value.int .i64 ((k : Nat) : Int)))] hF121 (by kernel_rfl) (by kernel_rfl) ?_
      intro a122 hF123
      refine r_at (r_val (d := 26) (op := (Op.load 56 (Operand.tmp 11))) hF123 (by kernel_rfl) (by kernel_rfl) (Value.agg #[(Value.int .i64 (x71.packet.channel)), (uv x71.packet.seq), (uv x71.packet.timeout), (sv x71.packet.denom), (uv x71.packet.amount), (sv x71.packet.src), (sv x71.packet.dst)]) w116 (exec_load L56 (.inl rfl) (by kernel_rfl) (Bx.cells hB118 0 7 [(Value.int .i64 (x71.packet.channel)), (uv x71.packet.seq), (uv x71.packet.timeout), (sv x71.packet.denom), (uv x71.packet.amount), (sv x71.packet.src), (sv x71.packet.dst)] (by kernel_rfl))) ?_)
      intro a124 hF125
      have h126 : Own tPacket 56 w.heap.size s103 w116 (Value.slice A45 m47 cp46) (psL (evs la) (k)) := ((h100.step' st107).step st117 (fun g hg e => ne111 (by subst e; exact hg)))
      have h127 : Own (tSl tU8) 27 w.heap.size s103 w116 (Value.slice A49 m51 cp50) (keysL (n0 % 6) o (psL (evs la) (k))) := ((h101.step' st107).step st117 (fun g hg e => ne112 (by subst e; exact hg)))
      have h128 : Bx s103 w116 b80 [(bv x71.kind), (Value.int .i64 (x71.packet.channel)), (uv x71.packet.seq), (uv x71.packet.timeout), (sv x71.packet.denom), (uv x71.packet.amount), (sv x71.packet.src), (sv x71.packet.dst), (Value.bool x71.ack.ok), (Value.int .i64 (x71.ack.code))] 60 := ((hB92.step' st107).step st117 (fun e => absurd e (by omega)))
      refine r_at (r_lit tPacket (d := 27) (t := 43) (m := 1) (parts := #[(0, (Operand.tmp 26))]) hF125 (by kernel_rfl) (by kernel_rfl) s103 [x71.packet] [(Value.int .i64 (x71.packet.channel)), (uv x71.packet.seq), (uv x71.packet.timeout), (sv x71.packet.denom), (uv x71.packet.amount), (sv x71.packet.src), (sv x71.packet.dst)] ⟨_, _, rfl, rfl, rfl⟩ rfl (by decide) (e := 56) (fun o e => by simp only [execOp, e]; kernel_rfl) (by decide) ?_)
      intro a129 s130 w131 g132 hg133 st134 hO135 hF136
      have hz137 := hS120.size
      have hS138 := hS120.then st134
      have hO139 : Own tPacket 56 w.heap.size s130 w131 (Value.slice (some ⟨g132, 0, none⟩) 1 1) [x71.packet] := (hO135.le (by omega : w.heap.size ≤ _))
      have ne141 : ∀ g, Value.ownBlock (Value.slice A45 m47 cp46) = some g → ¬ Value.ownBlock (Value.slice (some ⟨g132, 0, none⟩) 1 1) = some g := fun g hg e => by have h1 := hO135.ge e; have h2 := h126.lt hg; omega
      have ne142 : ∀ g, Value.ownBlock (Value.slice A49 m51 cp50) = some g → ¬ Value.ownBlock (Value.slice (some ⟨g132, 0, none⟩) 1 1) = some g := fun g hg e => by have h1 := hO135.ge e; have h2 := h127.lt hg; omega
      have ne143 : ¬ Value.ownBlock (Value.slice (some ⟨g132, 0, none⟩) 1 1) = some b80 := fun e => by have h1 := hO135.ge e; have h2 := h128.lt; omega
      have ne144 : ¬ Value.ownBlock (Value.slice (some ⟨g132, 0, none⟩) 1 1) = some b105 := fun e => by have h1 := hO135.ge e; have h2 := hB118.lt; omega
      have h145 : Own tPacket 56 w.heap.size s130 w131 (Value.slice A45 m47 cp46) (psL (evs la) (k)) := (h126.step' st134)
      have h146 : Bx s130 w131 b80 [(bv x71.kind), (Value.int .i64 (x71.packet.channel)), (uv x71.packet.seq), (uv x71.packet.timeout), (sv x71.packet.denom), (uv x71.packet.amount), (sv x71.packet.src), (sv x71.packet.dst), (Value.bool x71.ack.ok), (Value.int .i64 (x71.ack.code))] 60 := (h128.step' st134)
      have h147 : Bx s130 w131 b105 [(Value.int .i64 (x71.packet.channel)), (uv x71.packet.seq), (uv x71.packet.timeout), (sv x71.packet.denom), (uv x71.packet.amount), (sv x71.packet.src), (sv x71.packet.dst)] 56 := (hB118.step' st134)
      have h148 : Own (tSl tU8) 27 w.heap.size s130 w131 (Value.slice A49 m51 cp50) (keysL (n0 % 6) o (psL (evs la) (k))) := (h127.step' st134)
      have hz158 := hS138.size
      have hb157 : (psL (evs la) (k)).length + ([x71.packet] : List _).length ≤ 1000000 := (by have h9 := keysL_psl (n0 % 6) o (evs la) k; have h8 := psL_len (evs la) k; simp only [List.length_cons, List.length_nil] at *; omega)
      refine r_at (r_append tPacket S43 (d := 28) (x := (Operand.tmp 25)) (y := (Operand.tmp 27)) hF136 (by kernel_rfl) (by kernel_rfl) (by kernel_rfl) (by kernel_rfl) h145 hO139.rd (app_small hb157 (by decide)) (by omega) hz158 ?_)
      intro a149 s150 w151 v152 st153 hO154 hn155 hF156
      obtain ⟨A161, m164, c162, rfl, hl163⟩ := hO154.formL
      have hS165 := hS138.and st153 (fun b e => h145.ge e)
      have ne167 : ¬ Value.ownBlock (Value.slice A161 m164 c162) = some b80 := fun e => ne86 (hn155 _ h146.lt e)
      have ne168 : ¬ Value.ownBlock (Value.slice A161 m164 c162) = some b105 := fun e => ne111 (hn155 _ h147.lt e)
      have ne169 : ∀ g, Value.ownBlock (Value.slice A49 m51 cp50) = some g → ¬ Value.ownBlock (Value.slice A161 m164 c162) = some g := fun g hg e => ne53 g (hn155 _ (h148.lt hg) e) hg
      refine r_runk 1 [7, 11, 1, 2, 8, 17, 18, 19] [(7, (Value.slice A161 m164 c162)), (11, (Value.pointer (some ⟨b105, 0, none⟩))), (1, (bv n0)), (2, (Value.bool o)), (8, (Value.slice A49 m51 cp50)), (17, (Value.slice A32 m35 c33)), (18, (Value.int .i64 ((m35 : Nat) : Int))), (19, (Value.int .i64 ((k : Nat) : Int)))] hF156 (by kernel_rfl) (by kernel_rfl) ?_
      intro a170 hF171
      refine r_end (by kernel_rfl) ?_
      refine c_seq [1, 1, 1, 1, 0, 1, 0, 0, 1, 1, 0, 0, 1, 1, 1, 0] [1, 1, 1, 1, 0, 1, 0, 0, 1, 1, 0, 0, 1, 1, 1, 1] (by kernel_rfl) ?_
      refine c_reg 10 (by kernel_rfl) ?_
      refine r_runk 1 [29, 7, 11, 1, 2, 8, 17, 18, 19] [(29, (bv n0)), (7, (Value.slice A161 m164 c162)), (11, (Value.pointer (some ⟨b105, 0, none⟩))), (1, (bv n0)), (2, (Value.bool o)), (8, (Value.slice A49 m51 cp50)), (17, (Value.slice A32 m35 c33)), (18, (Value.int .i64 ((m35 : Nat) : Int))), (19, (Value.int .i64 ((k : Nat) : Int)))] hF171 (by kernel_rfl) (by kernel_rfl) ?_
      intro a172 hF173
      refine r_one (d := 30) (v0 := (Value.int .u8 (Int.tmod ((n0).toNat : Int) ((6 : UInt8).toNat : Int)))) (v := (bv (n0 % 6))) hF173 (by kernel_rfl) (by kernel_rfl) (congrArg (Value.int .u8) (u8_rem n0 6 (by decide))) ?_
      intro a174 hF175
      have hF176 := hF175.keep [30, 7, 11, 1, 2, 8, 17, 18, 19] [(30, (bv (n0 % 6))), (7, (Value.slice A161 m164 c162)), (11, (Value.pointer (some ⟨b105, 0, none⟩))), (1, (bv n0)), (2, (Value.bool o)), (8, (Value.slice A49 m51 cp50)), (17, (Value.slice A32 m35 c33)), (18, (Value.int .i64 ((m35 : Nat) : Int))), (19, (Value.int .i64 ((k : Nat) : Int)))] (by kernel_rfl)
      refine r_end (by kernel_rfl) ?_
      refine c_block [1, 1, 1, 1, 0, 1, 0, 0, 1, 1, 0, 0, 1, 1, 1, 1, 0] 2 (by kernel_rfl) ?_
      refine c_seq [1, 1, 1, 1, 0, 1, 0, 0, 1, 1, 0, 0, 1, 1, 1, 1, 0, 0] [1, 1, 1, 1, 0, 1, 0, 0, 1, 1, 0, 0, 1, 1, 1, 1, 0, 1] (by kernel_rfl) ?_
      refine c_reg 11 (by kernel_rfl) ?_
      refine r_one (d := 32) (v0 := (Value.bool (((n0 % 6).toNat : Int) == ((2 : UInt8).toNat : Int)))) (v := (Value.bool (decide ((n0 % 6 : UInt8) = 2)))) hF176 (by kernel_rfl) (by kernel_rfl) (congrArg Value.bool (cmp_u8_eql _ _)) ?_
      intro a177 hF178
      refine r_runk 1 [31, 30, 7, 11, 1, 2, 8, 17, 18, 19] [(31, (Value.bool (decide ((n0 % 6 : UInt8) = 2)))), (30, (bv (n0 % 6))), (7, (Value.slice A161 m164 c162)), (11, (Value.pointer (some ⟨b105, 0, none⟩))), (1, (bv n0)), (2, (Value.bool o)), (8, (Value.slice A49 m51 cp50)), (17, (Value.slice A32 m35 c33)), (18, (Value.int .i64 ((m35 : Nat) : Int))), (19, (Value.int .i64 ((k : Nat) : Int)))] hF178 (by kernel_rfl) (by kernel_rfl) ?_
      intro a179 hF180
      refine r_end (by kernel_rfl) ?_
      refine c_cond [1, 1, 1, 1, 0, 1, 0, 0, 1, 1, 0, 0, 1, 1, 1, 1, 0, 1, 0] [1, 1, 1, 1, 0, 1, 0, 0, 1, 1, 0, 0, 1, 1, 1, 1, 0, 1, 1] 31 (by kernel_rfl) hF180 (decide ((n0 % 6 : UInt8) = 2)) (by kernel_rfl) (fun hc181 => ?_) (fun hc181 => ?_)
      · skip
        have hc181 := of_decide_eq_true hc181
        refine c_reg 12 (by kernel_rfl) ?_
        refine r_runk 2 [34, 33, 7, 11, 1, 2, 17, 18, 19] [(34, (Value.pointer (some ⟨b105, 0, none⟩))), (33, (Value.slice A49 m51 cp50)), (7, (Value.slice A161 m164 c162)), (11, (Value.pointer (some ⟨b105, 0, none⟩))), (1, (bv n0)), (2, (Value.bool o)), (17, (Value.slice A32 m35 c33)), (18, (Value.int .i64 ((m35 : Nat) : Int))), (19, (Value.int .i64 ((k : Nat) : Int)))] hF180 (by kernel_rfl) (by kernel_rfl) ?_
        intro a182 hF183
        have h184 : Bx s150 w151 b105 [(Value.int .i64 (x71.packet.channel)), (uv x71.packet.seq), (uv x71.packet.timeout), (sv x71.packet.denom), (uv x71.packet.amount), (sv x71.packet.src), (sv x71.packet.dst)] 56 := (h147.step st153 (fun e => ne111 e))
        refine r_at (r_val (d := 35) (op := (Op.load 3 (Operand.tmp 34))) hF183 (by kernel_rfl) (by kernel_rfl) (Value.int .i64 (x71.packet.channel)) w151 (exec_load L3 (.inr rfl) (by kernel_rfl) (Bx.cells h184 0 1 [(Value.int .i64 (x71.packet.channel))] (by kernel_rfl))) ?_)
        intro a185 hF186
        refine r_runk 1 [36, 35, 33, 7, 1, 2, 17, 18, 19] [(36, (Value.pointer (some ⟨b105, 1, none⟩))), (35, (Value.int .i64 (x71.packet.channel))), (33, (Value.slice A49 m51 cp50)), (7, (Value.slice A161 m164 c162)), (1, (bv n0)), (2, (Value.bool o)), (17, (Value.slice A32 m35 c33)), (18, (Value.int .i64 ((m35 : Nat) : Int))), (19, (Value.int .i64 ((k : Nat) : Int)))] hF186 (by kernel_rfl) (by kernel_rfl) ?_
        intro a187 hF188
        refine r_at (r_val (d := 37) (op := (Op.load 22 (Operand.tmp 36))) hF188 (by kernel_rfl) (by kernel_rfl) (uv x71.packet.seq) w151 (exec_load L22 (.inr rfl) (by kernel_rfl) (Bx.cells h184 1 1 [(uv x71.packet.seq)] (by kernel_rfl))) ?_)
        intro a189 hF190
        have h191 : Own (tSl tU8) 27 w.heap.size s150 w151 (Value.slice A49 m51 cp50) (keysL (n0 % 6) o (psL (evs la) (k))) := (h148.step st153 (fun g hg e => ne53 g e hg))
        have h192 : Bx s150 w151 b80 [(bv x71.kind), (Value.int .i64 (x71.packet.channel)), (uv x71.packet.seq), (uv x71.packet.timeout), (sv x71.packet.denom), (uv x71.packet.amount), (sv x71.packet.src), (sv x71.packet.dst), (Value.bool x71.ack.ok), (Value.int .i64 (x71.ack.code))] 60 := (h146.step st153 (fun e => ne86 e))
        refine r_at (r_lit tU64 (d := 38) (t := 26) (m := 1) (parts := #[(0, (Operand.tmp 37))]) hF190 (by kernel_rfl) (by kernel_rfl) s150 [x71.packet.seq] [(uv x71.packet.seq)] ⟨_, _, rfl, rfl, rfl⟩ rfl (by decide) (e := 22) (fun o e => by simp only [execOp, e]; kernel_rfl) (by decide) ?_)
        intro a193 s194 w195 g196 hg197 st198 hO199 hF200
        have hz201 := hS165.size
        have hS202 := hS165.then st198
        have hO203 : Own tU64 22 w.heap.size s194 w195 (Value.slice (some ⟨g196, 0, none⟩) 1 1) [x71.packet.seq] := (hO199.le (by omega : w.heap.size ≤ _))
        have ne205 : ∀ g, Value.ownBlock (Value.slice A49 m51 cp50) = some g → ¬ Value.ownBlock (Value.slice (some ⟨g196, 0, none⟩) 1 1) = some g := fun g hg e => by have h1 := hO199.ge e; have h2 := h191.lt hg; omega
        have ne206 : ¬ Value.ownBlock (Value.slice (some ⟨g196, 0, none⟩) 1 1) = some b80 := fun e => by have h1 := hO199.ge e; have h2 := h192.lt; omega
        have ne207 : ¬ Value.ownBlock (Value.slice (some ⟨g196, 0, none⟩) 1 1) = some b105 := fun e => by have h1 := hO199.ge e; have h2 := h184.lt; omega
        have ne208 : ∀ g, Value.ownBlock (Value.slice A161 m164 c162) = some g → ¬ Value.ownBlock (Value.slice (some ⟨g196, 0, none⟩) 1 1) = some g := fun g hg e => by have h1 := hO199.ge e; have h2 := hO154.lt hg; omega
        have h209 : Own (tSl tU8) 27 w.heap.size s194 w195 (Value.slice A49 m51 cp50) (keysL (n0 % 6) o (psL (evs la) (k))) := (h191.step' st198)
        have h210 : Bx s194 w195 b80 [(bv x71.kind), (Value.int .i64 (x71.packet.channel)), (uv x71.packet.seq), (uv x71.packet.timeout), (sv x71.packet.denom), (uv x71.packet.amount), (sv x71.packet.src), (sv x71.packet.dst), (Value.bool x71.ack.ok), (Value.int .i64 (x71.ack.code))] 60 := (h192.step' st198)
        have h211 : Bx s194 w195 b105 [(Value.int .i64 (x71.packet.channel)), (uv x71.packet.seq), (uv x71.packet.timeout), (sv x71.packet.denom), (uv x71.packet.amount), (sv x71.packet.src), (sv x71.packet.dst)] 56 := (h184.step' st198)
        have h212 : Own tPacket 56 w.heap.size s194 w195 (Value.slice A161 m164 c162) ((psL (evs la) (k)) ++ [x71.packet]) := (hO154.step' st198)
        refine r_at (r_call (d := (some 39)) (f := 19) (args := #[(Operand.const (Value.int IntKind.u8 99)), (Operand.tmp 35), (Operand.tmp 38)]) (tys := #[5, 3, 26]) hF200 (by kernel_rfl) (by kernel_rfl) C19 [(bv 99), (Value.int .i64 (x71.packet.channel)), (Value.slice (some ⟨g196, 0, none⟩) 1 1)] (by kernel_rfl) (key_calls s194 w195 99 (x71.packet.channel : Int) hO203.rd (Nat.le_of_ble_eq_true (by kernel_rfl))) ?_)
        intro a213 s214 w215 v216 st217 hP218 hF219
        have hz220 := hS202.size
        have hS221 := hS202.then st217
        obtain ⟨A222, m225, c223, rfl, hl224⟩ := hP218.formL
        have hO226 : Own tU8 5 w.heap.size s214 w215 (Value.slice A222 m225 c223) (ofL 99 (x71.packet.channel : Int) [x71.packet.seq]) := hP218.le (by omega)
        have ne228 : ∀ g, Value.ownBlock (Value.slice A49 m51 cp50) = some g → ¬ Value.ownBlock (Value.slice A222 m225 c223) = some g := fun g hg e => by have h1 := hP218.ge e; have h2 := h209.lt hg; omega
        have ne229 : ¬ Value.ownBlock (Value.slice A222 m225 c223) = some b80 := fun e => by have h1 := hP218.ge e; have h2 := h210.lt; omega
        have ne230 : ¬ Value.ownBlock (Value.slice A222 m225 c223) = some b105 := fun e => by have h1 := hP218.ge e; have h2 := h211.lt; omega
        have ne231 : ∀ g, Value.ownBlock (Value.slice A161 m164 c162) = some g → ¬ Value.ownBlock (Value.slice A222 m225 c223) = some g := fun g hg e => by have h1 := hP218.ge e; have h2 := h212.lt hg; omega
        have h232 : Own (tSl tU8) 27 w.heap.size s214 w215 (Value.slice A49 m51 cp50) (keysL (n0 % 6) o (psL (evs la) (k))) := (h209.step' st217)
        have h233 : Bx s214 w215 b80 [(bv x71.kind), (Value.int .i64 (x71.packet.channel)), (uv x71.packet.seq), (uv x71.packet.timeout), (sv x71.packet.denom), (uv x71.packet.amount), (sv x71.packet.src), (sv x71.packet.dst), (Value.bool x71.ack.ok), (Value.int .i64 (x71.ack.code))] 60 := (h210.step' st217)
        have h234 : Bx s214 w215 b105 [(Value.int .i64 (x71.packet.channel)), (uv x71.packet.seq), (uv x71.packet.timeout), (sv x71.packet.denom), (uv x71.packet.amount), (sv x71.packet.src), (sv x71.packet.dst)] 56 := (h211.step' st217)
        have h235 : Own tPacket 56 w.heap.size s214 w215 (Value.slice A161 m164 c162) ((psL (evs la) (k)) ++ [x71.packet]) := (h212.step' st217)
        refine r_at (r_lit (tSl tU8) (d := 40) (t := 29) (m := 1) (parts := #[(0, (Operand.tmp 39))]) hF219 (by kernel_rfl) (by kernel_rfl) s214 [ofL 99 (x71.packet.channel : Int) [x71.packet.seq]] [(Value.slice A222 m225 c223)] ⟨_, _, rfl, ⟨_, rfl, hO226.rd⟩, rfl⟩ rfl (by decide) (e := 27) (fun o e => by simp only [execOp, e]; kernel_rfl) (by decide) ?_)
        intro a236 s237 w238 g239 hg240 st241 hO242 hF243
        have hz244 := hS221.size
        have hS245 := hS221.then st241
        have hO246 : Own (tSl tU8) 27 w.heap.size s237 w238 (Value.slice (some ⟨g239, 0, none⟩) 1 1) [ofL 99 (x71.packet.channel : Int) [x71.packet.seq]] := (hO242.le (by omega : w.heap.size ≤ _))
        have ne248 : ∀ g, Value.ownBlock (Value.slice A49 m51 cp50) = some g → ¬ Value.ownBlock (Value.slice (some ⟨g239, 0, none⟩) 1 1) = some g := fun g hg e => by have h1 := hO242.ge e; have h2 := h232.lt hg; omega
        have ne249 : ¬ Value.ownBlock (Value.slice (some ⟨g239, 0, none⟩) 1 1) = some b80 := fun e => by have h1 := hO242.ge e; have h2 := h233.lt; omega
        have ne250 : ¬ Value.ownBlock (Value.slice (some ⟨g239, 0, none⟩) 1 1) = some b105 := fun e => by have h1 := hO242.ge e; have h2 := h234.lt; omega
        have ne251 : ∀ g, Value.ownBlock (Value.slice A161 m164 c162) = some g → ¬ Value.ownBlock (Value.slice (some ⟨g239, 0, none⟩) 1 1) = some g := fun g hg e => by have h1 := hO242.ge e; have h2 := h235.lt hg; omega
        have h252 : Own (tSl tU8) 27 w.heap.size s237 w238 (Value.slice A49 m51 cp50) (keysL (n0 % 6) o (psL (evs la) (k))) := (h232.step' st241)
        have h253 : Bx s237 w238 b80 [(bv x71.kind), (Value.int .i64 (x71.packet.channel)), (uv x71.packet.seq), (uv x71.packet.timeout), (sv x71.packet.denom), (uv x71.packet.amount), (sv x71.packet.src), (sv x71.packet.dst), (Value.bool x71.ack.ok), (Value.int .i64 (x71.ack.code))] 60 := (h233.step' st241)
        have h254 : Bx s237 w238 b105 [(Value.int .i64 (x71.packet.channel)), (uv x71.packet.seq), (uv x71.packet.timeout), (sv x71.packet.denom), (uv x71.packet.amount), (sv x71.packet.src), (sv x71.packet.dst)] 56 := (h234.step' st241)
        have h255 : Own tPacket 56 w.heap.size s237 w238 (Value.slice A161 m164 c162) ((psL (evs la) (k)) ++ [x71.packet]) := (h235.step' st241)
        have hz265 := hS245.size
        have hb264 : (keysL (n0 % 6) o (psL (evs la) (k))).length + ([ofL 99 (x71.packet.channel : Int) [x71.packet.seq]] : List _).length ≤ 1000000 := (by have h9 := keysL_psl (n0 % 6) o (evs la) k; have h8 := psL_len (evs la) k; simp only [List.length_cons, List.length_nil] at *; omega)
        refine r_at (r_append (tSl tU8) S29 (d := 41) (x := (Operand.tmp 33)) (y := (Operand.tmp 40)) hF243 (by kernel_rfl) (by kernel_rfl) (by kernel_rfl) (by kernel_rfl) h252 hO246.rd (app_small hb264 (by decide)) (by omega) hz265 ?_)
        intro a256 s257 w258 v259 st260 hO261 hn262 hF263
        obtain ⟨A268, m271, c269, rfl, hl270⟩ := hO261.formL
        have hS272 := hS245.and st260 (fun b e => h252.ge e)
        have ne274 : ¬ Value.ownBlock (Value.slice A268 m271 c269) = some b80 := fun e => ne87 (hn262 _ h253.lt e)
        have ne275 : ¬ Value.ownBlock (Value.slice A268 m271 c269) = some b105 := fun e => ne112 (hn262 _ h254.lt e)
        have ne276 : ∀ g, Value.ownBlock (Value.slice A161 m164 c162) = some g → ¬ Value.ownBlock (Value.slice A268 m271 c269) = some g := fun g hg e => ne169 g (hn262 _ (h255.lt hg) e) hg
        refine r_runk 1 [8, 7, 1, 2, 17, 18, 19] [(8, (Value.slice A268 m271 c269)), (7, (Value.slice A161 m164 c162)), (1, (bv n0)), (2, (Value.bool o)), (17, (Value.slice A32 m35 c33)), (18, (Value.int .i64 ((m35 : Nat) : Int))), (19, (Value.int .i64 ((k : Nat) : Int)))] hF263 (by kernel_rfl) (by kernel_rfl) ?_
        intro a277 hF278
        refine r_end (by kernel_rfl) ?_
        refine c_reg 19 (by kernel_rfl) ?_
        refine r_one (d := 73) (v0 := (Value.int .i64 (IntKind.i64.wrap (((k : Nat) : Int) + ((1 : Nat) : Int))))) (v := (Value.int .i64 ((k + 1 : Nat) : Int))) hF278 (by kernel_rfl) (by kernel_rfl) (congrArg (Value.int .i64) (i64_eq (by omega) (by omega) (by omega))) ?_
        intro a279 hF280
        refine r_runk 1 [19, 8, 7, 1, 2, 17, 18] [(19, (Value.int .i64 ((k + 1 : Nat) : Int))), (8, (Value.slice A268 m271 c269)), (7, (Value.slice A161 m164 c162)), (1, (bv n0)), (2, (Value.bool o)), (17, (Value.slice A32 m35 c33)), (18, (Value.int .i64 ((m35 : Nat) : Int)))] hF280 (by kernel_rfl) (by kernel_rfl) ?_
        intro a281 hF282
        refine r_end (by kernel_rfl) ?_
        have h283 : Rd tEvent s257 w258 (Value.slice A32 m35 c33) (evs la) := ((((((((((h55.step st82).step st91).step st107).step st117).step st134).step st153).step st198).step st217).step st241).step st260)
        have h284 : Own tPacket 56 w.heap.size s257 w258 (Value.slice A161 m164 c162) ((psL (evs la) (k)) ++ [x71.packet]) := (h255.step st260 (fun g hg e => ne169 g e hg))
        have hF285 := hF282.keep [1, 2, 7, 8, 17, 18, 19] [(1, (bv n0)), (2, (Value.bool o)), (7, (Value.slice A161 m164 c162)), (8, (Value.slice A268 m271 c269)), (17, (Value.slice A32 m35 c33)), (18, (Value.int .i64 ((m35 : Nat) : Int))), (19, (Value.int .i64 ((k + 1 : Nat) : Int)))] (by kernel_rfl)
        exact ⟨k + 1, ⟨s257, A161, c162, m164, A268, c269, m271, hF285, hS272, h283, (h284.cast (by first | rfl | omega | (simp only [List.length_append, List.length_cons, List.length_nil, List.length_map] at *; omega)) (by subst hx72; exact (psL_succ (by omega)))), (hO261.cast (by first | rfl | omega | (simp only [List.length_append, List.length_cons, List.length_nil, List.length_map] at *; omega)) (by subst hx72; exact (wantL_some (by omega) (by unfold keyL; simp [hc181])))), (by omega), (fun g hg e => ne276 g hg e)⟩, by omega⟩
      · skip
        have hc181 := of_decide_eq_false hc181
        refine c_seq [1, 1, 1, 1, 0, 1, 0, 0, 1, 1, 0, 0, 1, 1, 1, 1, 0, 1, 1, 0] [1, 1, 1, 1, 0, 1, 0, 0, 1, 1, 0, 0, 1, 1, 1, 1, 0, 1, 1, 1] (by kernel_rfl) ?_
        refine c_reg 13 (by kernel_rfl) ?_
        refine r_one (d := 43) (v0 := (Value.bool (((n0 % 6).toNat : Int) == ((3 : UInt8).toNat : Int)))) (v := (Value.bool (decide ((n0 % 6 : UInt8) = 3)))) hF180 (by kernel_rfl) (by kernel_rfl) (congrArg Value.bool (cmp_u8_eql _ _)) ?_
        intro a286 hF287
        refine r_runk 1 [42, 30, 7, 11, 1, 2, 8, 17, 18, 19] [(42, (Value.bool (decide ((n0 % 6 : UInt8) = 3)))), (30, (bv (n0 % 6))), (7, (Value.slice A161 m164 c162)), (11, (Value.pointer (some ⟨b105, 0, none⟩))), (1, (bv n0)), (2, (Value.bool o)), (8, (Value.slice A49 m51 cp50)), (17, (Value.slice A32 m35 c33)), (18, (Value.int .i64 ((m35 : Nat) : Int))), (19, (Value.int .i64 ((k : Nat) : Int)))] hF287 (by kernel_rfl) (by kernel_rfl) ?_
        intro a288 hF289
        refine r_end (by kernel_rfl) ?_
        refine c_cond [1, 1, 1, 1, 0, 1, 0, 0, 1, 1, 0, 0, 1, 1, 1, 1, 0, 1, 1, 1, 0] [1, 1, 1, 1, 0, 1, 0, 0, 1, 1, 0, 0, 1, 1, 1, 1, 0, 1, 1, 1, 1] 42 (by kernel_rfl) hF289 (decide ((n0 % 6 : UInt8) = 3)) (by kernel_rfl) (fun hc290 => ?_) (fun hc290 => ?_)
        · skip
          have hc290 := of_decide_eq_true hc290
          refine c_reg 14 (by kernel_rfl) ?_
          refine r_runk 2 [45, 44, 7, 11, 1, 2, 17, 18, 19] [(45, (Value.pointer (some ⟨b105, 0, none⟩))), (44, (Value.slice A49 m51 cp50)), (7, (Value.slice A161 m164 c162)), (11, (Value.pointer (some ⟨b105, 0, none⟩))), (1, (bv n0)), (2, (Value.bool o)), (17, (Value.slice A32 m35 c33)), (18, (Value.int .i64 ((m35 : Nat) : Int))), (19, (Value.int .i64 ((k : Nat) : Int)))] hF289 (by kernel_rfl) (by kernel_rfl) ?_
          intro a291 hF292
          have h293 : Bx s150 w151 b105 [(Value.int .i64 (x71.packet.channel)), (uv x71.packet.seq), (uv x71.packet.timeout), (sv x71.packet.denom), (uv x71.packet.amount), (sv x71.packet.src), (sv x71.packet.dst)] 56 := (h147.step st153 (fun e => ne111 e))
          refine r_at (r_val (d := 46) (op := (Op.load 3 (Operand.tmp 45))) hF292 (by kernel_rfl) (by kernel_rfl) (Value.int .i64 (x71.packet.channel)) w151 (exec_load L3 (.inr rfl) (by kernel_rfl) (Bx.cells h293 0 1 [(Value.int .i64 (x71.packet.channel))] (by kernel_rfl))) ?_)
          intro a294 hF295
          refine r_runk 1 [47, 46, 44, 7, 1, 2, 17, 18, 19] [(47, (Value.pointer (some ⟨b105, 1, none⟩))), (46, (Value.int .i64 (x71.packet.channel))), (44, (Value.slice A49 m51 cp50)), (7, (Value.slice A161 m164 c162)), (1, (bv n0)), (2, (Value.bool o)), (17, (Value.slice A32 m35 c33)), (18, (Value.int .i64 ((m35 : Nat) : Int))), (19, (Value.int .i64 ((k : Nat) : Int)))] hF295 (by kernel_rfl) (by kernel_rfl) ?_
          intro a296 hF297
          refine r_at (r_val (d := 48) (op := (Op.load 22 (Operand.tmp 47))) hF297 (by kernel_rfl) (by kernel_rfl) (uv x71.packet.seq) w151 (exec_load L22 (.inr rfl) (by kernel_rfl) (Bx.cells h293 1 1 [(uv x71.packet.seq)] (by kernel_rfl))) ?_)
          intro a298 hF299
          have h300 : Own (tSl tU8) 27 w.heap.size s150 w151 (Value.slice A49 m51 cp50) (keysL (n0 % 6) o (psL (evs la) (k))) := (h148.step st153 (fun g hg e => ne53 g e hg))
          have h301 : Bx s150 w151 b80 [(bv x71.kind), (Value.int .i64 (x71.packet.channel)), (uv x71.packet.seq), (uv x71.packet.timeout), (sv x71.packet.denom), (uv x71.packet.amount), (sv x71.packet.src), (sv x71.packet.dst), (Value.bool x71.ack.ok), (Value.int .i64 (x71.ack.code))] 60 := (h146.step st153 (fun e => ne86 e))
          refine r_at (r_lit tU64 (d := 49) (t := 26) (m := 1) (parts := #[(0, (Operand.tmp 48))]) hF299 (by kernel_rfl) (by kernel_rfl) s150 [x71.packet.seq] [(uv x71.packet.seq)] ⟨_, _, rfl, rfl, rfl⟩ rfl (by decide) (e := 22) (fun o e => by simp only [execOp, e]; kernel_rfl) (by decide) ?_)
          intro a302 s303 w304 g305 hg306 st307 hO308 hF309
          have hz310 := hS165.size
          have hS311 := hS165.then st307
          have hO312 : Own tU64 22 w.heap.size s303 w304 (Value.slice (some ⟨g305, 0, none⟩) 1 1) [x71.packet.seq] := (hO308.le (by omega : w.heap.size ≤ _))
          have ne314 : ∀ g, Value.ownBlock (Value.slice A49 m51 cp50) = some g → ¬ Value.ownBlock (Value.slice (some ⟨g305, 0, none⟩) 1 1) = some g := fun g hg e => by have h1 := hO308.ge e; have h2 := h300.lt hg; omega
          have ne315 : ¬ Value.ownBlock (Value.slice (some ⟨g305, 0, none⟩) 1 1) = some b80 := fun e => by have h1 := hO308.ge e; have h2 := h301.lt; omega
          have ne316 : ¬ Value.ownBlock (Value.slice (some ⟨g305, 0, none⟩) 1 1) = some b105 := fun e => by have h1 := hO308.ge e; have h2 := h293.lt; omega
          have ne317 : ∀ g, Value.ownBlock (Value.slice A161 m164 c162) = some g → ¬ Value.ownBlock (Value.slice (some ⟨g305, 0, none⟩) 1 1) = some g := fun g hg e => by have h1 := hO308.ge e; have h2 := hO154.lt hg; omega
          have h318 : Own (tSl tU8) 27 w.heap.size s303 w304 (Value.slice A49 m51 cp50) (keysL (n0 % 6) o (psL (evs la) (k))) := (h300.step' st307)
          have h319 : Bx s303 w304 b80 [(bv x71.kind), (Value.int .i64 (x71.packet.channel)), (uv x71.packet.seq), (uv x71.packet.timeout), (sv x71.packet.denom), (uv x71.packet.amount), (sv x71.packet.src), (sv x71.packet.dst), (Value.bool x71.ack.ok), (Value.int .i64 (x71.ack.code))] 60 := (h301.step' st307)
          have h320 : Bx s303 w304 b105 [(Value.int .i64 (x71.packet.channel)), (uv x71.packet.seq), (uv x71.packet.timeout), (sv x71.packet.denom), (uv x71.packet.amount), (sv x71.packet.src), (sv x71.packet.dst)] 56 := (h293.step' st307)
          have h321 : Own tPacket 56 w.heap.size s303 w304 (Value.slice A161 m164 c162) ((psL (evs la) (k)) ++ [x71.packet]) := (hO154.step' st307)
          refine r_at (r_call (d := (some 50)) (f := 19) (args := #[(Operand.const (Value.int IntKind.u8 97)), (Operand.tmp 46), (Operand.tmp 49)]) (tys := #[5, 3, 26]) hF309 (by kernel_rfl) (by kernel_rfl) C19 [(bv 97), (Value.int .i64 (x71.packet.channel)), (Value.slice (some ⟨g305, 0, none⟩) 1 1)] (by kernel_rfl) (key_calls s303 w304 97 (x71.packet.channel : Int) hO312.rd (Nat.le_of_ble_eq_true (by kernel_rfl))) ?_)
          intro a322 s323 w324 v325 st326 hP327 hF328
          have hz329 := hS311.size
          have hS330 := hS311.then st326
          obtain ⟨A331, m334, c332, rfl, hl333⟩ := hP327.formL
          have hO335 : Own tU8 5 w.heap.size s323 w324 (Value.slice A331 m334 c332) (ofL 97 (x71.packet.channel : Int) [x71.packet.seq]) := hP327.le (by omega)
          have ne337 : ∀ g, Value.ownBlock (Value.slice A49 m51 cp50) = some g → ¬ Value.ownBlock (Value.slice A331 m334 c332) = some g := fun g hg e => by have h1 := hP327.ge e; have h2 := h318.lt hg; omega
          have ne338 : ¬ Value.ownBlock (Value.slice A331 m334 c332) = some b80 := fun e => by have h1 := hP327.ge e; have h2 := h319.lt; omega
          have ne339 : ¬ Value.ownBlock (Value.slice A331 m334 c332) = some b105 := fun e => by have h1 := hP327.ge e; have h2 := h320.lt; omega
          have ne340 : ∀ g, Value.ownBlock (Value.slice A161 m164 c162) = some g → ¬ Value.ownBlock (Value.slice A331 m334 c332) = some g := fun g hg e => by have h1 := hP327.ge e; have h2 := h321.lt hg; omega
          have h341 : Own (tSl tU8) 27 w.heap.size s323 w324 (Value.slice A49 m51 cp50) (keysL (n0 % 6) o (psL (evs la) (k))) := (h318.step' st326)
          have h342 : Bx s323 w324 b80 [(bv x71.kind), (Value.int .i64 (x71.packet.channel)), (uv x71.packet.seq), (uv x71.packet.timeout), (sv x71.packet.denom), (uv x71.packet.amount), (sv x71.packet.src), (sv x71.packet.dst), (Value.bool x71.ack.ok), (Value.int .i64 (x71.ack.code))] 60 := (h319.step' st326)
          have h343 : Bx s323 w324 b105 [(Value.int .i64 (x71.packet.channel)), (uv x71.packet.seq), (uv x71.packet.timeout), (sv x71.packet.denom), (uv x71.packet.amount), (sv x71.packet.src), (sv x71.packet.dst)] 56 := (h320.step' st326)
          have h344 : Own tPacket 56 w.heap.size s323 w324 (Value.slice A161 m164 c162) ((psL (evs la) (k)) ++ [x71.packet]) := (h321.step' st326)
          refine r_at (r_lit (tSl tU8) (d := 51) (t := 29) (m := 1) (parts := #[(0, (Operand.tmp 50))]) hF328 (by kernel_rfl) (by kernel_rfl) s323 [ofL 97 (x71.packet.channel : Int) [x71.packet.seq]] [(Value.slice A331 m334 c332)] ⟨_, _, rfl, ⟨_, rfl, hO335.rd⟩, rfl⟩ rfl (by decide) (e := 27) (fun o e => by simp only [execOp, e]; kernel_rfl) (by decide) ?_)
          intro a345 s346 w347 g348 hg349 st350 hO351 hF352
          have hz353 := hS330.size
          have hS354 := hS330.then st350
          have hO355 : Own (tSl tU8) 27 w.heap.size s346 w347 (Value.slice (some ⟨g348, 0, none⟩) 1 1) [ofL 97 (x71.packet.channel : Int) [x71.packet.seq]] := (hO351.le (by omega : w.heap.size ≤ _))
          have ne357 : ∀ g, Value.ownBlock (Value.slice A49 m51 cp50) = some g → ¬ Value.ownBlock (Value.slice (some ⟨g348, 0, none⟩) 1 1) = some g := fun g hg e => by have h1 := hO351.ge e; have h2 := h341.lt hg; omega
          have ne358 : ¬ Value.ownBlock (Value.slice (some ⟨g348, 0, none⟩) 1 1) = some b80 := fun e => by have h1 := hO351.ge e; have h2 := h342.lt; omega
          have ne359 : ¬ Value.ownBlock (Value.slice (some ⟨g348, 0, none⟩) 1 1) = some b105 := fun e => by have h1 := hO351.ge e; have h2 := h343.lt; omega
          have ne360 : ∀ g, Value.ownBlock (Value.slice A161 m164 c162) = some g → ¬ Value.ownBlock (Value.slice (some ⟨g348, 0, none⟩) 1 1) = some g := fun g hg e => by have h1 := hO351.ge e; have h2 := h344.lt hg; omega
          have h361 : Own (tSl tU8) 27 w.heap.size s346 w347 (Value.slice A49 m51 cp50) (keysL (n0 % 6) o (psL (evs la) (k))) := (h341.step' st350)
          have h362 : Bx s346 w347 b80 [(bv x71.kind), (Value.int .i64 (x71.packet.channel)), (uv x71.packet.seq), (uv x71.packet.timeout), (sv x71.packet.denom), (uv x71.packet.amount), (sv x71.packet.src), (sv x71.packet.dst), (Value.bool x71.ack.ok), (Value.int .i64 (x71.ack.code))] 60 := (h342.step' st350)
          have h363 : Bx s346 w347 b105 [(Value.int .i64 (x71.packet.channel)), (uv x71.packet.seq), (uv x71.packet.timeout), (sv x71.packet.denom), (uv x71.packet.amount), (sv x71.packet.src), (sv x71.packet.dst)] 56 := (h343.step' st350)
          have h364 : Own tPacket 56 w.heap.size s346 w347 (Value.slice A161 m164 c162) ((psL (evs la) (k)) ++ [x71.packet]) := (h344.step' st350)
          have hz374 := hS354.size
          have hb373 : (keysL (n0 % 6) o (psL (evs la) (k))).length + ([ofL 97 (x71.packet.channel : Int) [x71.packet.seq]] : List _).length ≤ 1000000 := (by have h9 := keysL_psl (n0 % 6) o (evs la) k; have h8 := psL_len (evs la) k; simp only [List.length_cons, List.length_nil] at *; omega)
          refine r_at (r_append (tSl tU8) S29 (d := 52) (x := (Operand.tmp 44)) (y := (Operand.tmp 51)) hF352 (by kernel_rfl) (by kernel_rfl) (by kernel_rfl) (by kernel_rfl) h361 hO355.rd (app_small hb373 (by decide)) (by omega) hz374 ?_)
          intro a365 s366 w367 v368 st369 hO370 hn371 hF372
          obtain ⟨A377, m380, c378, rfl, hl379⟩ := hO370.formL
          have hS381 := hS354.and st369 (fun b e => h361.ge e)
          have ne383 : ¬ Value.ownBlock (Value.slice A377 m380 c378) = some b80 := fun e => ne87 (hn371 _ h362.lt e)
          have ne384 : ¬ Value.ownBlock (Value.slice A377 m380 c378) = some b105 := fun e => ne112 (hn371 _ h363.lt e)
          have ne385 : ∀ g, Value.ownBlock (Value.slice A161 m164 c162) = some g → ¬ Value.ownBlock (Value.slice A377 m380 c378) = some g := fun g hg e => ne169 g (hn371 _ (h364.lt hg) e) hg
          refine r_runk 1 [8, 7, 1, 2, 17, 18, 19] [(8, (Value.slice A377 m380 c378)), (7, (Value.slice A161 m164 c162)), (1, (bv n0)), (2, (Value.bool o)), (17, (Value.slice A32 m35 c33)), (18, (Value.int .i64 ((m35 : Nat) : Int))), (19, (Value.int .i64 ((k : Nat) : Int)))] hF372 (by kernel_rfl) (by kernel_rfl) ?_
          intro a386 hF387
          refine r_end (by kernel_rfl) ?_
          refine c_reg 19 (by kernel_rfl) ?_
          refine r_one (d := 73) (v0 := (Value.int .i64 (IntKind.i64.wrap (((k : Nat) : Int) + ((1 : Nat) : Int))))) (v := (Value.int .i64 ((k + 1 : Nat) : Int))) hF387 (by kernel_rfl) (by kernel_rfl) (congrArg (Value.int .i64) (i64_eq (by omega) (by omega) (by omega))) ?_
          intro a388 hF389
          refine r_runk 1 [19, 8, 7, 1, 2, 17, 18] [(19, (Value.int .i64 ((k + 1 : Nat) : Int))), (8, (Value.slice A377 m380 c378)), (7, (Value.slice A161 m164 c162)), (1, (bv n0)), (2, (Value.bool o)), (17, (Value.slice A32 m35 c33)), (18, (Value.int .i64 ((m35 : Nat) : Int)))] hF389 (by kernel_rfl) (by kernel_rfl) ?_
          intro a390 hF391
          refine r_end (by kernel_rfl) ?_
          have h392 : Rd tEvent s366 w367 (Value.slice A32 m35 c33) (evs la) := ((((((((((h55.step st82).step st91).step st107).step st117).step st134).step st153).step st307).step st326).step st350).step st369)
          have h393 : Own tPacket 56 w.heap.size s366 w367 (Value.slice A161 m164 c162) ((psL (evs la) (k)) ++ [x71.packet]) := (h364.step st369 (fun g hg e => ne169 g e hg))
          have hF394 := hF391.keep [1, 2, 7, 8, 17, 18, 19] [(1, (bv n0)), (2, (Value.bool o)), (7, (Value.slice A161 m164 c162)), (8, (Value.slice A377 m380 c378)), (17, (Value.slice A32 m35 c33)), (18, (Value.int .i64 ((m35 : Nat) : Int))), (19, (Value.int .i64 ((k + 1 : Nat) : Int)))] (by kernel_rfl)
          exact ⟨k + 1, ⟨s366, A161, c162, m164, A377, c378, m380, hF394, hS381, h392, (h393.cast (by first | rfl | omega | (simp only [List.length_append, List.length_cons, List.length_nil, List.length_map] at *; omega)) (by subst hx72; exact (psL_succ (by omega)))), (hO370.cast (by first | rfl | omega | (simp only [List.length_append, List.length_cons, List.length_nil, List.length_map] at *; omega)) (by subst hx72; exact (wantL_some (by omega) (by unfold keyL; simp [hc181, hc290])))), (by omega), (fun g hg e => ne385 g hg e)⟩, by omega⟩
        · skip
          have hc290 := of_decide_eq_false hc290
          refine c_seq [1, 1, 1, 1, 0, 1, 0, 0, 1, 1, 0, 0, 1, 1, 1, 1, 0, 1, 1, 1, 1, 0] [1, 1, 1, 1, 0, 1, 0, 0, 1, 1, 0, 0, 1, 1, 1, 1, 0, 1, 1, 1, 1, 1] (by kernel_rfl) ?_
          refine c_reg 15 (by kernel_rfl) ?_
          refine r_one (d := 54) (v0 := (Value.bool (((n0 % 6).toNat : Int) == ((4 : UInt8).toNat : Int)))) (v := (Value.bool (decide ((n0 % 6 : UInt8) = 4)))) hF289 (by kernel_rfl) (by kernel_rfl) (congrArg Value.bool (cmp_u8_eql _ _)) ?_
          intro a395 hF396
          refine r_runk 1 [53, 7, 11, 1, 2, 8, 17, 18, 19] [(53, (Value.bool (decide ((n0 % 6 : UInt8) = 4)))), (7, (Value.slice A161 m164 c162)), (11, (Value.pointer (some ⟨b105, 0, none⟩))), (1, (bv n0)), (2, (Value.bool o)), (8, (Value.slice A49 m51 cp50)), (17, (Value.slice A32 m35 c33)), (18, (Value.int .i64 ((m35 : Nat) : Int))), (19, (Value.int .i64 ((k : Nat) : Int)))] hF396 (by kernel_rfl) (by kernel_rfl) ?_
          intro a397 hF398
          refine r_end (by kernel_rfl) ?_
          refine c_cond [1, 1, 1, 1, 0, 1, 0, 0, 1, 1, 0, 0, 1, 1, 1, 1, 0, 1, 1, 1, 1, 1, 0] [1, 1, 1, 1, 0, 1, 0, 0, 1, 1, 0, 0, 1, 1, 1, 1, 0, 1, 1, 1, 1, 1, 1] 53 (by kernel_rfl) hF398 (decide ((n0 % 6 : UInt8) = 4)) (by kernel_rfl) (fun hc399 => ?_) (fun hc399 => ?_)
          · skip
            have hc399 := of_decide_eq_true hc399
            refine c_seq [1, 1, 1, 1, 0, 1, 0, 0, 1, 1, 0, 0, 1, 1, 1, 1, 0, 1, 1, 1, 1, 1, 0, 0] [1, 1, 1, 1, 0, 1, 0, 0, 1, 1, 0, 0, 1, 1, 1, 1, 0, 1, 1, 1, 1, 1, 0, 1] (by kernel_rfl) ?_
            refine c_reg 16 (by kernel_rfl) ?_
            refine r_runk 1 [55, 7, 11, 1, 2, 8, 17, 18, 19] [(55, (Value.bool o)), (7, (Value.slice A161 m164 c162)), (11, (Value.pointer (some ⟨b105, 0, none⟩))), (1, (bv n0)), (2, (Value.bool o)), (8, (Value.slice A49 m51 cp50)), (17, (Value.slice A32 m35 c33)), (18, (Value.int .i64 ((m35 : Nat) : Int))), (19, (Value.int .i64 ((k : Nat) : Int)))] hF398 (by kernel_rfl) (by kernel_rfl) ?_
            intro a400 hF401
            refine r_end (by kernel_rfl) ?_
            refine c_cond [1, 1, 1, 1, 0, 1, 0, 0, 1, 1, 0, 0, 1, 1, 1, 1, 0, 1, 1, 1, 1, 1, 0, 1, 0] [1, 1, 1, 1, 0, 1, 0, 0, 1, 1, 0, 0, 1, 1, 1, 1, 0, 1, 1, 1, 1, 1, 0, 1, 1] 55 (by kernel_rfl) hF401 o (by kernel_rfl) (fun hc402 => ?_) (fun hc402 => ?_)
            · skip
              refine c_reg 17 (by kernel_rfl) ?_
              refine r_runk 2 [57, 56, 7, 1, 2, 17, 18, 19] [(57, (Value.pointer (some ⟨b105, 0, none⟩))), (56, (Value.slice A49 m51 cp50)), (7, (Value.slice A161 m164 c162)), (1, (bv n0)), (2, (Value.bool o)), (17, (Value.slice A32 m35 c33)), (18, (Value.int .i64 ((m35 : Nat) : Int))), (19, (Value.int .i64 ((k : Nat) : Int)))] hF401 (by kernel_rfl) (by kernel_rfl) ?_
              intro a403 hF404
              have h405 : Bx s150 w151 b105 [(Value.int .i64 (x71.packet.channel)), (uv x71.packet.seq), (uv x71.packet.timeout), (sv x71.packet.denom), (uv x71.packet.amount), (sv x71.packet.src), (sv x71.packet.dst)] 56 := (h147.step st153 (fun e => ne111 e))
              refine r_at (r_val (d := 58) (op := (Op.load 3 (Operand.tmp 57))) hF404 (by kernel_rfl) (by kernel_rfl) (Value.int .i64 (x71.packet.channel)) w151 (exec_load L3 (.inr rfl) (by kernel_rfl) (Bx.cells h405 0 1 [(Value.int .i64 (x71.packet.channel))] (by kernel_rfl))) ?_)
              intro a406 hF407
              have h408 : Own (tSl tU8) 27 w.heap.size s150 w151 (Value.slice A49 m51 cp50) (keysL (n0 % 6) o (psL (evs la) (k))) := (h148.step st153 (fun g hg e => ne53 g e hg))
              have h409 : Bx s150 w151 b80 [(bv x71.kind), (Value.int .i64 (x71.packet.channel)), (uv x71.packet.seq), (uv x71.packet.timeout), (sv x71.packet.denom), (uv x71.packet.amount), (sv x71.packet.src), (sv x71.packet.dst), (Value.bool x71.ack.ok), (Value.int .i64 (x71.ack.code))] 60 := (h146.step st153 (fun e => ne86 e))
              refine r_at (r_call (d := (some 59)) (f := 19) (args := #[(Operand.const (Value.int IntKind.u8 110)), (Operand.tmp 58), (Operand.const (Value.slice none 0 0))]) (tys := #[5, 3, 26]) hF407 (by kernel_rfl) (by kernel_rfl) C19 [(bv 110), (Value.int .i64 (x71.packet.channel)), (Value.slice none 0 0)] (by kernel_rfl) (key_calls s150 w151 110 (x71.packet.channel : Int) (Rd.nil _ s150 w151 none 0) (Nat.le_of_ble_eq_true (by kernel_rfl))) ?_)
              intro a410 s411 w412 v413 st414 hP415 hF416
              have hz417 := hS165.size
              have hS418 := hS165.then st414
              obtain ⟨A419, m422, c420, rfl, hl421⟩ := hP415.formL
              have hO423 : Own tU8 5 w.heap.size s411 w412 (Value.slice A419 m422 c420) (ofL 110 (x71.packet.channel : Int) []) := hP415.le (by omega)
              have ne425 : ∀ g, Value.ownBlock (Value.slice A49 m51 cp50) = some g → ¬ Value.ownBlock (Value.slice A419 m422 c420) = some g := fun g hg e => by have h1 := hP415.ge e; have h2 := h408.lt hg; omega
              have ne426 : ¬ Value.ownBlock (Value.slice A419 m422 c420) = some b80 := fun e => by have h1 := hP415.ge e; have h2 := h409.lt; omega
              have ne427 : ¬ Value.ownBlock (Value.slice A419 m422 c420) = some b105 := fun e => by have h1 := hP415.ge e; have h2 := h405.lt; omega
              have ne428 : ∀ g, Value.ownBlock (Value.slice A161 m164 c162) = some g → ¬ Value.ownBlock (Value.slice A419 m422 c420) = some g := fun g hg e => by have h1 := hP415.ge e; have h2 := hO154.lt hg; omega
              have h429 : Own (tSl tU8) 27 w.heap.size s411 w412 (Value.slice A49 m51 cp50) (keysL (n0 % 6) o (psL (evs la) (k))) := (h408.step' st414)
              have h430 : Bx s411 w412 b80 [(bv x71.kind), (Value.int .i64 (x71.packet.channel)), (uv x71.packet.seq), (uv x71.packet.timeout), (sv x71.packet.denom), (uv x71.packet.amount), (sv x71.packet.src), (sv x71.packet.dst), (Value.bool x71.ack.ok), (Value.int .i64 (x71.ack.code))] 60 := (h409.step' st414)
              have h431 : Bx s411 w412 b105 [(Value.int .i64 (x71.packet.channel)), (uv x71.packet.seq), (uv x71.packet.timeout), (sv x71.packet.denom), (uv x71.packet.amount), (sv x71.packet.src), (sv x71.packet.dst)] 56 := (h405.step' st414)
              have h432 : Own tPacket 56 w.heap.size s411 w412 (Value.slice A161 m164 c162) ((psL (evs la) (k)) ++ [x71.packet]) := (hO154.step' st414)
              refine r_at (r_lit (tSl tU8) (d := 60) (t := 29) (m := 1) (parts := #[(0, (Operand.tmp 59))]) hF416 (by kernel_rfl) (by kernel_rfl) s411 [ofL 110 (x71.packet.channel : Int) []] [(Value.slice A419 m422 c420)] ⟨_, _, rfl, ⟨_, rfl, hO423.rd⟩, rfl⟩ rfl (by decide) (e := 27) (fun o e => by simp only [execOp, e]; kernel_rfl) (by decide) ?_)
              intro a433 s434 w435 g436 hg437 st438 hO439 hF440
              have hz441 := hS418.size
              have hS442 := hS418.then st438
              have hO443 : Own (tSl tU8) 27 w.heap.size s434 w435 (Value.slice (some ⟨g436, 0, none⟩) 1 1) [ofL 110 (x71.packet.channel : Int) []] := (hO439.le (by omega : w.heap.size ≤ _))
              have ne445 : ∀ g, Value.ownBlock (Value.slice A49 m51 cp50) = some g → ¬ Value.ownBlock (Value.slice (some ⟨g436, 0, none⟩) 1 1) = some g := fun g hg e => by have h1 := hO439.ge e; have h2 := h429.lt hg; omega
              have ne446 : ¬ Value.ownBlock (Value.slice (some ⟨g436, 0, none⟩) 1 1) = some b80 := fun e => by have h1 := hO439.ge e; have h2 := h430.lt; omega
              have ne447 : ¬ Value.ownBlock (Value.slice (some ⟨g436, 0, none⟩) 1 1) = some b105 := fun e => by have h1 := hO439.ge e; have h2 := h431.lt; omega
              have ne448 : ∀ g, Value.ownBlock (Value.slice A161 m164 c162) = some g → ¬ Value.ownBlock (Value.slice (some ⟨g436, 0, none⟩) 1 1) = some g := fun g hg e => by have h1 := hO439.ge e; have h2 := h432.lt hg; omega
              have h449 : Own (tSl tU8) 27 w.heap.size s434 w435 (Value.slice A49 m51 cp50) (keysL (n0 % 6) o (psL (evs la) (k))) := (h429.step' st438)
              have h450 : Bx s434 w435 b80 [(bv x71.kind), (Value.int .i64 (x71.packet.channel)), (uv x71.packet.seq), (uv x71.packet.timeout), (sv x71.packet.denom), (uv x71.packet.amount), (sv x71.packet.src), (sv x71.packet.dst), (Value.bool x71.ack.ok), (Value.int .i64 (x71.ack.code))] 60 := (h430.step' st438)
              have h451 : Bx s434 w435 b105 [(Value.int .i64 (x71.packet.channel)), (uv x71.packet.seq), (uv x71.packet.timeout), (sv x71.packet.denom), (uv x71.packet.amount), (sv x71.packet.src), (sv x71.packet.dst)] 56 := (h431.step' st438)
              have h452 : Own tPacket 56 w.heap.size s434 w435 (Value.slice A161 m164 c162) ((psL (evs la) (k)) ++ [x71.packet]) := (h432.step' st438)
              have hz462 := hS442.size
              have hb461 : (keysL (n0 % 6) o (psL (evs la) (k))).length + ([ofL 110 (x71.packet.channel : Int) []] : List _).length ≤ 1000000 := (by have h9 := keysL_psl (n0 % 6) o (evs la) k; have h8 := psL_len (evs la) k; simp only [List.length_cons, List.length_nil] at *; omega)
              refine r_at (r_append (tSl tU8) S29 (d := 61) (x := (Operand.tmp 56)) (y := (Operand.tmp 60)) hF440 (by kernel_rfl) (by kernel_rfl) (by kernel_rfl) (by kernel_rfl) h449 hO443.rd (app_small hb461 (by decide)) (by omega) hz462 ?_)
              intro a453 s454 w455 v456 st457 hO458 hn459 hF460
              obtain ⟨A465, m468, c466, rfl, hl467⟩ := hO458.formL
              have hS469 := hS442.and st457 (fun b e => h449.ge e)
              have ne471 : ¬ Value.ownBlock (Value.slice A465 m468 c466) = some b80 := fun e => ne87 (hn459 _ h450.lt e)
              have ne472 : ¬ Value.ownBlock (Value.slice A465 m468 c466) = some b105 := fun e => ne112 (hn459 _ h451.lt e)
              have ne473 : ∀ g, Value.ownBlock (Value.slice A161 m164 c162) = some g → ¬ Value.ownBlock (Value.slice A465 m468 c466) = some g := fun g hg e => ne169 g (hn459 _ (h452.lt hg) e) hg
              refine r_runk 1 [8, 7, 1, 2, 17, 18, 19] [(8, (Value.slice A465 m468 c466)), (7, (Value.slice A161 m164 c162)), (1, (bv n0)), (2, (Value.bool o)), (17, (Value.slice A32 m35 c33)), (18, (Value.int .i64 ((m35 : Nat) : Int))), (19, (Value.int .i64 ((k : Nat) : Int)))] hF460 (by kernel_rfl) (by kernel_rfl) ?_
              intro a474 hF475
              refine r_end (by kernel_rfl) ?_
              refine c_reg 19 (by kernel_rfl) ?_
              refine r_one (d := 73) (v0 := (Value.int .i64 (IntKind.i64.wrap (((k : Nat) : Int) + ((1 : Nat) : Int))))) (v := (Value.int .i64 ((k + 1 : Nat) : Int))) hF475 (by kernel_rfl) (by kernel_rfl) (congrArg (Value.int .i64) (i64_eq (by omega) (by omega) (by omega))) ?_
              intro a476 hF477
              refine r_runk 1 [19, 8, 7, 1, 2, 17, 18] [(19, (Value.int .i64 ((k + 1 : Nat) : Int))), (8, (Value.slice A465 m468 c466)), (7, (Value.slice A161 m164 c162)), (1, (bv n0)), (2, (Value.bool o)), (17, (Value.slice A32 m35 c33)), (18, (Value.int .i64 ((m35 : Nat) : Int)))] hF477 (by kernel_rfl) (by kernel_rfl) ?_
              intro a478 hF479
              refine r_end (by kernel_rfl) ?_
              have h480 : Rd tEvent s454 w455 (Value.slice A32 m35 c33) (evs la) := (((((((((h55.step st82).step st91).step st107).step st117).step st134).step st153).step st414).step st438).step st457)
              have h481 : Own tPacket 56 w.heap.size s454 w455 (Value.slice A161 m164 c162) ((psL (evs la) (k)) ++ [x71.packet]) := (h452.step st457 (fun g hg e => ne169 g e hg))
              have hF482 := hF479.keep [1, 2, 7, 8, 17, 18, 19] [(1, (bv n0)), (2, (Value.bool o)), (7, (Value.slice A161 m164 c162)), (8, (Value.slice A465 m468 c466)), (17, (Value.slice A32 m35 c33)), (18, (Value.int .i64 ((m35 : Nat) : Int))), (19, (Value.int .i64 ((k + 1 : Nat) : Int)))] (by kernel_rfl)
              exact ⟨k + 1, ⟨s454, A161, c162, m164, A465, c466, m468, hF482, hS469, h480, (h481.cast (by first | rfl | omega | (simp only [List.length_append, List.length_cons, List.length_nil, List.length_map] at *; omega)) (by subst hx72; exact (psL_succ (by omega)))), (hO458.cast (by first | rfl | omega | (simp only [List.length_append, List.length_cons, List.length_nil, List.length_map] at *; omega)) (by subst hx72; exact (wantL_some (by omega) (by unfold keyL; simp [hc181, hc290, hc399, hc402])))), (by omega), (fun g hg e => ne473 g hg e)⟩, by omega⟩
            · skip
              refine c_reg 18 (by kernel_rfl) ?_
              refine r_runk 2 [63, 62, 7, 11, 1, 2, 17, 18, 19] [(63, (Value.pointer (some ⟨b105, 0, none⟩))), (62, (Value.slice A49 m51 cp50)), (7, (Value.slice A161 m164 c162)), (11, (Value.pointer (some ⟨b105, 0, none⟩))), (1, (bv n0)), (2, (Value.bool o)), (17, (Value.slice A32 m35 c33)), (18, (Value.int .i64 ((m35 : Nat) : Int))), (19, (Value.int .i64 ((k : Nat) : Int)))] hF401 (by kernel_rfl) (by kernel_rfl) ?_
              intro a483 hF484
              have h485 : Bx s150 w151 b105 [(Value.int .i64 (x71.packet.channel)), (uv x71.packet.seq), (uv x71.packet.timeout), (sv x71.packet.denom), (uv x71.packet.amount), (sv x71.packet.src), (sv x71.packet.dst)] 56 := (h147.step st153 (fun e => ne111 e))
              refine r_at (r_val (d := 64) (op := (Op.load 3 (Operand.tmp 63))) hF484 (by kernel_rfl) (by kernel_rfl) (Value.int .i64 (x71.packet.channel)) w151 (exec_load L3 (.inr rfl) (by kernel_rfl) (Bx.cells h485 0 1 [(Value.int .i64 (x71.packet.channel))] (by kernel_rfl))) ?_)
              intro a486 hF487
              refine r_runk 1 [65, 64, 62, 7, 1, 2, 17, 18, 19] [(65, (Value.pointer (some ⟨b105, 1, none⟩))), (64, (Value.int .i64 (x71.packet.channel))), (62, (Value.slice A49 m51 cp50)), (7, (Value.slice A161 m164 c162)), (1, (bv n0)), (2, (Value.bool o)), (17, (Value.slice A32 m35 c33)), (18, (Value.int .i64 ((m35 : Nat) : Int))), (19, (Value.int .i64 ((k : Nat) : Int)))] hF487 (by kernel_rfl) (by kernel_rfl) ?_
              intro a488 hF489
              refine r_at (r_val (d := 66) (op := (Op.load 22 (Operand.tmp 65))) hF489 (by kernel_rfl) (by kernel_rfl) (uv x71.packet.seq) w151 (exec_load L22 (.inr rfl) (by kernel_rfl) (Bx.cells h485 1 1 [(uv x71.packet.seq)] (by kernel_rfl))) ?_)
              intro a490 hF491
              refine r_one (d := 67) (v0 := (Value.int .u64 (IntKind.u64.wrap (((x71.packet.seq).toNat : Int) - ((1 : UInt64).toNat : Int))))) (v := (uv (x71.packet.seq - 1))) hF491 (by kernel_rfl) (by kernel_rfl) (congrArg (Value.int .u64) (u64_sub _ _)) ?_
              intro a492 hF493
              refine r_one (d := 68) (v0 := (Value.int .u64 (IntKind.u64.wrap (Int.tdiv ((x71.packet.seq - 1).toNat : Int) ((64 : UInt64).toNat : Int))))) (v := (uv ((x71.packet.seq - 1) / 64))) hF493 (by kernel_rfl) (by kernel_rfl) (congrArg (Value.int .u64) (u64_quo (x71.packet.seq - 1) 64 (by decide))) ?_
              intro a494 hF495
              have h496 : Own (tSl tU8) 27 w.heap.size s150 w151 (Value.slice A49 m51 cp50) (keysL (n0 % 6) o (psL (evs la) (k))) := (h148.step st153 (fun g hg e => ne53 g e hg))
              have h497 : Bx s150 w151 b80 [(bv x71.kind), (Value.int .i64 (x71.packet.channel)), (uv x71.packet.seq), (uv x71.packet.timeout), (sv x71.packet.denom), (uv x71.packet.amount), (sv x71.packet.src), (sv x71.packet.dst), (Value.bool x71.ack.ok), (Value.int .i64 (x71.ack.code))] 60 := (h146.step st153 (fun e => ne86 e))
              refine r_at (r_lit tU64 (d := 69) (t := 26) (m := 1) (parts := #[(0, (Operand.tmp 68))]) hF495 (by kernel_rfl) (by kernel_rfl) s150 [(x71.packet.seq - 1) / 64] [(uv ((x71.packet.seq - 1) / 64))] ⟨_, _, rfl, rfl, rfl⟩ rfl (by decide) (e := 22) (fun o e => by simp only [execOp, e]; kernel_rfl) (by decide) ?_)
              intro a498 s499 w500 g501 hg502 st503 hO504 hF505
              have hz506 := hS165.size
              have hS507 := hS165.then st503
              have hO508 : Own tU64 22 w.heap.size s499 w500 (Value.slice (some ⟨g501, 0, none⟩) 1 1) [(x71.packet.seq - 1) / 64] := (hO504.le (by omega : w.heap.size ≤ _))
              have ne510 : ∀ g, Value.ownBlock (Value.slice A49 m51 cp50) = some g → ¬ Value.ownBlock (Value.slice (some ⟨g501, 0, none⟩) 1 1) = some g := fun g hg e => by have h1 := hO504.ge e; have h2 := h496.lt hg; omega
              have ne511 : ¬ Value.ownBlock (Value.slice (some ⟨g501, 0, none⟩) 1 1) = some b80 := fun e => by have h1 := hO504.ge e; have h2 := h497.lt; omega
              have ne512 : ¬ Value.ownBlock (Value.slice (some ⟨g501, 0, none⟩) 1 1) = some b105 := fun e => by have h1 := hO504.ge e; have h2 := h485.lt; omega
              have ne513 : ∀ g, Value.ownBlock (Value.slice A161 m164 c162) = some g → ¬ Value.ownBlock (Value.slice (some ⟨g501, 0, none⟩) 1 1) = some g := fun g hg e => by have h1 := hO504.ge e; have h2 := hO154.lt hg; omega
              have h514 : Own (tSl tU8) 27 w.heap.size s499 w500 (Value.slice A49 m51 cp50) (keysL (n0 % 6) o (psL (evs la) (k))) := (h496.step' st503)
              have h515 : Bx s499 w500 b80 [(bv x71.kind), (Value.int .i64 (x71.packet.channel)), (uv x71.packet.seq), (uv x71.packet.timeout), (sv x71.packet.denom), (uv x71.packet.amount), (sv x71.packet.src), (sv x71.packet.dst), (Value.bool x71.ack.ok), (Value.int .i64 (x71.ack.code))] 60 := (h497.step' st503)
              have h516 : Bx s499 w500 b105 [(Value.int .i64 (x71.packet.channel)), (uv x71.packet.seq), (uv x71.packet.timeout), (sv x71.packet.denom), (uv x71.packet.amount), (sv x71.packet.src), (sv x71.packet.dst)] 56 := (h485.step' st503)
              have h517 : Own tPacket 56 w.heap.size s499 w500 (Value.slice A161 m164 c162) ((psL (evs la) (k)) ++ [x71.packet]) := (hO154.step' st503)
              refine r_at (r_call (d := (some 70)) (f := 19) (args := #[(Operand.const (Value.int IntKind.u8 119)), (Operand.tmp 64), (Operand.tmp 69)]) (tys := #[5, 3, 26]) hF505 (by kernel_rfl) (by kernel_rfl) C19 [(bv 119), (Value.int .i64 (x71.packet.channel)), (Value.slice (some ⟨g501, 0, none⟩) 1 1)] (by kernel_rfl) (key_calls s499 w500 119 (x71.packet.channel : Int) hO508.rd (Nat.le_of_ble_eq_true (by kernel_rfl))) ?_)
              intro a518 s519 w520 v521 st522 hP523 hF524
              have hz525 := hS507.size
              have hS526 := hS507.then st522
              obtain ⟨A527, m530, c528, rfl, hl529⟩ := hP523.formL
              have hO531 : Own tU8 5 w.heap.size s519 w520 (Value.slice A527 m530 c528) (ofL 119 (x71.packet.channel : Int) [(x71.packet.seq - 1) / 64]) := hP523.le (by omega)
              have ne533 : ∀ g, Value.ownBlock (Value.slice A49 m51 cp50) = some g → ¬ Value.ownBlock (Value.slice A527 m530 c528) = some g := fun g hg e => by have h1 := hP523.ge e; have h2 := h514.lt hg; omega
              have ne534 : ¬ Value.ownBlock (Value.slice A527 m530 c528) = some b80 := fun e => by have h1 := hP523.ge e; have h2 := h515.lt; omega
              have ne535 : ¬ Value.ownBlock (Value.slice A527 m530 c528) = some b105 := fun e => by have h1 := hP523.ge e; have h2 := h516.lt; omega
              have ne536 : ∀ g, Value.ownBlock (Value.slice A161 m164 c162) = some g → ¬ Value.ownBlock (Value.slice A527 m530 c528) = some g := fun g hg e => by have h1 := hP523.ge e; have h2 := h517.lt hg; omega
              have h537 : Own (tSl tU8) 27 w.heap.size s519 w520 (Value.slice A49 m51 cp50) (keysL (n0 % 6) o (psL (evs la) (k))) := (h514.step' st522)
              have h538 : Bx s519 w520 b80 [(bv x71.kind), (Value.int .i64 (x71.packet.channel)), (uv x71.packet.seq), (uv x71.packet.timeout), (sv x71.packet.denom), (uv x71.packet.amount), (sv x71.packet.src), (sv x71.packet.dst), (Value.bool x71.ack.ok), (Value.int .i64 (x71.ack.code))] 60 := (h515.step' st522)
              have h539 : Bx s519 w520 b105 [(Value.int .i64 (x71.packet.channel)), (uv x71.packet.seq), (uv x71.packet.timeout), (sv x71.packet.denom), (uv x71.packet.amount), (sv x71.packet.src), (sv x71.packet.dst)] 56 := (h516.step' st522)
              have h540 : Own tPacket 56 w.heap.size s519 w520 (Value.slice A161 m164 c162) ((psL (evs la) (k)) ++ [x71.packet]) := (h517.step' st522)
              refine r_at (r_lit (tSl tU8) (d := 71) (t := 29) (m := 1) (parts := #[(0, (Operand.tmp 70))]) hF524 (by kernel_rfl) (by kernel_rfl) s519 [ofL 119 (x71.packet.channel : Int) [(x71.packet.seq - 1) / 64]] [(Value.slice A527 m530 c528)] ⟨_, _, rfl, ⟨_, rfl, hO531.rd⟩, rfl⟩ rfl (by decide) (e := 27) (fun o e => by simp only [execOp, e]; kernel_rfl) (by decide) ?_)
              intro a541 s542 w543 g544 hg545 st546 hO547 hF548
              have hz549 := hS526.size
              have hS550 := hS526.then st546
              have hO551 : Own (tSl tU8) 27 w.heap.size s542 w543 (Value.slice (some ⟨g544, 0, none⟩) 1 1) [ofL 119 (x71.packet.channel : Int) [(x71.packet.seq - 1) / 64]] := (hO547.le (by omega : w.heap.size ≤ _))
              have ne553 : ∀ g, Value.ownBlock (Value.slice A49 m51 cp50) = some g → ¬ Value.ownBlock (Value.slice (some ⟨g544, 0, none⟩) 1 1) = some g := fun g hg e => by have h1 := hO547.ge e; have h2 := h537.lt hg; omega
              have ne554 : ¬ Value.ownBlock (Value.slice (some ⟨g544, 0, none⟩) 1 1) = some b80 := fun e => by have h1 := hO547.ge e; have h2 := h538.lt; omega
              have ne555 : ¬ Value.ownBlock (Value.slice (some ⟨g544, 0, none⟩) 1 1) = some b105 := fun e => by have h1 := hO547.ge e; have h2 := h539.lt; omega
              have ne556 : ∀ g, Value.ownBlock (Value.slice A161 m164 c162) = some g → ¬ Value.ownBlock (Value.slice (some ⟨g544, 0, none⟩) 1 1) = some g := fun g hg e => by have h1 := hO547.ge e; have h2 := h540.lt hg; omega
              have h557 : Own (tSl tU8) 27 w.heap.size s542 w543 (Value.slice A49 m51 cp50) (keysL (n0 % 6) o (psL (evs la) (k))) := (h537.step' st546)
              have h558 : Bx s542 w543 b80 [(bv x71.kind), (Value.int .i64 (x71.packet.channel)), (uv x71.packet.seq), (uv x71.packet.timeout), (sv x71.packet.denom), (uv x71.packet.amount), (sv x71.packet.src), (sv x71.packet.dst), (Value.bool x71.ack.ok), (Value.int .i64 (x71.ack.code))] 60 := (h538.step' st546)
              have h559 : Bx s542 w543 b105 [(Value.int .i64 (x71.packet.channel)), (uv x71.packet.seq), (uv x71.packet.timeout), (sv x71.packet.denom), (uv x71.packet.amount), (sv x71.packet.src), (sv x71.packet.dst)] 56 := (h539.step' st546)
              have h560 : Own tPacket 56 w.heap.size s542 w543 (Value.slice A161 m164 c162) ((psL (evs la) (k)) ++ [x71.packet]) := (h540.step' st546)
              have hz570 := hS550.size
              have hb569 : (keysL (n0 % 6) o (psL (evs la) (k))).length + ([ofL 119 (x71.packet.channel : Int) [(x71.packet.seq - 1) / 64]] : List _).length ≤ 1000000 := (by have h9 := keysL_psl (n0 % 6) o (evs la) k; have h8 := psL_len (evs la) k; simp only [List.length_cons, List.length_nil] at *; omega)
              refine r_at (r_append (tSl tU8) S29 (d := 72) (x := (Operand.tmp 62)) (y := (Operand.tmp 71)) hF548 (by kernel_rfl) (by kernel_rfl) (by kernel_rfl) (by kernel_rfl) h557 hO551.rd (app_small hb569 (by decide)) (by omega) hz570 ?_)
              intro a561 s562 w563 v564 st565 hO566 hn567 hF568
              obtain ⟨A573, m576, c574, rfl, hl575⟩ := hO566.formL
              have hS577 := hS550.and st565 (fun b e => h557.ge e)
              have ne579 : ¬ Value.ownBlock (Value.slice A573 m576 c574) = some b80 := fun e => ne87 (hn567 _ h558.lt e)
              have ne580 : ¬ Value.ownBlock (Value.slice A573 m576 c574) = some b105 := fun e => ne112 (hn567 _ h559.lt e)
              have ne581 : ∀ g, Value.ownBlock (Value.slice A161 m164 c162) = some g → ¬ Value.ownBlock (Value.slice A573 m576 c574) = some g := fun g hg e => ne169 g (hn567 _ (h560.lt hg) e) hg
              refine r_runk 1 [8, 7, 1, 2, 17, 18, 19] [(8, (Value.slice A573 m576 c574)), (7, (Value.slice A161 m164 c162)), (1, (bv n0)), (2, (Value.bool o)), (17, (Value.slice A32 m35 c33)), (18, (Value.int .i64 ((m35 : Nat) : Int))), (19, (Value.int .i64 ((k : Nat) : Int)))] hF568 (by kernel_rfl) (by kernel_rfl) ?_
              intro a582 hF583
              refine r_end (by kernel_rfl) ?_
              refine c_reg 19 (by kernel_rfl) ?_
              refine r_one (d := 73) (v0 := (Value.int .i64 (IntKind.i64.wrap (((k : Nat) : Int) + ((1 : Nat) : Int))))) (v := (Value.int .i64 ((k + 1 : Nat) : Int))) hF583 (by kernel_rfl) (by kernel_rfl) (congrArg (Value.int .i64) (i64_eq (by omega) (by omega) (by omega))) ?_
              intro a584 hF585
              refine r_runk 1 [19, 8, 7, 1, 2, 17, 18] [(19, (Value.int .i64 ((k + 1 : Nat) : Int))), (8, (Value.slice A573 m576 c574)), (7, (Value.slice A161 m164 c162)), (1, (bv n0)), (2, (Value.bool o)), (17, (Value.slice A32 m35 c33)), (18, (Value.int .i64 ((m35 : Nat) : Int)))] hF585 (by kernel_rfl) (by kernel_rfl) ?_
              intro a586 hF587
              refine r_end (by kernel_rfl) ?_
              have h588 : Rd tEvent s562 w563 (Value.slice A32 m35 c33) (evs la) := ((((((((((h55.step st82).step st91).step st107).step st117).step st134).step st153).step st503).step st522).step st546).step st565)
              have h589 : Own tPacket 56 w.heap.size s562 w563 (Value.slice A161 m164 c162) ((psL (evs la) (k)) ++ [x71.packet]) := (h560.step st565 (fun g hg e => ne169 g e hg))
              have hF590 := hF587.keep [1, 2, 7, 8, 17, 18, 19] [(1, (bv n0)), (2, (Value.bool o)), (7, (Value.slice A161 m164 c162)), (8, (Value.slice A573 m576 c574)), (17, (Value.slice A32 m35 c33)), (18, (Value.int .i64 ((m35 : Nat) : Int))), (19, (Value.int .i64 ((k + 1 : Nat) : Int)))] (by kernel_rfl)
              exact ⟨k + 1, ⟨s562, A161, c162, m164, A573, c574, m576, hF590, hS577, h588, (h589.cast (by first | rfl | omega | (simp only [List.length_append, List.length_cons, List.length_nil, List.length_map] at *; omega)) (by subst hx72; exact (psL_succ (by omega)))), (hO566.cast (by first | rfl | omega | (simp only [List.length_append, List.length_cons, List.length_nil, List.length_map] at *; omega)) (by subst hx72; exact (wantL_some (by omega) (by unfold keyL; simp [hc181, hc290, hc399, hc402])))), (by omega), (fun g hg e => ne581 g hg e)⟩, by omega⟩
          · skip
            have hc399 := of_decide_eq_false hc399
            refine c_skip (by kernel_rfl) ?_
            refine c_reg 19 (by kernel_rfl) ?_
            refine r_one (d := 73) (v0 := (Value.int .i64 (IntKind.i64.wrap (((k : Nat) : Int) + ((1 : Nat) : Int))))) (v := (Value.int .i64 ((k + 1 : Nat) : Int))) hF398 (by kernel_rfl) (by kernel_rfl) (congrArg (Value.int .i64) (i64_eq (by omega) (by omega) (by omega))) ?_
            intro a591 hF592
            refine r_runk 1 [19, 7, 1, 2, 8, 17, 18] [(19, (Value.int .i64 ((k + 1 : Nat) : Int))), (7, (Value.slice A161 m164 c162)), (1, (bv n0)), (2, (Value.bool o)), (8, (Value.slice A49 m51 cp50)), (17, (Value.slice A32 m35 c33)), (18, (Value.int .i64 ((m35 : Nat) : Int)))] hF592 (by kernel_rfl) (by kernel_rfl) ?_
            intro a593 hF594
            refine r_end (by kernel_rfl) ?_
            have h595 : Rd tEvent s150 w151 (Value.slice A32 m35 c33) (evs la) := ((((((h55.step st82).step st91).step st107).step st117).step st134).step st153)
            have h596 : Own (tSl tU8) 27 w.heap.size s150 w151 (Value.slice A49 m51 cp50) (keysL (n0 % 6) o (psL (evs la) (k))) := (h148.step st153 (fun g hg e => ne53 g e hg))
            have hF597 := hF594.keep [1, 2, 7, 8, 17, 18, 19] [(1, (bv n0)), (2, (Value.bool o)), (7, (Value.slice A161 m164 c162)), (8, (Value.slice A49 m51 cp50)), (17, (Value.slice A32 m35 c33)), (18, (Value.int .i64 ((m35 : Nat) : Int))), (19, (Value.int .i64 ((k + 1 : Nat) : Int)))] (by kernel_rfl)
            exact ⟨k + 1, ⟨s150, A161, c162, m164, A49, cp50, m51, hF597, hS165, h595, (hO154.cast (by first | rfl | omega | (simp only [List.length_append, List.length_cons, List.length_nil, List.length_map] at *; omega)) (by subst hx72; exact (psL_succ (by omega)))), (h596.cast (by first | rfl | omega | (simp only [List.length_append, List.length_cons, List.length_nil, List.length_map] at *; omega)) (by subst hx72; exact (wantL_none (by omega) (by unfold keyL; simp [hc181, hc290, hc399])))), (by omega), (fun g hg e => ne169 g e hg)⟩, by omega⟩
    · skip
      have hc62 := of_decide_eq_false hc62
      refine c_exit 0 (by kernel_rfl) ?_
      refine c_seq [1, 1, 1, 1, 1, 0] [1, 1, 1, 1, 1, 1] (by kernel_rfl) ?_
      refine c_reg 20 (by kernel_rfl) ?_
      refine r_runk 1 [74, 2, 7, 8] [(74, (bv n0)), (2, (Value.bool o)), (7, (Value.slice A45 m47 cp46)), (8, (Value.slice A49 m51 cp50))] hF61 (by kernel_rfl) (by kernel_rfl) ?_
      intro a598 hF599
      refine r_one (d := 75) (v0 := (Value.int .u8 (Int.tmod ((n0).toNat : Int) ((6 : UInt8).toNat : Int)))) (v := (bv (n0 % 6))) hF599 (by kernel_rfl) (by kernel_rfl) (congrArg (Value.int .u8) (u8_rem n0 6 (by decide))) ?_
      intro a600 hF601
      refine r_runk 2 [77, 76, 75, 8] [(77, (Value.bool o)), (76, (Value.slice A45 m47 cp46)), (75, (bv (n0 % 6))), (8, (Value.slice A49 m51 cp50))] hF601 (by kernel_rfl) (by kernel_rfl) ?_
      intro a602 hF603
      refine r_at (r_call (d := (some 78)) (f := 33) (args := #[(Operand.tmp 75), (Operand.tmp 76), (Operand.tmp 77)]) (tys := #[47, 43, 4]) hF603 (by kernel_rfl) (by kernel_rfl) C33 [(bv (n0 % 6)), (Value.slice A45 m47 cp46), (Value.bool o)] (by kernel_rfl) (relKeys_calls s42 w41  (n0 % 6) hO56.rd (Nat.le_trans (psL_len _ _) (by omega)) o) ?_)
      intro a604 s605 w606 v607 st608 hP609 hF610
      have hz611 := hS44.size
      have hS612 := hS44.then st608
      have hP613 := hP609.rd
      obtain ⟨A614, m617, c615, rfl, hl616⟩ := hP613.formL
      have hbd618 : (keysL (n0 % 6) o (psL (evs la) (k))).length ≤ 140737488355328 := Nat.le_trans (Nat.le_mul_of_pos_right _ (by decide)) hP613.bd
      refine r_runk 1 [12, 8] [(12, (Value.slice A614 m617 c615)), (8, (Value.slice A49 m51 cp50))] hF610 (by kernel_rfl) (by kernel_rfl) ?_
      intro a619 hF620
      refine r_end (by kernel_rfl) ?_
      refine c_seq [1, 1, 1, 1, 1, 1, 0] [1, 1, 1, 1, 1, 1, 1] (by kernel_rfl) ?_
      refine c_seq [1, 1, 1, 1, 1, 1, 0, 0] [1, 1, 1, 1, 1, 1, 0, 1] (by kernel_rfl) ?_
      refine c_reg 21 (by kernel_rfl) ?_
      refine r_runk 4 [82, 80, 12, 8] [(82, (Value.int .i64 ((m51 : Nat) : Int))), (80, (Value.int .i64 ((m617 : Nat) : Int))), (12, (Value.slice A614 m617 c615)), (8, (Value.slice A49 m51 cp50))] hF620 (by kernel_rfl) (by kernel_rfl) ?_
      intro a621 hF622
      refine r_one (d := 83) (v0 := (Value.bool (((m617 : Nat) : Int) != ((m51 : Nat) : Int)))) (v := (Value.bool false)) hF622 (by kernel_rfl) (by kernel_rfl) (Eq.trans (congrArg Value.bool (cmp_nat_neq _ _)) (congrArg Value.bool ((by simp; omega) : (!decide ((m617 : Nat) = m51)) = false))) ?_
      intro a623 hF624
      have hF625 := hF624.keep [83, 12, 8] [(83, (Value.bool false)), (12, (Value.slice A614 m617 c615)), (8, (Value.slice A49 m51 cp50))] (by kernel_rfl)
      refine r_end (by kernel_rfl) ?_
      refine c_cond_false [1, 1, 1, 1, 1, 1, 0, 1, 0] [1, 1, 1, 1, 1, 1, 0, 1, 1] 83 (by kernel_rfl) hF625 (by kernel_rfl) ?_
      refine c_skip (by kernel_rfl) ?_
      refine c_seq [1, 1, 1, 1, 1, 1, 1, 0] [1, 1, 1, 1, 1, 1, 1, 1] (by kernel_rfl) ?_
      refine c_seq [1, 1, 1, 1, 1, 1, 1, 0, 0] [1, 1, 1, 1, 1, 1, 1, 0, 1] (by kernel_rfl) ?_
      refine c_reg 23 (by kernel_rfl) ?_
      refine r_runk 3 [86, 85, 12, 8] [(86, (Value.int .i64 ((0 : Nat) : Int))), (85, (Value.int .i64 ((m617 : Nat) : Int))), (12, (Value.slice A614 m617 c615)), (8, (Value.slice A49 m51 cp50))] hF625 (by kernel_rfl) (by kernel_rfl) ?_
      intro a626 hF627
      refine r_end (by kernel_rfl) ?_
      refine c_block [1, 1, 1, 1, 1, 1, 1, 0, 1, 0] 3 (by kernel_rfl) ?_
      have h633 : Own (tSl tU8) 27 w.heap.size s605 w606 (Value.slice A49 m51 cp50) (keysL (n0 % 6) o (psL (evs la) (k))) := (hO57.step' st608)
      refine c_loop [1, 1, 1, 1, 1, 1, 1, 0, 1, 0, 0] (by kernel_rfl) (fun (q : Nat) a628 w629 => ∃ (s630 : Nat → Nat), Fr a628 101 [(8, (Value.slice A49 m51 cp50)), (12, (Value.slice A614 m617 c615)), (85, (Value.int .i64 ((m617 : Nat) : Int))), (86, (Value.int .i64 ((q : Nat) : Int)))] ∧ Stp noM σ w s630 w629 ∧ Rd (tSl tU8) s630 w629 (Value.slice A49 m51 cp50) (keysL (n0 % 6) o (psL (evs la) (k))) ∧ Rd (tSl tU8) s630 w629 (Value.slice A614 m617 c615) (keysL (n0 % 6) o (psL (evs la) (k))) ∧ q ≤ (keysL (n0 % 6) o (psL (evs la) (k))).length) (fun q => (keysL (n0 % 6) o (psL (evs la) (k))).length - q) 0 ?_ ?_
      · skip
        have hF634 := hF627.keep [8, 12, 85, 86] [(8, (Value.slice A49 m51 cp50)), (12, (Value.slice A614 m617 c615)), (85, (Value.int .i64 ((m617 : Nat) : Int))), (86, (Value.int .i64 ((0 : Nat) : Int)))] (by kernel_rfl)
        exact ⟨s605, hF634, hS612, h633.rd, hP613, (by omega)⟩
      · rintro q a628 w629 ⟨s630, hF631, hS632, h635, h636, hk⟩
        refine c_seq [1, 1, 1, 1, 1, 1, 1, 0, 1, 0, 0, 0] [1, 1, 1, 1, 1, 1, 1, 0, 1, 0, 0, 1] (by kernel_rfl) ?_
        refine c_reg 24 (by kernel_rfl) ?_
        refine r_one (d := 87) (v0 := (Value.bool (decide (((q : Nat) : Int) < ((m617 : Nat) : Int))))) (v := (Value.bool (decide ((q : Nat) < m617)))) hF631 (by kernel_rfl) (by kernel_rfl) (congrArg Value.bool (cmp_nat_lss _ _)) ?_
        intro a637 hF638
        refine r_end (by kernel_rfl) ?_
        refine c_seq [1, 1, 1, 1, 1, 1, 1, 0, 1, 0, 0, 1, 0] [1, 1, 1, 1, 1, 1, 1, 0, 1, 0, 0, 1, 1] (by kernel_rfl) ?_
        refine c_cond [1, 1, 1, 1, 1, 1, 1, 0, 1, 0, 0, 1, 0, 0] [1, 1, 1, 1, 1, 1, 1, 0, 1, 0, 0, 1, 0, 1] 87 (by kernel_rfl) hF638 (decide ((q : Nat) < m617)) (by kernel_rfl) (fun hc639 => ?_) (fun hc639 => ?_)
        · skip
          have hc639 := of_decide_eq_true hc639
          refine c_skip (by kernel_rfl) ?_
          refine c_seq [1, 1, 1, 1, 1, 1, 1, 0, 1, 0, 0, 1, 1, 0] [1, 1, 1, 1, 1, 1, 1, 0, 1, 0, 0, 1, 1, 1] (by kernel_rfl) ?_
          refine c_block [1, 1, 1, 1, 1, 1, 1, 0, 1, 0, 0, 1, 1, 0, 0] 4 (by kernel_rfl) ?_
          refine c_seq [1, 1, 1, 1, 1, 1, 1, 0, 1, 0, 0, 1, 1, 0, 0, 0] [1, 1, 1, 1, 1, 1, 1, 0, 1, 0, 0, 1, 1, 0, 0, 1] (by kernel_rfl) ?_
          refine c_reg 25 (by kernel_rfl) ?_
          refine r_runk 2 [13, 8, 12, 85, 86] [(13, (Value.int .i64 ((q : Nat) : Int))), (8, (Value.slice A49 m51 cp50)), (12, (Value.slice A614 m617 c615)), (85, (Value.int .i64 ((m617 : Nat) : Int))), (86, (Value.int .i64 ((q : Nat) : Int)))] hF638 (by kernel_rfl) (by kernel_rfl) ?_
          intro a640 hF641
          refine r_end (by kernel_rfl) ?_
          refine c_seq [1, 1, 1, 1, 1, 1, 1, 0, 1, 0, 0, 1, 1, 0, 0, 1, 0] [1, 1, 1, 1, 1, 1, 1, 0, 1, 0, 0, 1, 1, 0, 0, 1, 1] (by kernel_rfl) ?_
          refine c_plan 26 (by kernel_rfl) (by kernel_rfl) s630 (fun b => True) [(0, true), (1, true), (2, true), (3, true), (4, true), (5, true), (6, true), (7, true), (8, true), (9, true), (10, true)] [(0, 618970019642690137449562112, 4096), (0, 1237940039285380274899124224, 8192), (3, 2475880078570760549798248448, 1856910058928070412348686336), (4, 4951760157141521099596496896, 2475880078570760549798248448), (8, 9903520314283042199192993792, 4951760157141521099596496896), (0, 19807040628566084398385987584, 256), (0, 39614081257132168796771975168, 8192), (96, 79228162514264337593543950336, 59421121885698253195157962752), (128, 158456325028528675187087900672, 79228162514264337593543950336), (256, 316912650057057350374175801344, 158456325028528675187087900672), (528, 633825300114114700748351602688, 326816170371340392573368795136)] (by kernel_rfl) (by kernel_rfl) (by kernel_rfl) (by kernel_rfl) ?_
          intro w642 st643
          have hS644 := hS632.then st643
          refine p_run (d := 89) (v := (Value.slice A614 m617 c615)) hF641 (by kernel_rfl) (fun _ => by kernel_rfl) (fun _ _ _ h => h) ?_
          intro a645 hF646
          refine p_run (d := 90) (v := (Value.int .i64 ((q : Nat) : Int))) hF646 (by kernel_rfl) (fun _ => by kernel_rfl) (fun _ _ _ h => h) ?_
          intro a647 hF648
          have h649 : Rd (tSl tU8) s630 w642 (Value.slice A614 m617 c615) (keysL (n0 % 6) o (psL (evs la) (k))) := (h636.step st643)
          have hi656 : q < (keysL (n0 % 6) o (psL (evs la) (k))).length := (by have hq := h649.ln; first | omega | (simp only [List.length_append, List.length_cons, List.length_nil, List.length_map] at *; omega))
          obtain ⟨b650, o651, c652, he653, hs654, hr655⟩ := (h649).at q hi656
          obtain ⟨o657, ho657⟩ : ∃ o, o = o651 + q * 1 := ⟨_, rfl⟩
          obtain ⟨v658, rfl, hr659⟩ := hr655
          obtain ⟨A660, m663, c661, rfl, hl662⟩ := hr659.formL
          have hbd664 : (((keysL (n0 % 6) o (psL (evs la) (k)))[q]'hi656)).length ≤ 140737488355328 := Nat.le_trans (Nat.le_mul_of_pos_right _ (by decide)) hr659.bd
          have hs654 : Seg s630 w642 b650 o657 [(Value.slice A660 m663 c661)] := by rw [ho657]; exact hs654
          refine p_val (d := 91) (op := (Op.indexAddr 29 (Operand.tmp 89) (Operand.tmp 90))) (v := (Value.pointer (some ⟨b650, o657, none⟩))) hF648 (by kernel_rfl) (by kernel_rfl) (fun w9 ⟨s9, hw9⟩ => (by rw [ho657]; exact exec_index (len := m617) (cap := c615) he653 (by kernel_rfl) (kd := .i64) q (by kernel_rfl) (by have := h649.ln; omega) 1 U29 L27.s)) (fun _ _ _ h => h) ?_
          intro a665 hF666
          refine p_val (d := 92) (op := (Op.load 27 (Operand.tmp 91))) (v := (Value.slice A660 m663 c661)) hF666 (by kernel_rfl) (by kernel_rfl) (fun w9 ⟨s9, hw9⟩ => (exec_load L27 (.inr rfl) (by kernel_rfl) (hs654.step hw9).cell)) (fun _ _ _ h => h) ?_
          intro a667 hF668
          refine p_val (d := 93) (op := (Op.convert 27 9 (Operand.tmp 92))) (v := (sv ((keysL (n0 % 6) o (psL (evs la) (k)))[q]'hi656))) hF668 (by kernel_rfl) (by kernel_rfl) (fun w9 ⟨s9, hw9⟩ => (exec_b2s U27 U5 U9 (by kernel_rfl) (hr659.step hw9))) (fun _ _ _ h => h) ?_
          intro a669 hF670
          refine p_run (d := 94) (v := (Value.slice A49 m51 cp50)) hF670 (by kernel_rfl) (fun _ => by kernel_rfl) (fun _ _ _ h => h) ?_
          intro a671 hF672
          refine p_run (d := 95) (v := (Value.int .i64 ((q : Nat) : Int))) hF672 (by kernel_rfl) (fun _ => by kernel_rfl) (fun _ _ _ h => h) ?_
          intro a673 hF674
          have h675 : Rd (tSl tU8) s630 w642 (Value.slice A49 m51 cp50) (keysL (n0 % 6) o (psL (evs la) (k))) := (h635.step st643)
          have hi682 : q < (keysL (n0 % 6) o (psL (evs la) (k))).length := (by have hq := h675.ln; first | omega | (simp only [List.length_append, List.length_cons, List.length_nil, List.length_map] at *; omega))
          obtain ⟨b676, o677, c678, he679, hs680, hr681⟩ := (h675).at q hi682
          obtain ⟨o683, ho683⟩ : ∃ o, o = o677 + q * 1 := ⟨_, rfl⟩
          obtain ⟨v684, rfl, hr685⟩ := hr681
          obtain ⟨A686, m689, c687, rfl, hl688⟩ := hr685.formL
          have hbd690 : (((keysL (n0 % 6) o (psL (evs la) (k)))[q]'hi682)).length ≤ 140737488355328 := Nat.le_trans (Nat.le_mul_of_pos_right _ (by decide)) hr685.bd
          have hs680 : Seg s630 w642 b676 o683 [(Value.slice A686 m689 c687)] := by rw [ho683]; exact hs680
          refine p_val (d := 96) (op := (Op.indexAddr 29 (Operand.tmp 94) (Operand.tmp 95))) (v := (Value.pointer (some ⟨b676, o683, none⟩))) hF674 (by kernel_rfl) (by kernel_rfl) (fun w9 ⟨s9, hw9⟩ => (by rw [ho683]; exact exec_index (len := m51) (cap := cp50) he679 (by kernel_rfl) (kd := .i64) q (by kernel_rfl) (by have := h675.ln; omega) 1 U29 L27.s)) (fun _ _ _ h => h) ?_
          intro a691 hF692
          refine p_val (d := 97) (op := (Op.load 27 (Operand.tmp 96))) (v := (Value.slice A686 m689 c687)) hF692 (by kernel_rfl) (by kernel_rfl) (fun w9 ⟨s9, hw9⟩ => (exec_load L27 (.inr rfl) (by kernel_rfl) (hs680.step hw9).cell)) (fun _ _ _ h => h) ?_
          intro a693 hF694
          have hF695 := hF694.keep [97, 93, 8, 12, 85, 86] [(97, (Value.slice A686 m689 c687)), (93, (sv ((keysL (n0 % 6) o (psL (evs la) (k)))[q]'hi656))), (8, (Value.slice A49 m51 cp50)), (12, (Value.slice A614 m617 c615)), (85, (Value.int .i64 ((m617 : Nat) : Int))), (86, (Value.int .i64 ((q : Nat) : Int)))] (by kernel_rfl)
          refine p_val (d := 98) (op := (Op.convert 27 9 (Operand.tmp 97))) (v := (sv ((keysL (n0 % 6) o (psL (evs la) (k)))[q]'hi682))) hF695 (by kernel_rfl) (by kernel_rfl) (fun w9 ⟨s9, hw9⟩ => (exec_b2s U27 U5 U9 (by kernel_rfl) (hr685.step hw9))) (fun _ _ _ h => h) ?_
          intro a696 hF697
          refine p_run (d := 99) (v := (Value.bool (!((⟨(((keysL (n0 % 6) o (psL (evs la) (k)))[q]'hi656)).toArray⟩ : ByteArray).toList == (⟨(((keysL (n0 % 6) o (psL (evs la) (k)))[q]'hi682)).toArray⟩ : ByteArray).toList)))) hF697 (by kernel_rfl) (fun _ => by kernel_rfl) (fun _ _ _ h => h) ?_
          intro a698 hF699
          have hF700 := hF699.set 99 (Value.bool (!((⟨(((keysL (n0 % 6) o (psL (evs la) (k)))[q]'hi656)).toArray⟩ : ByteArray).toList == (⟨(((keysL (n0 % 6) o (psL (evs la) (k)))[q]'hi682)).toArray⟩ : ByteArray).toList))) (Value.bool false) (by kernel_rfl) (Eq.trans (congrArg Value.bool (str_neq _ _)) (congrArg Value.bool ((by simp) : (!decide (((keysL (n0 % 6) o (psL (evs la) (k)))[q]'hi656) = ((keysL (n0 % 6) o (psL (evs la) (k)))[q]'hi682))) = false)))
          refine p_end ?_
          have hF701 := hF700.keep [99, 8, 12, 85, 86] [(99, (Value.bool false)), (8, (Value.slice A49 m51 cp50)), (12, (Value.slice A614 m617 c615)), (85, (Value.int .i64 ((m617 : Nat) : Int))), (86, (Value.int .i64 ((q : Nat) : Int)))] (by kernel_rfl)
          refine c_cond_false [1, 1, 1, 1, 1, 1, 1, 0, 1, 0, 0, 1, 1, 0, 0, 1, 1, 0] [1, 1, 1, 1, 1, 1, 1, 0, 1, 0, 0, 1, 1, 0, 0, 1, 1, 1] 99 (by kernel_rfl) hF701 (by kernel_rfl) ?_
          refine c_skip (by kernel_rfl) ?_
          refine c_reg 28 (by kernel_rfl) ?_
          refine r_one (d := 100) (v0 := (Value.int .i64 (IntKind.i64.wrap (((q : Nat) : Int) + ((1 : Nat) : Int))))) (v := (Value.int .i64 ((q + 1 : Nat) : Int))) hF701 (by kernel_rfl) (by kernel_rfl) (congrArg (Value.int .i64) (i64_eq (by omega) (by omega) (by omega))) ?_
          intro a702 hF703
          refine r_runk 1 [86, 8, 12, 85] [(86, (Value.int .i64 ((q + 1 : Nat) : Int))), (8, (Value.slice A49 m51 cp50)), (12, (Value.slice A614 m617 c615)), (85, (Value.int .i64 ((m617 : Nat) : Int)))] hF703 (by kernel_rfl) (by kernel_rfl) ?_
          intro a704 hF705
          refine r_end (by kernel_rfl) ?_
          have hF706 := hF705.keep [8, 12, 85, 86] [(8, (Value.slice A49 m51 cp50)), (12, (Value.slice A614 m617 c615)), (85, (Value.int .i64 ((m617 : Nat) : Int))), (86, (Value.int .i64 ((q + 1 : Nat) : Int)))] (by kernel_rfl)
          exact ⟨q + 1, ⟨s630, hF706, hS644, h675, h649, (by omega)⟩, by omega⟩
        · skip
          have hc639 := of_decide_eq_false hc639
          refine c_exit 3 (by kernel_rfl) ?_
          refine c_seq [1, 1, 1, 1, 1, 1, 1, 1, 0] [1, 1, 1, 1, 1, 1, 1, 1, 1] (by kernel_rfl) ?_
          refine c_reg 29 (by kernel_rfl) ?_
          refine r_runk 1 [6] [(6, (Value.bool true))] hF638 (by kernel_rfl) (by kernel_rfl) ?_
          intro a707 hF708
          refine r_end (by kernel_rfl) ?_
          refine c_ret (by kernel_rfl) ?_
          try dsimp only [Exit.then, Exit.inBlock]
          refine f_ret1 hF708 6 (by kernel_rfl) (Value.bool true) (by kernel_rfl) s630 hS632 ?_
          rfl
end Go.Proofs.Ytaoamokfbhlaaaa.E
