/- Walks, printed by a program of this session. -/
import Derived.Test.YtaoamokfbhlaaaaK
import Derived.Test.Ytaoamokfbhlaaaapure21c
import Derived.Test.YtaoamokfbhlaaaaRk
set_option linter.unusedVariables false
set_option linter.unusedSimpArgs false
set_option maxRecDepth 100000
namespace Go.Proofs.Ytaoamokfbhlaaaa.E
open Go Go.RowKit
open Go.Proofs
theorem relayApart_calls (σ : Nat → Nat) (w : World) {v0 v1 : Value} {la lb : List Small} (h0 : Rd tSmall σ w v0 la) (h1 : Rd tSmall σ w v1 lb) :
    Ctr Try.prog 7 [v0, v1] noM σ w (fun σ' w' v => v = .bool true) := by
  obtain ⟨A0, c0, rfl, hlA0⟩ := h0.form
  have hbdA0 : la.length ≤ 140737488355328 := by have h := h0.bd; have e : tSmall.by_ = 5 := rfl; rw [e] at h; omega
  obtain ⟨A1, c1, rfl, hlA1⟩ := h1.form
  have hbdA1 : lb.length ≤ 140737488355328 := by have h := h1.bd; have e : tSmall.by_ = 5 := rfl; rw [e] at h; omega
  refine ctr_enter Try.func7 c7 (by kernel_rfl) 67 (by kernel_rfl) (Nat.le_of_ble_eq_true (by kernel_rfl)) [(0, (Value.slice A0 la.length c0)), (1, (Value.slice A1 lb.length c1))] (by kernel_rfl) ?_
  intro a hF1
  have hS2 := Stp.refl noM σ w
  refine c_seq [0] [1] (by kernel_rfl) ?_
  refine c_reg 0 (by kernel_rfl) ?_
  refine r_runk 1 [0, 1] [(0, (Value.slice A0 la.length c0)), (1, (Value.slice A1 lb.length c1))] hF1 (by kernel_rfl) (by kernel_rfl) ?_
  intro a3 hF4
  refine r_end (by kernel_rfl) ?_
  refine c_seq [1, 0] [1, 1] (by kernel_rfl) ?_
  refine c_seq [1, 0, 0] [1, 0, 1] (by kernel_rfl) ?_
  refine c_reg 1 (by kernel_rfl) ?_
  refine r_at (r_call (d := (some 14)) (f := 25) (args := #[]) (tys := #[]) hF4 (by kernel_rfl) (by kernel_rfl) C25 [] (by kernel_rfl) (awake_calls σ w ) ?_)
  intro a5 s6 w7 v8 st9 hP10 hF11
  have hz12 := hS2.size
  have hS13 := hS2.then st9
  subst hP10
  refine r_runk 1 [15, 0, 1] [(15, (Value.bool false)), (0, (Value.slice A0 la.length c0)), (1, (Value.slice A1 lb.length c1))] hF11 (by kernel_rfl) (by kernel_rfl) ?_
  intro a14 hF15
  refine r_end (by kernel_rfl) ?_
  refine c_cond_false [1, 0, 1, 0] [1, 0, 1, 1] 15 (by kernel_rfl) hF15 (by kernel_rfl) ?_
  refine c_skip (by kernel_rfl) ?_
  refine c_seq [1, 1, 0] [1, 1, 1] (by kernel_rfl) ?_
  refine c_reg 3 (by kernel_rfl) ?_
  refine r_runk 1 [16, 1] [(16, (Value.slice A0 la.length c0)), (1, (Value.slice A1 lb.length c1))] hF15 (by kernel_rfl) (by kernel_rfl) ?_
  intro a16 hF17
  have h18 : Rd tSmall s6 w7 (Value.slice A0 la.length c0) la := h0.step hS13
  refine r_at (r_call (d := (some 17)) (f := 26) (args := #[(Operand.tmp 16)]) (tys := #[40]) hF17 (by kernel_rfl) (by kernel_rfl) C26 [(Value.slice A0 la.length c0)] (by kernel_rfl) (events_calls s6 w7 h18) ?_)
  intro a19 s20 w21 v22 st23 hP24 hF25
  have hz26 := hS13.size
  have hS27 := hS13.then st23
  obtain ⟨A28, m31, c29, rfl, hl30⟩ := hP24.formL
  have hO32 : Own tEvent 60 w.heap.size s20 w21 (Value.slice A28 m31 c29) (evs la) := hP24.le (by omega)
  refine r_runk 1 [18, 17] [(18, (Value.slice A1 lb.length c1)), (17, (Value.slice A28 m31 c29))] hF25 (by kernel_rfl) (by kernel_rfl) ?_
  intro a34 hF35
  have h36 : Rd tSmall s20 w21 (Value.slice A1 lb.length c1) lb := h1.step hS27
  refine r_at (r_call (d := (some 19)) (f := 26) (args := #[(Operand.tmp 18)]) (tys := #[40]) hF35 (by kernel_rfl) (by kernel_rfl) C26 [(Value.slice A1 lb.length c1)] (by kernel_rfl) (events_calls s20 w21 h36) ?_)
  intro a37 s38 w39 v40 st41 hP42 hF43
  have hz44 := hS27.size
  have hS45 := hS27.then st41
  obtain ⟨A46, m49, c47, rfl, hl48⟩ := hP42.formL
  have hO50 : Own tEvent 60 w.heap.size s38 w39 (Value.slice A46 m49 c47) (evs lb) := hP42.le (by omega)
  refine r_runk 2 [6, 5] [(6, (Value.slice A46 m49 c47)), (5, (Value.slice A28 m31 c29))] hF43 (by kernel_rfl) (by kernel_rfl) ?_
  intro a52 hF53
  refine r_end (by kernel_rfl) ?_
  refine c_seq [1, 1, 1, 0] [1, 1, 1, 1] (by kernel_rfl) ?_
  refine c_reg 4 (by kernel_rfl) ?_
  refine r_runk 2 [21, 20, 6, 5] [(21, (Value.slice A46 m49 c47)), (20, (Value.slice A28 m31 c29)), (6, (Value.slice A46 m49 c47)), (5, (Value.slice A28 m31 c29))] hF53 (by kernel_rfl) (by kernel_rfl) ?_
  intro a54 hF55
  have h56 : Own tEvent 60 w.heap.size s38 w39 (Value.slice A28 m31 c29) (evs la) := (hO32.step' st41)
  refine r_at (r_call (d := (some 22)) (f := 30) (args := #[(Operand.tmp 20), (Operand.tmp 21), (Operand.const (Value.int IntKind.i64 0))]) (tys := #[41, 41, 3]) hF55 (by kernel_rfl) (by kernel_rfl) C30 [(Value.slice A28 m31 c29), (Value.slice A46 m49 c47), (Value.int .i64 ((0 : Nat) : Int))] (by kernel_rfl) (toReceive_calls s38 w39 h56.rd hO50.rd (evs_lenk _) ((0 : Nat) : Int)) ?_)
  intro a57 s58 w59 v60 st61 hP62 hF63
  have hz64 := hS45.size
  have hS65 := hS45.then st61
  have hP66 := hP62.rd
  obtain ⟨A67, m70, c68, rfl, hl69⟩ := hP66.formL
  have hbd71 : (toReceive (evs la) (evs lb) ((0 : Nat) : Int)).length ≤ 140737488355328 := Nat.le_trans (Nat.le_mul_of_pos_right _ (by decide)) hP66.bd
  refine r_runk 1 [7, 6, 5] [(7, (Value.slice A67 m70 c68)), (6, (Value.slice A46 m49 c47)), (5, (Value.slice A28 m31 c29))] hF63 (by kernel_rfl) (by kernel_rfl) ?_
  intro a72 hF73
  refine r_end (by kernel_rfl) ?_
  refine c_seq [1, 1, 1, 1, 0] [1, 1, 1, 1, 1] (by kernel_rfl) ?_
  refine c_reg 5 (by kernel_rfl) ?_
  refine r_runk 2 [25, 24, 7, 5] [(25, (Value.slice A46 m49 c47)), (24, (Value.slice A28 m31 c29)), (7, (Value.slice A67 m70 c68)), (5, (Value.slice A28 m31 c29))] hF73 (by kernel_rfl) (by kernel_rfl) ?_
  intro a74 hF75
  have h76 : Own tEvent 60 w.heap.size s58 w59 (Value.slice A28 m31 c29) (evs la) := (h56.step' st61)
  have h77 : Own tEvent 60 w.heap.size s58 w59 (Value.slice A46 m49 c47) (evs lb) := (hO50.step' st61)
  refine r_at (r_call (d := (some 26)) (f := 28) (args := #[(Operand.tmp 24), (Operand.tmp 25), (Operand.const (Value.int IntKind.i64 0))]) (tys := #[41, 41, 3]) hF75 (by kernel_rfl) (by kernel_rfl) C28 [(Value.slice A28 m31 c29), (Value.slice A46 m49 c47), (Value.int .i64 ((0 : Nat) : Int))] (by kernel_rfl) (toAnswer_calls s58 w59 h76.rd h77.rd (evs_lenk _) ((0 : Nat) : Int)) ?_)
  intro a78 s79 w80 v81 st82 hP83 hF84
  have hz85 := hS65.size
  have hS86 := hS65.then st82
  obtain ⟨v87, v88, rfl, hP89, hP90⟩ := hP83
  have hP91 := hP89.rd
  obtain ⟨A92, m95, c93, rfl, hl94⟩ := hP91.formL
  have hbd96 : (toAnswer (evs la) (evs lb) ((0 : Nat) : Int)).length ≤ 140737488355328 := Nat.le_trans (Nat.le_mul_of_pos_right _ (by decide)) hP91.bd
  have hP97 := hP90.rd
  obtain ⟨A98, m101, c99, rfl, hl100⟩ := hP97.formL
  have hbd102 : ((toAnswer (evs la) (evs lb) ((0 : Nat) : Int)).map (ackOf (evs lb))).length ≤ 140737488355328 := Nat.le_trans (Nat.le_mul_of_pos_right _ (by decide)) hP97.bd
  refine r_runk 5 [9, 8, 7, 5] [(9, (Value.slice A98 m101 c99)), (8, (Value.slice A92 m95 c93)), (7, (Value.slice A67 m70 c68)), (5, (Value.slice A28 m31 c29))] hF84 (by kernel_rfl) (by kernel_rfl) ?_
  intro a103 hF104
  refine r_end (by kernel_rfl) ?_
  refine c_seq [1, 1, 1, 1, 1, 0] [1, 1, 1, 1, 1, 1] (by kernel_rfl) ?_
  refine c_seq [1, 1, 1, 1, 1, 0, 0] [1, 1, 1, 1, 1, 0, 1] (by kernel_rfl) ?_
  refine c_reg 6 (by kernel_rfl) ?_
  refine r_runk 3 [31, 30, 29, 9, 8, 7, 5] [(31, (Value.int .i64 ((0 : Nat) : Int))), (30, (Value.int .i64 ((m70 : Nat) : Int))), (29, (Value.slice A67 m70 c68)), (9, (Value.slice A98 m101 c99)), (8, (Value.slice A92 m95 c93)), (7, (Value.slice A67 m70 c68)), (5, (Value.slice A28 m31 c29))] hF104 (by kernel_rfl) (by kernel_rfl) ?_
  intro a105 hF106
  refine r_end (by kernel_rfl) ?_
  refine c_block [1, 1, 1, 1, 1, 0, 1, 0] 0 (by kernel_rfl) ?_
  have h112 : Own tEvent 60 w.heap.size s79 w80 (Value.slice A28 m31 c29) (evs la) := (h76.step' st82)
  have h113 : Rd tPacket s79 w80 (Value.slice A67 m70 c68) (toReceive (evs la) (evs lb) ((0 : Nat) : Int)) := (hP66.step st82)
  refine c_loop [1, 1, 1, 1, 1, 0, 1, 0, 0] (by kernel_rfl) (fun (k : Nat) a107 w108 => ∃ (s109 : Nat → Nat), Fr a107 67 [(5, (Value.slice A28 m31 c29)), (7, (Value.slice A67 m70 c68)), (8, (Value.slice A92 m95 c93)), (9, (Value.slice A98 m101 c99)), (29, (Value.slice A67 m70 c68)), (30, (Value.int .i64 ((m70 : Nat) : Int))), (31, (Value.int .i64 ((k : Nat) : Int)))] ∧ Stp noM σ w s109 w108 ∧ Rd tEvent s109 w108 (Value.slice A28 m31 c29) (evs la) ∧ Rd tPacket s109 w108 (Value.slice A67 m70 c68) (toReceive (evs la) (evs lb) ((0 : Nat) : Int)) ∧ Rd tPacket s109 w108 (Value.slice A92 m95 c93) (toAnswer (evs la) (evs lb) ((0 : Nat) : Int)) ∧ Rd tAck s109 w108 (Value.slice A98 m101 c99) ((toAnswer (evs la) (evs lb) ((0 : Nat) : Int)).map (ackOf (evs lb))) ∧ k ≤ (toReceive (evs la) (evs lb) ((0 : Nat) : Int)).length) (fun k => (toReceive (evs la) (evs lb) ((0 : Nat) : Int)).length - k) 0 ?_ ?_
  · skip
    have hF114 := hF106.keep [5, 7, 8, 9, 29, 30, 31] [(5, (Value.slice A28 m31 c29)), (7, (Value.slice A67 m70 c68)), (8, (Value.slice A92 m95 c93)), (9, (Value.slice A98 m101 c99)), (29, (Value.slice A67 m70 c68)), (30, (Value.int .i64 ((m70 : Nat) : Int))), (31, (Value.int .i64 ((0 : Nat) : Int)))] (by kernel_rfl)
    exact ⟨s79, hF114, hS86, h112.rd, h113, hP91, hP97, (by omega)⟩
  · rintro k a107 w108 ⟨s109, hF110, hS111, h115, h116, h117, h118, hk⟩
    refine c_seq [1, 1, 1, 1, 1, 0, 1, 0, 0, 0] [1, 1, 1, 1, 1, 0, 1, 0, 0, 1] (by kernel_rfl) ?_
    refine c_reg 7 (by kernel_rfl) ?_
    refine r_one (d := 32) (v0 := (Value.bool (decide (((k : Nat) : Int) < ((m70 : Nat) : Int))))) (v := (Value.bool (decide ((k : Nat) < m70)))) hF110 (by kernel_rfl) (by kernel_rfl) (congrArg Value.bool (cmp_nat_lss _ _)) ?_
    intro a119 hF120
    refine r_end (by kernel_rfl) ?_
    refine c_seq [1, 1, 1, 1, 1, 0, 1, 0, 0, 1, 0] [1, 1, 1, 1, 1, 0, 1, 0, 0, 1, 1] (by kernel_rfl) ?_
    refine c_cond [1, 1, 1, 1, 1, 0, 1, 0, 0, 1, 0, 0] [1, 1, 1, 1, 1, 0, 1, 0, 0, 1, 0, 1] 32 (by kernel_rfl) hF120 (decide ((k : Nat) < m70)) (by kernel_rfl) (fun hc121 => ?_) (fun hc121 => ?_)
    · skip
      have hc121 := of_decide_eq_true hc121
      refine c_skip (by kernel_rfl) ?_
      refine c_seq [1, 1, 1, 1, 1, 0, 1, 0, 0, 1, 1, 0] [1, 1, 1, 1, 1, 0, 1, 0, 0, 1, 1, 1] (by kernel_rfl) ?_
      refine c_block [1, 1, 1, 1, 1, 0, 1, 0, 0, 1, 1, 0, 0] 1 (by kernel_rfl) ?_
      refine c_seq [1, 1, 1, 1, 1, 0, 1, 0, 0, 1, 1, 0, 0, 0] [1, 1, 1, 1, 1, 0, 1, 0, 0, 1, 1, 0, 0, 1] (by kernel_rfl) ?_
      refine c_reg 8 (by kernel_rfl) ?_
      have hi128 : k < (toReceive (evs la) (evs lb) ((0 : Nat) : Int)).length := (by have hq := h116.ln; first | omega | (simp only [List.length_append, List.length_cons, List.length_nil, List.length_map] at *; omega))
      obtain ⟨b122, o123, c124, he125, hs126, hr127⟩ := (h116).at k hi128
      obtain ⟨o129, ho129⟩ : ∃ o, o = o123 + k * 7 := ⟨_, rfl⟩
      obtain ⟨x130, hx131⟩ : ∃ x, x = ((toReceive (evs la) (evs lb) ((0 : Nat) : Int))[k]'hi128) := ⟨_, rfl⟩
      rw [← hx131] at hr127
      have hr127 : c124 = [(Value.int .i64 (x130.channel)), (uv x130.seq), (uv x130.timeout), (sv x130.denom), (uv x130.amount), (sv x130.src), (sv x130.dst)] := hr127
      subst hr127
      have hs126 : Seg s109 w108 b122 o129 [(Value.int .i64 (x130.channel)), (uv x130.seq), (uv x130.timeout), (sv x130.denom), (uv x130.amount), (sv x130.src), (sv x130.dst)] := by rw [ho129]; exact hs126
      refine r_at (r_val (d := 33) (op := (Op.indexAddr 43 (Operand.tmp 29) (Operand.tmp 31))) hF120 (by kernel_rfl) (by kernel_rfl) (Value.pointer (some ⟨b122, o129, none⟩)) w108 (by rw [ho129]; exact exec_index (len := m70) (cap := c68) he125 (by kernel_rfl) (kd := .i64) k (by kernel_rfl) (by have := h116.ln; omega) 7 U43 L56.s) ?_)
      intro a132 hF133
      refine r_at (r_val (d := 34) (op := (Op.load 56 (Operand.tmp 33))) hF133 (by kernel_rfl) (by kernel_rfl) (Value.agg #[(Value.int .i64 (x130.channel)), (uv x130.seq), (uv x130.timeout), (sv x130.denom), (uv x130.amount), (sv x130.src), (sv x130.dst)]) w108 (exec_load L56 (.inl rfl) (by kernel_rfl) hs126.cell) ?_)
      intro a134 hF135
      refine r_at (r_new (d := 11) (op := (Op.alloc 56)) hF135 (by kernel_rfl) (by kernel_rfl) s109 [(Value.int .i64 ((0 : Nat) : Int)), (uv 0), (uv 0), (sv []), (uv 0), (sv []), (sv [])] 56 (exec_alloc [(Value.int .i64 ((0 : Nat) : Int)), (uv 0), (uv 0), (sv []), (uv 0), (sv []), (sv [])] (fun _ => .inl (by kernel_rfl))) ?_)
      intro a136 s137 w138 b139 hb140 st141 hB142 hF143
      have hz144 := hS111.size
      have hS145 := hS111.then st141
      refine r_at (r_store (t := 56) (x := (Operand.tmp 11)) (y := (Operand.tmp 34)) hF143 (by kernel_rfl) (by kernel_rfl) hB142 0 [(Value.int .i64 (x130.channel)), (uv x130.seq), (uv x130.timeout), (sv x130.denom), (uv x130.amount), (sv x130.src), (sv x130.dst)] [(Value.int .i64 (x130.channel)), (uv x130.seq), (uv x130.timeout), (sv x130.denom), (uv x130.amount), (sv x130.src), (sv x130.dst)] (by kernel_rfl) (by kernel_rfl) 7 true L56 rfl (by kernel_rfl) (Nat.le_of_ble_eq_true (by kernel_rfl)) (by kernel_rfl) ?_)
      intro a146 w147 st148 hB149 hF150
      have hS151 := hS145.and st148 (fun b e => by subst e; omega)
      have hF152 := hF150.keep [11, 5, 7, 8, 9, 29, 30, 31] [(11, (Value.pointer (some ⟨b139, 0, none⟩))), (5, (Value.slice A28 m31 c29)), (7, (Value.slice A67 m70 c68)), (8, (Value.slice A92 m95 c93)), (9, (Value.slice A98 m101 c99)), (29, (Value.slice A67 m70 c68)), (30, (Value.int .i64 ((m70 : Nat) : Int))), (31, (Value.int .i64 ((k : Nat) : Int)))] (by kernel_rfl)
      refine r_end (by kernel_rfl) ?_
      refine c_seq [1, 1, 1, 1, 1, 0, 1, 0, 0, 1, 1, 0, 0, 1, 0] [1, 1, 1, 1, 1, 0, 1, 0, 0, 1, 1, 0, 0, 1, 1] (by kernel_rfl) ?_
      refine c_reg 9 (by kernel_rfl) ?_
      refine r_runk 1 [35, 11, 5, 7, 8, 9, 29, 30, 31] [(35, (Value.slice A92 m95 c93)), (11, (Value.pointer (some ⟨b139, 0, none⟩))), (5, (Value.slice A28 m31 c29)), (7, (Value.slice A67 m70 c68)), (8, (Value.slice A92 m95 c93)), (9, (Value.slice A98 m101 c99)), (29, (Value.slice A67 m70 c68)), (30, (Value.int .i64 ((m70 : Nat) : Int))), (31, (Value.int .i64 ((k : Nat) : Int)))] hF152 (by kernel_rfl) (by kernel_rfl) ?_
      intro a153 hF154
      refine r_at (r_val (d := 36) (op := (Op.load 56 (Operand.tmp 11))) hF154 (by kernel_rfl) (by kernel_rfl) (Value.agg #[(Value.int .i64 (x130.channel)), (uv x130.seq), (uv x130.timeout), (sv x130.denom), (uv x130.amount), (sv x130.src), (sv x130.dst)]) w147 (exec_load L56 (.inl rfl) (by kernel_rfl) (Bx.cells hB149 0 7 [(Value.int .i64 (x130.channel)), (uv x130.seq), (uv x130.timeout), (sv x130.denom), (uv x130.amount), (sv x130.src), (sv x130.dst)] (by kernel_rfl))) ?_)
      intro a155 hF156
      have h157 : Rd tPacket s137 w147 (Value.slice A92 m95 c93) (toAnswer (evs la) (evs lb) ((0 : Nat) : Int)) := ((h117.step st141).step st148)
      refine r_at (r_call (d := (some 37)) (f := 32) (args := #[(Operand.tmp 35), (Operand.tmp 36)]) (tys := #[43, 56]) hF156 (by kernel_rfl) (by kernel_rfl) C32 [(Value.slice A92 m95 c93), (Value.agg #[(Value.int .i64 (x130.channel)), (uv x130.seq), (uv x130.timeout), (sv x130.denom), (uv x130.amount), (sv x130.src), (sv x130.dst)])] (by kernel_rfl) (in_calls s137 w147 h157 x130) ?_)
      intro a158 s159 w160 v161 st162 hP163 hF164
      have hz165 := hS151.size
      have hS166 := hS151.then st162
      subst hP163
      have hF167 := hF164.set 37 (Value.bool (inL (toAnswer (evs la) (evs lb) ((0 : Nat) : Int)) x130)) (Value.bool false) (by kernel_rfl) (congrArg Value.bool ((by subst hx131; exact apart_at (by omega)) : (inL (toAnswer (evs la) (evs lb) ((0 : Nat) : Int)) x130) = false))
      have hF168 := hF167.keep [37, 5, 7, 8, 9, 29, 30, 31] [(37, (Value.bool false)), (5, (Value.slice A28 m31 c29)), (7, (Value.slice A67 m70 c68)), (8, (Value.slice A92 m95 c93)), (9, (Value.slice A98 m101 c99)), (29, (Value.slice A67 m70 c68)), (30, (Value.int .i64 ((m70 : Nat) : Int))), (31, (Value.int .i64 ((k : Nat) : Int)))] (by kernel_rfl)
      refine r_end (by kernel_rfl) ?_
      refine c_cond_false [1, 1, 1, 1, 1, 0, 1, 0, 0, 1, 1, 0, 0, 1, 1, 0] [1, 1, 1, 1, 1, 0, 1, 0, 0, 1, 1, 0, 0, 1, 1, 1] 37 (by kernel_rfl) hF168 (by kernel_rfl) ?_
      refine c_skip (by kernel_rfl) ?_
      refine c_reg 11 (by kernel_rfl) ?_
      refine r_one (d := 38) (v0 := (Value.int .i64 (IntKind.i64.wrap (((k : Nat) : Int) + ((1 : Nat) : Int))))) (v := (Value.int .i64 ((k + 1 : Nat) : Int))) hF168 (by kernel_rfl) (by kernel_rfl) (congrArg (Value.int .i64) (i64_eq (by omega) (by omega) (by omega))) ?_
      intro a169 hF170
      refine r_runk 1 [31, 5, 7, 8, 9, 29, 30] [(31, (Value.int .i64 ((k + 1 : Nat) : Int))), (5, (Value.slice A28 m31 c29)), (7, (Value.slice A67 m70 c68)), (8, (Value.slice A92 m95 c93)), (9, (Value.slice A98 m101 c99)), (29, (Value.slice A67 m70 c68)), (30, (Value.int .i64 ((m70 : Nat) : Int)))] hF170 (by kernel_rfl) (by kernel_rfl) ?_
      intro a171 hF172
      refine r_end (by kernel_rfl) ?_
      have h173 : Rd tEvent s159 w160 (Value.slice A28 m31 c29) (evs la) := (((h115.step st141).step st148).step st162)
      have h174 : Rd tPacket s159 w160 (Value.slice A67 m70 c68) (toReceive (evs la) (evs lb) ((0 : Nat) : Int)) := (((h116.step st141).step st148).step st162)
      have h175 : Rd tPacket s159 w160 (Value.slice A92 m95 c93) (toAnswer (evs la) (evs lb) ((0 : Nat) : Int)) := (h157.step st162)
      have h176 : Rd tAck s159 w160 (Value.slice A98 m101 c99) ((toAnswer (evs la) (evs lb) ((0 : Nat) : Int)).map (ackOf (evs lb))) := (((h118.step st141).step st148).step st162)
      have hF177 := hF172.keep [5, 7, 8, 9, 29, 30, 31] [(5, (Value.slice A28 m31 c29)), (7, (Value.slice A67 m70 c68)), (8, (Value.slice A92 m95 c93)), (9, (Value.slice A98 m101 c99)), (29, (Value.slice A67 m70 c68)), (30, (Value.int .i64 ((m70 : Nat) : Int))), (31, (Value.int .i64 ((k + 1 : Nat) : Int)))] (by kernel_rfl)
      exact ⟨k + 1, ⟨s159, hF177, hS166, h173, h174, h175, h176, (by omega)⟩, by omega⟩
    · skip
      have hc121 := of_decide_eq_false hc121
      refine c_exit 0 (by kernel_rfl) ?_
      refine c_seq [1, 1, 1, 1, 1, 1, 0] [1, 1, 1, 1, 1, 1, 1] (by kernel_rfl) ?_
      refine c_seq [1, 1, 1, 1, 1, 1, 0, 0] [1, 1, 1, 1, 1, 1, 0, 1] (by kernel_rfl) ?_
      refine c_reg 12 (by kernel_rfl) ?_
      refine r_runk 1 [39, 7, 8, 9] [(39, (Value.slice A28 m31 c29)), (7, (Value.slice A67 m70 c68)), (8, (Value.slice A92 m95 c93)), (9, (Value.slice A98 m101 c99))] hF120 (by kernel_rfl) (by kernel_rfl) ?_
      intro a178 hF179
      refine r_at (r_call (d := (some 40)) (f := 31) (args := #[(Operand.tmp 39), (Operand.const (Value.int IntKind.i64 0))]) (tys := #[41, 3]) hF179 (by kernel_rfl) (by kernel_rfl) C31 [(Value.slice A28 m31 c29), (Value.int .i64 ((0 : Nat) : Int))] (by kernel_rfl) (toTimeout_calls s109 w108 h115 (evs_lenk _) ((0 : Nat) : Int)) ?_)
      intro a180 s181 w182 v183 st184 hP185 hF186
      have hz187 := hS111.size
      have hS188 := hS111.then st184
      have hP189 := hP185.rd
      obtain ⟨A190, m193, c191, rfl, hl192⟩ := hP189.formL
      have hbd194 : (toTimeout (evs la) ((0 : Nat) : Int)).length ≤ 140737488355328 := Nat.le_trans (Nat.le_mul_of_pos_right _ (by decide)) hP189.bd
      refine r_runk 2 [42, 41, 40, 7, 8, 9] [(42, (Value.int .i64 ((0 : Nat) : Int))), (41, (Value.int .i64 ((m193 : Nat) : Int))), (40, (Value.slice A190 m193 c191)), (7, (Value.slice A67 m70 c68)), (8, (Value.slice A92 m95 c93)), (9, (Value.slice A98 m101 c99))] hF186 (by kernel_rfl) (by kernel_rfl) ?_
      intro a195 hF196
      refine r_end (by kernel_rfl) ?_
      refine c_block [1, 1, 1, 1, 1, 1, 0, 1, 0] 2 (by kernel_rfl) ?_
      have h202 : Rd tPacket s181 w182 (Value.slice A67 m70 c68) (toReceive (evs la) (evs lb) ((0 : Nat) : Int)) := (h116.step st184)
      have h203 : Rd tPacket s181 w182 (Value.slice A92 m95 c93) (toAnswer (evs la) (evs lb) ((0 : Nat) : Int)) := (h117.step st184)
      have h204 : Rd tAck s181 w182 (Value.slice A98 m101 c99) ((toAnswer (evs la) (evs lb) ((0 : Nat) : Int)).map (ackOf (evs lb))) := (h118.step st184)
      refine c_loop [1, 1, 1, 1, 1, 1, 0, 1, 0, 0] (by kernel_rfl) (fun (k : Nat) a197 w198 => ∃ (s199 : Nat → Nat), Fr a197 67 [(7, (Value.slice A67 m70 c68)), (8, (Value.slice A92 m95 c93)), (9, (Value.slice A98 m101 c99)), (40, (Value.slice A190 m193 c191)), (41, (Value.int .i64 ((m193 : Nat) : Int))), (42, (Value.int .i64 ((k : Nat) : Int)))] ∧ Stp noM σ w s199 w198 ∧ Rd tPacket s199 w198 (Value.slice A67 m70 c68) (toReceive (evs la) (evs lb) ((0 : Nat) : Int)) ∧ Rd tPacket s199 w198 (Value.slice A92 m95 c93) (toAnswer (evs la) (evs lb) ((0 : Nat) : Int)) ∧ Rd tAck s199 w198 (Value.slice A98 m101 c99) ((toAnswer (evs la) (evs lb) ((0 : Nat) : Int)).map (ackOf (evs lb))) ∧ Rd tPacket s199 w198 (Value.slice A190 m193 c191) (toTimeout (evs la) ((0 : Nat) : Int)) ∧ k ≤ (toTimeout (evs la) ((0 : Nat) : Int)).length) (fun k => (toTimeout (evs la) ((0 : Nat) : Int)).length - k) 0 ?_ ?_
      · skip
        have hF205 := hF196.keep [7, 8, 9, 40, 41, 42] [(7, (Value.slice A67 m70 c68)), (8, (Value.slice A92 m95 c93)), (9, (Value.slice A98 m101 c99)), (40, (Value.slice A190 m193 c191)), (41, (Value.int .i64 ((m193 : Nat) : Int))), (42, (Value.int .i64 ((0 : Nat) : Int)))] (by kernel_rfl)
        exact ⟨s181, hF205, hS188, h202, h203, h204, hP189, (by omega)⟩
      · rintro k a197 w198 ⟨s199, hF200, hS201, h206, h207, h208, h209, hk⟩
        refine c_seq [1, 1, 1, 1, 1, 1, 0, 1, 0, 0, 0] [1, 1, 1, 1, 1, 1, 0, 1, 0, 0, 1] (by kernel_rfl) ?_
        refine c_reg 13 (by kernel_rfl) ?_
        refine r_one (d := 43) (v0 := (Value.bool (decide (((k : Nat) : Int) < ((m193 : Nat) : Int))))) (v := (Value.bool (decide ((k : Nat) < m193)))) hF200 (by kernel_rfl) (by kernel_rfl) (congrArg Value.bool (cmp_nat_lss _ _)) ?_
        intro a210 hF211
        refine r_end (by kernel_rfl) ?_
        refine c_seq [1, 1, 1, 1, 1, 1, 0, 1, 0, 0, 1, 0] [1, 1, 1, 1, 1, 1, 0, 1, 0, 0, 1, 1] (by kernel_rfl) ?_
        refine c_cond [1, 1, 1, 1, 1, 1, 0, 1, 0, 0, 1, 0, 0] [1, 1, 1, 1, 1, 1, 0, 1, 0, 0, 1, 0, 1] 43 (by kernel_rfl) hF211 (decide ((k : Nat) < m193)) (by kernel_rfl) (fun hc212 => ?_) (fun hc212 => ?_)
        · skip
          have hc212 := of_decide_eq_true hc212
          refine c_skip (by kernel_rfl) ?_
          refine c_seq [1, 1, 1, 1, 1, 1, 0, 1, 0, 0, 1, 1, 0] [1, 1, 1, 1, 1, 1, 0, 1, 0, 0, 1, 1, 1] (by kernel_rfl) ?_
          refine c_block [1, 1, 1, 1, 1, 1, 0, 1, 0, 0, 1, 1, 0, 0] 3 (by kernel_rfl) ?_
          refine c_seq [1, 1, 1, 1, 1, 1, 0, 1, 0, 0, 1, 1, 0, 0, 0] [1, 1, 1, 1, 1, 1, 0, 1, 0, 0, 1, 1, 0, 0, 1] (by kernel_rfl) ?_
          refine c_reg 14 (by kernel_rfl) ?_
          have hi219 : k < (toTimeout (evs la) ((0 : Nat) : Int)).length := (by have hq := h209.ln; first | omega | (simp only [List.length_append, List.length_cons, List.length_nil, List.length_map] at *; omega))
          obtain ⟨b213, o214, c215, he216, hs217, hr218⟩ := (h209).at k hi219
          obtain ⟨o220, ho220⟩ : ∃ o, o = o214 + k * 7 := ⟨_, rfl⟩
          obtain ⟨x221, hx222⟩ : ∃ x, x = ((toTimeout (evs la) ((0 : Nat) : Int))[k]'hi219) := ⟨_, rfl⟩
          rw [← hx222] at hr218
          have hr218 : c215 = [(Value.int .i64 (x221.channel)), (uv x221.seq), (uv x221.timeout), (sv x221.denom), (uv x221.amount), (sv x221.src), (sv x221.dst)] := hr218
          subst hr218
          have hs217 : Seg s199 w198 b213 o220 [(Value.int .i64 (x221.channel)), (uv x221.seq), (uv x221.timeout), (sv x221.denom), (uv x221.amount), (sv x221.src), (sv x221.dst)] := by rw [ho220]; exact hs217
          refine r_at (r_val (d := 44) (op := (Op.indexAddr 43 (Operand.tmp 40) (Operand.tmp 42))) hF211 (by kernel_rfl) (by kernel_rfl) (Value.pointer (some ⟨b213, o220, none⟩)) w198 (by rw [ho220]; exact exec_index (len := m193) (cap := c191) he216 (by kernel_rfl) (kd := .i64) k (by kernel_rfl) (by have := h209.ln; omega) 7 U43 L56.s) ?_)
          intro a223 hF224
          refine r_at (r_val (d := 45) (op := (Op.load 56 (Operand.tmp 44))) hF224 (by kernel_rfl) (by kernel_rfl) (Value.agg #[(Value.int .i64 (x221.channel)), (uv x221.seq), (uv x221.timeout), (sv x221.denom), (uv x221.amount), (sv x221.src), (sv x221.dst)]) w198 (exec_load L56 (.inl rfl) (by kernel_rfl) hs217.cell) ?_)
          intro a225 hF226
          refine r_at (r_new (d := 13) (op := (Op.alloc 56)) hF226 (by kernel_rfl) (by kernel_rfl) s199 [(Value.int .i64 ((0 : Nat) : Int)), (uv 0), (uv 0), (sv []), (uv 0), (sv []), (sv [])] 56 (exec_alloc [(Value.int .i64 ((0 : Nat) : Int)), (uv 0), (uv 0), (sv []), (uv 0), (sv []), (sv [])] (fun _ => .inl (by kernel_rfl))) ?_)
          intro a227 s228 w229 b230 hb231 st232 hB233 hF234
          have hz235 := hS201.size
          have hS236 := hS201.then st232
          refine r_at (r_store (t := 56) (x := (Operand.tmp 13)) (y := (Operand.tmp 45)) hF234 (by kernel_rfl) (by kernel_rfl) hB233 0 [(Value.int .i64 (x221.channel)), (uv x221.seq), (uv x221.timeout), (sv x221.denom), (uv x221.amount), (sv x221.src), (sv x221.dst)] [(Value.int .i64 (x221.channel)), (uv x221.seq), (uv x221.timeout), (sv x221.denom), (uv x221.amount), (sv x221.src), (sv x221.dst)] (by kernel_rfl) (by kernel_rfl) 7 true L56 rfl (by kernel_rfl) (Nat.le_of_ble_eq_true (by kernel_rfl)) (by kernel_rfl) ?_)
          intro a237 w238 st239 hB240 hF241
          have hS242 := hS236.and st239 (fun b e => by subst e; omega)
          have hF243 := hF241.keep [13, 7, 8, 9, 40, 41, 42] [(13, (Value.pointer (some ⟨b230, 0, none⟩))), (7, (Value.slice A67 m70 c68)), (8, (Value.slice A92 m95 c93)), (9, (Value.slice A98 m101 c99)), (40, (Value.slice A190 m193 c191)), (41, (Value.int .i64 ((m193 : Nat) : Int))), (42, (Value.int .i64 ((k : Nat) : Int)))] (by kernel_rfl)
          refine r_end (by kernel_rfl) ?_
          refine c_seq [1, 1, 1, 1, 1, 1, 0, 1, 0, 0, 1, 1, 0, 0, 1, 0] [1, 1, 1, 1, 1, 1, 0, 1, 0, 0, 1, 1, 0, 0, 1, 1] (by kernel_rfl) ?_
          refine c_reg 15 (by kernel_rfl) ?_
          refine r_runk 1 [46, 13, 7, 8, 9, 40, 41, 42] [(46, (Value.pointer (some ⟨b230, 2, none⟩))), (13, (Value.pointer (some ⟨b230, 0, none⟩))), (7, (Value.slice A67 m70 c68)), (8, (Value.slice A92 m95 c93)), (9, (Value.slice A98 m101 c99)), (40, (Value.slice A190 m193 c191)), (41, (Value.int .i64 ((m193 : Nat) : Int))), (42, (Value.int .i64 ((k : Nat) : Int)))] hF243 (by kernel_rfl) (by kernel_rfl) ?_
          intro a244 hF245
          refine r_at (r_val (d := 47) (op := (Op.load 22 (Operand.tmp 46))) hF245 (by kernel_rfl) (by kernel_rfl) (uv x221.timeout) w238 (exec_load L22 (.inr rfl) (by kernel_rfl) (Bx.cells hB240 2 1 [(uv x221.timeout)] (by kernel_rfl))) ?_)
          intro a246 hF247
          refine r_one (d := 48) (v0 := (Value.bool (((x221.timeout).toNat : Int) == ((0 : UInt64).toNat : Int)))) (v := (Value.bool false)) hF247 (by kernel_rfl) (by kernel_rfl) (Eq.trans (congrArg Value.bool (cmp_u64_eql _ _)) (congrArg Value.bool ((by subst hx222; exact late_at (by omega)) : decide ((x221.timeout : UInt64) = 0) = false))) ?_
          intro a248 hF249
          refine r_runk 2 [50, 49, 13, 7, 8, 9, 40, 41, 42] [(50, (Value.slice A67 m70 c68)), (49, (Value.bool false)), (13, (Value.pointer (some ⟨b230, 0, none⟩))), (7, (Value.slice A67 m70 c68)), (8, (Value.slice A92 m95 c93)), (9, (Value.slice A98 m101 c99)), (40, (Value.slice A190 m193 c191)), (41, (Value.int .i64 ((m193 : Nat) : Int))), (42, (Value.int .i64 ((k : Nat) : Int)))] hF249 (by kernel_rfl) (by kernel_rfl) ?_
          intro a250 hF251
          refine r_at (r_val (d := 51) (op := (Op.load 56 (Operand.tmp 13))) hF251 (by kernel_rfl) (by kernel_rfl) (Value.agg #[(Value.int .i64 (x221.channel)), (uv x221.seq), (uv x221.timeout), (sv x221.denom), (uv x221.amount), (sv x221.src), (sv x221.dst)]) w238 (exec_load L56 (.inl rfl) (by kernel_rfl) (Bx.cells hB240 0 7 [(Value.int .i64 (x221.channel)), (uv x221.seq), (uv x221.timeout), (sv x221.denom), (uv x221.amount), (sv x221.src), (sv x221.dst)] (by kernel_rfl))) ?_)
          intro a252 hF253
          have h254 : Rd tPacket s228 w238 (Value.slice A67 m70 c68) (toReceive (evs la) (evs lb) ((0 : Nat) : Int)) := ((h206.step st232).step st239)
          refine r_at (r_call (d := (some 52)) (f := 32) (args := #[(Operand.tmp 50), (Operand.tmp 51)]) (tys := #[43, 56]) hF253 (by kernel_rfl) (by kernel_rfl) C32 [(Value.slice A67 m70 c68), (Value.agg #[(Value.int .i64 (x221.channel)), (uv x221.seq), (uv x221.timeout), (sv x221.denom), (uv x221.amount), (sv x221.src), (sv x221.dst)])] (by kernel_rfl) (in_calls s228 w238 h254 x221) ?_)
          intro a255 s256 w257 v258 st259 hP260 hF261
          have hz262 := hS242.size
          have hS263 := hS242.then st259
          subst hP260
          refine r_runk 2 [54, 49, 13, 7, 8, 9, 40, 41, 42] [(54, (Value.bool (!(inL (toReceive (evs la) (evs lb) ((0 : Nat) : Int)) x221)))), (49, (Value.bool false)), (13, (Value.pointer (some ⟨b230, 0, none⟩))), (7, (Value.slice A67 m70 c68)), (8, (Value.slice A92 m95 c93)), (9, (Value.slice A98 m101 c99)), (40, (Value.slice A190 m193 c191)), (41, (Value.int .i64 ((m193 : Nat) : Int))), (42, (Value.int .i64 ((k : Nat) : Int)))] hF261 (by kernel_rfl) (by kernel_rfl) ?_
          intro a264 hF265
          rcases Bool.eq_false_or_eq_true (!(inL (toReceive (evs la) (evs lb) ((0 : Nat) : Int)) x221)) with hg266 | hg266
          · skip
            have hF267 := hF265.set 54 (Value.bool (!(inL (toReceive (evs la) (evs lb) ((0 : Nat) : Int)) x221))) (Value.bool true) (by kernel_rfl) (congrArg Value.bool hg266)
            refine r_runk 1 [55, 54, 49, 13, 7, 8, 9, 40, 41, 42] [(55, (Value.slice A92 m95 c93)), (54, (Value.bool true)), (49, (Value.bool false)), (13, (Value.pointer (some ⟨b230, 0, none⟩))), (7, (Value.slice A67 m70 c68)), (8, (Value.slice A92 m95 c93)), (9, (Value.slice A98 m101 c99)), (40, (Value.slice A190 m193 c191)), (41, (Value.int .i64 ((m193 : Nat) : Int))), (42, (Value.int .i64 ((k : Nat) : Int)))] hF267 (by kernel_rfl) (by kernel_rfl) ?_
            intro a268 hF269
            have h270 : Bx s256 w257 b230 [(Value.int .i64 (x221.channel)), (uv x221.seq), (uv x221.timeout), (sv x221.denom), (uv x221.amount), (sv x221.src), (sv x221.dst)] 56 := (hB240.step' st259)
            refine r_at (r_val (d := 56) (op := (Op.load 56 (Operand.tmp 13))) hF269 (by kernel_rfl) (by kernel_rfl) (Value.agg #[(Value.int .i64 (x221.channel)), (uv x221.seq), (uv x221.timeout), (sv x221.denom), (uv x221.amount), (sv x221.src), (sv x221.dst)]) w257 (exec_load L56 (.inl rfl) (by kernel_rfl) (Bx.cells h270 0 7 [(Value.int .i64 (x221.channel)), (uv x221.seq), (uv x221.timeout), (sv x221.denom), (uv x221.amount), (sv x221.src), (sv x221.dst)] (by kernel_rfl))) ?_)
            intro a271 hF272
            have h273 : Rd tPacket s256 w257 (Value.slice A92 m95 c93) (toAnswer (evs la) (evs lb) ((0 : Nat) : Int)) := (((h207.step st232).step st239).step st259)
            refine r_at (r_call (d := (some 57)) (f := 32) (args := #[(Operand.tmp 55), (Operand.tmp 56)]) (tys := #[43, 56]) hF272 (by kernel_rfl) (by kernel_rfl) C32 [(Value.slice A92 m95 c93), (Value.agg #[(Value.int .i64 (x221.channel)), (uv x221.seq), (uv x221.timeout), (sv x221.denom), (uv x221.amount), (sv x221.src), (sv x221.dst)])] (by kernel_rfl) (in_calls s256 w257 h273 x221) ?_)
            intro a274 s275 w276 v277 st278 hP279 hF280
            have hz281 := hS263.size
            have hS282 := hS263.then st278
            subst hP279
            have hF283 := hF280.set 57 (Value.bool (inL (toAnswer (evs la) (evs lb) ((0 : Nat) : Int)) x221)) (Value.bool true) (by kernel_rfl) (congrArg Value.bool ((by subst hx222; exact either_at (by omega) (by simpa using hg266)) : (inL (toAnswer (evs la) (evs lb) ((0 : Nat) : Int)) x221) = true))
            refine r_runk 3 [60, 7, 8, 9, 40, 41, 42] [(60, (Value.bool false)), (7, (Value.slice A67 m70 c68)), (8, (Value.slice A92 m95 c93)), (9, (Value.slice A98 m101 c99)), (40, (Value.slice A190 m193 c191)), (41, (Value.int .i64 ((m193 : Nat) : Int))), (42, (Value.int .i64 ((k : Nat) : Int)))] hF283 (by kernel_rfl) (by kernel_rfl) ?_
            intro a284 hF285
            refine r_end (by kernel_rfl) ?_
            refine c_cond_false [1, 1, 1, 1, 1, 1, 0, 1, 0, 0, 1, 1, 0, 0, 1, 1, 0] [1, 1, 1, 1, 1, 1, 0, 1, 0, 0, 1, 1, 0, 0, 1, 1, 1] 60 (by kernel_rfl) hF285 (by kernel_rfl) ?_
            refine c_skip (by kernel_rfl) ?_
            refine c_reg 17 (by kernel_rfl) ?_
            refine r_one (d := 61) (v0 := (Value.int .i64 (IntKind.i64.wrap (((k : Nat) : Int) + ((1 : Nat) : Int))))) (v := (Value.int .i64 ((k + 1 : Nat) : Int))) hF285 (by kernel_rfl) (by kernel_rfl) (congrArg (Value.int .i64) (i64_eq (by omega) (by omega) (by omega))) ?_
            intro a286 hF287
            refine r_runk 1 [42, 7, 8, 9, 40, 41] [(42, (Value.int .i64 ((k + 1 : Nat) : Int))), (7, (Value.slice A67 m70 c68)), (8, (Value.slice A92 m95 c93)), (9, (Value.slice A98 m101 c99)), (40, (Value.slice A190 m193 c191)), (41, (Value.int .i64 ((m193 : Nat) : Int)))] hF287 (by kernel_rfl) (by kernel_rfl) ?_
            intro a288 hF289
            refine r_end (by kernel_rfl) ?_
            have h290 : Rd tPacket s275 w276 (Value.slice A67 m70 c68) (toReceive (evs la) (evs lb) ((0 : Nat) : Int)) := ((h254.step st259).step st278)
            have h291 : Rd tPacket s275 w276 (Value.slice A92 m95 c93) (toAnswer (evs la) (evs lb) ((0 : Nat) : Int)) := (h273.step st278)
            have h292 : Rd tAck s275 w276 (Value.slice A98 m101 c99) ((toAnswer (evs la) (evs lb) ((0 : Nat) : Int)).map (ackOf (evs lb))) := ((((h208.step st232).step st239).step st259).step st278)
            have h293 : Rd tPacket s275 w276 (Value.slice A190 m193 c191) (toTimeout (evs la) ((0 : Nat) : Int)) := ((((h209.step st232).step st239).step st259).step st278)
            have hF294 := hF289.keep [7, 8, 9, 40, 41, 42] [(7, (Value.slice A67 m70 c68)), (8, (Value.slice A92 m95 c93)), (9, (Value.slice A98 m101 c99)), (40, (Value.slice A190 m193 c191)), (41, (Value.int .i64 ((m193 : Nat) : Int))), (42, (Value.int .i64 ((k + 1 : Nat) : Int)))] (by kernel_rfl)
            exact ⟨k + 1, ⟨s275, hF294, hS282, h290, h291, h292, h293, (by omega)⟩, by omega⟩
          · skip
            have hF295 := hF265.set 54 (Value.bool (!(inL (toReceive (evs la) (evs lb) ((0 : Nat) : Int)) x221))) (Value.bool false) (by kernel_rfl) (congrArg Value.bool hg266)
            refine r_runk 6 [60, 7, 8, 9, 40, 41, 42] [(60, (Value.bool false)), (7, (Value.slice A67 m70 c68)), (8, (Value.slice A92 m95 c93)), (9, (Value.slice A98 m101 c99)), (40, (Value.slice A190 m193 c191)), (41, (Value.int .i64 ((m193 : Nat) : Int))), (42, (Value.int .i64 ((k : Nat) : Int)))] hF295 (by kernel_rfl) (by kernel_rfl) ?_
            intro a296 hF297
            refine r_end (by kernel_rfl) ?_
            refine c_cond_false [1, 1, 1, 1, 1, 1, 0, 1, 0, 0, 1, 1, 0, 0, 1, 1, 0] [1, 1, 1, 1, 1, 1, 0, 1, 0, 0, 1, 1, 0, 0, 1, 1, 1] 60 (by kernel_rfl) hF297 (by kernel_rfl) ?_
            refine c_skip (by kernel_rfl) ?_
            refine c_reg 17 (by kernel_rfl) ?_
            refine r_one (d := 61) (v0 := (Value.int .i64 (IntKind.i64.wrap (((k : Nat) : Int) + ((1 : Nat) : Int))))) (v := (Value.int .i64 ((k + 1 : Nat) : Int))) hF297 (by kernel_rfl) (by kernel_rfl) (congrArg (Value.int .i64) (i64_eq (by omega) (by omega) (by omega))) ?_
            intro a298 hF299
            refine r_runk 1 [42, 7, 8, 9, 40, 41] [(42, (Value.int .i64 ((k + 1 : Nat) : Int))), (7, (Value.slice A67 m70 c68)), (8, (Value.slice A92 m95 c93)), (9, (Value.slice A98 m101 c99)), (40, (Value.slice A190 m193 c191)), (41, (Value.int .i64 ((m193 : Nat) : Int)))] hF299 (by kernel_rfl) (by kernel_rfl) ?_
            intro a300 hF301
            refine r_end (by kernel_rfl) ?_
            have h302 : Rd tPacket s256 w257 (Value.slice A67 m70 c68) (toReceive (evs la) (evs lb) ((0 : Nat) : Int)) := (h254.step st259)
            have h303 : Rd tPacket s256 w257 (Value.slice A92 m95 c93) (toAnswer (evs la) (evs lb) ((0 : Nat) : Int)) := (((h207.step st232).step st239).step st259)
            have h304 : Rd tAck s256 w257 (Value.slice A98 m101 c99) ((toAnswer (evs la) (evs lb) ((0 : Nat) : Int)).map (ackOf (evs lb))) := (((h208.step st232).step st239).step st259)
            have h305 : Rd tPacket s256 w257 (Value.slice A190 m193 c191) (toTimeout (evs la) ((0 : Nat) : Int)) := (((h209.step st232).step st239).step st259)
            have hF306 := hF301.keep [7, 8, 9, 40, 41, 42] [(7, (Value.slice A67 m70 c68)), (8, (Value.slice A92 m95 c93)), (9, (Value.slice A98 m101 c99)), (40, (Value.slice A190 m193 c191)), (41, (Value.int .i64 ((m193 : Nat) : Int))), (42, (Value.int .i64 ((k + 1 : Nat) : Int)))] (by kernel_rfl)
            exact ⟨k + 1, ⟨s256, hF306, hS263, h302, h303, h304, h305, (by omega)⟩, by omega⟩
        · skip
          have hc212 := of_decide_eq_false hc212
          refine c_exit 2 (by kernel_rfl) ?_
          refine c_seq [1, 1, 1, 1, 1, 1, 1, 0] [1, 1, 1, 1, 1, 1, 1, 1] (by kernel_rfl) ?_
          refine c_reg 18 (by kernel_rfl) ?_
          refine r_runk 4 [65, 63] [(65, (Value.int .i64 ((m95 : Nat) : Int))), (63, (Value.int .i64 ((m101 : Nat) : Int)))] hF211 (by kernel_rfl) (by kernel_rfl) ?_
          intro a307 hF308
          refine r_one (d := 66) (v0 := (Value.bool (((m101 : Nat) : Int) == ((m95 : Nat) : Int)))) (v := (Value.bool true)) hF308 (by kernel_rfl) (by kernel_rfl) (Eq.trans (congrArg Value.bool (cmp_nat_eql _ _)) (congrArg Value.bool ((decide_eq_true (by simp only [List.length_map] at *; omega)) : decide ((m101 : Nat) = m95) = true))) ?_
          intro a309 hF310
          refine r_runk 1 [4] [(4, (Value.bool true))] hF310 (by kernel_rfl) (by kernel_rfl) ?_
          intro a311 hF312
          refine r_end (by kernel_rfl) ?_
          refine c_ret (by kernel_rfl) ?_
          try dsimp only [Exit.then, Exit.inBlock]
          refine f_ret1 hF312 4 (by kernel_rfl) (Value.bool true) (by kernel_rfl) s199 hS201 ?_
          rfl
end Go.Proofs.Ytaoamokfbhlaaaa.E
