/- Walks, printed by a program of this session. -/
import Derived.Test.YtaoamokfbhlaaaaK
import Derived.Test.Ytaoamokfbhlaaaapure21c
import Derived.Test.YtaoamokfbhlaaaaRk
set_option linter.unusedVariables false
set_option linter.unusedSimpArgs false
set_option maxRecDepth 100000
namespace Go.Proofs.Ytaoamokfbhlaaaa.E
open Go Go.RowKit
open Go.Proofs
theorem relayPicks_calls (σ : Nat → Nat) (w : World) {v0 v1 : Value} {la lb : List Small} (h0 : Rd tSmall σ w v0 la) (h1 : Rd tSmall σ w v1 lb) (c : Int) :
    Ctr Try.prog 6 [v0, v1, (iv c)] noM σ w (fun σ' w' v => v = .bool true) := by
  obtain ⟨A0, c0, rfl, hlA0⟩ := h0.form
  have hbdA0 : la.length ≤ 140737488355328 := by have h := h0.bd; have e : tSmall.by_ = 5 := rfl; rw [e] at h; omega
  obtain ⟨A1, c1, rfl, hlA1⟩ := h1.form
  have hbdA1 : lb.length ≤ 140737488355328 := by have h := h1.bd; have e : tSmall.by_ = 5 := rfl; rw [e] at h; omega
  refine ctr_enter Try.func6 c6 (by kernel_rfl) 105 (by kernel_rfl) (Nat.le_of_ble_eq_true (by kernel_rfl)) [(0, (Value.slice A0 la.length c0)), (1, (Value.slice A1 lb.length c1)), (2, (Value.int .i64 (c)))] (by kernel_rfl) ?_
  intro a hF1
  have hS2 := Stp.refl noM σ w
  refine c_seq [0] [1] (by kernel_rfl) ?_
  refine c_reg 0 (by kernel_rfl) ?_
  refine r_runk 1 [0, 1, 2] [(0, (Value.slice A0 la.length c0)), (1, (Value.slice A1 lb.length c1)), (2, (Value.int .i64 (c)))] hF1 (by kernel_rfl) (by kernel_rfl) ?_
  intro a3 hF4
  refine r_end (by kernel_rfl) ?_
  refine c_seq [1, 0] [1, 1] (by kernel_rfl) ?_
  refine c_seq [1, 0, 0] [1, 0, 1] (by kernel_rfl) ?_
  refine c_reg 1 (by kernel_rfl) ?_
  refine r_at (r_call (d := (some 20)) (f := 25) (args := #[]) (tys := #[]) hF4 (by kernel_rfl) (by kernel_rfl) C25 [] (by kernel_rfl) (awake_calls σ w ) ?_)
  intro a5 s6 w7 v8 st9 hP10 hF11
  have hz12 := hS2.size
  have hS13 := hS2.then st9
  subst hP10
  refine r_runk 1 [21, 0, 1, 2] [(21, (Value.bool false)), (0, (Value.slice A0 la.length c0)), (1, (Value.slice A1 lb.length c1)), (2, (Value.int .i64 (c)))] hF11 (by kernel_rfl) (by kernel_rfl) ?_
  intro a14 hF15
  refine r_end (by kernel_rfl) ?_
  refine c_cond_false [1, 0, 1, 0] [1, 0, 1, 1] 21 (by kernel_rfl) hF15 (by kernel_rfl) ?_
  refine c_skip (by kernel_rfl) ?_
  refine c_seq [1, 1, 0] [1, 1, 1] (by kernel_rfl) ?_
  refine c_reg 3 (by kernel_rfl) ?_
  refine r_runk 1 [22, 1, 2] [(22, (Value.slice A0 la.length c0)), (1, (Value.slice A1 lb.length c1)), (2, (Value.int .i64 (c)))] hF15 (by kernel_rfl) (by kernel_rfl) ?_
  intro a16 hF17
  have h18 : Rd tSmall s6 w7 (Value.slice A0 la.length c0) la := h0.step hS13
  refine r_at (r_call (d := (some 23)) (f := 26) (args := #[(Operand.tmp 22)]) (tys := #[40]) hF17 (by kernel_rfl) (by kernel_rfl) C26 [(Value.slice A0 la.length c0)] (by kernel_rfl) (events_calls s6 w7 h18) ?_)
  intro a19 s20 w21 v22 st23 hP24 hF25
  have hz26 := hS13.size
  have hS27 := hS13.then st23
  obtain ⟨A28, m31, c29, rfl, hl30⟩ := hP24.formL
  have hO32 : Own tEvent 60 w.heap.size s20 w21 (Value.slice A28 m31 c29) (evs la) := hP24.le (by omega)
  refine r_runk 1 [24, 23, 2] [(24, (Value.slice A1 lb.length c1)), (23, (Value.slice A28 m31 c29)), (2, (Value.int .i64 (c)))] hF25 (by kernel_rfl) (by kernel_rfl) ?_
  intro a34 hF35
  have h36 : Rd tSmall s20 w21 (Value.slice A1 lb.length c1) lb := h1.step hS27
  refine r_at (r_call (d := (some 25)) (f := 26) (args := #[(Operand.tmp 24)]) (tys := #[40]) hF35 (by kernel_rfl) (by kernel_rfl) C26 [(Value.slice A1 lb.length c1)] (by kernel_rfl) (events_calls s20 w21 h36) ?_)
  intro a37 s38 w39 v40 st41 hP42 hF43
  have hz44 := hS27.size
  have hS45 := hS27.then st41
  obtain ⟨A46, m49, c47, rfl, hl48⟩ := hP42.formL
  have hO50 : Own tEvent 60 w.heap.size s38 w39 (Value.slice A46 m49 c47) (evs lb) := hP42.le (by omega)
  refine r_runk 2 [8, 7, 2] [(8, (Value.slice A46 m49 c47)), (7, (Value.slice A28 m31 c29)), (2, (Value.int .i64 (c)))] hF43 (by kernel_rfl) (by kernel_rfl) ?_
  intro a52 hF53
  refine r_end (by kernel_rfl) ?_
  refine c_seq [1, 1, 1, 0] [1, 1, 1, 1] (by kernel_rfl) ?_
  refine c_seq [1, 1, 1, 0, 0] [1, 1, 1, 0, 1] (by kernel_rfl) ?_
  refine c_reg 4 (by kernel_rfl) ?_
  refine r_runk 1 [26, 8, 7] [(26, (Value.int .i64 (c))), (8, (Value.slice A46 m49 c47)), (7, (Value.slice A28 m31 c29))] hF53 (by kernel_rfl) (by kernel_rfl) ?_
  intro a54 hF55
  refine r_at (r_lit tI64 (d := 27) (t := 25) (m := 3) (parts := #[(0, (Operand.tmp 26)), (1, (Operand.const (Value.int IntKind.i64 0))), (2, (Operand.const (Value.int IntKind.i64 1)))]) hF55 (by kernel_rfl) (by kernel_rfl) s38 [c, ((0 : Nat) : Int), ((1 : Nat) : Int)] [(Value.int .i64 (c)), (Value.int .i64 ((0 : Nat) : Int)), (Value.int .i64 ((1 : Nat) : Int))] ⟨_, _, rfl, rfl, ⟨_, _, rfl, rfl, ⟨_, _, rfl, rfl, rfl⟩⟩⟩ rfl (by decide) (e := 3) (fun o e => by simp only [execOp, e]; kernel_rfl) (by decide) ?_)
  intro a56 s57 w58 g59 hg60 st61 hO62 hF63
  have hz64 := hS45.size
  have hS65 := hS45.then st61
  have hO66 : Own tI64 3 w.heap.size s57 w58 (Value.slice (some ⟨g59, 0, none⟩) 3 3) [c, ((0 : Nat) : Int), ((1 : Nat) : Int)] := (hO62.le (by omega : w.heap.size ≤ _))
  refine r_runk 2 [29, 28, 27, 8, 7] [(29, (Value.int .i64 ((0 : Nat) : Int))), (28, (Value.int .i64 ((3 : Nat) : Int))), (27, (Value.slice (some ⟨g59, 0, none⟩) 3 3)), (8, (Value.slice A46 m49 c47)), (7, (Value.slice A28 m31 c29))] hF63 (by kernel_rfl) (by kernel_rfl) ?_
  intro a68 hF69
  refine r_end (by kernel_rfl) ?_
  refine c_block [1, 1, 1, 0, 1, 0] 0 (by kernel_rfl) ?_
  have h75 : Own tEvent 60 w.heap.size s57 w58 (Value.slice A28 m31 c29) (evs la) := ((hO32.step' st41).step' st61)
  have h76 : Own tEvent 60 w.heap.size s57 w58 (Value.slice A46 m49 c47) (evs lb) := (hO50.step' st61)
  refine c_loop [1, 1, 1, 0, 1, 0, 0] (by kernel_rfl) (fun (i : Nat) a70 w71 => ∃ (s72 : Nat → Nat), Fr a70 105 [(7, (Value.slice A28 m31 c29)), (8, (Value.slice A46 m49 c47)), (27, (Value.slice (some ⟨g59, 0, none⟩) 3 3)), (28, (Value.int .i64 ((3 : Nat) : Int))), (29, (Value.int .i64 ((i : Nat) : Int)))] ∧ Stp noM σ w s72 w71 ∧ Rd tEvent s72 w71 (Value.slice A28 m31 c29) (evs la) ∧ Rd tEvent s72 w71 (Value.slice A46 m49 c47) (evs lb) ∧ Rd tI64 s72 w71 (Value.slice (some ⟨g59, 0, none⟩) 3 3) [c, ((0 : Nat) : Int), ((1 : Nat) : Int)] ∧ i ≤ 3) (fun i => 3 - i) 0 ?_ ?_
  · skip
    have hF77 := hF69.keep [7, 8, 27, 28, 29] [(7, (Value.slice A28 m31 c29)), (8, (Value.slice A46 m49 c47)), (27, (Value.slice (some ⟨g59, 0, none⟩) 3 3)), (28, (Value.int .i64 ((3 : Nat) : Int))), (29, (Value.int .i64 ((0 : Nat) : Int)))] (by kernel_rfl)
    exact ⟨s57, hF77, hS65, h75.rd, h76.rd, hO66.rd, (by omega)⟩
  · rintro i a70 w71 ⟨s72, hF73, hS74, h78, h79, h80, hi3⟩
    refine c_seq [1, 1, 1, 0, 1, 0, 0, 0] [1, 1, 1, 0, 1, 0, 0, 1] (by kernel_rfl) ?_
    refine c_reg 5 (by kernel_rfl) ?_
    refine r_one (d := 30) (v0 := (Value.bool (decide (((i : Nat) : Int) < ((3 : Nat) : Int))))) (v := (Value.bool (decide ((i : Nat) < 3)))) hF73 (by kernel_rfl) (by kernel_rfl) (congrArg Value.bool (cmp_nat_lss _ _)) ?_
    intro a81 hF82
    refine r_end (by kernel_rfl) ?_
    refine c_seq [1, 1, 1, 0, 1, 0, 0, 1, 0] [1, 1, 1, 0, 1, 0, 0, 1, 1] (by kernel_rfl) ?_
    refine c_cond [1, 1, 1, 0, 1, 0, 0, 1, 0, 0] [1, 1, 1, 0, 1, 0, 0, 1, 0, 1] 30 (by kernel_rfl) hF82 (decide ((i : Nat) < 3)) (by kernel_rfl) (fun hc83 => ?_) (fun hc83 => ?_)
    · skip
      have hc83 := of_decide_eq_true hc83
      refine c_skip (by kernel_rfl) ?_
      refine c_seq [1, 1, 1, 0, 1, 0, 0, 1, 1, 0] [1, 1, 1, 0, 1, 0, 0, 1, 1, 1] (by kernel_rfl) ?_
      refine c_block [1, 1, 1, 0, 1, 0, 0, 1, 1, 0, 0] 1 (by kernel_rfl) ?_
      refine c_seq [1, 1, 1, 0, 1, 0, 0, 1, 1, 0, 0, 0] [1, 1, 1, 0, 1, 0, 0, 1, 1, 0, 0, 1] (by kernel_rfl) ?_
      refine c_reg 6 (by kernel_rfl) ?_
      have hi90 : i < ([c, ((0 : Nat) : Int), ((1 : Nat) : Int)]).length := (by have hq := h80.ln; first | omega | (simp only [List.length_append, List.length_cons, List.length_nil, List.length_map] at *; omega))
      obtain ⟨b84, o85, c86, he87, hs88, hr89⟩ := (h80).at i hi90
      obtain ⟨o91, ho91⟩ : ∃ o, o = o85 + i * 1 := ⟨_, rfl⟩
      obtain ⟨x92, hx93⟩ : ∃ x, x = ([c, ((0 : Nat) : Int), ((1 : Nat) : Int)][i]'hi90) := ⟨_, rfl⟩
      rw [← hx93] at hr89
      have hr89 : c86 = [(Value.int .i64 (x92))] := hr89
      subst hr89
      have hs88 : Seg s72 w71 b84 o91 [(Value.int .i64 (x92))] := by rw [ho91]; exact hs88
      refine r_at (r_val (d := 31) (op := (Op.indexAddr 25 (Operand.tmp 27) (Operand.tmp 29))) hF82 (by kernel_rfl) (by kernel_rfl) (Value.pointer (some ⟨b84, o91, none⟩)) w71 (by rw [ho91]; exact exec_index (len := 3) (cap := 3) he87 (by kernel_rfl) (kd := .i64) i (by kernel_rfl) (by have := h80.ln; omega) 1 U25 L3.s) ?_)
      intro a94 hF95
      refine r_at (r_val (d := 32) (op := (Op.load 3 (Operand.tmp 31))) hF95 (by kernel_rfl) (by kernel_rfl) (Value.int .i64 (x92)) w71 (exec_load L3 (.inr rfl) (by kernel_rfl) hs88.cell) ?_)
      intro a96 hF97
      refine r_runk 1 [10, 7, 8, 27, 28, 29] [(10, (Value.int .i64 (x92))), (7, (Value.slice A28 m31 c29)), (8, (Value.slice A46 m49 c47)), (27, (Value.slice (some ⟨g59, 0, none⟩) 3 3)), (28, (Value.int .i64 ((3 : Nat) : Int))), (29, (Value.int .i64 ((i : Nat) : Int)))] hF97 (by kernel_rfl) (by kernel_rfl) ?_
      intro a98 hF99
      refine r_end (by kernel_rfl) ?_
      refine c_seq [1, 1, 1, 0, 1, 0, 0, 1, 1, 0, 0, 1, 0] [1, 1, 1, 0, 1, 0, 0, 1, 1, 0, 0, 1, 1] (by kernel_rfl) ?_
      refine c_reg 7 (by kernel_rfl) ?_
      refine r_runk 3 [36, 35, 34, 10, 7, 8, 27, 28, 29] [(36, (Value.int .i64 (x92))), (35, (Value.slice A46 m49 c47)), (34, (Value.slice A28 m31 c29)), (10, (Value.int .i64 (x92))), (7, (Value.slice A28 m31 c29)), (8, (Value.slice A46 m49 c47)), (27, (Value.slice (some ⟨g59, 0, none⟩) 3 3)), (28, (Value.int .i64 ((3 : Nat) : Int))), (29, (Value.int .i64 ((i : Nat) : Int)))] hF99 (by kernel_rfl) (by kernel_rfl) ?_
      intro a100 hF101
      refine r_at (r_call (d := (some 37)) (f := 27) (args := #[(Operand.const (Value.int IntKind.u8 2)), (Operand.tmp 34), (Operand.tmp 35), (Operand.tmp 36)]) (tys := #[47, 41, 41, 3]) hF101 (by kernel_rfl) (by kernel_rfl) C27 [(bv 2), (Value.slice A28 m31 c29), (Value.slice A46 m49 c47), (Value.int .i64 (x92))] (by kernel_rfl) (toCarry2_calls s72 w71 h78 h79 (evs_lenk _) (x92 : Int)) ?_)
      intro a102 s103 w104 v105 st106 hP107 hF108
      have hz109 := hS74.size
      have hS110 := hS74.then st106
      obtain ⟨v111, v112, rfl, hP113, hP114⟩ := hP107
      have hP115 := hP113.rd
      obtain ⟨A116, m119, c117, rfl, hl118⟩ := hP115.formL
      have hbd120 : (toCarry 2 (evs la) (evs lb) (x92 : Int)).length ≤ 140737488355328 := Nat.le_trans (Nat.le_mul_of_pos_right _ (by decide)) hP115.bd
      have hP121 := hP114.rd
      obtain ⟨A122, m125, c123, rfl, hl124⟩ := hP121.formL
      have hbd126 : ((toCarry 2 (evs la) (evs lb) (x92 : Int)).map (fun p => toldA (sameL (evs lb) p [2]))).length ≤ 140737488355328 := Nat.le_trans (Nat.le_mul_of_pos_right _ (by decide)) hP121.bd
      refine r_runk 5 [11, 10, 7, 8, 27, 28, 29] [(11, (Value.slice A116 m119 c117)), (10, (Value.int .i64 (x92))), (7, (Value.slice A28 m31 c29)), (8, (Value.slice A46 m49 c47)), (27, (Value.slice (some ⟨g59, 0, none⟩) 3 3)), (28, (Value.int .i64 ((3 : Nat) : Int))), (29, (Value.int .i64 ((i : Nat) : Int)))] hF108 (by kernel_rfl) (by kernel_rfl) ?_
      intro a127 hF128
      refine r_end (by kernel_rfl) ?_
      refine c_seq [1, 1, 1, 0, 1, 0, 0, 1, 1, 0, 0, 1, 1, 0] [1, 1, 1, 0, 1, 0, 0, 1, 1, 0, 0, 1, 1, 1] (by kernel_rfl) ?_
      refine c_reg 8 (by kernel_rfl) ?_
      refine r_runk 3 [43, 42, 41, 11, 10, 7, 8, 27, 28, 29] [(43, (Value.int .i64 (x92))), (42, (Value.slice A46 m49 c47)), (41, (Value.slice A28 m31 c29)), (11, (Value.slice A116 m119 c117)), (10, (Value.int .i64 (x92))), (7, (Value.slice A28 m31 c29)), (8, (Value.slice A46 m49 c47)), (27, (Value.slice (some ⟨g59, 0, none⟩) 3 3)), (28, (Value.int .i64 ((3 : Nat) : Int))), (29, (Value.int .i64 ((i : Nat) : Int)))] hF128 (by kernel_rfl) (by kernel_rfl) ?_
      intro a129 hF130
      have h131 : Rd tEvent s103 w104 (Value.slice A28 m31 c29) (evs la) := (h78.step st106)
      have h132 : Rd tEvent s103 w104 (Value.slice A46 m49 c47) (evs lb) := (h79.step st106)
      refine r_at (r_call (d := (some 44)) (f := 27) (args := #[(Operand.const (Value.int IntKind.u8 3)), (Operand.tmp 41), (Operand.tmp 42), (Operand.tmp 43)]) (tys := #[47, 41, 41, 3]) hF130 (by kernel_rfl) (by kernel_rfl) C27 [(bv 3), (Value.slice A28 m31 c29), (Value.slice A46 m49 c47), (Value.int .i64 (x92))] (by kernel_rfl) (toCarry3_calls s103 w104 h131 h132 (evs_lenk _) (x92 : Int)) ?_)
      intro a133 s134 w135 v136 st137 hP138 hF139
      have hz140 := hS110.size
      have hS141 := hS110.then st137
      obtain ⟨v142, v143, rfl, hP144, hP145⟩ := hP138
      have hP146 := hP144.rd
      obtain ⟨A147, m150, c148, rfl, hl149⟩ := hP146.formL
      have hbd151 : (toCarry 3 (evs la) (evs lb) (x92 : Int)).length ≤ 140737488355328 := Nat.le_trans (Nat.le_mul_of_pos_right _ (by decide)) hP146.bd
      have hP152 := hP145.rd
      obtain ⟨A153, m156, c154, rfl, hl155⟩ := hP152.formL
      have hbd157 : ((toCarry 3 (evs la) (evs lb) (x92 : Int)).map (fun p => toldA (sameL (evs lb) p [2]))).length ≤ 140737488355328 := Nat.le_trans (Nat.le_mul_of_pos_right _ (by decide)) hP152.bd
      refine r_runk 5 [14, 13, 11, 10, 7, 8, 27, 28, 29] [(14, (Value.slice A153 m156 c154)), (13, (Value.slice A147 m150 c148)), (11, (Value.slice A116 m119 c117)), (10, (Value.int .i64 (x92))), (7, (Value.slice A28 m31 c29)), (8, (Value.slice A46 m49 c47)), (27, (Value.slice (some ⟨g59, 0, none⟩) 3 3)), (28, (Value.int .i64 ((3 : Nat) : Int))), (29, (Value.int .i64 ((i : Nat) : Int)))] hF139 (by kernel_rfl) (by kernel_rfl) ?_
      intro a158 hF159
      refine r_end (by kernel_rfl) ?_
      refine c_seq [1, 1, 1, 0, 1, 0, 0, 1, 1, 0, 0, 1, 1, 1, 0] [1, 1, 1, 0, 1, 0, 0, 1, 1, 0, 0, 1, 1, 1, 1] (by kernel_rfl) ?_
      refine c_reg 9 (by kernel_rfl) ?_
      refine r_runk 3 [50, 49, 48, 14, 13, 11, 10, 7, 8, 27, 28, 29] [(50, (Value.int .i64 (x92))), (49, (Value.slice A46 m49 c47)), (48, (Value.slice A28 m31 c29)), (14, (Value.slice A153 m156 c154)), (13, (Value.slice A147 m150 c148)), (11, (Value.slice A116 m119 c117)), (10, (Value.int .i64 (x92))), (7, (Value.slice A28 m31 c29)), (8, (Value.slice A46 m49 c47)), (27, (Value.slice (some ⟨g59, 0, none⟩) 3 3)), (28, (Value.int .i64 ((3 : Nat) : Int))), (29, (Value.int .i64 ((i : Nat) : Int)))] hF159 (by kernel_rfl) (by kernel_rfl) ?_
      intro a160 hF161
      have h162 : Rd tEvent s134 w135 (Value.slice A28 m31 c29) (evs la) := (h131.step st137)
      have h163 : Rd tEvent s134 w135 (Value.slice A46 m49 c47) (evs lb) := (h132.step st137)
      refine r_at (r_call (d := (some 51)) (f := 27) (args := #[(Operand.const (Value.int IntKind.u8 4)), (Operand.tmp 48), (Operand.tmp 49), (Operand.tmp 50)]) (tys := #[47, 41, 41, 3]) hF161 (by kernel_rfl) (by kernel_rfl) C27 [(bv 4), (Value.slice A28 m31 c29), (Value.slice A46 m49 c47), (Value.int .i64 (x92))] (by kernel_rfl) (toCarry4_calls s134 w135 h162 h163 (evs_lenk _) (x92 : Int)) ?_)
      intro a164 s165 w166 v167 st168 hP169 hF170
      have hz171 := hS141.size
      have hS172 := hS141.then st168
      obtain ⟨v173, v174, rfl, hP175, hP176⟩ := hP169
      have hP177 := hP175.rd
      obtain ⟨A178, m181, c179, rfl, hl180⟩ := hP177.formL
      have hbd182 : (toCarry 4 (evs la) (evs lb) (x92 : Int)).length ≤ 140737488355328 := Nat.le_trans (Nat.le_mul_of_pos_right _ (by decide)) hP177.bd
      have hP183 := hP176.rd
      obtain ⟨A184, m187, c185, rfl, hl186⟩ := hP183.formL
      have hbd188 : ((toCarry 4 (evs la) (evs lb) (x92 : Int)).map (fun p => toldA (sameL (evs lb) p [2]))).length ≤ 140737488355328 := Nat.le_trans (Nat.le_mul_of_pos_right _ (by decide)) hP183.bd
      refine r_runk 5 [15, 14, 13, 11, 10, 7, 8, 27, 28, 29] [(15, (Value.slice A178 m181 c179)), (14, (Value.slice A153 m156 c154)), (13, (Value.slice A147 m150 c148)), (11, (Value.slice A116 m119 c117)), (10, (Value.int .i64 (x92))), (7, (Value.slice A28 m31 c29)), (8, (Value.slice A46 m49 c47)), (27, (Value.slice (some ⟨g59, 0, none⟩) 3 3)), (28, (Value.int .i64 ((3 : Nat) : Int))), (29, (Value.int .i64 ((i : Nat) : Int)))] hF170 (by kernel_rfl) (by kernel_rfl) ?_
      intro a189 hF190
      refine r_end (by kernel_rfl) ?_
      refine c_seq [1, 1, 1, 0, 1, 0, 0, 1, 1, 0, 0, 1, 1, 1, 1, 0] [1, 1, 1, 0, 1, 0, 0, 1, 1, 0, 0, 1, 1, 1, 1, 1] (by kernel_rfl) ?_
      refine c_reg 10 (by kernel_rfl) ?_
      refine r_runk 3 [57, 56, 55, 15, 14, 13, 11, 10, 7, 8, 27, 28, 29] [(57, (Value.int .i64 (x92))), (56, (Value.slice A46 m49 c47)), (55, (Value.slice A28 m31 c29)), (15, (Value.slice A178 m181 c179)), (14, (Value.slice A153 m156 c154)), (13, (Value.slice A147 m150 c148)), (11, (Value.slice A116 m119 c117)), (10, (Value.int .i64 (x92))), (7, (Value.slice A28 m31 c29)), (8, (Value.slice A46 m49 c47)), (27, (Value.slice (some ⟨g59, 0, none⟩) 3 3)), (28, (Value.int .i64 ((3 : Nat) : Int))), (29, (Value.int .i64 ((i : Nat) : Int)))] hF190 (by kernel_rfl) (by kernel_rfl) ?_
      intro a191 hF192
      have h193 : Rd tEvent s165 w166 (Value.slice A28 m31 c29) (evs la) := (h162.step st168)
      have h194 : Rd tEvent s165 w166 (Value.slice A46 m49 c47) (evs lb) := (h163.step st168)
      refine r_at (r_call (d := (some 58)) (f := 28) (args := #[(Operand.tmp 55), (Operand.tmp 56), (Operand.tmp 57)]) (tys := #[41, 41, 3]) hF192 (by kernel_rfl) (by kernel_rfl) C28 [(Value.slice A28 m31 c29), (Value.slice A46 m49 c47), (Value.int .i64 (x92))] (by kernel_rfl) (toAnswer_calls s165 w166 h193 h194 (evs_lenk _) (x92 : Int)) ?_)
      intro a195 s196 w197 v198 st199 hP200 hF201
      have hz202 := hS172.size
      have hS203 := hS172.then st199
      obtain ⟨v204, v205, rfl, hP206, hP207⟩ := hP200
      have hP208 := hP206.rd
      obtain ⟨A209, m212, c210, rfl, hl211⟩ := hP208.formL
      have hbd213 : (toAnswer (evs la) (evs lb) (x92 : Int)).length ≤ 140737488355328 := Nat.le_trans (Nat.le_mul_of_pos_right _ (by decide)) hP208.bd
      have hP214 := hP207.rd
      obtain ⟨A215, m218, c216, rfl, hl217⟩ := hP214.formL
      have hbd219 : ((toAnswer (evs la) (evs lb) (x92 : Int)).map (ackOf (evs lb))).length ≤ 140737488355328 := Nat.le_trans (Nat.le_mul_of_pos_right _ (by decide)) hP214.bd
      refine r_runk 5 [18, 17, 15, 14, 13, 11, 10, 7, 8, 27, 28, 29] [(18, (Value.slice A215 m218 c216)), (17, (Value.slice A209 m212 c210)), (15, (Value.slice A178 m181 c179)), (14, (Value.slice A153 m156 c154)), (13, (Value.slice A147 m150 c148)), (11, (Value.slice A116 m119 c117)), (10, (Value.int .i64 (x92))), (7, (Value.slice A28 m31 c29)), (8, (Value.slice A46 m49 c47)), (27, (Value.slice (some ⟨g59, 0, none⟩) 3 3)), (28, (Value.int .i64 ((3 : Nat) : Int))), (29, (Value.int .i64 ((i : Nat) : Int)))] hF201 (by kernel_rfl) (by kernel_rfl) ?_
      intro a220 hF221
      refine r_end (by kernel_rfl) ?_
      refine c_seq [1, 1, 1, 0, 1, 0, 0, 1, 1, 0, 0, 1, 1, 1, 1, 1, 0] [1, 1, 1, 0, 1, 0, 0, 1, 1, 0, 0, 1, 1, 1, 1, 1, 1] (by kernel_rfl) ?_
      refine c_seq [1, 1, 1, 0, 1, 0, 0, 1, 1, 0, 0, 1, 1, 1, 1, 1, 0, 0] [1, 1, 1, 0, 1, 0, 0, 1, 1, 0, 0, 1, 1, 1, 1, 1, 0, 1] (by kernel_rfl) ?_
      refine c_reg 11 (by kernel_rfl) ?_
      refine r_runk 3 [63, 62, 61, 18, 17, 15, 14, 13, 11, 10, 7, 8, 27, 28, 29] [(63, (Value.int .i64 (x92))), (62, (Value.slice A46 m49 c47)), (61, (Value.slice A28 m31 c29)), (18, (Value.slice A215 m218 c216)), (17, (Value.slice A209 m212 c210)), (15, (Value.slice A178 m181 c179)), (14, (Value.slice A153 m156 c154)), (13, (Value.slice A147 m150 c148)), (11, (Value.slice A116 m119 c117)), (10, (Value.int .i64 (x92))), (7, (Value.slice A28 m31 c29)), (8, (Value.slice A46 m49 c47)), (27, (Value.slice (some ⟨g59, 0, none⟩) 3 3)), (28, (Value.int .i64 ((3 : Nat) : Int))), (29, (Value.int .i64 ((i : Nat) : Int)))] hF221 (by kernel_rfl) (by kernel_rfl) ?_
      intro a222 hF223
      have h224 : Rd tEvent s196 w197 (Value.slice A28 m31 c29) (evs la) := (h193.step st199)
      have h225 : Rd tEvent s196 w197 (Value.slice A46 m49 c47) (evs lb) := (h194.step st199)
      refine r_at (r_call (d := (some 64)) (f := 30) (args := #[(Operand.tmp 61), (Operand.tmp 62), (Operand.tmp 63)]) (tys := #[41, 41, 3]) hF223 (by kernel_rfl) (by kernel_rfl) C30 [(Value.slice A28 m31 c29), (Value.slice A46 m49 c47), (Value.int .i64 (x92))] (by kernel_rfl) (toReceive_calls s196 w197 h224 h225 (evs_lenk _) (x92 : Int)) ?_)
      intro a226 s227 w228 v229 st230 hP231 hF232
      have hz233 := hS203.size
      have hS234 := hS203.then st230
      have hP235 := hP231.rd
      obtain ⟨A236, m239, c237, rfl, hl238⟩ := hP235.formL
      have hbd240 : (toReceive (evs la) (evs lb) (x92 : Int)).length ≤ 140737488355328 := Nat.le_trans (Nat.le_mul_of_pos_right _ (by decide)) hP235.bd
      refine r_runk 1 [65, 64, 18, 17, 15, 14, 13, 10, 7, 8, 27, 28, 29] [(65, (Value.slice A116 m119 c117)), (64, (Value.slice A236 m239 c237)), (18, (Value.slice A215 m218 c216)), (17, (Value.slice A209 m212 c210)), (15, (Value.slice A178 m181 c179)), (14, (Value.slice A153 m156 c154)), (13, (Value.slice A147 m150 c148)), (10, (Value.int .i64 (x92))), (7, (Value.slice A28 m31 c29)), (8, (Value.slice A46 m49 c47)), (27, (Value.slice (some ⟨g59, 0, none⟩) 3 3)), (28, (Value.int .i64 ((3 : Nat) : Int))), (29, (Value.int .i64 ((i : Nat) : Int)))] hF232 (by kernel_rfl) (by kernel_rfl) ?_
      intro a241 hF242
      have h243 : Rd tPacket s227 w228 (Value.slice A116 m119 c117) (toCarry 2 (evs la) (evs lb) (x92 : Int)) := ((((hP115.step st137).step st168).step st199).step st230)
      refine r_at (r_call (d := (some 66)) (f := 29) (args := #[(Operand.tmp 64), (Operand.tmp 65)]) (tys := #[43, 43]) hF242 (by kernel_rfl) (by kernel_rfl) C29 [(Value.slice A236 m239 c237), (Value.slice A116 m119 c117)] (by kernel_rfl) (sameP_calls s227 w228 hP235 h243) ?_)
      intro a244 s245 w246 v247 st248 hP249 hF250
      have hz251 := hS234.size
      have hS252 := hS234.then st248
      subst hP249
      have hF253 := hF250.set 66 (Value.bool (decide ((toReceive (evs la) (evs lb) (x92 : Int)) = (toCarry 2 (evs la) (evs lb) (x92 : Int))))) (Value.bool true) (by kernel_rfl) (congrArg Value.bool ((decide_eq_true (pick_r _ _ _)) : (decide ((toReceive (evs la) (evs lb) (x92 : Int)) = (toCarry 2 (evs la) (evs lb) (x92 : Int)))) = true))
      refine r_runk 4 [70, 69, 68, 18, 15, 14, 10, 7, 8, 27, 28, 29] [(70, (Value.slice A147 m150 c148)), (69, (Value.slice A209 m212 c210)), (68, (Value.bool false)), (18, (Value.slice A215 m218 c216)), (15, (Value.slice A178 m181 c179)), (14, (Value.slice A153 m156 c154)), (10, (Value.int .i64 (x92))), (7, (Value.slice A28 m31 c29)), (8, (Value.slice A46 m49 c47)), (27, (Value.slice (some ⟨g59, 0, none⟩) 3 3)), (28, (Value.int .i64 ((3 : Nat) : Int))), (29, (Value.int .i64 ((i : Nat) : Int)))] hF253 (by kernel_rfl) (by kernel_rfl) ?_
      intro a254 hF255
      have h256 : Rd tPacket s245 w246 (Value.slice A209 m212 c210) (toAnswer (evs la) (evs lb) (x92 : Int)) := ((hP208.step st230).step st248)
      have h257 : Rd tPacket s245 w246 (Value.slice A147 m150 c148) (toCarry 3 (evs la) (evs lb) (x92 : Int)) := ((((hP146.step st168).step st199).step st230).step st248)
      refine r_at (r_call (d := (some 71)) (f := 29) (args := #[(Operand.tmp 69), (Operand.tmp 70)]) (tys := #[43, 43]) hF255 (by kernel_rfl) (by kernel_rfl) C29 [(Value.slice A209 m212 c210), (Value.slice A147 m150 c148)] (by kernel_rfl) (sameP_calls s245 w246 h256 h257) ?_)
      intro a258 s259 w260 v261 st262 hP263 hF264
      have hz265 := hS252.size
      have hS266 := hS252.then st262
      subst hP263
      have hF267 := hF264.set 71 (Value.bool (decide ((toAnswer (evs la) (evs lb) (x92 : Int)) = (toCarry 3 (evs la) (evs lb) (x92 : Int))))) (Value.bool true) (by kernel_rfl) (congrArg Value.bool ((decide_eq_true (pick_a _ _ _)) : (decide ((toAnswer (evs la) (evs lb) (x92 : Int)) = (toCarry 3 (evs la) (evs lb) (x92 : Int)))) = true))
      refine r_runk 5 [76, 75, 74, 18, 15, 14, 7, 8, 27, 28, 29] [(76, (Value.int .i64 (x92))), (75, (Value.slice A28 m31 c29)), (74, (Value.bool false)), (18, (Value.slice A215 m218 c216)), (15, (Value.slice A178 m181 c179)), (14, (Value.slice A153 m156 c154)), (7, (Value.slice A28 m31 c29)), (8, (Value.slice A46 m49 c47)), (27, (Value.slice (some ⟨g59, 0, none⟩) 3 3)), (28, (Value.int .i64 ((3 : Nat) : Int))), (29, (Value.int .i64 ((i : Nat) : Int)))] hF267 (by kernel_rfl) (by kernel_rfl) ?_
      intro a268 hF269
      have h270 : Rd tEvent s259 w260 (Value.slice A28 m31 c29) (evs la) := (((h224.step st230).step st248).step st262)
      refine r_at (r_call (d := (some 77)) (f := 31) (args := #[(Operand.tmp 75), (Operand.tmp 76)]) (tys := #[41, 3]) hF269 (by kernel_rfl) (by kernel_rfl) C31 [(Value.slice A28 m31 c29), (Value.int .i64 (x92))] (by kernel_rfl) (toTimeout_calls s259 w260 h270 (evs_lenk _) (x92 : Int)) ?_)
      intro a271 s272 w273 v274 st275 hP276 hF277
      have hz278 := hS266.size
      have hS279 := hS266.then st275
      have hP280 := hP276.rd
      obtain ⟨A281, m284, c282, rfl, hl283⟩ := hP280.formL
      have hbd285 : (toTimeout (evs la) (x92 : Int)).length ≤ 140737488355328 := Nat.le_trans (Nat.le_mul_of_pos_right _ (by decide)) hP280.bd
      refine r_runk 1 [78, 77, 74, 18, 14, 7, 8, 27, 28, 29] [(78, (Value.slice A178 m181 c179)), (77, (Value.slice A281 m284 c282)), (74, (Value.bool false)), (18, (Value.slice A215 m218 c216)), (14, (Value.slice A153 m156 c154)), (7, (Value.slice A28 m31 c29)), (8, (Value.slice A46 m49 c47)), (27, (Value.slice (some ⟨g59, 0, none⟩) 3 3)), (28, (Value.int .i64 ((3 : Nat) : Int))), (29, (Value.int .i64 ((i : Nat) : Int)))] hF277 (by kernel_rfl) (by kernel_rfl) ?_
      intro a286 hF287
      have h288 : Rd tPacket s272 w273 (Value.slice A178 m181 c179) (toCarry 4 (evs la) (evs lb) (x92 : Int)) := (((((hP177.step st199).step st230).step st248).step st262).step st275)
      refine r_at (r_call (d := (some 79)) (f := 29) (args := #[(Operand.tmp 77), (Operand.tmp 78)]) (tys := #[43, 43]) hF287 (by kernel_rfl) (by kernel_rfl) C29 [(Value.slice A281 m284 c282), (Value.slice A178 m181 c179)] (by kernel_rfl) (sameP_calls s272 w273 hP280 h288) ?_)
      intro a289 s290 w291 v292 st293 hP294 hF295
      have hz296 := hS279.size
      have hS297 := hS279.then st293
      subst hP294
      have hF298 := hF295.set 79 (Value.bool (decide ((toTimeout (evs la) (x92 : Int)) = (toCarry 4 (evs la) (evs lb) (x92 : Int))))) (Value.bool true) (by kernel_rfl) (congrArg Value.bool ((decide_eq_true (pick_t _ _ _)) : (decide ((toTimeout (evs la) (x92 : Int)) = (toCarry 4 (evs la) (evs lb) (x92 : Int)))) = true))
      refine r_runk 7 [86, 84, 82, 18, 14, 7, 8, 27, 28, 29] [(86, (Value.int .i64 ((m156 : Nat) : Int))), (84, (Value.int .i64 ((m218 : Nat) : Int))), (82, (Value.bool false)), (18, (Value.slice A215 m218 c216)), (14, (Value.slice A153 m156 c154)), (7, (Value.slice A28 m31 c29)), (8, (Value.slice A46 m49 c47)), (27, (Value.slice (some ⟨g59, 0, none⟩) 3 3)), (28, (Value.int .i64 ((3 : Nat) : Int))), (29, (Value.int .i64 ((i : Nat) : Int)))] hF298 (by kernel_rfl) (by kernel_rfl) ?_
      intro a299 hF300
      refine r_one (d := 87) (v0 := (Value.bool (((m218 : Nat) : Int) != ((m156 : Nat) : Int)))) (v := (Value.bool false)) hF300 (by kernel_rfl) (by kernel_rfl) (Eq.trans (congrArg Value.bool (cmp_nat_neq _ _)) (congrArg Value.bool ((by have h := pick_kl (evs la) (evs lb) (x92 : Int); simp only [List.length_map] at *; simp; omega) : (!decide ((m218 : Nat) = m156)) = false))) ?_
      intro a301 hF302
      refine r_runk 1 [88, 18, 14, 7, 8, 27, 28, 29] [(88, (Value.bool false)), (18, (Value.slice A215 m218 c216)), (14, (Value.slice A153 m156 c154)), (7, (Value.slice A28 m31 c29)), (8, (Value.slice A46 m49 c47)), (27, (Value.slice (some ⟨g59, 0, none⟩) 3 3)), (28, (Value.int .i64 ((3 : Nat) : Int))), (29, (Value.int .i64 ((i : Nat) : Int)))] hF302 (by kernel_rfl) (by kernel_rfl) ?_
      intro a303 hF304
      refine r_end (by kernel_rfl) ?_
      refine c_cond_false [1, 1, 1, 0, 1, 0, 0, 1, 1, 0, 0, 1, 1, 1, 1, 1, 0, 1, 0] [1, 1, 1, 0, 1, 0, 0, 1, 1, 0, 0, 1, 1, 1, 1, 1, 0, 1, 1] 88 (by kernel_rfl) hF304 (by kernel_rfl) ?_
      refine c_skip (by kernel_rfl) ?_
      refine c_seq [1, 1, 1, 0, 1, 0, 0, 1, 1, 0, 0, 1, 1, 1, 1, 1, 1, 0] [1, 1, 1, 0, 1, 0, 0, 1, 1, 0, 0, 1, 1, 1, 1, 1, 1, 1] (by kernel_rfl) ?_
      refine c_reg 13 (by kernel_rfl) ?_
      refine r_runk 3 [91, 90, 18, 14, 7, 8, 27, 28, 29] [(91, (Value.int .i64 ((0 : Nat) : Int))), (90, (Value.int .i64 ((m218 : Nat) : Int))), (18, (Value.slice A215 m218 c216)), (14, (Value.slice A153 m156 c154)), (7, (Value.slice A28 m31 c29)), (8, (Value.slice A46 m49 c47)), (27, (Value.slice (some ⟨g59, 0, none⟩) 3 3)), (28, (Value.int .i64 ((3 : Nat) : Int))), (29, (Value.int .i64 ((i : Nat) : Int)))] hF304 (by kernel_rfl) (by kernel_rfl) ?_
      intro a305 hF306
      refine r_end (by kernel_rfl) ?_
      refine c_block [1, 1, 1, 0, 1, 0, 0, 1, 1, 0, 0, 1, 1, 1, 1, 1, 1, 1, 0] 2 (by kernel_rfl) ?_
      have h312 : Rd tEvent s290 w291 (Value.slice A28 m31 c29) (evs la) := ((h270.step st275).step st293)
      have h313 : Rd tEvent s290 w291 (Value.slice A46 m49 c47) (evs lb) := (((((h225.step st230).step st248).step st262).step st275).step st293)
      have h314 : Rd tI64 s290 w291 (Value.slice (some ⟨g59, 0, none⟩) 3 3) [c, ((0 : Nat) : Int), ((1 : Nat) : Int)] := (((((((((h80.step st106).step st137).step st168).step st199).step st230).step st248).step st262).step st275).step st293)
      have h315 : Rd tAck s290 w291 (Value.slice A153 m156 c154) ((toCarry 3 (evs la) (evs lb) (x92 : Int)).map (fun p => toldA (sameL (evs lb) p [2]))) := (((((((hP152.step st168).step st199).step st230).step st248).step st262).step st275).step st293)
      have h316 : Rd tAck s290 w291 (Value.slice A215 m218 c216) ((toAnswer (evs la) (evs lb) (x92 : Int)).map (ackOf (evs lb))) := (((((hP214.step st230).step st248).step st262).step st275).step st293)
      refine c_loop [1, 1, 1, 0, 1, 0, 0, 1, 1, 0, 0, 1, 1, 1, 1, 1, 1, 1, 0, 0] (by kernel_rfl) (fun (k : Nat) a307 w308 => ∃ (s309 : Nat → Nat), Fr a307 105 [(7, (Value.slice A28 m31 c29)), (8, (Value.slice A46 m49 c47)), (14, (Value.slice A153 m156 c154)), (18, (Value.slice A215 m218 c216)), (27, (Value.slice (some ⟨g59, 0, none⟩) 3 3)), (28, (Value.int .i64 ((3 : Nat) : Int))), (29, (Value.int .i64 ((i : Nat) : Int))), (90, (Value.int .i64 ((m218 : Nat) : Int))), (91, (Value.int .i64 ((k : Nat) : Int)))] ∧ Stp noM σ w s309 w308 ∧ Rd tEvent s309 w308 (Value.slice A28 m31 c29) (evs la) ∧ Rd tEvent s309 w308 (Value.slice A46 m49 c47) (evs lb) ∧ Rd tI64 s309 w308 (Value.slice (some ⟨g59, 0, none⟩) 3 3) [c, ((0 : Nat) : Int), ((1 : Nat) : Int)] ∧ Rd tAck s309 w308 (Value.slice A153 m156 c154) ((toCarry 3 (evs la) (evs lb) (x92 : Int)).map (fun p => toldA (sameL (evs lb) p [2]))) ∧ Rd tAck s309 w308 (Value.slice A215 m218 c216) ((toAnswer (evs la) (evs lb) (x92 : Int)).map (ackOf (evs lb))) ∧ k ≤ ((toAnswer (evs la) (evs lb) (x92 : Int)).map (ackOf (evs lb))).length) (fun k => ((toAnswer (evs la) (evs lb) (x92 : Int)).map (ackOf (evs lb))).length - k) 0 ?_ ?_
      · skip
        have hF317 := hF306.keep [7, 8, 14, 18, 27, 28, 29, 90, 91] [(7, (Value.slice A28 m31 c29)), (8, (Value.slice A46 m49 c47)), (14, (Value.slice A153 m156 c154)), (18, (Value.slice A215 m218 c216)), (27, (Value.slice (some ⟨g59, 0, none⟩) 3 3)), (28, (Value.int .i64 ((3 : Nat) : Int))), (29, (Value.int .i64 ((i : Nat) : Int))), (90, (Value.int .i64 ((m218 : Nat) : Int))), (91, (Value.int .i64 ((0 : Nat) : Int)))] (by kernel_rfl)
        exact ⟨s290, hF317, hS297, h312, h313, h314, h315, h316, (by omega)⟩
      · rintro k a307 w308 ⟨s309, hF310, hS311, h318, h319, h320, h321, h322, hk⟩
        have hkl := pick_kl (evs la) (evs lb) (x92 : Int)
        refine c_seq [1, 1, 1, 0, 1, 0, 0, 1, 1, 0, 0, 1, 1, 1, 1, 1, 1, 1, 0, 0, 0] [1, 1, 1, 0, 1, 0, 0, 1, 1, 0, 0, 1, 1, 1, 1, 1, 1, 1, 0, 0, 1] (by kernel_rfl) ?_
        refine c_reg 14 (by kernel_rfl) ?_
        refine r_one (d := 92) (v0 := (Value.bool (decide (((k : Nat) : Int) < ((m218 : Nat) : Int))))) (v := (Value.bool (decide ((k : Nat) < m218)))) hF310 (by kernel_rfl) (by kernel_rfl) (congrArg Value.bool (cmp_nat_lss _ _)) ?_
        intro a323 hF324
        refine r_end (by kernel_rfl) ?_
        refine c_seq [1, 1, 1, 0, 1, 0, 0, 1, 1, 0, 0, 1, 1, 1, 1, 1, 1, 1, 0, 0, 1, 0] [1, 1, 1, 0, 1, 0, 0, 1, 1, 0, 0, 1, 1, 1, 1, 1, 1, 1, 0, 0, 1, 1] (by kernel_rfl) ?_
        refine c_cond [1, 1, 1, 0, 1, 0, 0, 1, 1, 0, 0, 1, 1, 1, 1, 1, 1, 1, 0, 0, 1, 0, 0] [1, 1, 1, 0, 1, 0, 0, 1, 1, 0, 0, 1, 1, 1, 1, 1, 1, 1, 0, 0, 1, 0, 1] 92 (by kernel_rfl) hF324 (decide ((k : Nat) < m218)) (by kernel_rfl) (fun hc325 => ?_) (fun hc325 => ?_)
        · skip
          have hc325 := of_decide_eq_true hc325
          refine c_skip (by kernel_rfl) ?_
          refine c_seq [1, 1, 1, 0, 1, 0, 0, 1, 1, 0, 0, 1, 1, 1, 1, 1, 1, 1, 0, 0, 1, 1, 0] [1, 1, 1, 0, 1, 0, 0, 1, 1, 0, 0, 1, 1, 1, 1, 1, 1, 1, 0, 0, 1, 1, 1] (by kernel_rfl) ?_
          refine c_block [1, 1, 1, 0, 1, 0, 0, 1, 1, 0, 0, 1, 1, 1, 1, 1, 1, 1, 0, 0, 1, 1, 0, 0] 3 (by kernel_rfl) ?_
          refine c_seq [1, 1, 1, 0, 1, 0, 0, 1, 1, 0, 0, 1, 1, 1, 1, 1, 1, 1, 0, 0, 1, 1, 0, 0, 0] [1, 1, 1, 0, 1, 0, 0, 1, 1, 0, 0, 1, 1, 1, 1, 1, 1, 1, 0, 0, 1, 1, 0, 0, 1] (by kernel_rfl) ?_
          refine c_reg 15 (by kernel_rfl) ?_
          refine r_runk 2 [19, 7, 8, 14, 18, 27, 28, 29, 90, 91] [(19, (Value.int .i64 ((k : Nat) : Int))), (7, (Value.slice A28 m31 c29)), (8, (Value.slice A46 m49 c47)), (14, (Value.slice A153 m156 c154)), (18, (Value.slice A215 m218 c216)), (27, (Value.slice (some ⟨g59, 0, none⟩) 3 3)), (28, (Value.int .i64 ((3 : Nat) : Int))), (29, (Value.int .i64 ((i : Nat) : Int))), (90, (Value.int .i64 ((m218 : Nat) : Int))), (91, (Value.int .i64 ((k : Nat) : Int)))] hF324 (by kernel_rfl) (by kernel_rfl) ?_
          intro a326 hF327
          refine r_end (by kernel_rfl) ?_
          refine c_seq [1, 1, 1, 0, 1, 0, 0, 1, 1, 0, 0, 1, 1, 1, 1, 1, 1, 1, 0, 0, 1, 1, 0, 0, 1, 0] [1, 1, 1, 0, 1, 0, 0, 1, 1, 0, 0, 1, 1, 1, 1, 1, 1, 1, 0, 0, 1, 1, 0, 0, 1, 1] (by kernel_rfl) ?_
          refine c_plan 16 (by kernel_rfl) (by kernel_rfl) s309 (fun b => True) [(0, true), (1, true), (2, true), (3, true), (4, true), (5, true), (6, true), (7, true), (8, true)] [(0, 19807040628566084398385987584, 262144), (0, 39614081257132168796771975168, 524288), (3, 79228162514264337593543950336, 59421121885698253195157962752), (4, 158456325028528675187087900672, 79228162514264337593543950336), (0, 316912650057057350374175801344, 16384), (0, 633825300114114700748351602688, 524288), (48, 1267650600228229401496703205376, 950737950171172051122527404032), (64, 2535301200456458802993406410752, 1267650600228229401496703205376), (136, 5070602400912917605986812821504, 2693757525484987478180494311424)] (by kernel_rfl) (by kernel_rfl) (by kernel_rfl) (by kernel_rfl) ?_
          intro w328 st329
          have hS330 := hS311.then st329
          refine p_run (d := 94) (v := (Value.slice A215 m218 c216)) hF327 (by kernel_rfl) (fun _ => by kernel_rfl) (fun _ _ _ h => h) ?_
          intro a331 hF332
          refine p_run (d := 95) (v := (Value.int .i64 ((k : Nat) : Int))) hF332 (by kernel_rfl) (fun _ => by kernel_rfl) (fun _ _ _ h => h) ?_
          intro a333 hF334
          have h335 : Rd tAck s309 w328 (Value.slice A215 m218 c216) ((toAnswer (evs la) (evs lb) (x92 : Int)).map (ackOf (evs lb))) := (h322.step st329)
          have hi342 : k < ((toAnswer (evs la) (evs lb) (x92 : Int)).map (ackOf (evs lb))).length := (by have hq := h335.ln; first | omega | (simp only [List.length_append, List.length_cons, List.length_nil, List.length_map] at *; omega))
          obtain ⟨b336, o337, c338, he339, hs340, hr341⟩ := (h335).at k hi342
          obtain ⟨o343, ho343⟩ : ∃ o, o = o337 + k * 2 := ⟨_, rfl⟩
          obtain ⟨x344, hx345⟩ : ∃ x, x = (((toAnswer (evs la) (evs lb) (x92 : Int)).map (ackOf (evs lb)))[k]'hi342) := ⟨_, rfl⟩
          rw [← hx345] at hr341
          have hr341 : c338 = [(Value.bool x344.ok), (Value.int .i64 (x344.code))] := hr341
          subst hr341
          have hs340 : Seg s309 w328 b336 o343 [(Value.bool x344.ok), (Value.int .i64 (x344.code))] := by rw [ho343]; exact hs340
          refine p_val (d := 96) (op := (Op.indexAddr 44 (Operand.tmp 94) (Operand.tmp 95))) (v := (Value.pointer (some ⟨b336, o343, none⟩))) hF334 (by kernel_rfl) (by kernel_rfl) (fun w9 ⟨s9, hw9⟩ => (by rw [ho343]; exact exec_index (len := m218) (cap := c216) he339 (by kernel_rfl) (kd := .i64) k (by kernel_rfl) (by have := h335.ln; omega) 2 U44 L53.s)) (fun _ _ _ h => h) ?_
          intro a346 hF347
          refine p_val (d := 97) (op := (Op.load 53 (Operand.tmp 96))) (v := (Value.agg #[(Value.bool x344.ok), (Value.int .i64 (x344.code))])) hF347 (by kernel_rfl) (by kernel_rfl) (fun w9 ⟨s9, hw9⟩ => (exec_load L53 (.inl rfl) (by kernel_rfl) (hs340.step hw9).cell)) (fun _ _ _ h => h) ?_
          intro a348 hF349
          have hF350 := hF349.keep [97, 19, 7, 8, 14, 18, 27, 28, 29, 90, 91] [(97, (Value.agg #[(Value.bool x344.ok), (Value.int .i64 (x344.code))])), (19, (Value.int .i64 ((k : Nat) : Int))), (7, (Value.slice A28 m31 c29)), (8, (Value.slice A46 m49 c47)), (14, (Value.slice A153 m156 c154)), (18, (Value.slice A215 m218 c216)), (27, (Value.slice (some ⟨g59, 0, none⟩) 3 3)), (28, (Value.int .i64 ((3 : Nat) : Int))), (29, (Value.int .i64 ((i : Nat) : Int))), (90, (Value.int .i64 ((m218 : Nat) : Int))), (91, (Value.int .i64 ((k : Nat) : Int)))] (by kernel_rfl)
          refine p_run (d := 98) (v := (Value.slice A153 m156 c154)) hF350 (by kernel_rfl) (fun _ => by kernel_rfl) (fun _ _ _ h => h) ?_
          intro a351 hF352
          refine p_run (d := 99) (v := (Value.int .i64 ((k : Nat) : Int))) hF352 (by kernel_rfl) (fun _ => by kernel_rfl) (fun _ _ _ h => h) ?_
          intro a353 hF354
          have h355 : Rd tAck s309 w328 (Value.slice A153 m156 c154) ((toCarry 3 (evs la) (evs lb) (x92 : Int)).map (fun p => toldA (sameL (evs lb) p [2]))) := (h321.step st329)
          have hi362 : k < ((toCarry 3 (evs la) (evs lb) (x92 : Int)).map (fun p => toldA (sameL (evs lb) p [2]))).length := (by have hq := h355.ln; first | omega | (simp only [List.length_append, List.length_cons, List.length_nil, List.length_map] at *; omega))
          obtain ⟨b356, o357, c358, he359, hs360, hr361⟩ := (h355).at k hi362
          obtain ⟨o363, ho363⟩ : ∃ o, o = o357 + k * 2 := ⟨_, rfl⟩
          obtain ⟨x364, hx365⟩ : ∃ x, x = (((toCarry 3 (evs la) (evs lb) (x92 : Int)).map (fun p => toldA (sameL (evs lb) p [2])))[k]'hi362) := ⟨_, rfl⟩
          rw [← hx365] at hr361
          have hr361 : c358 = [(Value.bool x364.ok), (Value.int .i64 (x364.code))] := hr361
          subst hr361
          have hs360 : Seg s309 w328 b356 o363 [(Value.bool x364.ok), (Value.int .i64 (x364.code))] := by rw [ho363]; exact hs360
          refine p_val (d := 100) (op := (Op.indexAddr 44 (Operand.tmp 98) (Operand.tmp 99))) (v := (Value.pointer (some ⟨b356, o363, none⟩))) hF354 (by kernel_rfl) (by kernel_rfl) (fun w9 ⟨s9, hw9⟩ => (by rw [ho363]; exact exec_index (len := m156) (cap := c154) he359 (by kernel_rfl) (kd := .i64) k (by kernel_rfl) (by have := h355.ln; omega) 2 U44 L53.s)) (fun _ _ _ h => h) ?_
          intro a366 hF367
          have hF368 := hF367.keep [100, 97, 7, 8, 14, 18, 27, 28, 29, 90, 91] [(100, (Value.pointer (some ⟨b356, o363, none⟩))), (97, (Value.agg #[(Value.bool x344.ok), (Value.int .i64 (x344.code))])), (7, (Value.slice A28 m31 c29)), (8, (Value.slice A46 m49 c47)), (14, (Value.slice A153 m156 c154)), (18, (Value.slice A215 m218 c216)), (27, (Value.slice (some ⟨g59, 0, none⟩) 3 3)), (28, (Value.int .i64 ((3 : Nat) : Int))), (29, (Value.int .i64 ((i : Nat) : Int))), (90, (Value.int .i64 ((m218 : Nat) : Int))), (91, (Value.int .i64 ((k : Nat) : Int)))] (by kernel_rfl)
          refine p_val (d := 101) (op := (Op.load 53 (Operand.tmp 100))) (v := (Value.agg #[(Value.bool x364.ok), (Value.int .i64 (x364.code))])) hF368 (by kernel_rfl) (by kernel_rfl) (fun w9 ⟨s9, hw9⟩ => (exec_load L53 (.inl rfl) (by kernel_rfl) (hs360.step hw9).cell)) (fun _ _ _ h => h) ?_
          intro a369 hF370
          refine p_val (d := 102) (op := (Op.binOp BinOp.neq 53 (Operand.tmp 97) (Operand.tmp 101) 53)) (v := (Value.bool (!decide (x344 = x364)))) hF370 (by kernel_rfl) (by kernel_rfl) (fun w9 ⟨s9, hw9⟩ => (exec_neS (r := decide (x344 = x364)) (by kernel_rfl) (by kernel_rfl) (by kernel_rfl) (fun w => eqin53 9998 x344 x364 w))) (fun _ _ _ h => h) ?_
          intro a371 hF372
          have hF373 := hF372.set 102 (Value.bool (!decide (x344 = x364))) (Value.bool false) (by kernel_rfl) (congrArg Value.bool (by subst hx93 hx345 hx365; rw [decide_eq_true (pick_kat _ _)]; rfl))
          have hF374 := hF373.keep [102, 7, 8, 14, 18, 27, 28, 29, 90, 91] [(102, (Value.bool false)), (7, (Value.slice A28 m31 c29)), (8, (Value.slice A46 m49 c47)), (14, (Value.slice A153 m156 c154)), (18, (Value.slice A215 m218 c216)), (27, (Value.slice (some ⟨g59, 0, none⟩) 3 3)), (28, (Value.int .i64 ((3 : Nat) : Int))), (29, (Value.int .i64 ((i : Nat) : Int))), (90, (Value.int .i64 ((m218 : Nat) : Int))), (91, (Value.int .i64 ((k : Nat) : Int)))] (by kernel_rfl)
          refine p_end ?_
          refine c_cond_false [1, 1, 1, 0, 1, 0, 0, 1, 1, 0, 0, 1, 1, 1, 1, 1, 1, 1, 0, 0, 1, 1, 0, 0, 1, 1, 0] [1, 1, 1, 0, 1, 0, 0, 1, 1, 0, 0, 1, 1, 1, 1, 1, 1, 1, 0, 0, 1, 1, 0, 0, 1, 1, 1] 102 (by kernel_rfl) hF374 (by kernel_rfl) ?_
          refine c_skip (by kernel_rfl) ?_
          refine c_reg 18 (by kernel_rfl) ?_
          refine r_one (d := 103) (v0 := (Value.int .i64 (IntKind.i64.wrap (((k : Nat) : Int) + ((1 : Nat) : Int))))) (v := (Value.int .i64 ((k + 1 : Nat) : Int))) hF374 (by kernel_rfl) (by kernel_rfl) (congrArg (Value.int .i64) (i64_eq (by omega) (by omega) (by omega))) ?_
          intro a375 hF376
          refine r_runk 1 [91, 7, 8, 14, 18, 27, 28, 29, 90] [(91, (Value.int .i64 ((k + 1 : Nat) : Int))), (7, (Value.slice A28 m31 c29)), (8, (Value.slice A46 m49 c47)), (14, (Value.slice A153 m156 c154)), (18, (Value.slice A215 m218 c216)), (27, (Value.slice (some ⟨g59, 0, none⟩) 3 3)), (28, (Value.int .i64 ((3 : Nat) : Int))), (29, (Value.int .i64 ((i : Nat) : Int))), (90, (Value.int .i64 ((m218 : Nat) : Int)))] hF376 (by kernel_rfl) (by kernel_rfl) ?_
          intro a377 hF378
          refine r_end (by kernel_rfl) ?_
          have h379 : Rd tEvent s309 w328 (Value.slice A28 m31 c29) (evs la) := (h318.step st329)
          have h380 : Rd tEvent s309 w328 (Value.slice A46 m49 c47) (evs lb) := (h319.step st329)
          have h381 : Rd tI64 s309 w328 (Value.slice (some ⟨g59, 0, none⟩) 3 3) [c, ((0 : Nat) : Int), ((1 : Nat) : Int)] := (h320.step st329)
          have hF382 := hF378.keep [7, 8, 14, 18, 27, 28, 29, 90, 91] [(7, (Value.slice A28 m31 c29)), (8, (Value.slice A46 m49 c47)), (14, (Value.slice A153 m156 c154)), (18, (Value.slice A215 m218 c216)), (27, (Value.slice (some ⟨g59, 0, none⟩) 3 3)), (28, (Value.int .i64 ((3 : Nat) : Int))), (29, (Value.int .i64 ((i : Nat) : Int))), (90, (Value.int .i64 ((m218 : Nat) : Int))), (91, (Value.int .i64 ((k + 1 : Nat) : Int)))] (by kernel_rfl)
          exact ⟨k + 1, ⟨s309, hF382, hS330, h379, h380, h381, h355, h335, (by omega)⟩, by omega⟩
        · skip
          have hc325 := of_decide_eq_false hc325
          refine c_exit 2 (by kernel_rfl) ?_
          refine c_reg 19 (by kernel_rfl) ?_
          refine r_one (d := 104) (v0 := (Value.int .i64 (IntKind.i64.wrap (((i : Nat) : Int) + ((1 : Nat) : Int))))) (v := (Value.int .i64 ((i + 1 : Nat) : Int))) hF324 (by kernel_rfl) (by kernel_rfl) (congrArg (Value.int .i64) (i64_eq (by omega) (by omega) (by omega))) ?_
          intro a383 hF384
          refine r_runk 1 [29, 7, 8, 27, 28] [(29, (Value.int .i64 ((i + 1 : Nat) : Int))), (7, (Value.slice A28 m31 c29)), (8, (Value.slice A46 m49 c47)), (27, (Value.slice (some ⟨g59, 0, none⟩) 3 3)), (28, (Value.int .i64 ((3 : Nat) : Int)))] hF384 (by kernel_rfl) (by kernel_rfl) ?_
          intro a385 hF386
          refine r_end (by kernel_rfl) ?_
          have hF387 := hF386.keep [7, 8, 27, 28, 29] [(7, (Value.slice A28 m31 c29)), (8, (Value.slice A46 m49 c47)), (27, (Value.slice (some ⟨g59, 0, none⟩) 3 3)), (28, (Value.int .i64 ((3 : Nat) : Int))), (29, (Value.int .i64 ((i + 1 : Nat) : Int)))] (by kernel_rfl)
          exact ⟨i + 1, ⟨s309, hF387, hS311, h318, h319, h320, (by omega)⟩, by omega⟩
    · skip
      have hc83 := of_decide_eq_false hc83
      refine c_exit 0 (by kernel_rfl) ?_
      refine c_seq [1, 1, 1, 1, 0] [1, 1, 1, 1, 1] (by kernel_rfl) ?_
      refine c_reg 20 (by kernel_rfl) ?_
      refine r_runk 1 [6] [(6, (Value.bool true))] hF82 (by kernel_rfl) (by kernel_rfl) ?_
      intro a388 hF389
      refine r_end (by kernel_rfl) ?_
      refine c_ret (by kernel_rfl) ?_
      try dsimp only [Exit.then, Exit.inBlock]
      refine f_ret1 hF389 6 (by kernel_rfl) (Value.bool true) (by kernel_rfl) s72 hS74 ?_
      rfl
end Go.Proofs.Ytaoamokfbhlaaaa.E
