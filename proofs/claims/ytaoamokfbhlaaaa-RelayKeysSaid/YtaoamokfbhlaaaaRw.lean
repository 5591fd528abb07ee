/- Walks, printed by a program of this session. -/
import Derived.Test.YtaoamokfbhlaaaaK
import Derived.Test.Ytaoamokfbhlaaaapure21
import Derived.Test.YtaoamokfbhlaaaaRq
set_option linter.unusedVariables false
set_option linter.unusedSimpArgs false
set_option maxRecDepth 100000
namespace Go.Proofs.Ytaoamokfbhlaaaa.E
open Go Go.RowKit
open Go.Proofs
theorem index_calls (σ : Nat → Nat) (w : World) {v0 : Value} {l : List UInt8} (h0 : Rd tU8 σ w v0 l) (x : UInt8) :
    Ctr Try.prog 48 [v0, (bv x)] noM σ w (fun σ' w' v => v = iv (idxI (l.findIdx? (fun y => decide (x = y))))) := by
  obtain ⟨A0, c0, rfl, hlA0⟩ := h0.form
  have hbdA0 : l.length ≤ 140737488355328 := by have h := h0.bd; have e : tU8.by_ = 1 := rfl; rw [e] at h; omega
  refine ctr_enter Try.func48 c48 (by kernel_rfl) 19 (by kernel_rfl) (Nat.le_of_ble_eq_true (by kernel_rfl)) [(0, (Value.slice A0 l.length c0)), (1, (bv x))] (by kernel_rfl) ?_
  intro a hF1
  have hS2 := Stp.refl noM σ w
  refine c_seq [0] [1] (by kernel_rfl) ?_
  refine c_reg 0 (by kernel_rfl) ?_
  refine r_runk 1 [0, 1] [(0, (Value.slice A0 l.length c0)), (1, (bv x))] hF1 (by kernel_rfl) (by kernel_rfl) ?_
  intro a3 hF4
  refine r_end (by kernel_rfl) ?_
  refine c_seq [1, 0] [1, 1] (by kernel_rfl) ?_
  refine c_seq [1, 0, 0] [1, 0, 1] (by kernel_rfl) ?_
  refine c_reg 1 (by kernel_rfl) ?_
  refine r_runk 3 [8, 7, 0, 1] [(8, (Value.int .i64 ((0 : Nat) : Int))), (7, (Value.int .i64 ((l.length : Nat) : Int))), (0, (Value.slice A0 l.length c0)), (1, (bv x))] hF4 (by kernel_rfl) (by kernel_rfl) ?_
  intro a5 hF6
  refine r_end (by kernel_rfl) ?_
  refine c_block [1, 0, 1, 0] 0 (by kernel_rfl) ?_
  refine c_loop [1, 0, 1, 0, 0] (by kernel_rfl) (fun (k : Nat) a7 w8 => ∃ (s9 : Nat → Nat), Fr a7 19 [(0, (Value.slice A0 l.length c0)), (1, (bv x)), (7, (Value.int .i64 ((l.length : Nat) : Int))), (8, (Value.int .i64 ((k : Nat) : Int)))] ∧ Stp noM σ w s9 w8 ∧ k ≤ l.length ∧ ∀ j (hj : j < l.length), j < k → (fun y => decide (x = y)) l[j] = false) (fun k => l.length - k) 0 ?_ ?_
  · skip
    have hF12 := hF6.keep [0, 1, 7, 8] [(0, (Value.slice A0 l.length c0)), (1, (bv x)), (7, (Value.int .i64 ((l.length : Nat) : Int))), (8, (Value.int .i64 ((0 : Nat) : Int)))] (by kernel_rfl)
    exact ⟨σ, hF12, hS2, (by omega), (fun j _ h => absurd h (by omega))⟩
  · rintro k a7 w8 ⟨s9, hF10, hS11, hk, hb⟩
    refine c_seq [1, 0, 1, 0, 0, 0] [1, 0, 1, 0, 0, 1] (by kernel_rfl) ?_
    refine c_reg 2 (by kernel_rfl) ?_
    refine r_one (d := 9) (v0 := (Value.bool (decide (((k : Nat) : Int) < ((l.length : Nat) : Int))))) (v := (Value.bool (decide ((k : Nat) < l.length)))) hF10 (by kernel_rfl) (by kernel_rfl) (congrArg Value.bool (cmp_nat_lss _ _)) ?_
    intro a13 hF14
    refine r_end (by kernel_rfl) ?_
    refine c_seq [1, 0, 1, 0, 0, 1, 0] [1, 0, 1, 0, 0, 1, 1] (by kernel_rfl) ?_
    refine c_cond [1, 0, 1, 0, 0, 1, 0, 0] [1, 0, 1, 0, 0, 1, 0, 1] 9 (by kernel_rfl) hF14 (decide ((k : Nat) < l.length)) (by kernel_rfl) (fun hc15 => ?_) (fun hc15 => ?_)
    · skip
      have hc15 := of_decide_eq_true hc15
      refine c_skip (by kernel_rfl) ?_
      refine c_seq [1, 0, 1, 0, 0, 1, 1, 0] [1, 0, 1, 0, 0, 1, 1, 1] (by kernel_rfl) ?_
      refine c_block [1, 0, 1, 0, 0, 1, 1, 0, 0] 1 (by kernel_rfl) ?_
      refine c_seq [1, 0, 1, 0, 0, 1, 1, 0, 0, 0] [1, 0, 1, 0, 0, 1, 1, 0, 0, 1] (by kernel_rfl) ?_
      refine c_reg 3 (by kernel_rfl) ?_
      refine r_runk 2 [5, 0, 1, 7, 8] [(5, (Value.int .i64 ((k : Nat) : Int))), (0, (Value.slice A0 l.length c0)), (1, (bv x)), (7, (Value.int .i64 ((l.length : Nat) : Int))), (8, (Value.int .i64 ((k : Nat) : Int)))] hF14 (by kernel_rfl) (by kernel_rfl) ?_
      intro a16 hF17
      refine r_end (by kernel_rfl) ?_
      refine c_seq [1, 0, 1, 0, 0, 1, 1, 0, 0, 1, 0] [1, 0, 1, 0, 0, 1, 1, 0, 0, 1, 1] (by kernel_rfl) ?_
      refine c_reg 4 (by kernel_rfl) ?_
      refine r_runk 3 [13, 12, 11, 5, 0, 1, 7, 8] [(13, (Value.int .i64 ((k : Nat) : Int))), (12, (Value.slice A0 l.length c0)), (11, (bv x)), (5, (Value.int .i64 ((k : Nat) : Int))), (0, (Value.slice A0 l.length c0)), (1, (bv x)), (7, (Value.int .i64 ((l.length : Nat) : Int))), (8, (Value.int .i64 ((k : Nat) : Int)))] hF17 (by kernel_rfl) (by kernel_rfl) ?_
      intro a18 hF19
      have h20 : Rd tU8 s9 w8 (Value.slice A0 l.length c0) l := h0.step hS11
      have hi27 : k < (l).length := (by have hq := h20.ln; first | omega | (simp only [List.length_append, List.length_cons, List.length_nil, List.length_map] at *; omega))
      obtain ⟨b21, o22, c23, he24, hs25, hr26⟩ := (h20).at k hi27
      obtain ⟨o28, ho28⟩ : ∃ o, o = o22 + k * 1 := ⟨_, rfl⟩
      obtain ⟨x29, hx30⟩ : ∃ x, x = (l[k]'hi27) := ⟨_, rfl⟩
      rw [← hx30] at hr26
      have hr26 : c23 = [(bv x29)] := hr26
      subst hr26
      have hs25 : Seg s9 w8 b21 o28 [(bv x29)] := by rw [ho28]; exact hs25
      refine r_at (r_val (d := 14) (op := (Op.indexAddr 80 (Operand.tmp 12) (Operand.tmp 13))) hF19 (by kernel_rfl) (by kernel_rfl) (Value.pointer (some ⟨b21, o28, none⟩)) w8 (by rw [ho28]; exact exec_index (len := l.length) (cap := c0) he24 (by kernel_rfl) (kd := .i64) k (by kernel_rfl) (by have := h20.ln; omega) 1 U80 L47.s) ?_)
      intro a31 hF32
      refine r_at (r_val (d := 15) (op := (Op.load 47 (Operand.tmp 14))) hF32 (by kernel_rfl) (by kernel_rfl) (bv x29) w8 (exec_load L47 (.inr rfl) (by kernel_rfl) hs25.cell) ?_)
      intro a33 hF34
      refine r_one (d := 16) (v0 := (Value.bool (((x).toNat : Int) == ((x29).toNat : Int)))) (v := (Value.bool (decide ((x : UInt8) = x29)))) hF34 (by kernel_rfl) (by kernel_rfl) (congrArg Value.bool (cmp_u8_eql _ _)) ?_
      intro a35 hF36
      have hF37 := hF36.keep [16, 5, 0, 1, 7, 8] [(16, (Value.bool (decide ((x : UInt8) = x29)))), (5, (Value.int .i64 ((k : Nat) : Int))), (0, (Value.slice A0 l.length c0)), (1, (bv x)), (7, (Value.int .i64 ((l.length : Nat) : Int))), (8, (Value.int .i64 ((k : Nat) : Int)))] (by kernel_rfl)
      refine r_end (by kernel_rfl) ?_
      refine c_cond [1, 0, 1, 0, 0, 1, 1, 0, 0, 1, 1, 0] [1, 0, 1, 0, 0, 1, 1, 0, 0, 1, 1, 1] 16 (by kernel_rfl) hF37 (decide ((x : UInt8) = x29)) (by kernel_rfl) (fun hc38 => ?_) (fun hc38 => ?_)
      · skip
        have hc38 := of_decide_eq_true hc38
        refine c_seq [1, 0, 1, 0, 0, 1, 1, 0, 0, 1, 1, 0, 0] [1, 0, 1, 0, 0, 1, 1, 0, 0, 1, 1, 0, 1] (by kernel_rfl) ?_
        refine c_reg 5 (by kernel_rfl) ?_
        refine r_runk 2 [4] [(4, (Value.int .i64 ((k : Nat) : Int)))] hF37 (by kernel_rfl) (by kernel_rfl) ?_
        intro a39 hF40
        refine r_end (by kernel_rfl) ?_
        refine c_ret (by kernel_rfl) ?_
        try dsimp only [Exit.then, Exit.inBlock]
        refine f_ret1 hF40 4 (by kernel_rfl) (Value.int .i64 ((k : Nat) : Int)) (by kernel_rfl) s9 hS11 ?_
        subst hx30; 
        rw [idxI_at (fun y => decide (x = y)) l k (by omega) hb (decide_eq_true hc38)]
      · skip
        have hc38 := of_decide_eq_false hc38
        refine c_skip (by kernel_rfl) ?_
        refine c_reg 6 (by kernel_rfl) ?_
        refine r_one (d := 18) (v0 := (Value.int .i64 (IntKind.i64.wrap (((k : Nat) : Int) + ((1 : Nat) : Int))))) (v := (Value.int .i64 ((k + 1 : Nat) : Int))) hF37 (by kernel_rfl) (by kernel_rfl) (congrArg (Value.int .i64) (i64_eq (by omega) (by omega) (by omega))) ?_
        intro a41 hF42
        refine r_runk 1 [8, 0, 1, 7] [(8, (Value.int .i64 ((k + 1 : Nat) : Int))), (0, (Value.slice A0 l.length c0)), (1, (bv x)), (7, (Value.int .i64 ((l.length : Nat) : Int)))] hF42 (by kernel_rfl) (by kernel_rfl) ?_
        intro a43 hF44
        refine r_end (by kernel_rfl) ?_
        have hF45 := hF44.keep [0, 1, 7, 8] [(0, (Value.slice A0 l.length c0)), (1, (bv x)), (7, (Value.int .i64 ((l.length : Nat) : Int))), (8, (Value.int .i64 ((k + 1 : Nat) : Int)))] (by kernel_rfl)
        exact ⟨k + 1, ⟨s9, hF45, hS11, (by omega), (by subst hx30; exact before_succ (p := fun y => decide (x = y)) (by omega) hb (decide_eq_false hc38))⟩, by omega⟩
    · skip
      have hc15 := of_decide_eq_false hc15
      refine c_exit 0 (by kernel_rfl) ?_
      refine c_seq [1, 1, 0] [1, 1, 1] (by kernel_rfl) ?_
      refine c_reg 7 (by kernel_rfl) ?_
      refine r_runk 1 [4] [(4, (Value.int .i64 (-1)))] hF14 (by kernel_rfl) (by kernel_rfl) ?_
      intro a46 hF47
      refine r_end (by kernel_rfl) ?_
      refine c_ret (by kernel_rfl) ?_
      try dsimp only [Exit.then, Exit.inBlock]
      refine f_ret1 hF47 4 (by kernel_rfl) (Value.int .i64 (-1)) (by kernel_rfl) s9 hS11 ?_
      have hk8 : k = l.length := by omega
      subst hk8
      rw [idxI_none (fun y => decide (x = y)) l hb]
theorem contains_calls (σ : Nat → Nat) (w : World) {v0 : Value} {l : List UInt8} (h0 : Rd tU8 σ w v0 l) (x : UInt8) :
    Ctr Try.prog 47 [v0, (bv x)] noM σ w (fun σ' w' v => v = .bool (l.contains x)) := by
  obtain ⟨A0, c0, rfl, hlA0⟩ := h0.form
  have hbdA0 : l.length ≤ 140737488355328 := by have h := h0.bd; have e : tU8.by_ = 1 := rfl; rw [e] at h; omega
  refine ctr_enter Try.func47 c47 (by kernel_rfl) 9 (by kernel_rfl) (Nat.le_of_ble_eq_true (by kernel_rfl)) [(0, (Value.slice A0 l.length c0)), (1, (bv x))] (by kernel_rfl) ?_
  intro a hF1
  have hS2 := Stp.refl noM σ w
  refine c_seq [0] [1] (by kernel_rfl) ?_
  refine c_reg 0 (by kernel_rfl) ?_
  refine r_runk 1 [0, 1] [(0, (Value.slice A0 l.length c0)), (1, (bv x))] hF1 (by kernel_rfl) (by kernel_rfl) ?_
  intro a3 hF4
  refine r_end (by kernel_rfl) ?_
  refine c_seq [1, 0] [1, 1] (by kernel_rfl) ?_
  refine c_reg 1 (by kernel_rfl) ?_
  refine r_runk 2 [6, 5] [(6, (bv x)), (5, (Value.slice A0 l.length c0))] hF4 (by kernel_rfl) (by kernel_rfl) ?_
  intro a5 hF6
  refine r_at (r_call (d := (some 7)) (f := 48) (args := #[(Operand.tmp 5), (Operand.tmp 6)]) (tys := #[80, 47]) hF6 (by kernel_rfl) (by kernel_rfl) C48 [(Value.slice A0 l.length c0), (bv x)] (by kernel_rfl) (index_calls σ w h0 x) ?_)
  intro a7 s8 w9 v10 st11 hP12 hF13
  have hz14 := hS2.size
  have hS15 := hS2.then st11
  subst hP12
  refine r_one (d := 8) (v0 := (Value.bool (decide ((idxI (l.findIdx? (fun y => decide (x = y))) : Int) ≥ ((0 : Nat) : Int))))) (v := (Value.bool (decide ((idxI (l.findIdx? (fun y => decide (x = y))) : Int) ≥ ((0 : Nat) : Int))))) hF13 (by kernel_rfl) (by kernel_rfl) (congrArg Value.bool (cmp_int_geq _ _)) ?_
  intro a16 hF17
  refine r_runk 1 [4] [(4, (Value.bool (decide ((idxI (l.findIdx? (fun y => decide (x = y))) : Int) ≥ ((0 : Nat) : Int)))))] hF17 (by kernel_rfl) (by kernel_rfl) ?_
  intro a18 hF19
  refine r_end (by kernel_rfl) ?_
  refine c_ret (by kernel_rfl) ?_
  try dsimp only [Exit.then, Exit.inBlock]
  refine f_ret1 hF19 4 (by kernel_rfl) (Value.bool (decide ((idxI (l.findIdx? (fun y => decide (x = y))) : Int) ≥ ((0 : Nat) : Int)))) (by kernel_rfl) s8 hS15 ?_
  exact congrArg Value.bool (idxI_ge _ _)
theorem same1_calls (σ : Nat → Nat) (w : World) {vk : Value} {kinds : List UInt8} {p : Packet} {bk bp : Nat} (h0 : Rd tU8 σ w vk kinds) (hbk : Bx σ w bk [vk] 80) (hbp : Bx σ w bp [(Value.int .i64 (p.channel)), (uv p.seq), (uv p.timeout), (sv p.denom), (uv p.amount), (sv p.src), (sv p.dst)] 56) (e : Event) :
    Ctr Try.prog 46 [(Value.agg #[(bv e.kind), (Value.int .i64 (e.packet.channel)), (uv e.packet.seq), (uv e.packet.timeout), (sv e.packet.denom), (uv e.packet.amount), (sv e.packet.src), (sv e.packet.dst), (Value.bool e.ack.ok), (Value.int .i64 (e.ack.code))]), (Value.pointer (some ⟨bk, 0, none⟩)), (Value.pointer (some ⟨bp, 0, none⟩))] noM σ w (fun σ' w' v => v = .bool (isOf kinds p e)) := by
  obtain ⟨A0, c0, rfl, hlA0⟩ := h0.form
  have hbdA0 : kinds.length ≤ 140737488355328 := by have h := h0.bd; have e : tU8.by_ = 1 := rfl; rw [e] at h; omega
  have hbkl := hbk.lt
  have hbpl := hbp.lt
  refine ctr_enter Try.func46 c46 (by kernel_rfl) 15 (by kernel_rfl) (Nat.le_of_ble_eq_true (by kernel_rfl)) [(0, (Value.agg #[(bv e.kind), (Value.int .i64 (e.packet.channel)), (uv e.packet.seq), (uv e.packet.timeout), (sv e.packet.denom), (uv e.packet.amount), (sv e.packet.src), (sv e.packet.dst), (Value.bool e.ack.ok), (Value.int .i64 (e.ack.code))])), (1, (Value.pointer (some ⟨bk, 0, none⟩))), (2, (Value.pointer (some ⟨bp, 0, none⟩)))] (by kernel_rfl) ?_
  intro a hF1
  have hS2 := Stp.refl noM σ w
  refine c_seq [0] [1] (by kernel_rfl) ?_
  refine c_reg 0 (by kernel_rfl) ?_
  refine r_at (r_new (d := 3) (op := (Op.box 60 (Operand.tmp 0))) hF1 (by kernel_rfl) (by kernel_rfl) σ [(bv e.kind), (Value.int .i64 (e.packet.channel)), (uv e.packet.seq), (uv e.packet.timeout), (sv e.packet.denom), (uv e.packet.amount), (sv e.packet.src), (sv e.packet.dst), (Value.bool e.ack.ok), (Value.int .i64 (e.ack.code))] 60 (exec_box [(bv e.kind), (Value.int .i64 (e.packet.channel)), (uv e.packet.seq), (uv e.packet.timeout), (sv e.packet.denom), (uv e.packet.amount), (sv e.packet.src), (sv e.packet.dst), (Value.bool e.ack.ok), (Value.int .i64 (e.ack.code))] (by kernel_rfl)) ?_)
  intro a3 s4 w5 b6 hb7 st8 hB9 hF10
  have hz11 := hS2.size
  have ne12 : bk < b6 := by have := hbk.lt; omega
  have ne13 : bp < b6 := by have := hbp.lt; omega
  have hS14 := hS2.then st8
  refine r_runk 1 [3, 1, 2] [(3, (Value.pointer (some ⟨b6, 0, none⟩))), (1, (Value.pointer (some ⟨bk, 0, none⟩))), (2, (Value.pointer (some ⟨bp, 0, none⟩)))] hF10 (by kernel_rfl) (by kernel_rfl) ?_
  intro a15 hF16
  refine r_end (by kernel_rfl) ?_
  refine c_seq [1, 0] [1, 1] (by kernel_rfl) ?_
  refine c_reg 1 (by kernel_rfl) ?_
  have h17 : Bx s4 w5 bk [(Value.slice A0 kinds.length c0)] 80 := hbk.step' hS14
  refine r_at (r_val (d := 5) (op := (Op.load 80 (Operand.tmp 1))) hF16 (by kernel_rfl) (by kernel_rfl) (Value.slice A0 kinds.length c0) w5 (exec_load L80 (.inr rfl) (by kernel_rfl) (Bx.cells h17 0 1 [(Value.slice A0 kinds.length c0)] (by kernel_rfl))) ?_)
  intro a18 hF19
  refine r_runk 1 [6, 5, 3, 2] [(6, (Value.pointer (some ⟨b6, 0, none⟩))), (5, (Value.slice A0 kinds.length c0)), (3, (Value.pointer (some ⟨b6, 0, none⟩))), (2, (Value.pointer (some ⟨bp, 0, none⟩)))] hF19 (by kernel_rfl) (by kernel_rfl) ?_
  intro a20 hF21
  refine r_at (r_val (d := 7) (op := (Op.load 47 (Operand.tmp 6))) hF21 (by kernel_rfl) (by kernel_rfl) (bv e.kind) w5 (exec_load L47 (.inr rfl) (by kernel_rfl) (Bx.cells hB9 0 1 [(bv e.kind)] (by kernel_rfl))) ?_)
  intro a22 hF23
  have h24 : Rd tU8 s4 w5 (Value.slice A0 kinds.length c0) kinds := h0.step hS14
  have h25 : Bx s4 w5 bp [(Value.int .i64 (p.channel)), (uv p.seq), (uv p.timeout), (sv p.denom), (uv p.amount), (sv p.src), (sv p.dst)] 56 := hbp.step' hS14
  refine r_at (r_call (d := (some 8)) (f := 47) (args := #[(Operand.tmp 5), (Operand.tmp 7)]) (tys := #[80, 47]) hF23 (by kernel_rfl) (by kernel_rfl) C47 [(Value.slice A0 kinds.length c0), (bv e.kind)] (by kernel_rfl) (contains_calls s4 w5 h24 e.kind) ?_)
  intro a26 s27 w28 v29 st30 hP31 hF32
  have hz33 := hS14.size
  have hS34 := hS14.then st30
  subst hP31
  refine r_runk 1 [9, 3, 2] [(9, (Value.bool (kinds.contains e.kind))), (3, (Value.pointer (some ⟨b6, 0, none⟩))), (2, (Value.pointer (some ⟨bp, 0, none⟩)))] hF32 (by kernel_rfl) (by kernel_rfl) ?_
  intro a35 hF36
  rcases Bool.eq_false_or_eq_true (kinds.contains e.kind) with hg37 | hg37
  · skip
    have hF38 := hF36.set 9 (Value.bool (kinds.contains e.kind)) (Value.bool true) (by kernel_rfl) (congrArg Value.bool hg37)
    refine r_runk 1 [10, 9, 2] [(10, (Value.pointer (some ⟨b6, 1, none⟩))), (9, (Value.bool true)), (2, (Value.pointer (some ⟨bp, 0, none⟩)))] hF38 (by kernel_rfl) (by kernel_rfl) ?_
    intro a39 hF40
    have h41 : Bx s27 w28 b6 [(bv e.kind), (Value.int .i64 (e.packet.channel)), (uv e.packet.seq), (uv e.packet.timeout), (sv e.packet.denom), (uv e.packet.amount), (sv e.packet.src), (sv e.packet.dst), (Value.bool e.ack.ok), (Value.int .i64 (e.ack.code))] 60 := (hB9.step' st30)
    refine r_at (r_val (d := 11) (op := (Op.load 56 (Operand.tmp 10))) hF40 (by kernel_rfl) (by kernel_rfl) (Value.agg #[(Value.int .i64 (e.packet.channel)), (uv e.packet.seq), (uv e.packet.timeout), (sv e.packet.denom), (uv e.packet.amount), (sv e.packet.src), (sv e.packet.dst)]) w28 (exec_load L56 (.inl rfl) (by kernel_rfl) (Bx.cells h41 1 7 [(Value.int .i64 (e.packet.channel)), (uv e.packet.seq), (uv e.packet.timeout), (sv e.packet.denom), (uv e.packet.amount), (sv e.packet.src), (sv e.packet.dst)] (by kernel_rfl))) ?_)
    intro a42 hF43
    have h44 : Bx s27 w28 bp [(Value.int .i64 (p.channel)), (uv p.seq), (uv p.timeout), (sv p.denom), (uv p.amount), (sv p.src), (sv p.dst)] 56 := (h25.step' st30)
    refine r_at (r_val (d := 12) (op := (Op.load 56 (Operand.tmp 2))) hF43 (by kernel_rfl) (by kernel_rfl) (Value.agg #[(Value.int .i64 (p.channel)), (uv p.seq), (uv p.timeout), (sv p.denom), (uv p.amount), (sv p.src), (sv p.dst)]) w28 (exec_load L56 (.inl rfl) (by kernel_rfl) (Bx.cells h44 0 7 [(Value.int .i64 (p.channel)), (uv p.seq), (uv p.timeout), (sv p.denom), (uv p.amount), (sv p.src), (sv p.dst)] (by kernel_rfl))) ?_)
    intro a45 hF46
    refine r_at (r_val (d := 13) (op := (Op.binOp BinOp.eql 56 (Operand.tmp 11) (Operand.tmp 12) 56)) hF46 (by kernel_rfl) (by kernel_rfl) (Value.bool (decide (e.packet = p))) w28 (exec_eqS (r := decide (e.packet = p)) (by kernel_rfl) (by kernel_rfl) (by kernel_rfl) (fun w => eqin56 9998 e.packet p w)) ?_)
    intro a47 hF48
    refine r_runk 2 [4] [(4, (Value.bool (decide (e.packet = p))))] hF48 (by kernel_rfl) (by kernel_rfl) ?_
    intro a49 hF50
    refine r_end (by kernel_rfl) ?_
    refine c_ret (by kernel_rfl) ?_
    try dsimp only [Exit.then, Exit.inBlock]
    refine f_ret1 hF50 4 (by kernel_rfl) (Value.bool (decide (e.packet = p))) (by kernel_rfl) s27 hS34 ?_
    refine congrArg Value.bool ?_
    unfold isOf
    simp_all
  · skip
    have hF51 := hF36.set 9 (Value.bool (kinds.contains e.kind)) (Value.bool false) (by kernel_rfl) (congrArg Value.bool hg37)
    refine r_runk 6 [4] [(4, (Value.bool false))] hF51 (by kernel_rfl) (by kernel_rfl) ?_
    intro a52 hF53
    refine r_end (by kernel_rfl) ?_
    refine c_ret (by kernel_rfl) ?_
    try dsimp only [Exit.then, Exit.inBlock]
    refine f_ret1 hF53 4 (by kernel_rfl) (Value.bool false) (by kernel_rfl) s27 hS34 ?_
    refine congrArg Value.bool ?_
    unfold isOf
    simp_all
theorem sent1_calls (σ : Nat → Nat) (w : World) {c : Int} {bc : Nat} (hbc : Bx σ w bc [iv c] 3) (e : Event) :
    Ctr Try.prog 44 [(Value.agg #[(bv e.kind), (Value.int .i64 (e.packet.channel)), (uv e.packet.seq), (uv e.packet.timeout), (sv e.packet.denom), (uv e.packet.amount), (sv e.packet.src), (sv e.packet.dst), (Value.bool e.ack.ok), (Value.int .i64 (e.ack.code))]), (Value.pointer (some ⟨bc, 0, none⟩))] noM σ w (fun σ' w' v => v = .bool (decide (e.kind = 1) && decide (e.packet.channel = c))) := by
  have hbcl := hbc.lt
  refine ctr_enter Try.func44 c44 (by kernel_rfl) 14 (by kernel_rfl) (Nat.le_of_ble_eq_true (by kernel_rfl)) [(0, (Value.agg #[(bv e.kind), (Value.int .i64 (e.packet.channel)), (uv e.packet.seq), (uv e.packet.timeout), (sv e.packet.denom), (uv e.packet.amount), (sv e.packet.src), (sv e.packet.dst), (Value.bool e.ack.ok), (Value.int .i64 (e.ack.code))])), (1, (Value.pointer (some ⟨bc, 0, none⟩)))] (by kernel_rfl) ?_
  intro a hF1
  have hS2 := Stp.refl noM σ w
  refine c_seq [0] [1] (by kernel_rfl) ?_
  refine c_reg 0 (by kernel_rfl) ?_
  refine r_at (r_new (d := 2) (op := (Op.box 60 (Operand.tmp 0))) hF1 (by kernel_rfl) (by kernel_rfl) σ [(bv e.kind), (Value.int .i64 (e.packet.channel)), (uv e.packet.seq), (uv e.packet.timeout), (sv e.packet.denom), (uv e.packet.amount), (sv e.packet.src), (sv e.packet.dst), (Value.bool e.ack.ok), (Value.int .i64 (e.ack.code))] 60 (exec_box [(bv e.kind), (Value.int .i64 (e.packet.channel)), (uv e.packet.seq), (uv e.packet.timeout), (sv e.packet.denom), (uv e.packet.amount), (sv e.packet.src), (sv e.packet.dst), (Value.bool e.ack.ok), (Value.int .i64 (e.ack.code))] (by kernel_rfl)) ?_)
  intro a3 s4 w5 b6 hb7 st8 hB9 hF10
  have hz11 := hS2.size
  have ne12 : bc < b6 := by have := hbc.lt; omega
  have hS13 := hS2.then st8
  refine r_runk 1 [2, 1] [(2, (Value.pointer (some ⟨b6, 0, none⟩))), (1, (Value.pointer (some ⟨bc, 0, none⟩)))] hF10 (by kernel_rfl) (by kernel_rfl) ?_
  intro a14 hF15
  refine r_end (by kernel_rfl) ?_
  refine c_seq [1, 0] [1, 1] (by kernel_rfl) ?_
  refine c_reg 1 (by kernel_rfl) ?_
  refine r_runk 1 [4, 2, 1] [(4, (Value.pointer (some ⟨b6, 0, none⟩))), (2, (Value.pointer (some ⟨b6, 0, none⟩))), (1, (Value.pointer (some ⟨bc, 0, none⟩)))] hF15 (by kernel_rfl) (by kernel_rfl) ?_
  intro a16 hF17
  refine r_at (r_val (d := 5) (op := (Op.load 47 (Operand.tmp 4))) hF17 (by kernel_rfl) (by kernel_rfl) (bv e.kind) w5 (exec_load L47 (.inr rfl) (by kernel_rfl) (Bx.cells hB9 0 1 [(bv e.kind)] (by kernel_rfl))) ?_)
  intro a18 hF19
  refine r_one (d := 6) (v0 := (Value.bool (((e.kind).toNat : Int) == ((1 : UInt8).toNat : Int)))) (v := (Value.bool (decide ((e.kind : UInt8) = 1)))) hF19 (by kernel_rfl) (by kernel_rfl) (congrArg Value.bool (cmp_u8_eql _ _)) ?_
  intro a20 hF21
  refine r_runk 1 [7, 2, 1] [(7, (Value.bool (decide ((e.kind : UInt8) = 1)))), (2, (Value.pointer (some ⟨b6, 0, none⟩))), (1, (Value.pointer (some ⟨bc, 0, none⟩)))] hF21 (by kernel_rfl) (by kernel_rfl) ?_
  intro a22 hF23
  rcases Bool.eq_false_or_eq_true (decide ((e.kind : UInt8) = 1)) with hg24 | hg24
  · skip
    have hF25 := hF23.set 7 (Value.bool (decide ((e.kind : UInt8) = 1))) (Value.bool true) (by kernel_rfl) (congrArg Value.bool hg24)
    have hc26 := of_decide_eq_true hg24
    refine r_runk 2 [9, 7, 1] [(9, (Value.pointer (some ⟨b6, 1, none⟩))), (7, (Value.bool true)), (1, (Value.pointer (some ⟨bc, 0, none⟩)))] hF25 (by kernel_rfl) (by kernel_rfl) ?_
    intro a27 hF28
    refine r_at (r_val (d := 10) (op := (Op.load 3 (Operand.tmp 9))) hF28 (by kernel_rfl) (by kernel_rfl) (Value.int .i64 (e.packet.channel)) w5 (exec_load L3 (.inr rfl) (by kernel_rfl) (Bx.cells hB9 1 1 [(Value.int .i64 (e.packet.channel))] (by kernel_rfl))) ?_)
    intro a29 hF30
    have h31 : Bx s4 w5 bc [(iv c)] 3 := hbc.step' hS13
    refine r_at (r_val (d := 11) (op := (Op.load 3 (Operand.tmp 1))) hF30 (by kernel_rfl) (by kernel_rfl) (Value.int .i64 (c)) w5 (exec_load L3 (.inr rfl) (by kernel_rfl) (Bx.cells h31 0 1 [(Value.int .i64 (c))] (by kernel_rfl))) ?_)
    intro a32 hF33
    refine r_one (d := 12) (v0 := (Value.bool ((e.packet.channel : Int) == (c : Int)))) (v := (Value.bool (decide ((e.packet.channel : Int) = c)))) hF33 (by kernel_rfl) (by kernel_rfl) (congrArg Value.bool (cmp_int_eql _ _)) ?_
    intro a34 hF35
    refine r_runk 2 [3] [(3, (Value.bool (decide ((e.packet.channel : Int) = c))))] hF35 (by kernel_rfl) (by kernel_rfl) ?_
    intro a36 hF37
    refine r_end (by kernel_rfl) ?_
    refine c_ret (by kernel_rfl) ?_
    try dsimp only [Exit.then, Exit.inBlock]
    refine f_ret1 hF37 3 (by kernel_rfl) (Value.bool (decide ((e.packet.channel : Int) = c))) (by kernel_rfl) s4 hS13 ?_
    refine congrArg Value.bool ?_
    simp_all
  · skip
    have hF38 := hF23.set 7 (Value.bool (decide ((e.kind : UInt8) = 1))) (Value.bool false) (by kernel_rfl) (congrArg Value.bool hg24)
    have hc39 := of_decide_eq_false hg24
    refine r_runk 7 [3] [(3, (Value.bool false))] hF38 (by kernel_rfl) (by kernel_rfl) ?_
    intro a40 hF41
    refine r_end (by kernel_rfl) ?_
    refine c_ret (by kernel_rfl) ?_
    try dsimp only [Exit.then, Exit.inBlock]
    refine f_ret1 hF41 3 (by kernel_rfl) (Value.bool false) (by kernel_rfl) s4 hS13 ?_
    refine congrArg Value.bool ?_
    simp_all
end Go.Proofs.Ytaoamokfbhlaaaa.E
