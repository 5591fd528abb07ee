/- Walks, printed by a program of this session. -/
import Derived.Test.YtaoamokfbhlaaaaK
import Derived.Test.Ytaoamokfbhlaaaapure21b
import Derived.Test.YtaoamokfbhlaaaaRt
set_option linter.unusedVariables false
set_option linter.unusedSimpArgs false
set_option maxRecDepth 100000
namespace Go.Proofs.Ytaoamokfbhlaaaa.E
open Go Go.RowKit
open Go.Proofs
theorem in_calls (σ : Nat → Nat) (w : World) {v0 : Value} {la : List Packet} (h0 : Rd tPacket σ w v0 la) (p : Packet) :
    Ctr Try.prog 32 [v0, (Value.agg #[(Value.int .i64 (p.channel)), (uv p.seq), (uv p.timeout), (sv p.denom), (uv p.amount), (sv p.src), (sv p.dst)])] noM σ w (fun σ' w' v => v = .bool (inL la p)) := by
  obtain ⟨A0, c0, rfl, hlA0⟩ := h0.form
  have hbdA0 : la.length ≤ 140737488355328 := by have h := h0.bd; have e : tPacket.by_ = 80 := rfl; rw [e] at h; omega
  refine ctr_enter Try.func32 c32 (by kernel_rfl) 18 (by kernel_rfl) (Nat.le_of_ble_eq_true (by kernel_rfl)) [(0, (Value.slice A0 la.length c0)), (1, (Value.agg #[(Value.int .i64 (p.channel)), (uv p.seq), (uv p.timeout), (sv p.denom), (uv p.amount), (sv p.src), (sv p.dst)]))] (by kernel_rfl) ?_
  intro a hF1
  have hS2 := Stp.refl noM σ w
  refine c_seq [0] [1] (by kernel_rfl) ?_
  refine c_reg 0 (by kernel_rfl) ?_
  refine r_at (r_new (d := 3) (op := (Op.box 56 (Operand.tmp 1))) hF1 (by kernel_rfl) (by kernel_rfl) σ [(Value.int .i64 (p.channel)), (uv p.seq), (uv p.timeout), (sv p.denom), (uv p.amount), (sv p.src), (sv p.dst)] 56 (exec_box [(Value.int .i64 (p.channel)), (uv p.seq), (uv p.timeout), (sv p.denom), (uv p.amount), (sv p.src), (sv p.dst)] (by kernel_rfl)) ?_)
  intro a3 s4 w5 b6 hb7 st8 hB9 hF10
  have hz11 := hS2.size
  have hS12 := hS2.then st8
  refine r_runk 1 [3, 0] [(3, (Value.pointer (some ⟨b6, 0, none⟩))), (0, (Value.slice A0 la.length c0))] hF10 (by kernel_rfl) (by kernel_rfl) ?_
  intro a13 hF14
  refine r_end (by kernel_rfl) ?_
  refine c_seq [1, 0] [1, 1] (by kernel_rfl) ?_
  refine c_seq [1, 0, 0] [1, 0, 1] (by kernel_rfl) ?_
  refine c_reg 1 (by kernel_rfl) ?_
  refine r_runk 1 [5, 3, 0] [(5, (Value.int .i64 ((0 : Nat) : Int))), (3, (Value.pointer (some ⟨b6, 0, none⟩))), (0, (Value.slice A0 la.length c0))] hF14 (by kernel_rfl) (by kernel_rfl) ?_
  intro a15 hF16
  refine r_end (by kernel_rfl) ?_
  refine c_block [1, 0, 1, 0] 0 (by kernel_rfl) ?_
  refine c_loop [1, 0, 1, 0, 0] (by kernel_rfl) (fun (k : Nat) a17 w18 => ∃ (s19 : Nat → Nat), Fr a17 18 [(0, (Value.slice A0 la.length c0)), (3, (Value.pointer (some ⟨b6, 0, none⟩))), (5, (Value.int .i64 ((k : Nat) : Int)))] ∧ Stp noM σ w s19 w18 ∧ Bx s19 w18 b6 [(Value.int .i64 (p.channel)), (uv p.seq), (uv p.timeout), (sv p.denom), (uv p.amount), (sv p.src), (sv p.dst)] 56 ∧ k ≤ la.length ∧ ∀ j (hj : j < la.length), j < k → decide (la[j] = p) = false) (fun k => la.length - k) 0 ?_ ?_
  · skip
    have hF22 := hF16.keep [0, 3, 5] [(0, (Value.slice A0 la.length c0)), (3, (Value.pointer (some ⟨b6, 0, none⟩))), (5, (Value.int .i64 ((0 : Nat) : Int)))] (by kernel_rfl)
    exact ⟨s4, hF22, hS12, hB9, (by omega), (fun j _ h => absurd h (by omega))⟩
  · rintro k a17 w18 ⟨s19, hF20, hS21, h23, hk, hb⟩
    refine c_seq [1, 0, 1, 0, 0, 0] [1, 0, 1, 0, 0, 1] (by kernel_rfl) ?_
    refine c_seq [1, 0, 1, 0, 0, 0, 0] [1, 0, 1, 0, 0, 0, 1] (by kernel_rfl) ?_
    refine c_reg 2 (by kernel_rfl) ?_
    refine r_runk 3 [8, 6, 0, 3, 5] [(8, (Value.int .i64 ((la.length : Nat) : Int))), (6, (Value.int .i64 ((k : Nat) : Int))), (0, (Value.slice A0 la.length c0)), (3, (Value.pointer (some ⟨b6, 0, none⟩))), (5, (Value.int .i64 ((k : Nat) : Int)))] hF20 (by kernel_rfl) (by kernel_rfl) ?_
    intro a24 hF25
    refine r_one (d := 9) (v0 := (Value.bool (decide (((k : Nat) : Int) < ((la.length : Nat) : Int))))) (v := (Value.bool (decide ((k : Nat) < la.length)))) hF25 (by kernel_rfl) (by kernel_rfl) (congrArg Value.bool (cmp_nat_lss _ _)) ?_
    intro a26 hF27
    have hF28 := hF27.keep [9, 0, 3, 5] [(9, (Value.bool (decide ((k : Nat) < la.length)))), (0, (Value.slice A0 la.length c0)), (3, (Value.pointer (some ⟨b6, 0, none⟩))), (5, (Value.int .i64 ((k : Nat) : Int)))] (by kernel_rfl)
    refine r_end (by kernel_rfl) ?_
    refine c_cond [1, 0, 1, 0, 0, 0, 1, 0] [1, 0, 1, 0, 0, 0, 1, 1] 9 (by kernel_rfl) hF28 (decide ((k : Nat) < la.length)) (by kernel_rfl) (fun hc29 => ?_) (fun hc29 => ?_)
    · skip
      have hc29 := of_decide_eq_true hc29
      refine c_skip (by kernel_rfl) ?_
      refine c_seq [1, 0, 1, 0, 0, 1, 0] [1, 0, 1, 0, 0, 1, 1] (by kernel_rfl) ?_
      refine c_block [1, 0, 1, 0, 0, 1, 0, 0] 1 (by kernel_rfl) ?_
      refine c_seq [1, 0, 1, 0, 0, 1, 0, 0, 0] [1, 0, 1, 0, 0, 1, 0, 0, 1] (by kernel_rfl) ?_
      refine c_plan 4 (by kernel_rfl) (by kernel_rfl) s19 (fun b => b ≠ b6 ∧ True) [(0, true), (1, true), (2, true), (3, true), (4, true), (5, true)] [(0, 4096, 1), (0, 8192, 32), (3, 16384, 12288), (4, 32768, 16384), (0, 65536, 8), (24, 131072, 98304)] (by kernel_rfl) (by kernel_rfl) (by kernel_rfl) (by kernel_rfl) ?_
      intro w30 st31
      have hS32 := hS21.then st31
      refine p_run (d := 12) (v := (Value.slice A0 la.length c0)) hF28 (by kernel_rfl) (fun _ => by kernel_rfl) (fun _ _ _ h => h) ?_
      intro a33 hF34
      refine p_run (d := 13) (v := (Value.int .i64 ((k : Nat) : Int))) hF34 (by kernel_rfl) (fun _ => by kernel_rfl) (fun _ _ _ h => h) ?_
      intro a35 hF36
      have h37 : Rd tPacket s19 w30 (Value.slice A0 la.length c0) la := h0.step hS32
      have hi44 : k < (la).length := (by have hq := h37.ln; first | omega | (simp only [List.length_append, List.length_cons, List.length_nil, List.length_map] at *; omega))
      obtain ⟨b38, o39, c40, he41, hs42, hr43⟩ := (h37).at k hi44
      obtain ⟨o45, ho45⟩ : ∃ o, o = o39 + k * 7 := ⟨_, rfl⟩
      obtain ⟨x46, hx47⟩ : ∃ x, x = (la[k]'hi44) := ⟨_, rfl⟩
      rw [← hx47] at hr43
      have hr43 : c40 = [(Value.int .i64 (x46.channel)), (uv x46.seq), (uv x46.timeout), (sv x46.denom), (uv x46.amount), (sv x46.src), (sv x46.dst)] := hr43
      subst hr43
      have hs42 : Seg s19 w30 b38 o45 [(Value.int .i64 (x46.channel)), (uv x46.seq), (uv x46.timeout), (sv x46.denom), (uv x46.amount), (sv x46.src), (sv x46.dst)] := by rw [ho45]; exact hs42
      refine p_val (d := 14) (op := (Op.indexAddr 43 (Operand.tmp 12) (Operand.tmp 13))) (v := (Value.pointer (some ⟨b38, o45, none⟩))) hF36 (by kernel_rfl) (by kernel_rfl) (fun w9 ⟨s9, hw9⟩ => (by rw [ho45]; exact exec_index (len := la.length) (cap := c0) he41 (by kernel_rfl) (kd := .i64) k (by kernel_rfl) (by have := h37.ln; omega) 7 U43 L56.s)) (fun _ _ _ h => h) ?_
      intro a48 hF49
      refine p_val (d := 15) (op := (Op.load 56 (Operand.tmp 14))) (v := (Value.agg #[(Value.int .i64 (x46.channel)), (uv x46.seq), (uv x46.timeout), (sv x46.denom), (uv x46.amount), (sv x46.src), (sv x46.dst)])) hF49 (by kernel_rfl) (by kernel_rfl) (fun w9 ⟨s9, hw9⟩ => (exec_load L56 (.inl rfl) (by kernel_rfl) (hs42.step hw9).cell)) (fun _ _ _ h => h) ?_
      intro a50 hF51
      have h52 : Bx s19 w30 b6 [(Value.int .i64 (p.channel)), (uv p.seq), (uv p.timeout), (sv p.denom), (uv p.amount), (sv p.src), (sv p.dst)] 56 := (h23.step' st31)
      refine p_val (d := 16) (op := (Op.load 56 (Operand.tmp 3))) (v := (Value.agg #[(Value.int .i64 (p.channel)), (uv p.seq), (uv p.timeout), (sv p.denom), (uv p.amount), (sv p.src), (sv p.dst)])) hF51 (by kernel_rfl) (by kernel_rfl) (fun w9 ⟨s9, hw9⟩ => (exec_load L56 (.inl rfl) (by kernel_rfl) (Bx.cells (h52.step hw9 (fun h => h.1 rfl)) 0 7 [(Value.int .i64 (p.channel)), (uv p.seq), (uv p.timeout), (sv p.denom), (uv p.amount), (sv p.src), (sv p.dst)] (by kernel_rfl)))) (fun _ _ _ h => h) ?_
      intro a53 hF54
      refine p_val (d := 17) (op := (Op.binOp BinOp.eql 56 (Operand.tmp 15) (Operand.tmp 16) 56)) (v := (Value.bool (decide (x46 = p)))) hF54 (by kernel_rfl) (by kernel_rfl) (fun w9 ⟨s9, hw9⟩ => (exec_eqS (r := decide (x46 = p)) (by kernel_rfl) (by kernel_rfl) (by kernel_rfl) (fun w => eqin56 9998 x46 p w))) (fun _ _ _ h => h) ?_
      intro a55 hF56
      refine p_end ?_
      have hF57 := hF56.keep [17, 0, 3, 5] [(17, (Value.bool (decide (x46 = p)))), (0, (Value.slice A0 la.length c0)), (3, (Value.pointer (some ⟨b6, 0, none⟩))), (5, (Value.int .i64 ((k : Nat) : Int)))] (by kernel_rfl)
      refine c_cond [1, 0, 1, 0, 0, 1, 0, 0, 1, 0] [1, 0, 1, 0, 0, 1, 0, 0, 1, 1] 17 (by kernel_rfl) hF57 (decide (x46 = p)) (by kernel_rfl) (fun hc58 => ?_) (fun hc58 => ?_)
      · skip
        have hc58 := of_decide_eq_true hc58
        refine c_seq [1, 0, 1, 0, 0, 1, 0, 0, 1, 0, 0] [1, 0, 1, 0, 0, 1, 0, 0, 1, 0, 1] (by kernel_rfl) ?_
        refine c_reg 5 (by kernel_rfl) ?_
        refine r_runk 1 [4] [(4, (Value.bool true))] hF57 (by kernel_rfl) (by kernel_rfl) ?_
        intro a59 hF60
        refine r_end (by kernel_rfl) ?_
        refine c_ret (by kernel_rfl) ?_
        try dsimp only [Exit.then, Exit.inBlock]
        refine f_ret1 hF60 4 (by kernel_rfl) (Value.bool true) (by kernel_rfl) s19 hS32 ?_
        subst hx47
        refine congrArg Value.bool ?_
        exact (inL_yes (by omega) hc58).symm
      · skip
        have hc58 := of_decide_eq_false hc58
        refine c_skip (by kernel_rfl) ?_
        refine c_reg 3 (by kernel_rfl) ?_
        refine r_runk 1 [10, 0, 3] [(10, (Value.int .i64 ((k : Nat) : Int))), (0, (Value.slice A0 la.length c0)), (3, (Value.pointer (some ⟨b6, 0, none⟩)))] hF57 (by kernel_rfl) (by kernel_rfl) ?_
        intro a61 hF62
        refine r_one (d := 11) (v0 := (Value.int .i64 (IntKind.i64.wrap (((k : Nat) : Int) + ((1 : Nat) : Int))))) (v := (Value.int .i64 ((k + 1 : Nat) : Int))) hF62 (by kernel_rfl) (by kernel_rfl) (congrArg (Value.int .i64) (i64_eq (by omega) (by omega) (by omega))) ?_
        intro a63 hF64
        refine r_runk 1 [5, 0, 3] [(5, (Value.int .i64 ((k + 1 : Nat) : Int))), (0, (Value.slice A0 la.length c0)), (3, (Value.pointer (some ⟨b6, 0, none⟩)))] hF64 (by kernel_rfl) (by kernel_rfl) ?_
        intro a65 hF66
        refine r_end (by kernel_rfl) ?_
        have hF67 := hF66.keep [0, 3, 5] [(0, (Value.slice A0 la.length c0)), (3, (Value.pointer (some ⟨b6, 0, none⟩))), (5, (Value.int .i64 ((k + 1 : Nat) : Int)))] (by kernel_rfl)
        exact ⟨k + 1, ⟨s19, hF67, hS32, h52, (by omega), (by subst hx47; exact before_succ (p := fun y => decide (y = p)) (by omega) hb (decide_eq_false hc58))⟩, by omega⟩
    · skip
      have hc29 := of_decide_eq_false hc29
      refine c_exit 0 (by kernel_rfl) ?_
      refine c_seq [1, 1, 0] [1, 1, 1] (by kernel_rfl) ?_
      refine c_reg 6 (by kernel_rfl) ?_
      refine r_runk 1 [4] [(4, (Value.bool false))] hF28 (by kernel_rfl) (by kernel_rfl) ?_
      intro a68 hF69
      refine r_end (by kernel_rfl) ?_
      refine c_ret (by kernel_rfl) ?_
      try dsimp only [Exit.then, Exit.inBlock]
      refine f_ret1 hF69 4 (by kernel_rfl) (Value.bool false) (by kernel_rfl) s19 hS21 ?_
      have hk8 : k = la.length := by omega
      subst hk8
      exact congrArg Value.bool (inL_no hb).symm
theorem sameP_calls (σ : Nat → Nat) (w : World) {v0 v1 : Value} {la lb : List Packet} (h0 : Rd tPacket σ w v0 la) (h1 : Rd tPacket σ w v1 lb) :
    Ctr Try.prog 29 [v0, v1] noM σ w (fun σ' w' v => v = .bool (decide (la = lb))) := by
  obtain ⟨A0, c0, rfl, hlA0⟩ := h0.form
  have hbdA0 : la.length ≤ 140737488355328 := by have h := h0.bd; have e : tPacket.by_ = 80 := rfl; rw [e] at h; omega
  obtain ⟨A1, c1, rfl, hlA1⟩ := h1.form
  have hbdA1 : lb.length ≤ 140737488355328 := by have h := h1.bd; have e : tPacket.by_ = 80 := rfl; rw [e] at h; omega
  refine ctr_enter Try.func29 c29 (by kernel_rfl) 26 (by kernel_rfl) (Nat.le_of_ble_eq_true (by kernel_rfl)) [(0, (Value.slice A0 la.length c0)), (1, (Value.slice A1 lb.length c1))] (by kernel_rfl) ?_
  intro a hF1
  have hS2 := Stp.refl noM σ w
  refine c_seq [0] [1] (by kernel_rfl) ?_
  refine c_reg 0 (by kernel_rfl) ?_
  refine r_runk 1 [0, 1] [(0, (Value.slice A0 la.length c0)), (1, (Value.slice A1 lb.length c1))] hF1 (by kernel_rfl) (by kernel_rfl) ?_
  intro a3 hF4
  refine r_end (by kernel_rfl) ?_
  refine c_seq [1, 0] [1, 1] (by kernel_rfl) ?_
  refine c_seq [1, 0, 0] [1, 0, 1] (by kernel_rfl) ?_
  refine c_reg 1 (by kernel_rfl) ?_
  refine r_runk 4 [9, 7, 0, 1] [(9, (Value.int .i64 ((lb.length : Nat) : Int))), (7, (Value.int .i64 ((la.length : Nat) : Int))), (0, (Value.slice A0 la.length c0)), (1, (Value.slice A1 lb.length c1))] hF4 (by kernel_rfl) (by kernel_rfl) ?_
  intro a5 hF6
  refine r_one (d := 10) (v0 := (Value.bool (((la.length : Nat) : Int) != ((lb.length : Nat) : Int)))) (v := (Value.bool (!decide ((la.length : Nat) = lb.length)))) hF6 (by kernel_rfl) (by kernel_rfl) (congrArg Value.bool (cmp_nat_neq _ _)) ?_
  intro a7 hF8
  have hF9 := hF8.keep [10, 0, 1] [(10, (Value.bool (!decide ((la.length : Nat) = lb.length)))), (0, (Value.slice A0 la.length c0)), (1, (Value.slice A1 lb.length c1))] (by kernel_rfl)
  refine r_end (by kernel_rfl) ?_
  refine c_cond [1, 0, 1, 0] [1, 0, 1, 1] 10 (by kernel_rfl) hF9 (!decide ((la.length : Nat) = lb.length)) (by kernel_rfl) (fun hc10 => ?_) (fun hc10 => ?_)
  · skip
    have hc10 : ¬ ((la.length : Nat) = lb.length) := by simpa using hc10
    refine c_seq [1, 0, 1, 0, 0] [1, 0, 1, 0, 1] (by kernel_rfl) ?_
    refine c_reg 2 (by kernel_rfl) ?_
    refine r_runk 1 [4] [(4, (Value.bool false))] hF9 (by kernel_rfl) (by kernel_rfl) ?_
    intro a11 hF12
    refine r_end (by kernel_rfl) ?_
    refine c_ret (by kernel_rfl) ?_
    try dsimp only [Exit.then, Exit.inBlock]
    refine f_ret1 hF12 4 (by kernel_rfl) (Value.bool false) (by kernel_rfl) σ hS2 ?_
    exact congrArg Value.bool (not_len hc10)
  · skip
    have hc10 : ((la.length : Nat) = lb.length) := by simpa using hc10
    refine c_skip (by kernel_rfl) ?_
    refine c_seq [1, 1, 0] [1, 1, 1] (by kernel_rfl) ?_
    refine c_seq [1, 1, 0, 0] [1, 1, 0, 1] (by kernel_rfl) ?_
    refine c_reg 3 (by kernel_rfl) ?_
    refine r_runk 3 [13, 12, 0, 1] [(13, (Value.int .i64 ((0 : Nat) : Int))), (12, (Value.int .i64 ((la.length : Nat) : Int))), (0, (Value.slice A0 la.length c0)), (1, (Value.slice A1 lb.length c1))] hF9 (by kernel_rfl) (by kernel_rfl) ?_
    intro a13 hF14
    refine r_end (by kernel_rfl) ?_
    refine c_block [1, 1, 0, 1, 0] 0 (by kernel_rfl) ?_
    refine c_loop [1, 1, 0, 1, 0, 0] (by kernel_rfl) (fun (k : Nat) a15 w16 => ∃ (s17 : Nat → Nat), Fr a15 26 [(0, (Value.slice A0 la.length c0)), (1, (Value.slice A1 lb.length c1)), (12, (Value.int .i64 ((la.length : Nat) : Int))), (13, (Value.int .i64 ((k : Nat) : Int)))] ∧ Stp noM σ w s17 w16 ∧ k ≤ la.length ∧ ∀ j, j < k → la[j]? = lb[j]?) (fun k => la.length - k) 0 ?_ ?_
    · skip
      have hF20 := hF14.keep [0, 1, 12, 13] [(0, (Value.slice A0 la.length c0)), (1, (Value.slice A1 lb.length c1)), (12, (Value.int .i64 ((la.length : Nat) : Int))), (13, (Value.int .i64 ((0 : Nat) : Int)))] (by kernel_rfl)
      exact ⟨σ, hF20, hS2, (by omega), (fun j h => absurd h (by omega))⟩
    · rintro k a15 w16 ⟨s17, hF18, hS19, hk, hb⟩
      refine c_seq [1, 1, 0, 1, 0, 0, 0] [1, 1, 0, 1, 0, 0, 1] (by kernel_rfl) ?_
      refine c_reg 4 (by kernel_rfl) ?_
      refine r_one (d := 14) (v0 := (Value.bool (decide (((k : Nat) : Int) < ((la.length : Nat) : Int))))) (v := (Value.bool (decide ((k : Nat) < la.length)))) hF18 (by kernel_rfl) (by kernel_rfl) (congrArg Value.bool (cmp_nat_lss _ _)) ?_
      intro a21 hF22
      refine r_end (by kernel_rfl) ?_
      refine c_seq [1, 1, 0, 1, 0, 0, 1, 0] [1, 1, 0, 1, 0, 0, 1, 1] (by kernel_rfl) ?_
      refine c_cond [1, 1, 0, 1, 0, 0, 1, 0, 0] [1, 1, 0, 1, 0, 0, 1, 0, 1] 14 (by kernel_rfl) hF22 (decide ((k : Nat) < la.length)) (by kernel_rfl) (fun hc23 => ?_) (fun hc23 => ?_)
      · skip
        have hc23 := of_decide_eq_true hc23
        refine c_skip (by kernel_rfl) ?_
        refine c_seq [1, 1, 0, 1, 0, 0, 1, 1, 0] [1, 1, 0, 1, 0, 0, 1, 1, 1] (by kernel_rfl) ?_
        refine c_block [1, 1, 0, 1, 0, 0, 1, 1, 0, 0] 1 (by kernel_rfl) ?_
        refine c_seq [1, 1, 0, 1, 0, 0, 1, 1, 0, 0, 0] [1, 1, 0, 1, 0, 0, 1, 1, 0, 0, 1] (by kernel_rfl) ?_
        refine c_reg 5 (by kernel_rfl) ?_
        refine r_runk 2 [5, 0, 1, 12, 13] [(5, (Value.int .i64 ((k : Nat) : Int))), (0, (Value.slice A0 la.length c0)), (1, (Value.slice A1 lb.length c1)), (12, (Value.int .i64 ((la.length : Nat) : Int))), (13, (Value.int .i64 ((k : Nat) : Int)))] hF22 (by kernel_rfl) (by kernel_rfl) ?_
        intro a24 hF25
        refine r_end (by kernel_rfl) ?_
        refine c_seq [1, 1, 0, 1, 0, 0, 1, 1, 0, 0, 1, 0] [1, 1, 0, 1, 0, 0, 1, 1, 0, 0, 1, 1] (by kernel_rfl) ?_
        refine c_plan 6 (by kernel_rfl) (by kernel_rfl) s17 (fun b => True) [(0, true), (1, true), (2, true), (3, true), (4, true), (5, true), (6, true), (7, true), (8, true)] [(0, 65536, 1), (0, 131072, 32), (3, 262144, 196608), (4, 524288, 262144), (0, 1048576, 2), (0, 2097152, 32), (48, 4194304, 3145728), (64, 8388608, 4194304), (136, 16777216, 8912896)] (by kernel_rfl) (by kernel_rfl) (by kernel_rfl) (by kernel_rfl) ?_
        intro w26 st27
        have hS28 := hS19.then st27
        refine p_run (d := 16) (v := (Value.slice A0 la.length c0)) hF25 (by kernel_rfl) (fun _ => by kernel_rfl) (fun _ _ _ h => h) ?_
        intro a29 hF30
        refine p_run (d := 17) (v := (Value.int .i64 ((k : Nat) : Int))) hF30 (by kernel_rfl) (fun _ => by kernel_rfl) (fun _ _ _ h => h) ?_
        intro a31 hF32
        have h33 : Rd tPacket s17 w26 (Value.slice A0 la.length c0) la := h0.step hS28
        have hi40 : k < (la).length := (by have hq := h33.ln; first | omega | (simp only [List.length_append, List.length_cons, List.length_nil, List.length_map] at *; omega))
        obtain ⟨b34, o35, c36, he37, hs38, hr39⟩ := (h33).at k hi40
        obtain ⟨o41, ho41⟩ : ∃ o, o = o35 + k * 7 := ⟨_, rfl⟩
        obtain ⟨x42, hx43⟩ : ∃ x, x = (la[k]'hi40) := ⟨_, rfl⟩
        rw [← hx43] at hr39
        have hr39 : c36 = [(Value.int .i64 (x42.channel)), (uv x42.seq), (uv x42.timeout), (sv x42.denom), (uv x42.amount), (sv x42.src), (sv x42.dst)] := hr39
        subst hr39
        have hs38 : Seg s17 w26 b34 o41 [(Value.int .i64 (x42.channel)), (uv x42.seq), (uv x42.timeout), (sv x42.denom), (uv x42.amount), (sv x42.src), (sv x42.dst)] := by rw [ho41]; exact hs38
        refine p_val (d := 18) (op := (Op.indexAddr 43 (Operand.tmp 16) (Operand.tmp 17))) (v := (Value.pointer (some ⟨b34, o41, none⟩))) hF32 (by kernel_rfl) (by kernel_rfl) (fun w9 ⟨s9, hw9⟩ => (by rw [ho41]; exact exec_index (len := la.length) (cap := c0) he37 (by kernel_rfl) (kd := .i64) k (by kernel_rfl) (by have := h33.ln; omega) 7 U43 L56.s)) (fun _ _ _ h => h) ?_
        intro a44 hF45
        refine p_val (d := 19) (op := (Op.load 56 (Operand.tmp 18))) (v := (Value.agg #[(Value.int .i64 (x42.channel)), (uv x42.seq), (uv x42.timeout), (sv x42.denom), (uv x42.amount), (sv x42.src), (sv x42.dst)])) hF45 (by kernel_rfl) (by kernel_rfl) (fun w9 ⟨s9, hw9⟩ => (exec_load L56 (.inl rfl) (by kernel_rfl) (hs38.step hw9).cell)) (fun _ _ _ h => h) ?_
        intro a46 hF47
        refine p_run (d := 20) (v := (Value.slice A1 lb.length c1)) hF47 (by kernel_rfl) (fun _ => by kernel_rfl) (fun _ _ _ h => h) ?_
        intro a48 hF49
        refine p_run (d := 21) (v := (Value.int .i64 ((k : Nat) : Int))) hF49 (by kernel_rfl) (fun _ => by kernel_rfl) (fun _ _ _ h => h) ?_
        intro a50 hF51
        have h52 : Rd tPacket s17 w26 (Value.slice A1 lb.length c1) lb := h1.step hS28
        have hi59 : k < (lb).length := (by have hq := h52.ln; first | omega | (simp only [List.length_append, List.length_cons, List.length_nil, List.length_map] at *; omega))
        obtain ⟨b53, o54, c55, he56, hs57, hr58⟩ := (h52).at k hi59
        obtain ⟨o60, ho60⟩ : ∃ o, o = o54 + k * 7 := ⟨_, rfl⟩
        obtain ⟨x61, hx62⟩ : ∃ x, x = (lb[k]'hi59) := ⟨_, rfl⟩
        rw [← hx62] at hr58
        have hr58 : c55 = [(Value.int .i64 (x61.channel)), (uv x61.seq), (uv x61.timeout), (sv x61.denom), (uv x61.amount), (sv x61.src), (sv x61.dst)] := hr58
        subst hr58
        have hs57 : Seg s17 w26 b53 o60 [(Value.int .i64 (x61.channel)), (uv x61.seq), (uv x61.timeout), (sv x61.denom), (uv x61.amount), (sv x61.src), (sv x61.dst)] := by rw [ho60]; exact hs57
        refine p_val (d := 22) (op := (Op.indexAddr 43 (Operand.tmp 20) (Operand.tmp 21))) (v := (Value.pointer (some ⟨b53, o60, none⟩))) hF51 (by kernel_rfl) (by kernel_rfl) (fun w9 ⟨s9, hw9⟩ => (by rw [ho60]; exact exec_index (len := lb.length) (cap := c1) he56 (by kernel_rfl) (kd := .i64) k (by kernel_rfl) (by have := h52.ln; omega) 7 U43 L56.s)) (fun _ _ _ h => h) ?_
        intro a63 hF64
        refine p_val (d := 23) (op := (Op.load 56 (Operand.tmp 22))) (v := (Value.agg #[(Value.int .i64 (x61.channel)), (uv x61.seq), (uv x61.timeout), (sv x61.denom), (uv x61.amount), (sv x61.src), (sv x61.dst)])) hF64 (by kernel_rfl) (by kernel_rfl) (fun w9 ⟨s9, hw9⟩ => (exec_load L56 (.inl rfl) (by kernel_rfl) (hs57.step hw9).cell)) (fun _ _ _ h => h) ?_
        intro a65 hF66
        refine p_val (d := 24) (op := (Op.binOp BinOp.neq 56 (Operand.tmp 19) (Operand.tmp 23) 56)) (v := (Value.bool (!decide (x42 = x61)))) hF66 (by kernel_rfl) (by kernel_rfl) (fun w9 ⟨s9, hw9⟩ => (exec_neS (r := decide (x42 = x61)) (by kernel_rfl) (by kernel_rfl) (by kernel_rfl) (fun w => eqin56 9998 x42 x61 w))) (fun _ _ _ h => h) ?_
        intro a67 hF68
        have hF69 := hF68.keep [24, 0, 1, 12, 13] [(24, (Value.bool (!decide (x42 = x61)))), (0, (Value.slice A0 la.length c0)), (1, (Value.slice A1 lb.length c1)), (12, (Value.int .i64 ((la.length : Nat) : Int))), (13, (Value.int .i64 ((k : Nat) : Int)))] (by kernel_rfl)
        refine p_end ?_
        refine c_cond [1, 1, 0, 1, 0, 0, 1, 1, 0, 0, 1, 1, 0] [1, 1, 0, 1, 0, 0, 1, 1, 0, 0, 1, 1, 1] 24 (by kernel_rfl) hF69 (!decide (x42 = x61)) (by kernel_rfl) (fun hc70 => ?_) (fun hc70 => ?_)
        · skip
          have hc70 : ¬ (x42 = x61) := by simpa using hc70
          refine c_seq [1, 1, 0, 1, 0, 0, 1, 1, 0, 0, 1, 1, 0, 0] [1, 1, 0, 1, 0, 0, 1, 1, 0, 0, 1, 1, 0, 1] (by kernel_rfl) ?_
          refine c_reg 7 (by kernel_rfl) ?_
          refine r_runk 1 [4] [(4, (Value.bool false))] hF69 (by kernel_rfl) (by kernel_rfl) ?_
          intro a71 hF72
          refine r_end (by kernel_rfl) ?_
          refine c_ret (by kernel_rfl) ?_
          try dsimp only [Exit.then, Exit.inBlock]
          refine f_ret1 hF72 4 (by kernel_rfl) (Value.bool false) (by kernel_rfl) s17 hS28 ?_
          subst hx43 hx62
          refine congrArg Value.bool ?_
          exact not_at (by omega) (by omega) hc70
        · skip
          have hc70 : (x42 = x61) := by simpa using hc70
          refine c_skip (by kernel_rfl) ?_
          refine c_reg 8 (by kernel_rfl) ?_
          refine r_one (d := 25) (v0 := (Value.int .i64 (IntKind.i64.wrap (((k : Nat) : Int) + ((1 : Nat) : Int))))) (v := (Value.int .i64 ((k + 1 : Nat) : Int))) hF69 (by kernel_rfl) (by kernel_rfl) (congrArg (Value.int .i64) (i64_eq (by omega) (by omega) (by omega))) ?_
          intro a73 hF74
          refine r_runk 1 [13, 0, 1, 12] [(13, (Value.int .i64 ((k + 1 : Nat) : Int))), (0, (Value.slice A0 la.length c0)), (1, (Value.slice A1 lb.length c1)), (12, (Value.int .i64 ((la.length : Nat) : Int)))] hF74 (by kernel_rfl) (by kernel_rfl) ?_
          intro a75 hF76
          refine r_end (by kernel_rfl) ?_
          have hF77 := hF76.keep [0, 1, 12, 13] [(0, (Value.slice A0 la.length c0)), (1, (Value.slice A1 lb.length c1)), (12, (Value.int .i64 ((la.length : Nat) : Int))), (13, (Value.int .i64 ((k + 1 : Nat) : Int)))] (by kernel_rfl)
          exact ⟨k + 1, ⟨s17, hF77, hS28, (by omega), (by subst hx43 hx62; exact upto_succ (by omega) (by omega) hb hc70)⟩, by omega⟩
      · skip
        have hc23 := of_decide_eq_false hc23
        refine c_exit 0 (by kernel_rfl) ?_
        refine c_seq [1, 1, 1, 0] [1, 1, 1, 1] (by kernel_rfl) ?_
        refine c_reg 9 (by kernel_rfl) ?_
        refine r_runk 1 [4] [(4, (Value.bool true))] hF22 (by kernel_rfl) (by kernel_rfl) ?_
        intro a78 hF79
        refine r_end (by kernel_rfl) ?_
        refine c_ret (by kernel_rfl) ?_
        try dsimp only [Exit.then, Exit.inBlock]
        refine f_ret1 hF79 4 (by kernel_rfl) (Value.bool true) (by kernel_rfl) s17 hS19 ?_
        have hk8 : k = la.length := by omega
        subst hk8
        exact congrArg Value.bool (all_upto hc10 hb)
end Go.Proofs.Ytaoamokfbhlaaaa.E
