/- Walks, printed by a program of this session. -/
import Derived.Test.YtaoamokfbhlaaaaK
import Derived.Test.Ytaoamokfbhlaaaapure21
import Derived.Test.YtaoamokfbhlaaaaRq
import Derived.Test.YtaoamokfbhlaaaaRw
set_option linter.unusedVariables false
set_option linter.unusedSimpArgs false
set_option maxRecDepth 100000
namespace Go.Proofs.Ytaoamokfbhlaaaa.E
open Go Go.RowKit
open Go.Proofs
theorem indexFunc_calls (σ : Nat → Nat) (w : World) {v0 : Value} {l : List Event} (h0 : Rd tEvent σ w v0 l) (c1 c2 : Value) (f : Nat) (hf : callable Try.prog f = true) (p : Event → Bool) (hp : ∀ (x : Event) (σ1 : Nat → Nat) (w1 : World), Stp noM σ w σ1 w1 → Ctr Try.prog f [(Value.agg #[(bv x.kind), (Value.int .i64 (x.packet.channel)), (uv x.packet.seq), (uv x.packet.timeout), (sv x.packet.denom), (uv x.packet.amount), (sv x.packet.src), (sv x.packet.dst), (Value.bool x.ack.ok), (Value.int .i64 (x.ack.code))]), c1, c2] noM σ1 w1 (fun _ _ v => v = .bool (p x))) :
    Ctr Try.prog 45 [v0, (Value.func (.func f) #[] #[c1, c2])] noM σ w (fun σ' w' v => v = iv (idxI (l.findIdx? p))) := by
  obtain ⟨A0, c0, rfl, hlA0⟩ := h0.form
  have hbdA0 : l.length ≤ 140737488355328 := by have h := h0.bd; have e : tEvent.by_ = 104 := rfl; rw [e] at h; omega
  refine ctr_enter Try.func45 c45 (by kernel_rfl) 19 (by kernel_rfl) (Nat.le_of_ble_eq_true (by kernel_rfl)) [(0, (Value.slice A0 l.length c0)), (1, (Value.func (.func f) #[] #[c1, c2]))] (by kernel_rfl) ?_
  intro a hF1
  have hS2 := Stp.refl noM σ w
  refine c_seq [0] [1] (by kernel_rfl) ?_
  refine c_reg 0 (by kernel_rfl) ?_
  refine r_runk 1 [0, 1] [(0, (Value.slice A0 l.length c0)), (1, (Value.func (.func f) #[] #[c1, c2]))] hF1 (by kernel_rfl) (by kernel_rfl) ?_
  intro a3 hF4
  refine r_end (by kernel_rfl) ?_
  refine c_seq [1, 0] [1, 1] (by kernel_rfl) ?_
  refine c_seq [1, 0, 0] [1, 0, 1] (by kernel_rfl) ?_
  refine c_reg 1 (by kernel_rfl) ?_
  refine r_runk 3 [8, 7, 0, 1] [(8, (Value.int .i64 ((0 : Nat) : Int))), (7, (Value.int .i64 ((l.length : Nat) : Int))), (0, (Value.slice A0 l.length c0)), (1, (Value.func (.func f) #[] #[c1, c2]))] hF4 (by kernel_rfl) (by kernel_rfl) ?_
  intro a5 hF6
  refine r_end (by kernel_rfl) ?_
  refine c_block [1, 0, 1, 0] 0 (by kernel_rfl) ?_
  refine c_loop [1, 0, 1, 0, 0] (by kernel_rfl) (fun (k : Nat) a7 w8 => ∃ (s9 : Nat → Nat), Fr a7 19 [(0, (Value.slice A0 l.length c0)), (1, (Value.func (.func f) #[] #[c1, c2])), (7, (Value.int .i64 ((l.length : Nat) : Int))), (8, (Value.int .i64 ((k : Nat) : Int)))] ∧ Stp noM σ w s9 w8 ∧ k ≤ l.length ∧ ∀ j (hj : j < l.length), j < k → p l[j] = false) (fun k => l.length - k) 0 ?_ ?_
  · skip
    have hF12 := hF6.keep [0, 1, 7, 8] [(0, (Value.slice A0 l.length c0)), (1, (Value.func (.func f) #[] #[c1, c2])), (7, (Value.int .i64 ((l.length : Nat) : Int))), (8, (Value.int .i64 ((0 : Nat) : Int)))] (by kernel_rfl)
    exact ⟨σ, hF12, hS2, (by omega), (fun j _ h => absurd h (by omega))⟩
  · rintro k a7 w8 ⟨s9, hF10, hS11, hk, hb⟩
    refine c_seq [1, 0, 1, 0, 0, 0] [1, 0, 1, 0, 0, 1] (by kernel_rfl) ?_
    refine c_reg 2 (by kernel_rfl) ?_
    refine r_one (d := 9) (v0 := (Value.bool (decide (((k : Nat) : Int) < ((l.length : Nat) : Int))))) (v := (Value.bool (decide ((k : Nat) < l.length)))) hF10 (by kernel_rfl) (by kernel_rfl) (congrArg Value.bool (cmp_nat_lss _ _)) ?_
    intro a13 hF14
    refine r_end (by kernel_rfl) ?_
    refine c_seq [1, 0, 1, 0, 0, 1, 0] [1, 0, 1, 0, 0, 1, 1] (by kernel_rfl) ?_
    refine c_cond [1, 0, 1, 0, 0, 1, 0, 0] [1, 0, 1, 0, 0, 1, 0, 1] 9 (by kernel_rfl) hF14 (decide ((k : Nat) < l.length)) (by kernel_rfl) (fun hc15 => ?_) (fun hc15 => ?_)
    · skip
      have hc15 := of_decide_eq_true hc15
      refine c_skip (by kernel_rfl) ?_
      refine c_seq [1, 0, 1, 0, 0, 1, 1, 0] [1, 0, 1, 0, 0, 1, 1, 1] (by kernel_rfl) ?_
      refine c_block [1, 0, 1, 0, 0, 1, 1, 0, 0] 1 (by kernel_rfl) ?_
      refine c_seq [1, 0, 1, 0, 0, 1, 1, 0, 0, 0] [1, 0, 1, 0, 0, 1, 1, 0, 0, 1] (by kernel_rfl) ?_
      refine c_reg 3 (by kernel_rfl) ?_
      refine r_runk 2 [5, 0, 1, 7, 8] [(5, (Value.int .i64 ((k : Nat) : Int))), (0, (Value.slice A0 l.length c0)), (1, (Value.func (.func f) #[] #[c1, c2])), (7, (Value.int .i64 ((l.length : Nat) : Int))), (8, (Value.int .i64 ((k : Nat) : Int)))] hF14 (by kernel_rfl) (by kernel_rfl) ?_
      intro a16 hF17
      refine r_end (by kernel_rfl) ?_
      refine c_seq [1, 0, 1, 0, 0, 1, 1, 0, 0, 1, 0] [1, 0, 1, 0, 0, 1, 1, 0, 0, 1, 1] (by kernel_rfl) ?_
      refine c_reg 4 (by kernel_rfl) ?_
      refine r_runk 3 [13, 12, 11, 5, 0, 1, 7, 8] [(13, (Value.int .i64 ((k : Nat) : Int))), (12, (Value.slice A0 l.length c0)), (11, (Value.func (.func f) #[] #[c1, c2])), (5, (Value.int .i64 ((k : Nat) : Int))), (0, (Value.slice A0 l.length c0)), (1, (Value.func (.func f) #[] #[c1, c2])), (7, (Value.int .i64 ((l.length : Nat) : Int))), (8, (Value.int .i64 ((k : Nat) : Int)))] hF17 (by kernel_rfl) (by kernel_rfl) ?_
      intro a18 hF19
      have h20 : Rd tEvent s9 w8 (Value.slice A0 l.length c0) l := h0.step hS11
      have hi27 : k < (l).length := (by have hq := h20.ln; first | omega | (simp only [List.length_append, List.length_cons, List.length_nil, List.length_map] at *; omega))
      obtain ⟨b21, o22, c23, he24, hs25, hr26⟩ := (h20).at k hi27
      obtain ⟨o28, ho28⟩ : ∃ o, o = o22 + k * 10 := ⟨_, rfl⟩
      obtain ⟨x29, hx30⟩ : ∃ x, x = (l[k]'hi27) := ⟨_, rfl⟩
      rw [← hx30] at hr26
      have hr26 : c23 = [(bv x29.kind), (Value.int .i64 (x29.packet.channel)), (uv x29.packet.seq), (uv x29.packet.timeout), (sv x29.packet.denom), (uv x29.packet.amount), (sv x29.packet.src), (sv x29.packet.dst), (Value.bool x29.ack.ok), (Value.int .i64 (x29.ack.code))] := hr26
      subst hr26
      have hs25 : Seg s9 w8 b21 o28 [(bv x29.kind), (Value.int .i64 (x29.packet.channel)), (uv x29.packet.seq), (uv x29.packet.timeout), (sv x29.packet.denom), (uv x29.packet.amount), (sv x29.packet.src), (sv x29.packet.dst), (Value.bool x29.ack.ok), (Value.int .i64 (x29.ack.code))] := by rw [ho28]; exact hs25
      refine r_at (r_val (d := 14) (op := (Op.indexAddr 41 (Operand.tmp 12) (Operand.tmp 13))) hF19 (by kernel_rfl) (by kernel_rfl) (Value.pointer (some ⟨b21, o28, none⟩)) w8 (by rw [ho28]; exact exec_index (len := l.length) (cap := c0) he24 (by kernel_rfl) (kd := .i64) k (by kernel_rfl) (by have := h20.ln; omega) 10 U41 L60.s) ?_)
      intro a31 hF32
      refine r_at (r_val (d := 15) (op := (Op.load 60 (Operand.tmp 14))) hF32 (by kernel_rfl) (by kernel_rfl) (Value.agg #[(bv x29.kind), (Value.int .i64 (x29.packet.channel)), (uv x29.packet.seq), (uv x29.packet.timeout), (sv x29.packet.denom), (uv x29.packet.amount), (sv x29.packet.src), (sv x29.packet.dst), (Value.bool x29.ack.ok), (Value.int .i64 (x29.ack.code))]) w8 (exec_load L60 (.inl rfl) (by kernel_rfl) hs25.cell) ?_)
      intro a33 hF34
      refine r_at (r_callv (d := (some 16)) (t := 11) (f := f) (args := #[(Operand.tmp 15)]) (tys := #[60]) hF34 (by kernel_rfl) (by kernel_rfl) hf (first := #[]) (captured := #[c1, c2]) (by kernel_rfl) [(Value.agg #[(bv x29.kind), (Value.int .i64 (x29.packet.channel)), (uv x29.packet.seq), (uv x29.packet.timeout), (sv x29.packet.denom), (uv x29.packet.amount), (sv x29.packet.src), (sv x29.packet.dst), (Value.bool x29.ack.ok), (Value.int .i64 (x29.ack.code))]), c1, c2] (by kernel_rfl) (hp x29 s9 w8 hS11) ?_)
      intro a35 s36 w37 v38 st39 hP40 hF41
      have hS42 := hS11.then st39
      subst hP40
      have hF43 := hF41.keep [16, 5, 0, 1, 7, 8] [(16, (Value.bool (p x29))), (5, (Value.int .i64 ((k : Nat) : Int))), (0, (Value.slice A0 l.length c0)), (1, (Value.func (.func f) #[] #[c1, c2])), (7, (Value.int .i64 ((l.length : Nat) : Int))), (8, (Value.int .i64 ((k : Nat) : Int)))] (by kernel_rfl)
      refine r_end (by kernel_rfl) ?_
      refine c_cond [1, 0, 1, 0, 0, 1, 1, 0, 0, 1, 1, 0] [1, 0, 1, 0, 0, 1, 1, 0, 0, 1, 1, 1] 16 (by kernel_rfl) hF43 (p x29) (by kernel_rfl) (fun hc44 => ?_) (fun hc44 => ?_)
      · skip
        refine c_seq [1, 0, 1, 0, 0, 1, 1, 0, 0, 1, 1, 0, 0] [1, 0, 1, 0, 0, 1, 1, 0, 0, 1, 1, 0, 1] (by kernel_rfl) ?_
        refine c_reg 5 (by kernel_rfl) ?_
        refine r_runk 2 [4] [(4, (Value.int .i64 ((k : Nat) : Int)))] hF43 (by kernel_rfl) (by kernel_rfl) ?_
        intro a45 hF46
        refine r_end (by kernel_rfl) ?_
        refine c_ret (by kernel_rfl) ?_
        try dsimp only [Exit.then, Exit.inBlock]
        refine f_ret1 hF46 4 (by kernel_rfl) (Value.int .i64 ((k : Nat) : Int)) (by kernel_rfl) s36 hS42 ?_
        subst hx30; 
        rw [idxI_at p l k (by omega) hb hc44]
      · skip
        refine c_skip (by kernel_rfl) ?_
        refine c_reg 6 (by kernel_rfl) ?_
        refine r_one (d := 18) (v0 := (Value.int .i64 (IntKind.i64.wrap (((k : Nat) : Int) + ((1 : Nat) : Int))))) (v := (Value.int .i64 ((k + 1 : Nat) : Int))) hF43 (by kernel_rfl) (by kernel_rfl) (congrArg (Value.int .i64) (i64_eq (by omega) (by omega) (by omega))) ?_
        intro a47 hF48
        refine r_runk 1 [8, 0, 1, 7] [(8, (Value.int .i64 ((k + 1 : Nat) : Int))), (0, (Value.slice A0 l.length c0)), (1, (Value.func (.func f) #[] #[c1, c2])), (7, (Value.int .i64 ((l.length : Nat) : Int)))] hF48 (by kernel_rfl) (by kernel_rfl) ?_
        intro a49 hF50
        refine r_end (by kernel_rfl) ?_
        have hF51 := hF50.keep [0, 1, 7, 8] [(0, (Value.slice A0 l.length c0)), (1, (Value.func (.func f) #[] #[c1, c2])), (7, (Value.int .i64 ((l.length : Nat) : Int))), (8, (Value.int .i64 ((k + 1 : Nat) : Int)))] (by kernel_rfl)
        exact ⟨k + 1, ⟨s36, hF51, hS42, (by omega), (by subst hx30; exact before_succ (p := p) (by omega) hb hc44)⟩, by omega⟩
    · skip
      have hc15 := of_decide_eq_false hc15
      refine c_exit 0 (by kernel_rfl) ?_
      refine c_seq [1, 1, 0] [1, 1, 1] (by kernel_rfl) ?_
      refine c_reg 7 (by kernel_rfl) ?_
      refine r_runk 1 [4] [(4, (Value.int .i64 (-1)))] hF14 (by kernel_rfl) (by kernel_rfl) ?_
      intro a52 hF53
      refine r_end (by kernel_rfl) ?_
      refine c_ret (by kernel_rfl) ?_
      try dsimp only [Exit.then, Exit.inBlock]
      refine f_ret1 hF53 4 (by kernel_rfl) (Value.int .i64 (-1)) (by kernel_rfl) s9 hS11 ?_
      have hk8 : k = l.length := by omega
      subst hk8
      rw [idxI_none p l hb]
theorem keepE_calls (σ : Nat → Nat) (w : World) {v0 : Value} {l : List Event} (h0 : Rd tEvent σ w v0 l) (hl : l.length ≤ 1000) (c1 : Value) (f : Nat) (hf : callable Try.prog f = true) (p : Event → Bool) (hp : ∀ (x : Event) (σ1 : Nat → Nat) (w1 : World), Stp noM σ w σ1 w1 → Ctr Try.prog f [(Value.agg #[(bv x.kind), (Value.int .i64 (x.packet.channel)), (uv x.packet.seq), (uv x.packet.timeout), (sv x.packet.denom), (uv x.packet.amount), (sv x.packet.src), (sv x.packet.dst), (Value.bool x.ack.ok), (Value.int .i64 (x.ack.code))]), c1] noM σ1 w1 (fun _ _ v => v = .bool (p x))) :
    Ctr Try.prog 43 [v0, (Value.func (.func f) #[] #[c1])] noM σ w (fun σ' w' v => Own tEvent 60 w.heap.size σ' w' v (l.filter p)) := by
  obtain ⟨A0, c0, rfl, hlA0⟩ := h0.form
  have hbdA0 : l.length ≤ 140737488355328 := by have h := h0.bd; have e : tEvent.by_ = 104 := rfl; rw [e] at h; omega
  refine ctr_enter Try.func43 c43 (by kernel_rfl) 23 (by kernel_rfl) (Nat.le_of_ble_eq_true (by kernel_rfl)) [(0, (Value.slice A0 l.length c0)), (1, (Value.func (.func f) #[] #[c1]))] (by kernel_rfl) ?_
  intro a hF1
  have hS2 := Stp.refl noM σ w
  refine c_seq [0] [1] (by kernel_rfl) ?_
  refine c_reg 0 (by kernel_rfl) ?_
  refine r_runk 1 [0, 1] [(0, (Value.slice A0 l.length c0)), (1, (Value.func (.func f) #[] #[c1]))] hF1 (by kernel_rfl) (by kernel_rfl) ?_
  intro a3 hF4
  refine r_end (by kernel_rfl) ?_
  refine c_seq [1, 0] [1, 1] (by kernel_rfl) ?_
  refine c_reg 1 (by kernel_rfl) ?_
  refine r_runk 1 [5, 0, 1] [(5, (Value.slice none 0 0)), (0, (Value.slice A0 l.length c0)), (1, (Value.func (.func f) #[] #[c1]))] hF4 (by kernel_rfl) (by kernel_rfl) ?_
  intro a5 hF6
  refine r_end (by kernel_rfl) ?_
  refine c_seq [1, 1, 0] [1, 1, 1] (by kernel_rfl) ?_
  refine c_seq [1, 1, 0, 0] [1, 1, 0, 1] (by kernel_rfl) ?_
  refine c_reg 2 (by kernel_rfl) ?_
  refine r_runk 3 [10, 9, 8, 5, 1] [(10, (Value.int .i64 ((0 : Nat) : Int))), (9, (Value.int .i64 ((l.length : Nat) : Int))), (8, (Value.slice A0 l.length c0)), (5, (Value.slice none 0 0)), (1, (Value.func (.func f) #[] #[c1]))] hF6 (by kernel_rfl) (by kernel_rfl) ?_
  intro a7 hF8
  refine r_end (by kernel_rfl) ?_
  refine c_block [1, 1, 0, 1, 0] 0 (by kernel_rfl) ?_
  refine c_loop [1, 1, 0, 1, 0, 0] (by kernel_rfl) (fun (k : Nat) a9 w10 => ∃ (s11 : Nat → Nat) (A14 : Option Addr) (cp15 : Nat) (m16 : Nat), Fr a9 23 [(1, (Value.func (.func f) #[] #[c1])), (5, (Value.slice A14 m16 cp15)), (8, (Value.slice A0 l.length c0)), (9, (Value.int .i64 ((l.length : Nat) : Int))), (10, (Value.int .i64 ((k : Nat) : Int)))] ∧ Stp noM σ w s11 w10 ∧ Own tEvent 60 w.heap.size s11 w10 (Value.slice A14 m16 cp15) ((l.take (k)).filter p) ∧ k ≤ l.length) (fun k => l.length - k) 0 ?_ ?_
  · skip
    have hF18 := hF8.keep [1, 5, 8, 9, 10] [(1, (Value.func (.func f) #[] #[c1])), (5, (Value.slice none 0 0)), (8, (Value.slice A0 l.length c0)), (9, (Value.int .i64 ((l.length : Nat) : Int))), (10, (Value.int .i64 ((0 : Nat) : Int)))] (by kernel_rfl)
    exact ⟨σ, none, 0, 0, hF18, hS2, (Own.nil _ _ _ _ _), (by omega)⟩
  · rintro k a9 w10 ⟨s11, A14, cp15, m16, hF12, hS13, hO19, hk⟩
    have hln20 := hO19.ln
    refine c_seq [1, 1, 0, 1, 0, 0, 0] [1, 1, 0, 1, 0, 0, 1] (by kernel_rfl) ?_
    refine c_reg 3 (by kernel_rfl) ?_
    refine r_one (d := 11) (v0 := (Value.bool (decide (((k : Nat) : Int) < ((l.length : Nat) : Int))))) (v := (Value.bool (decide ((k : Nat) < l.length)))) hF12 (by kernel_rfl) (by kernel_rfl) (congrArg Value.bool (cmp_nat_lss _ _)) ?_
    intro a21 hF22
    refine r_end (by kernel_rfl) ?_
    refine c_seq [1, 1, 0, 1, 0, 0, 1, 0] [1, 1, 0, 1, 0, 0, 1, 1] (by kernel_rfl) ?_
    refine c_cond [1, 1, 0, 1, 0, 0, 1, 0, 0] [1, 1, 0, 1, 0, 0, 1, 0, 1] 11 (by kernel_rfl) hF22 (decide ((k : Nat) < l.length)) (by kernel_rfl) (fun hc23 => ?_) (fun hc23 => ?_)
    · skip
      have hc23 := of_decide_eq_true hc23
      refine c_skip (by kernel_rfl) ?_
      refine c_seq [1, 1, 0, 1, 0, 0, 1, 1, 0] [1, 1, 0, 1, 0, 0, 1, 1, 1] (by kernel_rfl) ?_
      refine c_block [1, 1, 0, 1, 0, 0, 1, 1, 0, 0] 1 (by kernel_rfl) ?_
      refine c_seq [1, 1, 0, 1, 0, 0, 1, 1, 0, 0, 0] [1, 1, 0, 1, 0, 0, 1, 1, 0, 0, 1] (by kernel_rfl) ?_
      refine c_reg 4 (by kernel_rfl) ?_
      have h24 : Rd tEvent s11 w10 (Value.slice A0 l.length c0) l := h0.step hS13
      have hi31 : k < (l).length := (by have hq := h24.ln; first | omega | (simp only [List.length_append, List.length_cons, List.length_nil, List.length_map] at *; omega))
      obtain ⟨b25, o26, c27, he28, hs29, hr30⟩ := (h24).at k hi31
      obtain ⟨o32, ho32⟩ : ∃ o, o = o26 + k * 10 := ⟨_, rfl⟩
      obtain ⟨x33, hx34⟩ : ∃ x, x = (l[k]'hi31) := ⟨_, rfl⟩
      rw [← hx34] at hr30
      have hr30 : c27 = [(bv x33.kind), (Value.int .i64 (x33.packet.channel)), (uv x33.packet.seq), (uv x33.packet.timeout), (sv x33.packet.denom), (uv x33.packet.amount), (sv x33.packet.src), (sv x33.packet.dst), (Value.bool x33.ack.ok), (Value.int .i64 (x33.ack.code))] := hr30
      subst hr30
      have hs29 : Seg s11 w10 b25 o32 [(bv x33.kind), (Value.int .i64 (x33.packet.channel)), (uv x33.packet.seq), (uv x33.packet.timeout), (sv x33.packet.denom), (uv x33.packet.amount), (sv x33.packet.src), (sv x33.packet.dst), (Value.bool x33.ack.ok), (Value.int .i64 (x33.ack.code))] := by rw [ho32]; exact hs29
      refine r_at (r_val (d := 12) (op := (Op.indexAddr 41 (Operand.tmp 8) (Operand.tmp 10))) hF22 (by kernel_rfl) (by kernel_rfl) (Value.pointer (some ⟨b25, o32, none⟩)) w10 (by rw [ho32]; exact exec_index (len := l.length) (cap := c0) he28 (by kernel_rfl) (kd := .i64) k (by kernel_rfl) (by have := h24.ln; omega) 10 U41 L60.s) ?_)
      intro a35 hF36
      refine r_at (r_val (d := 13) (op := (Op.load 60 (Operand.tmp 12))) hF36 (by kernel_rfl) (by kernel_rfl) (Value.agg #[(bv x33.kind), (Value.int .i64 (x33.packet.channel)), (uv x33.packet.seq), (uv x33.packet.timeout), (sv x33.packet.denom), (uv x33.packet.amount), (sv x33.packet.src), (sv x33.packet.dst), (Value.bool x33.ack.ok), (Value.int .i64 (x33.ack.code))]) w10 (exec_load L60 (.inl rfl) (by kernel_rfl) hs29.cell) ?_)
      intro a37 hF38
      refine r_at (r_new (d := 7) (op := (Op.alloc 60)) hF38 (by kernel_rfl) (by kernel_rfl) s11 [(bv 0), (Value.int .i64 ((0 : Nat) : Int)), (uv 0), (uv 0), (sv []), (uv 0), (sv []), (sv []), (Value.bool false), (Value.int .i64 ((0 : Nat) : Int))] 60 (exec_alloc [(bv 0), (Value.int .i64 ((0 : Nat) : Int)), (uv 0), (uv 0), (sv []), (uv 0), (sv []), (sv []), (Value.bool false), (Value.int .i64 ((0 : Nat) : Int))] (fun _ => .inl (by kernel_rfl))) ?_)
      intro a39 s40 w41 b42 hb43 st44 hB45 hF46
      have hz47 := hS13.size
      have ne48 : ¬ Value.ownBlock (Value.slice A14 m16 cp15) = some b42 := fun e => by have := hO19.lt e; omega
      have hS49 := hS13.then st44
      refine r_at (r_store (t := 60) (x := (Operand.tmp 7)) (y := (Operand.tmp 13)) hF46 (by kernel_rfl) (by kernel_rfl) hB45 0 [(bv x33.kind), (Value.int .i64 (x33.packet.channel)), (uv x33.packet.seq), (uv x33.packet.timeout), (sv x33.packet.denom), (uv x33.packet.amount), (sv x33.packet.src), (sv x33.packet.dst), (Value.bool x33.ack.ok), (Value.int .i64 (x33.ack.code))] [(bv x33.kind), (Value.int .i64 (x33.packet.channel)), (uv x33.packet.seq), (uv x33.packet.timeout), (sv x33.packet.denom), (uv x33.packet.amount), (sv x33.packet.src), (sv x33.packet.dst), (Value.bool x33.ack.ok), (Value.int .i64 (x33.ack.code))] (by kernel_rfl) (by kernel_rfl) 10 true L60 rfl (by kernel_rfl) (Nat.le_of_ble_eq_true (by kernel_rfl)) (by kernel_rfl) ?_)
      intro a50 w51 st52 hB53 hF54
      have hS55 := hS49.and st52 (fun b e => by subst e; omega)
      have hF56 := hF54.keep [7, 1, 5, 8, 9, 10] [(7, (Value.pointer (some ⟨b42, 0, none⟩))), (1, (Value.func (.func f) #[] #[c1])), (5, (Value.slice A14 m16 cp15)), (8, (Value.slice A0 l.length c0)), (9, (Value.int .i64 ((l.length : Nat) : Int))), (10, (Value.int .i64 ((k : Nat) : Int)))] (by kernel_rfl)
      refine r_end (by kernel_rfl) ?_
      refine c_seq [1, 1, 0, 1, 0, 0, 1, 1, 0, 0, 1, 0] [1, 1, 0, 1, 0, 0, 1, 1, 0, 0, 1, 1] (by kernel_rfl) ?_
      refine c_reg 5 (by kernel_rfl) ?_
      refine r_runk 1 [14, 7, 1, 5, 8, 9, 10] [(14, (Value.func (.func f) #[] #[c1])), (7, (Value.pointer (some ⟨b42, 0, none⟩))), (1, (Value.func (.func f) #[] #[c1])), (5, (Value.slice A14 m16 cp15)), (8, (Value.slice A0 l.length c0)), (9, (Value.int .i64 ((l.length : Nat) : Int))), (10, (Value.int .i64 ((k : Nat) : Int)))] hF56 (by kernel_rfl) (by kernel_rfl) ?_
      intro a57 hF58
      refine r_at (r_val (d := 15) (op := (Op.load 60 (Operand.tmp 7))) hF58 (by kernel_rfl) (by kernel_rfl) (Value.agg #[(bv x33.kind), (Value.int .i64 (x33.packet.channel)), (uv x33.packet.seq), (uv x33.packet.timeout), (sv x33.packet.denom), (uv x33.packet.amount), (sv x33.packet.src), (sv x33.packet.dst), (Value.bool x33.ack.ok), (Value.int .i64 (x33.ack.code))]) w51 (exec_load L60 (.inl rfl) (by kernel_rfl) (Bx.cells hB53 0 10 [(bv x33.kind), (Value.int .i64 (x33.packet.channel)), (uv x33.packet.seq), (uv x33.packet.timeout), (sv x33.packet.denom), (uv x33.packet.amount), (sv x33.packet.src), (sv x33.packet.dst), (Value.bool x33.ack.ok), (Value.int .i64 (x33.ack.code))] (by kernel_rfl))) ?_)
      intro a59 hF60
      refine r_at (r_callv (d := (some 16)) (t := 14) (f := f) (args := #[(Operand.tmp 15)]) (tys := #[60]) hF60 (by kernel_rfl) (by kernel_rfl) hf (first := #[]) (captured := #[c1]) (by kernel_rfl) [(Value.agg #[(bv x33.kind), (Value.int .i64 (x33.packet.channel)), (uv x33.packet.seq), (uv x33.packet.timeout), (sv x33.packet.denom), (uv x33.packet.amount), (sv x33.packet.src), (sv x33.packet.dst), (Value.bool x33.ack.ok), (Value.int .i64 (x33.ack.code))]), c1] (by kernel_rfl) (hp x33 s40 w51 hS55) ?_)
      intro a61 s62 w63 v64 st65 hP66 hF67
      have hS68 := hS55.then st65
      subst hP66
      have hF69 := hF67.keep [16, 7, 1, 5, 8, 9, 10] [(16, (Value.bool (p x33))), (7, (Value.pointer (some ⟨b42, 0, none⟩))), (1, (Value.func (.func f) #[] #[c1])), (5, (Value.slice A14 m16 cp15)), (8, (Value.slice A0 l.length c0)), (9, (Value.int .i64 ((l.length : Nat) : Int))), (10, (Value.int .i64 ((k : Nat) : Int)))] (by kernel_rfl)
      refine r_end (by kernel_rfl) ?_
      refine c_cond [1, 1, 0, 1, 0, 0, 1, 1, 0, 0, 1, 1, 0] [1, 1, 0, 1, 0, 0, 1, 1, 0, 0, 1, 1, 1] 16 (by kernel_rfl) hF69 (p x33) (by kernel_rfl) (fun hc70 => ?_) (fun hc70 => ?_)
      · skip
        refine c_reg 6 (by kernel_rfl) ?_
        refine r_runk 1 [17, 7, 1, 8, 9, 10] [(17, (Value.slice A14 m16 cp15)), (7, (Value.pointer (some ⟨b42, 0, none⟩))), (1, (Value.func (.func f) #[] #[c1])), (8, (Value.slice A0 l.length c0)), (9, (Value.int .i64 ((l.length : Nat) : Int))), (10, (Value.int .i64 ((k : Nat) : Int)))] hF69 (by kernel_rfl) (by kernel_rfl) ?_
        intro a71 hF72
        have h73 : Bx s62 w63 b42 [(bv x33.kind), (Value.int .i64 (x33.packet.channel)), (uv x33.packet.seq), (uv x33.packet.timeout), (sv x33.packet.denom), (uv x33.packet.amount), (sv x33.packet.src), (sv x33.packet.dst), (Value.bool x33.ack.ok), (Value.int .i64 (x33.ack.code))] 60 := (hB53.step' st65)
        refine r_at (r_val (d := 18) (op := (Op.load 60 (Operand.tmp 7))) hF72 (by kernel_rfl) (by kernel_rfl) (Value.agg #[(bv x33.kind), (Value.int .i64 (x33.packet.channel)), (uv x33.packet.seq), (uv x33.packet.timeout), (sv x33.packet.denom), (uv x33.packet.amount), (sv x33.packet.src), (sv x33.packet.dst), (Value.bool x33.ack.ok), (Value.int .i64 (x33.ack.code))]) w63 (exec_load L60 (.inl rfl) (by kernel_rfl) (Bx.cells h73 0 10 [(bv x33.kind), (Value.int .i64 (x33.packet.channel)), (uv x33.packet.seq), (uv x33.packet.timeout), (sv x33.packet.denom), (uv x33.packet.amount), (sv x33.packet.src), (sv x33.packet.dst), (Value.bool x33.ack.ok), (Value.int .i64 (x33.ack.code))] (by kernel_rfl))) ?_)
        intro a74 hF75
        have h76 : Own tEvent 60 w.heap.size s62 w63 (Value.slice A14 m16 cp15) ((l.take (k)).filter p) := (((hO19.step' st44).step st52 (fun g hg e => ne48 (by subst e; exact hg))).step' st65)
        refine r_at (r_lit tEvent (d := 19) (t := 41) (m := 1) (parts := #[(0, (Operand.tmp 18))]) hF75 (by kernel_rfl) (by kernel_rfl) s62 [x33] [(bv x33.kind), (Value.int .i64 (x33.packet.channel)), (uv x33.packet.seq), (uv x33.packet.timeout), (sv x33.packet.denom), (uv x33.packet.amount), (sv x33.packet.src), (sv x33.packet.dst), (Value.bool x33.ack.ok), (Value.int .i64 (x33.ack.code))] ⟨_, _, rfl, rfl, rfl⟩ rfl (by decide) (e := 60) (fun o e => by simp only [execOp, e]; kernel_rfl) (by decide) ?_)
        intro a77 s78 w79 g80 hg81 st82 hO83 hF84
        have hz85 := hS68.size
        have hS86 := hS68.then st82
        have hO87 : Own tEvent 60 w.heap.size s78 w79 (Value.slice (some ⟨g80, 0, none⟩) 1 1) [x33] := (hO83.le (by omega : w.heap.size ≤ _))
        have ne89 : ∀ g, Value.ownBlock (Value.slice A14 m16 cp15) = some g → ¬ Value.ownBlock (Value.slice (some ⟨g80, 0, none⟩) 1 1) = some g := fun g hg e => by have h1 := hO83.ge e; have h2 := h76.lt hg; omega
        have ne90 : ¬ Value.ownBlock (Value.slice (some ⟨g80, 0, none⟩) 1 1) = some b42 := fun e => by have h1 := hO83.ge e; have h2 := h73.lt; omega
        have h91 : Own tEvent 60 w.heap.size s78 w79 (Value.slice A14 m16 cp15) ((l.take (k)).filter p) := (h76.step' st82)
        have h92 : Bx s78 w79 b42 [(bv x33.kind), (Value.int .i64 (x33.packet.channel)), (uv x33.packet.seq), (uv x33.packet.timeout), (sv x33.packet.denom), (uv x33.packet.amount), (sv x33.packet.src), (sv x33.packet.dst), (Value.bool x33.ack.ok), (Value.int .i64 (x33.ack.code))] 60 := (h73.step' st82)
        have hz102 := hS86.size
        have hb101 : ((l.take (k)).filter p).length + ([x33] : List _).length ≤ 1000000 := (by have h9 := List.length_filter_le p (l.take k); simp only [List.length_take, List.length_cons, List.length_nil] at *; omega)
        refine r_at (r_append tEvent S41 (d := 20) (x := (Operand.tmp 17)) (y := (Operand.tmp 19)) hF84 (by kernel_rfl) (by kernel_rfl) (by kernel_rfl) (by kernel_rfl) h91 hO87.rd (app_small hb101 (by decide)) (by omega) hz102 ?_)
        intro a93 s94 w95 v96 st97 hO98 hn99 hF100
        obtain ⟨A105, m108, c106, rfl, hl107⟩ := hO98.formL
        have hS109 := hS86.and st97 (fun b e => h91.ge e)
        have ne111 : ¬ Value.ownBlock (Value.slice A105 m108 c106) = some b42 := fun e => ne48 (hn99 _ h92.lt e)
        refine r_runk 1 [5, 1, 8, 9, 10] [(5, (Value.slice A105 m108 c106)), (1, (Value.func (.func f) #[] #[c1])), (8, (Value.slice A0 l.length c0)), (9, (Value.int .i64 ((l.length : Nat) : Int))), (10, (Value.int .i64 ((k : Nat) : Int)))] hF100 (by kernel_rfl) (by kernel_rfl) ?_
        intro a112 hF113
        refine r_end (by kernel_rfl) ?_
        refine c_reg 7 (by kernel_rfl) ?_
        refine r_one (d := 21) (v0 := (Value.int .i64 (IntKind.i64.wrap (((k : Nat) : Int) + ((1 : Nat) : Int))))) (v := (Value.int .i64 ((k + 1 : Nat) : Int))) hF113 (by kernel_rfl) (by kernel_rfl) (congrArg (Value.int .i64) (i64_eq (by omega) (by omega) (by omega))) ?_
        intro a114 hF115
        refine r_runk 1 [10, 5, 1, 8, 9] [(10, (Value.int .i64 ((k + 1 : Nat) : Int))), (5, (Value.slice A105 m108 c106)), (1, (Value.func (.func f) #[] #[c1])), (8, (Value.slice A0 l.length c0)), (9, (Value.int .i64 ((l.length : Nat) : Int)))] hF115 (by kernel_rfl) (by kernel_rfl) ?_
        intro a116 hF117
        refine r_end (by kernel_rfl) ?_
        have hF118 := hF117.keep [1, 5, 8, 9, 10] [(1, (Value.func (.func f) #[] #[c1])), (5, (Value.slice A105 m108 c106)), (8, (Value.slice A0 l.length c0)), (9, (Value.int .i64 ((l.length : Nat) : Int))), (10, (Value.int .i64 ((k + 1 : Nat) : Int)))] (by kernel_rfl)
        exact ⟨k + 1, ⟨s94, A105, c106, m108, hF118, hS109, (hO98.cast (by first | rfl | omega | (simp only [List.length_append, List.length_cons, List.length_nil, List.length_map] at *; omega)) (by subst hx34; exact (keep_yes p l k _ hc70))), (by omega)⟩, by omega⟩
      · skip
        refine c_skip (by kernel_rfl) ?_
        refine c_reg 7 (by kernel_rfl) ?_
        refine r_one (d := 21) (v0 := (Value.int .i64 (IntKind.i64.wrap (((k : Nat) : Int) + ((1 : Nat) : Int))))) (v := (Value.int .i64 ((k + 1 : Nat) : Int))) hF69 (by kernel_rfl) (by kernel_rfl) (congrArg (Value.int .i64) (i64_eq (by omega) (by omega) (by omega))) ?_
        intro a119 hF120
        refine r_runk 1 [10, 1, 5, 8, 9] [(10, (Value.int .i64 ((k + 1 : Nat) : Int))), (1, (Value.func (.func f) #[] #[c1])), (5, (Value.slice A14 m16 cp15)), (8, (Value.slice A0 l.length c0)), (9, (Value.int .i64 ((l.length : Nat) : Int)))] hF120 (by kernel_rfl) (by kernel_rfl) ?_
        intro a121 hF122
        refine r_end (by kernel_rfl) ?_
        have h123 : Own tEvent 60 w.heap.size s62 w63 (Value.slice A14 m16 cp15) ((l.take (k)).filter p) := (((hO19.step' st44).step st52 (fun g hg e => ne48 (by subst e; exact hg))).step' st65)
        have hF124 := hF122.keep [1, 5, 8, 9, 10] [(1, (Value.func (.func f) #[] #[c1])), (5, (Value.slice A14 m16 cp15)), (8, (Value.slice A0 l.length c0)), (9, (Value.int .i64 ((l.length : Nat) : Int))), (10, (Value.int .i64 ((k + 1 : Nat) : Int)))] (by kernel_rfl)
        exact ⟨k + 1, ⟨s62, A14, cp15, m16, hF124, hS68, (h123.cast (by first | rfl | omega | (simp only [List.length_append, List.length_cons, List.length_nil, List.length_map] at *; omega)) (by subst hx34; exact (keep_no p l k (by omega) hc70))), (by omega)⟩, by omega⟩
    · skip
      have hc23 := of_decide_eq_false hc23
      refine c_exit 0 (by kernel_rfl) ?_
      refine c_seq [1, 1, 1, 0] [1, 1, 1, 1] (by kernel_rfl) ?_
      refine c_reg 8 (by kernel_rfl) ?_
      refine r_runk 2 [4] [(4, (Value.slice A14 m16 cp15))] hF22 (by kernel_rfl) (by kernel_rfl) ?_
      intro a125 hF126
      refine r_end (by kernel_rfl) ?_
      refine c_ret (by kernel_rfl) ?_
      try dsimp only [Exit.then, Exit.inBlock]
      refine f_ret1 hF126 4 (by kernel_rfl) (Value.slice A14 m16 cp15) (by kernel_rfl) s11 hS13 ?_
      have hk8 : k = l.length := by omega
      subst hk8
      rw [← List.take_length (l := l)]
      exact hO19
theorem keepP_calls (σ : Nat → Nat) (w : World) {v0 : Value} {l : List Packet} (h0 : Rd tPacket σ w v0 l) (hl : l.length ≤ 1000) (c1 : Value) (f : Nat) (hf : callable Try.prog f = true) (p : Packet → Bool) (hp : ∀ (x : Packet) (σ1 : Nat → Nat) (w1 : World), Stp noM σ w σ1 w1 → Ctr Try.prog f [(Value.agg #[(Value.int .i64 (x.channel)), (uv x.seq), (uv x.timeout), (sv x.denom), (uv x.amount), (sv x.src), (sv x.dst)]), c1] noM σ1 w1 (fun _ _ v => v = .bool (p x))) :
    Ctr Try.prog 39 [v0, (Value.func (.func f) #[] #[c1])] noM σ w (fun σ' w' v => Own tPacket 56 w.heap.size σ' w' v (l.filter p)) := by
  obtain ⟨A0, c0, rfl, hlA0⟩ := h0.form
  have hbdA0 : l.length ≤ 140737488355328 := by have h := h0.bd; have e : tPacket.by_ = 80 := rfl; rw [e] at h; omega
  refine ctr_enter Try.func39 c39 (by kernel_rfl) 23 (by kernel_rfl) (Nat.le_of_ble_eq_true (by kernel_rfl)) [(0, (Value.slice A0 l.length c0)), (1, (Value.func (.func f) #[] #[c1]))] (by kernel_rfl) ?_
  intro a hF1
  have hS2 := Stp.refl noM σ w
  refine c_seq [0] [1] (by kernel_rfl) ?_
  refine c_reg 0 (by kernel_rfl) ?_
  refine r_runk 1 [0, 1] [(0, (Value.slice A0 l.length c0)), (1, (Value.func (.func f) #[] #[c1]))] hF1 (by kernel_rfl) (by kernel_rfl) ?_
  intro a3 hF4
  refine r_end (by kernel_rfl) ?_
  refine c_seq [1, 0] [1, 1] (by kernel_rfl) ?_
  refine c_reg 1 (by kernel_rfl) ?_
  refine r_runk 1 [5, 0, 1] [(5, (Value.slice none 0 0)), (0, (Value.slice A0 l.length c0)), (1, (Value.func (.func f) #[] #[c1]))] hF4 (by kernel_rfl) (by kernel_rfl) ?_
  intro a5 hF6
  refine r_end (by kernel_rfl) ?_
  refine c_seq [1, 1, 0] [1, 1, 1] (by kernel_rfl) ?_
  refine c_seq [1, 1, 0, 0] [1, 1, 0, 1] (by kernel_rfl) ?_
  refine c_reg 2 (by kernel_rfl) ?_
  refine r_runk 3 [10, 9, 8, 5, 1] [(10, (Value.int .i64 ((0 : Nat) : Int))), (9, (Value.int .i64 ((l.length : Nat) : Int))), (8, (Value.slice A0 l.length c0)), (5, (Value.slice none 0 0)), (1, (Value.func (.func f) #[] #[c1]))] hF6 (by kernel_rfl) (by kernel_rfl) ?_
  intro a7 hF8
  refine r_end (by kernel_rfl) ?_
  refine c_block [1, 1, 0, 1, 0] 0 (by kernel_rfl) ?_
  refine c_loop [1, 1, 0, 1, 0, 0] (by kernel_rfl) (fun (k : Nat) a9 w10 => ∃ (s11 : Nat → Nat) (A14 : Option Addr) (cp15 : Nat) (m16 : Nat), Fr a9 23 [(1, (Value.func (.func f) #[] #[c1])), (5, (Value.slice A14 m16 cp15)), (8, (Value.slice A0 l.length c0)), (9, (Value.int .i64 ((l.length : Nat) : Int))), (10, (Value.int .i64 ((k : Nat) : Int)))] ∧ Stp noM σ w s11 w10 ∧ Own tPacket 56 w.heap.size s11 w10 (Value.slice A14 m16 cp15) ((l.take (k)).filter p) ∧ k ≤ l.length) (fun k => l.length - k) 0 ?_ ?_
  · skip
    have hF18 := hF8.keep [1, 5, 8, 9, 10] [(1, (Value.func (.func f) #[] #[c1])), (5, (Value.slice none 0 0)), (8, (Value.slice A0 l.length c0)), (9, (Value.int .i64 ((l.length : Nat) : Int))), (10, (Value.int .i64 ((0 : Nat) : Int)))] (by kernel_rfl)
    exact ⟨σ, none, 0, 0, hF18, hS2, (Own.nil _ _ _ _ _), (by omega)⟩
  · rintro k a9 w10 ⟨s11, A14, cp15, m16, hF12, hS13, hO19, hk⟩
    have hln20 := hO19.ln
    refine c_seq [1, 1, 0, 1, 0, 0, 0] [1, 1, 0, 1, 0, 0, 1] (by kernel_rfl) ?_
    refine c_reg 3 (by kernel_rfl) ?_
    refine r_one (d := 11) (v0 := (Value.bool (decide (((k : Nat) : Int) < ((l.length : Nat) : Int))))) (v := (Value.bool (decide ((k : Nat) < l.length)))) hF12 (by kernel_rfl) (by kernel_rfl) (congrArg Value.bool (cmp_nat_lss _ _)) ?_
    intro a21 hF22
    refine r_end (by kernel_rfl) ?_
    refine c_seq [1, 1, 0, 1, 0, 0, 1, 0] [1, 1, 0, 1, 0, 0, 1, 1] (by kernel_rfl) ?_
    refine c_cond [1, 1, 0, 1, 0, 0, 1, 0, 0] [1, 1, 0, 1, 0, 0, 1, 0, 1] 11 (by kernel_rfl) hF22 (decide ((k : Nat) < l.length)) (by kernel_rfl) (fun hc23 => ?_) (fun hc23 => ?_)
    · skip
      have hc23 := of_decide_eq_true hc23
      refine c_skip (by kernel_rfl) ?_
      refine c_seq [1, 1, 0, 1, 0, 0, 1, 1, 0] [1, 1, 0, 1, 0, 0, 1, 1, 1] (by kernel_rfl) ?_
      refine c_block [1, 1, 0, 1, 0, 0, 1, 1, 0, 0] 1 (by kernel_rfl) ?_
      refine c_seq [1, 1, 0, 1, 0, 0, 1, 1, 0, 0, 0] [1, 1, 0, 1, 0, 0, 1, 1, 0, 0, 1] (by kernel_rfl) ?_
      refine c_reg 4 (by kernel_rfl) ?_
      have h24 : Rd tPacket s11 w10 (Value.slice A0 l.length c0) l := h0.step hS13
      have hi31 : k < (l).length := (by have hq := h24.ln; first | omega | (simp only [List.length_append, List.length_cons, List.length_nil, List.length_map] at *; omega))
      obtain ⟨b25, o26, c27, he28, hs29, hr30⟩ := (h24).at k hi31
      obtain ⟨o32, ho32⟩ : ∃ o, o = o26 + k * 7 := ⟨_, rfl⟩
      obtain ⟨x33, hx34⟩ : ∃ x, x = (l[k]'hi31) := ⟨_, rfl⟩
      rw [← hx34] at hr30
      have hr30 : c27 = [(Value.int .i64 (x33.channel)), (uv x33.seq), (uv x33.timeout), (sv x33.denom), (uv x33.amount), (sv x33.src), (sv x33.dst)] := hr30
      subst hr30
      have hs29 : Seg s11 w10 b25 o32 [(Value.int .i64 (x33.channel)), (uv x33.seq), (uv x33.timeout), (sv x33.denom), (uv x33.amount), (sv x33.src), (sv x33.dst)] := by rw [ho32]; exact hs29
      refine r_at (r_val (d := 12) (op := (Op.indexAddr 43 (Operand.tmp 8) (Operand.tmp 10))) hF22 (by kernel_rfl) (by kernel_rfl) (Value.pointer (some ⟨b25, o32, none⟩)) w10 (by rw [ho32]; exact exec_index (len := l.length) (cap := c0) he28 (by kernel_rfl) (kd := .i64) k (by kernel_rfl) (by have := h24.ln; omega) 7 U43 L56.s) ?_)
      intro a35 hF36
      refine r_at (r_val (d := 13) (op := (Op.load 56 (Operand.tmp 12))) hF36 (by kernel_rfl) (by kernel_rfl) (Value.agg #[(Value.int .i64 (x33.channel)), (uv x33.seq), (uv x33.timeout), (sv x33.denom), (uv x33.amount), (sv x33.src), (sv x33.dst)]) w10 (exec_load L56 (.inl rfl) (by kernel_rfl) hs29.cell) ?_)
      intro a37 hF38
      refine r_at (r_new (d := 7) (op := (Op.alloc 56)) hF38 (by kernel_rfl) (by kernel_rfl) s11 [(Value.int .i64 ((0 : Nat) : Int)), (uv 0), (uv 0), (sv []), (uv 0), (sv []), (sv [])] 56 (exec_alloc [(Value.int .i64 ((0 : Nat) : Int)), (uv 0), (uv 0), (sv []), (uv 0), (sv []), (sv [])] (fun _ => .inl (by kernel_rfl))) ?_)
      intro a39 s40 w41 b42 hb43 st44 hB45 hF46
      have hz47 := hS13.size
      have ne48 : ¬ Value.ownBlock (Value.slice A14 m16 cp15) = some b42 := fun e => by have := hO19.lt e; omega
      have hS49 := hS13.then st44
      refine r_at (r_store (t := 56) (x := (Operand.tmp 7)) (y := (Operand.tmp 13)) hF46 (by kernel_rfl) (by kernel_rfl) hB45 0 [(Value.int .i64 (x33.channel)), (uv x33.seq), (uv x33.timeout), (sv x33.denom), (uv x33.amount), (sv x33.src), (sv x33.dst)] [(Value.int .i64 (x33.channel)), (uv x33.seq), (uv x33.timeout), (sv x33.denom), (uv x33.amount), (sv x33.src), (sv x33.dst)] (by kernel_rfl) (by kernel_rfl) 7 true L56 rfl (by kernel_rfl) (Nat.le_of_ble_eq_true (by kernel_rfl)) (by kernel_rfl) ?_)
      intro a50 w51 st52 hB53 hF54
      have hS55 := hS49.and st52 (fun b e => by subst e; omega)
      have hF56 := hF54.keep [7, 1, 5, 8, 9, 10] [(7, (Value.pointer (some ⟨b42, 0, none⟩))), (1, (Value.func (.func f) #[] #[c1])), (5, (Value.slice A14 m16 cp15)), (8, (Value.slice A0 l.length c0)), (9, (Value.int .i64 ((l.length : Nat) : Int))), (10, (Value.int .i64 ((k : Nat) : Int)))] (by kernel_rfl)
      refine r_end (by kernel_rfl) ?_
      refine c_seq [1, 1, 0, 1, 0, 0, 1, 1, 0, 0, 1, 0] [1, 1, 0, 1, 0, 0, 1, 1, 0, 0, 1, 1] (by kernel_rfl) ?_
      refine c_reg 5 (by kernel_rfl) ?_
      refine r_runk 1 [14, 7, 1, 5, 8, 9, 10] [(14, (Value.func (.func f) #[] #[c1])), (7, (Value.pointer (some ⟨b42, 0, none⟩))), (1, (Value.func (.func f) #[] #[c1])), (5, (Value.slice A14 m16 cp15)), (8, (Value.slice A0 l.length c0)), (9, (Value.int .i64 ((l.length : Nat) : Int))), (10, (Value.int .i64 ((k : Nat) : Int)))] hF56 (by kernel_rfl) (by kernel_rfl) ?_
      intro a57 hF58
      refine r_at (r_val (d := 15) (op := (Op.load 56 (Operand.tmp 7))) hF58 (by kernel_rfl) (by kernel_rfl) (Value.agg #[(Value.int .i64 (x33.channel)), (uv x33.seq), (uv x33.timeout), (sv x33.denom), (uv x33.amount), (sv x33.src), (sv x33.dst)]) w51 (exec_load L56 (.inl rfl) (by kernel_rfl) (Bx.cells hB53 0 7 [(Value.int .i64 (x33.channel)), (uv x33.seq), (uv x33.timeout), (sv x33.denom), (uv x33.amount), (sv x33.src), (sv x33.dst)] (by kernel_rfl))) ?_)
      intro a59 hF60
      refine r_at (r_callv (d := (some 16)) (t := 14) (f := f) (args := #[(Operand.tmp 15)]) (tys := #[56]) hF60 (by kernel_rfl) (by kernel_rfl) hf (first := #[]) (captured := #[c1]) (by kernel_rfl) [(Value.agg #[(Value.int .i64 (x33.channel)), (uv x33.seq), (uv x33.timeout), (sv x33.denom), (uv x33.amount), (sv x33.src), (sv x33.dst)]), c1] (by kernel_rfl) (hp x33 s40 w51 hS55) ?_)
      intro a61 s62 w63 v64 st65 hP66 hF67
      have hS68 := hS55.then st65
      subst hP66
      have hF69 := hF67.keep [16, 7, 1, 5, 8, 9, 10] [(16, (Value.bool (p x33))), (7, (Value.pointer (some ⟨b42, 0, none⟩))), (1, (Value.func (.func f) #[] #[c1])), (5, (Value.slice A14 m16 cp15)), (8, (Value.slice A0 l.length c0)), (9, (Value.int .i64 ((l.length : Nat) : Int))), (10, (Value.int .i64 ((k : Nat) : Int)))] (by kernel_rfl)
      refine r_end (by kernel_rfl) ?_
      refine c_cond [1, 1, 0, 1, 0, 0, 1, 1, 0, 0, 1, 1, 0] [1, 1, 0, 1, 0, 0, 1, 1, 0, 0, 1, 1, 1] 16 (by kernel_rfl) hF69 (p x33) (by kernel_rfl) (fun hc70 => ?_) (fun hc70 => ?_)
      · skip
        refine c_reg 6 (by kernel_rfl) ?_
        refine r_runk 1 [17, 7, 1, 8, 9, 10] [(17, (Value.slice A14 m16 cp15)), (7, (Value.pointer (some ⟨b42, 0, none⟩))), (1, (Value.func (.func f) #[] #[c1])), (8, (Value.slice A0 l.length c0)), (9, (Value.int .i64 ((l.length : Nat) : Int))), (10, (Value.int .i64 ((k : Nat) : Int)))] hF69 (by kernel_rfl) (by kernel_rfl) ?_
        intro a71 hF72
        have h73 : Bx s62 w63 b42 [(Value.int .i64 (x33.channel)), (uv x33.seq), (uv x33.timeout), (sv x33.denom), (uv x33.amount), (sv x33.src), (sv x33.dst)] 56 := (hB53.step' st65)
        refine r_at (r_val (d := 18) (op := (Op.load 56 (Operand.tmp 7))) hF72 (by kernel_rfl) (by kernel_rfl) (Value.agg #[(Value.int .i64 (x33.channel)), (uv x33.seq), (uv x33.timeout), (sv x33.denom), (uv x33.amount), (sv x33.src), (sv x33.dst)]) w63 (exec_load L56 (.inl rfl) (by kernel_rfl) (Bx.cells h73 0 7 [(Value.int .i64 (x33.channel)), (uv x33.seq), (uv x33.timeout), (sv x33.denom), (uv x33.amount), (sv x33.src), (sv x33.dst)] (by kernel_rfl))) ?_)
        intro a74 hF75
        have h76 : Own tPacket 56 w.heap.size s62 w63 (Value.slice A14 m16 cp15) ((l.take (k)).filter p) := (((hO19.step' st44).step st52 (fun g hg e => ne48 (by subst e; exact hg))).step' st65)
        refine r_at (r_lit tPacket (d := 19) (t := 43) (m := 1) (parts := #[(0, (Operand.tmp 18))]) hF75 (by kernel_rfl) (by kernel_rfl) s62 [x33] [(Value.int .i64 (x33.channel)), (uv x33.seq), (uv x33.timeout), (sv x33.denom), (uv x33.amount), (sv x33.src), (sv x33.dst)] ⟨_, _, rfl, rfl, rfl⟩ rfl (by decide) (e := 56) (fun o e => by simp only [execOp, e]; kernel_rfl) (by decide) ?_)
        intro a77 s78 w79 g80 hg81 st82 hO83 hF84
        have hz85 := hS68.size
        have hS86 := hS68.then st82
        have hO87 : Own tPacket 56 w.heap.size s78 w79 (Value.slice (some ⟨g80, 0, none⟩) 1 1) [x33] := (hO83.le (by omega : w.heap.size ≤ _))
        have ne89 : ∀ g, Value.ownBlock (Value.slice A14 m16 cp15) = some g → ¬ Value.ownBlock (Value.slice (some ⟨g80, 0, none⟩) 1 1) = some g := fun g hg e => by have h1 := hO83.ge e; have h2 := h76.lt hg; omega
        have ne90 : ¬ Value.ownBlock (Value.slice (some ⟨g80, 0, none⟩) 1 1) = some b42 := fun e => by have h1 := hO83.ge e; have h2 := h73.lt; omega
        have h91 : Own tPacket 56 w.heap.size s78 w79 (Value.slice A14 m16 cp15) ((l.take (k)).filter p) := (h76.step' st82)
        have h92 : Bx s78 w79 b42 [(Value.int .i64 (x33.channel)), (uv x33.seq), (uv x33.timeout), (sv x33.denom), (uv x33.amount), (sv x33.src), (sv x33.dst)] 56 := (h73.step' st82)
        have hz102 := hS86.size
        have hb101 : ((l.take (k)).filter p).length + ([x33] : List _).length ≤ 1000000 := (by have h9 := List.length_filter_le p (l.take k); simp only [List.length_take, List.length_cons, List.length_nil] at *; omega)
        refine r_at (r_append tPacket S43 (d := 20) (x := (Operand.tmp 17)) (y := (Operand.tmp 19)) hF84 (by kernel_rfl) (by kernel_rfl) (by kernel_rfl) (by kernel_rfl) h91 hO87.rd (app_small hb101 (by decide)) (by omega) hz102 ?_)
        intro a93 s94 w95 v96 st97 hO98 hn99 hF100
        obtain ⟨A105, m108, c106, rfl, hl107⟩ := hO98.formL
        have hS109 := hS86.and st97 (fun b e => h91.ge e)
        have ne111 : ¬ Value.ownBlock (Value.slice A105 m108 c106) = some b42 := fun e => ne48 (hn99 _ h92.lt e)
        refine r_runk 1 [5, 1, 8, 9, 10] [(5, (Value.slice A105 m108 c106)), (1, (Value.func (.func f) #[] #[c1])), (8, (Value.slice A0 l.length c0)), (9, (Value.int .i64 ((l.length : Nat) : Int))), (10, (Value.int .i64 ((k : Nat) : Int)))] hF100 (by kernel_rfl) (by kernel_rfl) ?_
        intro a112 hF113
        refine r_end (by kernel_rfl) ?_
        refine c_reg 7 (by kernel_rfl) ?_
        refine r_one (d := 21) (v0 := (Value.int .i64 (IntKind.i64.wrap (((k : Nat) : Int) + ((1 : Nat) : Int))))) (v := (Value.int .i64 ((k + 1 : Nat) : Int))) hF113 (by kernel_rfl) (by kernel_rfl) (congrArg (Value.int .i64) (i64_eq (by omega) (by omega) (by omega))) ?_
        intro a114 hF115
        refine r_runk 1 [10, 5, 1, 8, 9] [(10, (Value.int .i64 ((k + 1 : Nat) : Int))), (5, (Value.slice A105 m108 c106)), (1, (Value.func (.func f) #[] #[c1])), (8, (Value.slice A0 l.length c0)), (9, (Value.int .i64 ((l.length : Nat) : Int)))] hF115 (by kernel_rfl) (by kernel_rfl) ?_
        intro a116 hF117
        refine r_end (by kernel_rfl) ?_
        have hF118 := hF117.keep [1, 5, 8, 9, 10] [(1, (Value.func (.func f) #[] #[c1])), (5, (Value.slice A105 m108 c106)), (8, (Value.slice A0 l.length c0)), (9, (Value.int .i64 ((l.length : Nat) : Int))), (10, (Value.int .i64 ((k + 1 : Nat) : Int)))] (by kernel_rfl)
        exact ⟨k + 1, ⟨s94, A105, c106, m108, hF118, hS109, (hO98.cast (by first | rfl | omega | (simp only [List.length_append, List.length_cons, List.length_nil, List.length_map] at *; omega)) (by subst hx34; exact (keep_yes p l k _ hc70))), (by omega)⟩, by omega⟩
      · skip
        refine c_skip (by kernel_rfl) ?_
        refine c_reg 7 (by kernel_rfl) ?_
        refine r_one (d := 21) (v0 := (Value.int .i64 (IntKind.i64.wrap (((k : Nat) : Int) + ((1 : Nat) : Int))))) (v := (Value.int .i64 ((k + 1 : Nat) : Int))) hF69 (by kernel_rfl) (by kernel_rfl) (congrArg (Value.int .i64) (i64_eq (by omega) (by omega) (by omega))) ?_
        intro a119 hF120
        refine r_runk 1 [10, 1, 5, 8, 9] [(10, (Value.int .i64 ((k + 1 : Nat) : Int))), (1, (Value.func (.func f) #[] #[c1])), (5, (Value.slice A14 m16 cp15)), (8, (Value.slice A0 l.length c0)), (9, (Value.int .i64 ((l.length : Nat) : Int)))] hF120 (by kernel_rfl) (by kernel_rfl) ?_
        intro a121 hF122
        refine r_end (by kernel_rfl) ?_
        have h123 : Own tPacket 56 w.heap.size s62 w63 (Value.slice A14 m16 cp15) ((l.take (k)).filter p) := (((hO19.step' st44).step st52 (fun g hg e => ne48 (by subst e; exact hg))).step' st65)
        have hF124 := hF122.keep [1, 5, 8, 9, 10] [(1, (Value.func (.func f) #[] #[c1])), (5, (Value.slice A14 m16 cp15)), (8, (Value.slice A0 l.length c0)), (9, (Value.int .i64 ((l.length : Nat) : Int))), (10, (Value.int .i64 ((k + 1 : Nat) : Int)))] (by kernel_rfl)
        exact ⟨k + 1, ⟨s62, A14, cp15, m16, hF124, hS68, (h123.cast (by first | rfl | omega | (simp only [List.length_append, List.length_cons, List.length_nil, List.length_map] at *; omega)) (by subst hx34; exact (keep_no p l k (by omega) hc70))), (by omega)⟩, by omega⟩
    · skip
      have hc23 := of_decide_eq_false hc23
      refine c_exit 0 (by kernel_rfl) ?_
      refine c_seq [1, 1, 1, 0] [1, 1, 1, 1] (by kernel_rfl) ?_
      refine c_reg 8 (by kernel_rfl) ?_
      refine r_runk 2 [4] [(4, (Value.slice A14 m16 cp15))] hF22 (by kernel_rfl) (by kernel_rfl) ?_
      intro a125 hF126
      refine r_end (by kernel_rfl) ?_
      refine c_ret (by kernel_rfl) ?_
      try dsimp only [Exit.then, Exit.inBlock]
      refine f_ret1 hF126 4 (by kernel_rfl) (Value.slice A14 m16 cp15) (by kernel_rfl) s11 hS13 ?_
      have hk8 : k = l.length := by omega
      subst hk8
      rw [← List.take_length (l := l)]
      exact hO19
end Go.Proofs.Ytaoamokfbhlaaaa.E
