/- Walks, printed by a program of this session. -/
import Derived.Test.YtaoamokfbhlaaaaK
import Derived.Test.Ytaoamokfbhlaaaapure21b
import Derived.Test.YtaoamokfbhlaaaaRt
set_option linter.unusedVariables false
set_option linter.unusedSimpArgs false
set_option maxRecDepth 100000
namespace Go.Proofs.Ytaoamokfbhlaaaa.E
open Go Go.RowKit
open Go.Proofs
theorem toCarry2_calls (σ : Nat → Nat) (w : World) {v0 v1 : Value} {la lb : List Event} (h0 : Rd tEvent σ w v0 la) (h1 : Rd tEvent σ w v1 lb) (hla : la.length ≤ 1000) (c : Int) :
    Ctr Try.prog 27 [(bv 2), v0, v1, (iv c)] noM σ w (fun σ' w' v => ∃ v1 v2, v = .tuple #[v1, v2] ∧ Own tPacket 56 w.heap.size σ' w' v1 (toCarry 2 la lb c) ∧ Own tAck 53 w.heap.size σ' w' v2 ((toCarry 2 la lb c).map (fun p => toldA (sameL lb p [2])))) := by
  obtain ⟨A0, c0, rfl, hlA0⟩ := h0.form
  have hbdA0 : la.length ≤ 140737488355328 := by have h := h0.bd; have e : tEvent.by_ = 104 := rfl; rw [e] at h; omega
  obtain ⟨A1, c1, rfl, hlA1⟩ := h1.form
  have hbdA1 : lb.length ≤ 140737488355328 := by have h := h1.bd; have e : tEvent.by_ = 104 := rfl; rw [e] at h; omega
  refine ctr_enter Try.func27 c27 (by kernel_rfl) 91 (by kernel_rfl) (Nat.le_of_ble_eq_true (by kernel_rfl)) [(0, (bv 2)), (1, (Value.slice A0 la.length c0)), (2, (Value.slice A1 lb.length c1)), (3, (Value.int .i64 (c)))] (by kernel_rfl) ?_
  intro a hF1
  have hS2 := Stp.refl noM σ w
  refine c_seq [0] [1] (by kernel_rfl) ?_
  refine c_reg 0 (by kernel_rfl) ?_
  refine r_runk 2 [0, 1, 2, 3] [(0, (bv 2)), (1, (Value.slice A0 la.length c0)), (2, (Value.slice A1 lb.length c1)), (3, (Value.int .i64 (c)))] hF1 (by kernel_rfl) (by kernel_rfl) ?_
  intro a3 hF4
  refine r_end (by kernel_rfl) ?_
  refine c_seq [1, 0] [1, 1] (by kernel_rfl) ?_
  refine c_reg 1 (by kernel_rfl) ?_
  refine r_runk 1 [10, 0, 1, 2, 3] [(10, (Value.slice none 0 0)), (0, (bv 2)), (1, (Value.slice A0 la.length c0)), (2, (Value.slice A1 lb.length c1)), (3, (Value.int .i64 (c)))] hF4 (by kernel_rfl) (by kernel_rfl) ?_
  intro a5 hF6
  refine r_end (by kernel_rfl) ?_
  refine c_seq [1, 1, 0] [1, 1, 1] (by kernel_rfl) ?_
  refine c_reg 2 (by kernel_rfl) ?_
  refine r_runk 1 [11, 10, 0, 1, 2, 3] [(11, (Value.slice none 0 0)), (10, (Value.slice none 0 0)), (0, (bv 2)), (1, (Value.slice A0 la.length c0)), (2, (Value.slice A1 lb.length c1)), (3, (Value.int .i64 (c)))] hF6 (by kernel_rfl) (by kernel_rfl) ?_
  intro a7 hF8
  refine r_end (by kernel_rfl) ?_
  refine c_seq [1, 1, 1, 0] [1, 1, 1, 1] (by kernel_rfl) ?_
  refine c_seq [1, 1, 1, 0, 0] [1, 1, 1, 0, 1] (by kernel_rfl) ?_
  refine c_reg 3 (by kernel_rfl) ?_
  refine r_runk 1 [12, 11, 10, 0, 1, 2, 3] [(12, (Value.int .i64 ((0 : Nat) : Int))), (11, (Value.slice none 0 0)), (10, (Value.slice none 0 0)), (0, (bv 2)), (1, (Value.slice A0 la.length c0)), (2, (Value.slice A1 lb.length c1)), (3, (Value.int .i64 (c)))] hF8 (by kernel_rfl) (by kernel_rfl) ?_
  intro a9 hF10
  refine r_end (by kernel_rfl) ?_
  refine c_block [1, 1, 1, 0, 1, 0] 0 (by kernel_rfl) ?_
  refine c_loop [1, 1, 1, 0, 1, 0, 0] (by kernel_rfl) (fun (k : Nat) a11 w12 => ∃ (s13 : Nat → Nat) (A16 : Option Addr) (cp17 : Nat) (m18 : Nat) (A20 : Option Addr) (cp21 : Nat) (m22 : Nat), Fr a11 91 [(0, (bv 2)), (1, (Value.slice A0 la.length c0)), (2, (Value.slice A1 lb.length c1)), (3, (Value.int .i64 (c))), (10, (Value.slice A16 m18 cp17)), (11, (Value.slice A20 m22 cp21)), (12, (Value.int .i64 ((k : Nat) : Int)))] ∧ Stp noM σ w s13 w12 ∧ Own tPacket 56 w.heap.size s13 w12 (Value.slice A16 m18 cp17) ((sentL (la.take (k)) c).filter (takeC 2 la lb)) ∧ Own tAck 53 w.heap.size s13 w12 (Value.slice A20 m22 cp21) (((sentL (la.take (k)) c).filter (takeC 2 la lb)).map (fun p => toldA (sameL lb p [2]))) ∧ k ≤ la.length ∧ ∀ g, Value.ownBlock (Value.slice A16 m18 cp17) = some g → ¬ Value.ownBlock (Value.slice A20 m22 cp21) = some g) (fun k => la.length - k) 0 ?_ ?_
  · skip
    have hF25 := hF10.keep [0, 1, 2, 3, 10, 11, 12] [(0, (bv 2)), (1, (Value.slice A0 la.length c0)), (2, (Value.slice A1 lb.length c1)), (3, (Value.int .i64 (c))), (10, (Value.slice none 0 0)), (11, (Value.slice none 0 0)), (12, (Value.int .i64 ((0 : Nat) : Int)))] (by kernel_rfl)
    exact ⟨σ, none, 0, 0, none, 0, 0, hF25, hS2, (Own.nil _ _ _ _ _), (Own.nil _ _ _ _ _), (by omega), (fun g hg => by simp [Value.ownBlock] at hg)⟩
  · rintro k a11 w12 ⟨s13, A16, cp17, m18, A20, cp21, m22, hF14, hS15, hO26, hO27, hk, ne24⟩
    have hln28 := hO26.ln
    have hln29 := hO27.ln
    refine c_seq [1, 1, 1, 0, 1, 0, 0, 0] [1, 1, 1, 0, 1, 0, 0, 1] (by kernel_rfl) ?_
    refine c_seq [1, 1, 1, 0, 1, 0, 0, 0, 0] [1, 1, 1, 0, 1, 0, 0, 0, 1] (by kernel_rfl) ?_
    refine c_reg 4 (by kernel_rfl) ?_
    refine r_runk 3 [19, 17, 0, 1, 2, 3, 10, 11, 12] [(19, (Value.int .i64 ((la.length : Nat) : Int))), (17, (Value.int .i64 ((k : Nat) : Int))), (0, (bv 2)), (1, (Value.slice A0 la.length c0)), (2, (Value.slice A1 lb.length c1)), (3, (Value.int .i64 (c))), (10, (Value.slice A16 m18 cp17)), (11, (Value.slice A20 m22 cp21)), (12, (Value.int .i64 ((k : Nat) : Int)))] hF14 (by kernel_rfl) (by kernel_rfl) ?_
    intro a30 hF31
    refine r_one (d := 20) (v0 := (Value.bool (decide (((k : Nat) : Int) < ((la.length : Nat) : Int))))) (v := (Value.bool (decide ((k : Nat) < la.length)))) hF31 (by kernel_rfl) (by kernel_rfl) (congrArg Value.bool (cmp_nat_lss _ _)) ?_
    intro a32 hF33
    have hF34 := hF33.keep [20, 0, 1, 2, 3, 10, 11, 12] [(20, (Value.bool (decide ((k : Nat) < la.length)))), (0, (bv 2)), (1, (Value.slice A0 la.length c0)), (2, (Value.slice A1 lb.length c1)), (3, (Value.int .i64 (c))), (10, (Value.slice A16 m18 cp17)), (11, (Value.slice A20 m22 cp21)), (12, (Value.int .i64 ((k : Nat) : Int)))] (by kernel_rfl)
    refine r_end (by kernel_rfl) ?_
    refine c_cond [1, 1, 1, 0, 1, 0, 0, 0, 1, 0] [1, 1, 1, 0, 1, 0, 0, 0, 1, 1] 20 (by kernel_rfl) hF34 (decide ((k : Nat) < la.length)) (by kernel_rfl) (fun hc35 => ?_) (fun hc35 => ?_)
    · skip
      have hc35 := of_decide_eq_true hc35
      refine c_skip (by kernel_rfl) ?_
      refine c_seq [1, 1, 1, 0, 1, 0, 0, 1, 0] [1, 1, 1, 0, 1, 0, 0, 1, 1] (by kernel_rfl) ?_
      refine c_block [1, 1, 1, 0, 1, 0, 0, 1, 0, 0] 1 (by kernel_rfl) ?_
      refine c_seq [1, 1, 1, 0, 1, 0, 0, 1, 0, 0, 0] [1, 1, 1, 0, 1, 0, 0, 1, 0, 0, 1] (by kernel_rfl) ?_
      refine c_reg 6 (by kernel_rfl) ?_
      refine r_runk 2 [24, 23, 0, 1, 2, 3, 10, 11, 12] [(24, (Value.int .i64 ((k : Nat) : Int))), (23, (Value.slice A0 la.length c0)), (0, (bv 2)), (1, (Value.slice A0 la.length c0)), (2, (Value.slice A1 lb.length c1)), (3, (Value.int .i64 (c))), (10, (Value.slice A16 m18 cp17)), (11, (Value.slice A20 m22 cp21)), (12, (Value.int .i64 ((k : Nat) : Int)))] hF34 (by kernel_rfl) (by kernel_rfl) ?_
      intro a36 hF37
      have h38 : Rd tEvent s13 w12 (Value.slice A0 la.length c0) la := h0.step hS15
      have hi45 : k < (la).length := (by have hq := h38.ln; first | omega | (simp only [List.length_append, List.length_cons, List.length_nil, List.length_map] at *; omega))
      obtain ⟨b39, o40, c41, he42, hs43, hr44⟩ := (h38).at k hi45
      obtain ⟨o46, ho46⟩ : ∃ o, o = o40 + k * 10 := ⟨_, rfl⟩
      obtain ⟨x47, hx48⟩ : ∃ x, x = (la[k]'hi45) := ⟨_, rfl⟩
      rw [← hx48] at hr44
      have hr44 : c41 = [(bv x47.kind), (Value.int .i64 (x47.packet.channel)), (uv x47.packet.seq), (uv x47.packet.timeout), (sv x47.packet.denom), (uv x47.packet.amount), (sv x47.packet.src), (sv x47.packet.dst), (Value.bool x47.ack.ok), (Value.int .i64 (x47.ack.code))] := hr44
      subst hr44
      have hs43 : Seg s13 w12 b39 o46 [(bv x47.kind), (Value.int .i64 (x47.packet.channel)), (uv x47.packet.seq), (uv x47.packet.timeout), (sv x47.packet.denom), (uv x47.packet.amount), (sv x47.packet.src), (sv x47.packet.dst), (Value.bool x47.ack.ok), (Value.int .i64 (x47.ack.code))] := by rw [ho46]; exact hs43
      refine r_at (r_val (d := 25) (op := (Op.indexAddr 41 (Operand.tmp 23) (Operand.tmp 24))) hF37 (by kernel_rfl) (by kernel_rfl) (Value.pointer (some ⟨b39, o46, none⟩)) w12 (by rw [ho46]; exact exec_index (len := la.length) (cap := c0) he42 (by kernel_rfl) (kd := .i64) k (by kernel_rfl) (by have := h38.ln; omega) 10 U41 L60.s) ?_)
      intro a49 hF50
      refine r_runk 1 [26, 0, 1, 2, 3, 10, 11, 12] [(26, (Value.pointer (some ⟨b39, o46 + 1, none⟩))), (0, (bv 2)), (1, (Value.slice A0 la.length c0)), (2, (Value.slice A1 lb.length c1)), (3, (Value.int .i64 (c))), (10, (Value.slice A16 m18 cp17)), (11, (Value.slice A20 m22 cp21)), (12, (Value.int .i64 ((k : Nat) : Int)))] hF50 (by kernel_rfl) (by kernel_rfl) ?_
      intro a51 hF52
      refine r_at (r_val (d := 27) (op := (Op.load 56 (Operand.tmp 26))) hF52 (by kernel_rfl) (by kernel_rfl) (Value.agg #[(Value.int .i64 (x47.packet.channel)), (uv x47.packet.seq), (uv x47.packet.timeout), (sv x47.packet.denom), (uv x47.packet.amount), (sv x47.packet.src), (sv x47.packet.dst)]) w12 (exec_load L56 (.inl rfl) (by kernel_rfl) (Seg.sub hs43 1 7 [(Value.int .i64 (x47.packet.channel)), (uv x47.packet.seq), (uv x47.packet.timeout), (sv x47.packet.denom), (uv x47.packet.amount), (sv x47.packet.src), (sv x47.packet.dst)] (by kernel_rfl)).cell) ?_)
      intro a53 hF54
      refine r_at (r_new (d := 13) (op := (Op.alloc 56)) hF54 (by kernel_rfl) (by kernel_rfl) s13 [(Value.int .i64 ((0 : Nat) : Int)), (uv 0), (uv 0), (sv []), (uv 0), (sv []), (sv [])] 56 (exec_alloc [(Value.int .i64 ((0 : Nat) : Int)), (uv 0), (uv 0), (sv []), (uv 0), (sv []), (sv [])] (fun _ => .inl (by kernel_rfl))) ?_)
      intro a55 s56 w57 b58 hb59 st60 hB61 hF62
      have hz63 := hS15.size
      have ne64 : ¬ Value.ownBlock (Value.slice A16 m18 cp17) = some b58 := fun e => by have := hO26.lt e; omega
      have ne65 : ¬ Value.ownBlock (Value.slice A20 m22 cp21) = some b58 := fun e => by have := hO27.lt e; omega
      have hS66 := hS15.then st60
      refine r_at (r_store (t := 56) (x := (Operand.tmp 13)) (y := (Operand.tmp 27)) hF62 (by kernel_rfl) (by kernel_rfl) hB61 0 [(Value.int .i64 (x47.packet.channel)), (uv x47.packet.seq), (uv x47.packet.timeout), (sv x47.packet.denom), (uv x47.packet.amount), (sv x47.packet.src), (sv x47.packet.dst)] [(Value.int .i64 (x47.packet.channel)), (uv x47.packet.seq), (uv x47.packet.timeout), (sv x47.packet.denom), (uv x47.packet.amount), (sv x47.packet.src), (sv x47.packet.dst)] (by kernel_rfl) (by kernel_rfl) 7 true L56 rfl (by kernel_rfl) (Nat.le_of_ble_eq_true (by kernel_rfl)) (by kernel_rfl) ?_)
      intro a67 w68 st69 hB70 hF71
      have hS72 := hS66.and st69 (fun b e => by subst e; omega)
      have hF73 := hF71.keep [13, 0, 1, 2, 3, 10, 11, 12] [(13, (Value.pointer (some ⟨b58, 0, none⟩))), (0, (bv 2)), (1, (Value.slice A0 la.length c0)), (2, (Value.slice A1 lb.length c1)), (3, (Value.int .i64 (c))), (10, (Value.slice A16 m18 cp17)), (11, (Value.slice A20 m22 cp21)), (12, (Value.int .i64 ((k : Nat) : Int)))] (by kernel_rfl)
      refine r_end (by kernel_rfl) ?_
      refine c_seq [1, 1, 1, 0, 1, 0, 0, 1, 0, 0, 1, 0] [1, 1, 1, 0, 1, 0, 0, 1, 0, 0, 1, 1] (by kernel_rfl) ?_
      refine c_seq [1, 1, 1, 0, 1, 0, 0, 1, 0, 0, 1, 0, 0] [1, 1, 1, 0, 1, 0, 0, 1, 0, 0, 1, 0, 1] (by kernel_rfl) ?_
      refine c_reg 7 (by kernel_rfl) ?_
      refine r_runk 2 [29, 28, 13, 0, 1, 2, 3, 10, 11, 12] [(29, (Value.int .i64 ((k : Nat) : Int))), (28, (Value.slice A0 la.length c0)), (13, (Value.pointer (some ⟨b58, 0, none⟩))), (0, (bv 2)), (1, (Value.slice A0 la.length c0)), (2, (Value.slice A1 lb.length c1)), (3, (Value.int .i64 (c))), (10, (Value.slice A16 m18 cp17)), (11, (Value.slice A20 m22 cp21)), (12, (Value.int .i64 ((k : Nat) : Int)))] hF73 (by kernel_rfl) (by kernel_rfl) ?_
      intro a74 hF75
      have h76 : Rd tEvent s56 w68 (Value.slice A0 la.length c0) la := ((h38.step st60).step st69)
      have hi83 : k < (la).length := (by have hq := h76.ln; first | omega | (simp only [List.length_append, List.length_cons, List.length_nil, List.length_map] at *; omega))
      obtain ⟨b77, o78, c79, he80, hs81, hr82⟩ := (h76).at k hi83
      obtain ⟨o84, ho84⟩ : ∃ o, o = o78 + k * 10 := ⟨_, rfl⟩
      obtain ⟨x85, hx86⟩ : ∃ x, x = (la[k]'hi83) := ⟨_, rfl⟩
      rw [← hx86] at hr82
      have hr82 : c79 = [(bv x85.kind), (Value.int .i64 (x85.packet.channel)), (uv x85.packet.seq), (uv x85.packet.timeout), (sv x85.packet.denom), (uv x85.packet.amount), (sv x85.packet.src), (sv x85.packet.dst), (Value.bool x85.ack.ok), (Value.int .i64 (x85.ack.code))] := hr82
      subst hr82
      have hs81 : Seg s56 w68 b77 o84 [(bv x85.kind), (Value.int .i64 (x85.packet.channel)), (uv x85.packet.seq), (uv x85.packet.timeout), (sv x85.packet.denom), (uv x85.packet.amount), (sv x85.packet.src), (sv x85.packet.dst), (Value.bool x85.ack.ok), (Value.int .i64 (x85.ack.code))] := by rw [ho84]; exact hs81
      refine r_at (r_val (d := 30) (op := (Op.indexAddr 41 (Operand.tmp 28) (Operand.tmp 29))) hF75 (by kernel_rfl) (by kernel_rfl) (Value.pointer (some ⟨b77, o84, none⟩)) w68 (by rw [ho84]; exact exec_index (len := la.length) (cap := c0) he80 (by kernel_rfl) (kd := .i64) k (by kernel_rfl) (by have := h76.ln; omega) 10 U41 L60.s) ?_)
      intro a87 hF88
      refine r_runk 1 [31, 13, 0, 1, 2, 3, 10, 11, 12] [(31, (Value.pointer (some ⟨b77, o84, none⟩))), (13, (Value.pointer (some ⟨b58, 0, none⟩))), (0, (bv 2)), (1, (Value.slice A0 la.length c0)), (2, (Value.slice A1 lb.length c1)), (3, (Value.int .i64 (c))), (10, (Value.slice A16 m18 cp17)), (11, (Value.slice A20 m22 cp21)), (12, (Value.int .i64 ((k : Nat) : Int)))] hF88 (by kernel_rfl) (by kernel_rfl) ?_
      intro a89 hF90
      refine r_at (r_val (d := 32) (op := (Op.load 47 (Operand.tmp 31))) hF90 (by kernel_rfl) (by kernel_rfl) (bv x85.kind) w68 (exec_load L47 (.inr rfl) (by kernel_rfl) (Seg.sub hs81 0 1 [(bv x85.kind)] (by kernel_rfl)).cell) ?_)
      intro a91 hF92
      refine r_one (d := 33) (v0 := (Value.bool (((x85.kind).toNat : Int) != ((1 : UInt8).toNat : Int)))) (v := (Value.bool (!decide ((x85.kind : UInt8) = 1)))) hF92 (by kernel_rfl) (by kernel_rfl) (congrArg Value.bool (cmp_u8_neq _ _)) ?_
      intro a93 hF94
      refine r_runk 1 [34, 13, 0, 1, 2, 3, 10, 11, 12] [(34, (Value.bool (!decide ((x85.kind : UInt8) = 1)))), (13, (Value.pointer (some ⟨b58, 0, none⟩))), (0, (bv 2)), (1, (Value.slice A0 la.length c0)), (2, (Value.slice A1 lb.length c1)), (3, (Value.int .i64 (c))), (10, (Value.slice A16 m18 cp17)), (11, (Value.slice A20 m22 cp21)), (12, (Value.int .i64 ((k : Nat) : Int)))] hF94 (by kernel_rfl) (by kernel_rfl) ?_
      intro a95 hF96
      rcases Bool.eq_false_or_eq_true (!decide ((x85.kind : UInt8) = 1)) with hg97 | hg97
      · skip
        have hF98 := hF96.set 34 (Value.bool (!decide ((x85.kind : UInt8) = 1))) (Value.bool true) (by kernel_rfl) (congrArg Value.bool hg97)
        refine r_runk 5 [39, 13, 0, 1, 2, 3, 10, 11, 12] [(39, (Value.bool true)), (13, (Value.pointer (some ⟨b58, 0, none⟩))), (0, (bv 2)), (1, (Value.slice A0 la.length c0)), (2, (Value.slice A1 lb.length c1)), (3, (Value.int .i64 (c))), (10, (Value.slice A16 m18 cp17)), (11, (Value.slice A20 m22 cp21)), (12, (Value.int .i64 ((k : Nat) : Int)))] hF98 (by kernel_rfl) (by kernel_rfl) ?_
        intro a99 hF100
        refine r_end (by kernel_rfl) ?_
        refine c_cond_true [1, 1, 1, 0, 1, 0, 0, 1, 0, 0, 1, 0, 1, 0] [1, 1, 1, 0, 1, 0, 0, 1, 0, 0, 1, 0, 1, 1] 39 (by kernel_rfl) hF100 (by kernel_rfl) ?_
        refine c_exit 1 (by kernel_rfl) ?_
        refine c_reg 5 (by kernel_rfl) ?_
        refine r_runk 1 [21, 0, 1, 2, 3, 10, 11] [(21, (Value.int .i64 ((k : Nat) : Int))), (0, (bv 2)), (1, (Value.slice A0 la.length c0)), (2, (Value.slice A1 lb.length c1)), (3, (Value.int .i64 (c))), (10, (Value.slice A16 m18 cp17)), (11, (Value.slice A20 m22 cp21))] hF100 (by kernel_rfl) (by kernel_rfl) ?_
        intro a101 hF102
        refine r_one (d := 22) (v0 := (Value.int .i64 (IntKind.i64.wrap (((k : Nat) : Int) + ((1 : Nat) : Int))))) (v := (Value.int .i64 ((k + 1 : Nat) : Int))) hF102 (by kernel_rfl) (by kernel_rfl) (congrArg (Value.int .i64) (i64_eq (by omega) (by omega) (by omega))) ?_
        intro a103 hF104
        refine r_runk 1 [12, 0, 1, 2, 3, 10, 11] [(12, (Value.int .i64 ((k + 1 : Nat) : Int))), (0, (bv 2)), (1, (Value.slice A0 la.length c0)), (2, (Value.slice A1 lb.length c1)), (3, (Value.int .i64 (c))), (10, (Value.slice A16 m18 cp17)), (11, (Value.slice A20 m22 cp21))] hF104 (by kernel_rfl) (by kernel_rfl) ?_
        intro a105 hF106
        refine r_end (by kernel_rfl) ?_
        have h107 : Own tPacket 56 w.heap.size s56 w68 (Value.slice A16 m18 cp17) ((sentL (la.take (k)) c).filter (takeC 2 la lb)) := ((hO26.step' st60).step st69 (fun g hg e => ne64 (by subst e; exact hg)))
        have h108 : Own tAck 53 w.heap.size s56 w68 (Value.slice A20 m22 cp21) (((sentL (la.take (k)) c).filter (takeC 2 la lb)).map (fun p => toldA (sameL lb p [2]))) := ((hO27.step' st60).step st69 (fun g hg e => ne65 (by subst e; exact hg)))
        have hF109 := hF106.keep [0, 1, 2, 3, 10, 11, 12] [(0, (bv 2)), (1, (Value.slice A0 la.length c0)), (2, (Value.slice A1 lb.length c1)), (3, (Value.int .i64 (c))), (10, (Value.slice A16 m18 cp17)), (11, (Value.slice A20 m22 cp21)), (12, (Value.int .i64 ((k + 1 : Nat) : Int)))] (by kernel_rfl)
        exact ⟨k + 1, ⟨s56, A16, cp17, m18, A20, cp21, m22, hF109, hS72, (h107.cast (by first | rfl | omega | (simp only [List.length_append, List.length_cons, List.length_nil, List.length_map] at *; omega)) (by subst hx48 hx86; exact (carry_skip1 (by omega) (by simpa using hg97)))), (h108.cast (by first | rfl | omega | (simp only [List.length_append, List.length_cons, List.length_nil, List.length_map] at *; omega)) (by subst hx48 hx86; exact (congrArg (List.map (fun p => toldA (sameL lb p [2]))) (carry_skip1 (by omega) (by simpa using hg97))))), (by omega), (fun g hg e => ne24 g hg e)⟩, by omega⟩
      · skip
        have hF110 := hF96.set 34 (Value.bool (!decide ((x85.kind : UInt8) = 1))) (Value.bool false) (by kernel_rfl) (congrArg Value.bool hg97)
        refine r_runk 1 [35, 34, 13, 0, 1, 2, 3, 10, 11, 12] [(35, (Value.pointer (some ⟨b58, 0, none⟩))), (34, (Value.bool false)), (13, (Value.pointer (some ⟨b58, 0, none⟩))), (0, (bv 2)), (1, (Value.slice A0 la.length c0)), (2, (Value.slice A1 lb.length c1)), (3, (Value.int .i64 (c))), (10, (Value.slice A16 m18 cp17)), (11, (Value.slice A20 m22 cp21)), (12, (Value.int .i64 ((k : Nat) : Int)))] hF110 (by kernel_rfl) (by kernel_rfl) ?_
        intro a111 hF112
        refine r_at (r_val (d := 36) (op := (Op.load 3 (Operand.tmp 35))) hF112 (by kernel_rfl) (by kernel_rfl) (Value.int .i64 (x47.packet.channel)) w68 (exec_load L3 (.inr rfl) (by kernel_rfl) (Bx.cells hB70 0 1 [(Value.int .i64 (x47.packet.channel))] (by kernel_rfl))) ?_)
        intro a113 hF114
        refine r_runk 1 [37, 36, 34, 13, 0, 1, 2, 3, 10, 11, 12] [(37, (Value.int .i64 (c))), (36, (Value.int .i64 (x47.packet.channel))), (34, (Value.bool false)), (13, (Value.pointer (some ⟨b58, 0, none⟩))), (0, (bv 2)), (1, (Value.slice A0 la.length c0)), (2, (Value.slice A1 lb.length c1)), (3, (Value.int .i64 (c))), (10, (Value.slice A16 m18 cp17)), (11, (Value.slice A20 m22 cp21)), (12, (Value.int .i64 ((k : Nat) : Int)))] hF114 (by kernel_rfl) (by kernel_rfl) ?_
        intro a115 hF116
        refine r_one (d := 38) (v0 := (Value.bool ((x47.packet.channel : Int) != (c : Int)))) (v := (Value.bool (!decide ((x47.packet.channel : Int) = c)))) hF116 (by kernel_rfl) (by kernel_rfl) (congrArg Value.bool (cmp_int_neq _ _)) ?_
        intro a117 hF118
        refine r_runk 1 [39, 13, 0, 1, 2, 3, 10, 11, 12] [(39, (Value.bool (!decide ((x47.packet.channel : Int) = c)))), (13, (Value.pointer (some ⟨b58, 0, none⟩))), (0, (bv 2)), (1, (Value.slice A0 la.length c0)), (2, (Value.slice A1 lb.length c1)), (3, (Value.int .i64 (c))), (10, (Value.slice A16 m18 cp17)), (11, (Value.slice A20 m22 cp21)), (12, (Value.int .i64 ((k : Nat) : Int)))] hF118 (by kernel_rfl) (by kernel_rfl) ?_
        intro a119 hF120
        refine r_end (by kernel_rfl) ?_
        refine c_cond [1, 1, 1, 0, 1, 0, 0, 1, 0, 0, 1, 0, 1, 0] [1, 1, 1, 0, 1, 0, 0, 1, 0, 0, 1, 0, 1, 1] 39 (by kernel_rfl) hF120 (!decide ((x47.packet.channel : Int) = c)) (by kernel_rfl) (fun hc121 => ?_) (fun hc121 => ?_)
        · skip
          have hc121 : ¬ ((x47.packet.channel : Int) = c) := by simpa using hc121
          refine c_exit 1 (by kernel_rfl) ?_
          refine c_reg 5 (by kernel_rfl) ?_
          refine r_runk 1 [21, 0, 1, 2, 3, 10, 11] [(21, (Value.int .i64 ((k : Nat) : Int))), (0, (bv 2)), (1, (Value.slice A0 la.length c0)), (2, (Value.slice A1 lb.length c1)), (3, (Value.int .i64 (c))), (10, (Value.slice A16 m18 cp17)), (11, (Value.slice A20 m22 cp21))] hF120 (by kernel_rfl) (by kernel_rfl) ?_
          intro a122 hF123
          refine r_one (d := 22) (v0 := (Value.int .i64 (IntKind.i64.wrap (((k : Nat) : Int) + ((1 : Nat) : Int))))) (v := (Value.int .i64 ((k + 1 : Nat) : Int))) hF123 (by kernel_rfl) (by kernel_rfl) (congrArg (Value.int .i64) (i64_eq (by omega) (by omega) (by omega))) ?_
          intro a124 hF125
          refine r_runk 1 [12, 0, 1, 2, 3, 10, 11] [(12, (Value.int .i64 ((k + 1 : Nat) : Int))), (0, (bv 2)), (1, (Value.slice A0 la.length c0)), (2, (Value.slice A1 lb.length c1)), (3, (Value.int .i64 (c))), (10, (Value.slice A16 m18 cp17)), (11, (Value.slice A20 m22 cp21))] hF125 (by kernel_rfl) (by kernel_rfl) ?_
          intro a126 hF127
          refine r_end (by kernel_rfl) ?_
          have h128 : Own tPacket 56 w.heap.size s56 w68 (Value.slice A16 m18 cp17) ((sentL (la.take (k)) c).filter (takeC 2 la lb)) := ((hO26.step' st60).step st69 (fun g hg e => ne64 (by subst e; exact hg)))
          have h129 : Own tAck 53 w.heap.size s56 w68 (Value.slice A20 m22 cp21) (((sentL (la.take (k)) c).filter (takeC 2 la lb)).map (fun p => toldA (sameL lb p [2]))) := ((hO27.step' st60).step st69 (fun g hg e => ne65 (by subst e; exact hg)))
          have hF130 := hF127.keep [0, 1, 2, 3, 10, 11, 12] [(0, (bv 2)), (1, (Value.slice A0 la.length c0)), (2, (Value.slice A1 lb.length c1)), (3, (Value.int .i64 (c))), (10, (Value.slice A16 m18 cp17)), (11, (Value.slice A20 m22 cp21)), (12, (Value.int .i64 ((k + 1 : Nat) : Int)))] (by kernel_rfl)
          exact ⟨k + 1, ⟨s56, A16, cp17, m18, A20, cp21, m22, hF130, hS72, (h128.cast (by first | rfl | omega | (simp only [List.length_append, List.length_cons, List.length_nil, List.length_map] at *; omega)) (by subst hx48 hx86; exact (carry_skip2 (by omega) (by simpa using hc121)))), (h129.cast (by first | rfl | omega | (simp only [List.length_append, List.length_cons, List.length_nil, List.length_map] at *; omega)) (by subst hx48 hx86; exact (congrArg (List.map (fun p => toldA (sameL lb p [2]))) (carry_skip2 (by omega) (by simpa using hc121))))), (by omega), (fun g hg e => ne24 g hg e)⟩, by omega⟩
        · skip
          have hc121 : ((x47.packet.channel : Int) = c) := by simpa using hc121
          refine c_skip (by kernel_rfl) ?_
          refine c_seq [1, 1, 1, 0, 1, 0, 0, 1, 0, 0, 1, 1, 0] [1, 1, 1, 0, 1, 0, 0, 1, 0, 0, 1, 1, 1] (by kernel_rfl) ?_
          refine c_reg 8 (by kernel_rfl) ?_
          refine r_runk 1 [41, 13, 0, 1, 2, 3, 10, 11, 12] [(41, (Value.slice A1 lb.length c1)), (13, (Value.pointer (some ⟨b58, 0, none⟩))), (0, (bv 2)), (1, (Value.slice A0 la.length c0)), (2, (Value.slice A1 lb.length c1)), (3, (Value.int .i64 (c))), (10, (Value.slice A16 m18 cp17)), (11, (Value.slice A20 m22 cp21)), (12, (Value.int .i64 ((k : Nat) : Int)))] hF120 (by kernel_rfl) (by kernel_rfl) ?_
          intro a131 hF132
          refine r_at (r_val (d := 42) (op := (Op.load 56 (Operand.tmp 13))) hF132 (by kernel_rfl) (by kernel_rfl) (Value.agg #[(Value.int .i64 (x47.packet.channel)), (uv x47.packet.seq), (uv x47.packet.timeout), (sv x47.packet.denom), (uv x47.packet.amount), (sv x47.packet.src), (sv x47.packet.dst)]) w68 (exec_load L56 (.inl rfl) (by kernel_rfl) (Bx.cells hB70 0 7 [(Value.int .i64 (x47.packet.channel)), (uv x47.packet.seq), (uv x47.packet.timeout), (sv x47.packet.denom), (uv x47.packet.amount), (sv x47.packet.src), (sv x47.packet.dst)] (by kernel_rfl))) ?_)
          intro a133 hF134
          have h135 : Rd tEvent s56 w68 (Value.slice A1 lb.length c1) lb := h1.step hS72
          have h136 : Own tPacket 56 w.heap.size s56 w68 (Value.slice A16 m18 cp17) ((sentL (la.take (k)) c).filter (takeC 2 la lb)) := ((hO26.step' st60).step st69 (fun g hg e => ne64 (by subst e; exact hg)))
          have h137 : Own tAck 53 w.heap.size s56 w68 (Value.slice A20 m22 cp21) (((sentL (la.take (k)) c).filter (takeC 2 la lb)).map (fun p => toldA (sameL lb p [2]))) := ((hO27.step' st60).step st69 (fun g hg e => ne65 (by subst e; exact hg)))
          refine r_at (r_call (d := (some 43)) (f := 35) (args := #[(Operand.tmp 41), (Operand.const (Value.int IntKind.u8 2)), (Operand.tmp 42)]) (tys := #[41, 47, 56]) hF134 (by kernel_rfl) (by kernel_rfl) C35 [(Value.slice A1 lb.length c1), (bv 2), (Value.agg #[(Value.int .i64 (x47.packet.channel)), (uv x47.packet.seq), (uv x47.packet.timeout), (sv x47.packet.denom), (uv x47.packet.amount), (sv x47.packet.src), (sv x47.packet.dst)])] (by kernel_rfl) (told_calls s56 w68 h135 2 x47.packet) ?_)
          intro a138 s139 w140 v141 st142 hP143 hF144
          have hz145 := hS72.size
          have hS146 := hS72.then st142
          subst hP143
          refine r_runk 3 [45, 44, 13, 0, 1, 2, 3, 10, 11, 12] [(45, (Value.bool ((sameL lb x47.packet [2]).isSome))), (44, (Value.agg #[(Value.bool ((toldA (sameL lb x47.packet [2])).ok)), (Value.int .i64 ((toldA (sameL lb x47.packet [2])).code))])), (13, (Value.pointer (some ⟨b58, 0, none⟩))), (0, (bv 2)), (1, (Value.slice A0 la.length c0)), (2, (Value.slice A1 lb.length c1)), (3, (Value.int .i64 (c))), (10, (Value.slice A16 m18 cp17)), (11, (Value.slice A20 m22 cp21)), (12, (Value.int .i64 ((k : Nat) : Int)))] hF144 (by kernel_rfl) (by kernel_rfl) ?_
          intro a147 hF148
          have h149 : Own tPacket 56 w.heap.size s139 w140 (Value.slice A16 m18 cp17) ((sentL (la.take (k)) c).filter (takeC 2 la lb)) := (h136.step' st142)
          have h150 : Own tAck 53 w.heap.size s139 w140 (Value.slice A20 m22 cp21) (((sentL (la.take (k)) c).filter (takeC 2 la lb)).map (fun p => toldA (sameL lb p [2]))) := (h137.step' st142)
          have h151 : Bx s139 w140 b58 [(Value.int .i64 (x47.packet.channel)), (uv x47.packet.seq), (uv x47.packet.timeout), (sv x47.packet.denom), (uv x47.packet.amount), (sv x47.packet.src), (sv x47.packet.dst)] 56 := (hB70.step' st142)
          refine r_at (r_new (d := 14) (op := (Op.alloc 53)) hF148 (by kernel_rfl) (by kernel_rfl) s139 [(Value.bool false), (Value.int .i64 ((0 : Nat) : Int))] 53 (exec_alloc [(Value.bool false), (Value.int .i64 ((0 : Nat) : Int))] (fun _ => .inl (by kernel_rfl))) ?_)
          intro a152 s153 w154 b155 hb156 st157 hB158 hF159
          have hz160 := hS146.size
          have ne161 : ¬ Value.ownBlock (Value.slice A16 m18 cp17) = some b155 := fun e => by have := h149.lt e; omega
          have ne162 : ¬ Value.ownBlock (Value.slice A20 m22 cp21) = some b155 := fun e => by have := h150.lt e; omega
          have ne163 : b58 < b155 := by have := h151.lt; omega
          have hS164 := hS146.then st157
          refine r_at (r_store (t := 53) (x := (Operand.tmp 14)) (y := (Operand.tmp 44)) hF159 (by kernel_rfl) (by kernel_rfl) hB158 0 [(Value.bool ((toldA (sameL lb x47.packet [2])).ok)), (Value.int .i64 ((toldA (sameL lb x47.packet [2])).code))] [(Value.bool ((toldA (sameL lb x47.packet [2])).ok)), (Value.int .i64 ((toldA (sameL lb x47.packet [2])).code))] (by kernel_rfl) (by kernel_rfl) 2 true L53 rfl (by kernel_rfl) (Nat.le_of_ble_eq_true (by kernel_rfl)) (by kernel_rfl) ?_)
          intro a165 w166 st167 hB168 hF169
          have hS170 := hS164.and st167 (fun b e => by subst e; omega)
          refine r_runk 1 [15, 14, 13, 0, 1, 2, 3, 10, 11, 12] [(15, (Value.bool ((sameL lb x47.packet [2]).isSome))), (14, (Value.pointer (some ⟨b155, 0, none⟩))), (13, (Value.pointer (some ⟨b58, 0, none⟩))), (0, (bv 2)), (1, (Value.slice A0 la.length c0)), (2, (Value.slice A1 lb.length c1)), (3, (Value.int .i64 (c))), (10, (Value.slice A16 m18 cp17)), (11, (Value.slice A20 m22 cp21)), (12, (Value.int .i64 ((k : Nat) : Int)))] hF169 (by kernel_rfl) (by kernel_rfl) ?_
          intro a171 hF172
          refine r_end (by kernel_rfl) ?_
          refine c_seq [1, 1, 1, 0, 1, 0, 0, 1, 0, 0, 1, 1, 1, 0] [1, 1, 1, 0, 1, 0, 0, 1, 0, 0, 1, 1, 1, 1] (by kernel_rfl) ?_
          refine c_reg 9 (by kernel_rfl) ?_
          refine r_runk 7 [52, 15, 14, 13, 0, 1, 2, 3, 10, 11, 12] [(52, (Value.bool (!((sameL lb x47.packet [2]).isSome)))), (15, (Value.bool ((sameL lb x47.packet [2]).isSome))), (14, (Value.pointer (some ⟨b155, 0, none⟩))), (13, (Value.pointer (some ⟨b58, 0, none⟩))), (0, (bv 2)), (1, (Value.slice A0 la.length c0)), (2, (Value.slice A1 lb.length c1)), (3, (Value.int .i64 (c))), (10, (Value.slice A16 m18 cp17)), (11, (Value.slice A20 m22 cp21)), (12, (Value.int .i64 ((k : Nat) : Int)))] hF172 (by kernel_rfl) (by kernel_rfl) ?_
          intro a173 hF174
          rcases Bool.eq_false_or_eq_true (!((sameL lb x47.packet [2]).isSome)) with hg175 | hg175
          · skip
            have hF176 := hF174.set 52 (Value.bool (!((sameL lb x47.packet [2]).isSome))) (Value.bool true) (by kernel_rfl) (congrArg Value.bool hg175)
            refine r_runk 28 [16, 14, 13, 0, 1, 2, 3, 10, 11, 12] [(16, (Value.bool true)), (14, (Value.pointer (some ⟨b155, 0, none⟩))), (13, (Value.pointer (some ⟨b58, 0, none⟩))), (0, (bv 2)), (1, (Value.slice A0 la.length c0)), (2, (Value.slice A1 lb.length c1)), (3, (Value.int .i64 (c))), (10, (Value.slice A16 m18 cp17)), (11, (Value.slice A20 m22 cp21)), (12, (Value.int .i64 ((k : Nat) : Int)))] hF176 (by kernel_rfl) (by kernel_rfl) ?_
            intro a177 hF178
            refine r_end (by kernel_rfl) ?_
            refine c_seq [1, 1, 1, 0, 1, 0, 0, 1, 0, 0, 1, 1, 1, 1, 0] [1, 1, 1, 0, 1, 0, 0, 1, 0, 0, 1, 1, 1, 1, 1] (by kernel_rfl) ?_
            refine c_reg 10 (by kernel_rfl) ?_
            refine r_runk 1 [80, 14, 13, 0, 1, 2, 3, 10, 11, 12] [(80, (Value.bool true)), (14, (Value.pointer (some ⟨b155, 0, none⟩))), (13, (Value.pointer (some ⟨b58, 0, none⟩))), (0, (bv 2)), (1, (Value.slice A0 la.length c0)), (2, (Value.slice A1 lb.length c1)), (3, (Value.int .i64 (c))), (10, (Value.slice A16 m18 cp17)), (11, (Value.slice A20 m22 cp21)), (12, (Value.int .i64 ((k : Nat) : Int)))] hF178 (by kernel_rfl) (by kernel_rfl) ?_
            intro a179 hF180
            refine r_end (by kernel_rfl) ?_
            refine c_cond_true [1, 1, 1, 0, 1, 0, 0, 1, 0, 0, 1, 1, 1, 1, 1, 0] [1, 1, 1, 0, 1, 0, 0, 1, 0, 0, 1, 1, 1, 1, 1, 1] 80 (by kernel_rfl) hF180 (by kernel_rfl) ?_
            refine c_seq [1, 1, 1, 0, 1, 0, 0, 1, 0, 0, 1, 1, 1, 1, 1, 0, 0] [1, 1, 1, 0, 1, 0, 0, 1, 0, 0, 1, 1, 1, 1, 1, 0, 1] (by kernel_rfl) ?_
            refine c_reg 11 (by kernel_rfl) ?_
            refine r_runk 1 [81, 14, 13, 0, 1, 2, 3, 11, 12] [(81, (Value.slice A16 m18 cp17)), (14, (Value.pointer (some ⟨b155, 0, none⟩))), (13, (Value.pointer (some ⟨b58, 0, none⟩))), (0, (bv 2)), (1, (Value.slice A0 la.length c0)), (2, (Value.slice A1 lb.length c1)), (3, (Value.int .i64 (c))), (11, (Value.slice A20 m22 cp21)), (12, (Value.int .i64 ((k : Nat) : Int)))] hF180 (by kernel_rfl) (by kernel_rfl) ?_
            intro a181 hF182
            have h183 : Bx s153 w166 b58 [(Value.int .i64 (x47.packet.channel)), (uv x47.packet.seq), (uv x47.packet.timeout), (sv x47.packet.denom), (uv x47.packet.amount), (sv x47.packet.src), (sv x47.packet.dst)] 56 := ((h151.step' st157).step st167 (fun e => absurd e (by omega)))
            refine r_at (r_val (d := 82) (op := (Op.load 56 (Operand.tmp 13))) hF182 (by kernel_rfl) (by kernel_rfl) (Value.agg #[(Value.int .i64 (x47.packet.channel)), (uv x47.packet.seq), (uv x47.packet.timeout), (sv x47.packet.denom), (uv x47.packet.amount), (sv x47.packet.src), (sv x47.packet.dst)]) w166 (exec_load L56 (.inl rfl) (by kernel_rfl) (Bx.cells h183 0 7 [(Value.int .i64 (x47.packet.channel)), (uv x47.packet.seq), (uv x47.packet.timeout), (sv x47.packet.denom), (uv x47.packet.amount), (sv x47.packet.src), (sv x47.packet.dst)] (by kernel_rfl))) ?_)
            intro a184 hF185
            have h186 : Own tPacket 56 w.heap.size s153 w166 (Value.slice A16 m18 cp17) ((sentL (la.take (k)) c).filter (takeC 2 la lb)) := ((h149.step' st157).step st167 (fun g hg e => ne161 (by subst e; exact hg)))
            have h187 : Own tAck 53 w.heap.size s153 w166 (Value.slice A20 m22 cp21) (((sentL (la.take (k)) c).filter (takeC 2 la lb)).map (fun p => toldA (sameL lb p [2]))) := ((h150.step' st157).step st167 (fun g hg e => ne162 (by subst e; exact hg)))
            refine r_at (r_lit tPacket (d := 83) (t := 43) (m := 1) (parts := #[(0, (Operand.tmp 82))]) hF185 (by kernel_rfl) (by kernel_rfl) s153 [x47.packet] [(Value.int .i64 (x47.packet.channel)), (uv x47.packet.seq), (uv x47.packet.timeout), (sv x47.packet.denom), (uv x47.packet.amount), (sv x47.packet.src), (sv x47.packet.dst)] ⟨_, _, rfl, rfl, rfl⟩ rfl (by decide) (e := 56) (fun o e => by simp only [execOp, e]; kernel_rfl) (by decide) ?_)
            intro a188 s189 w190 g191 hg192 st193 hO194 hF195
            have hz196 := hS170.size
            have hS197 := hS170.then st193
            have hO198 : Own tPacket 56 w.heap.size s189 w190 (Value.slice (some ⟨g191, 0, none⟩) 1 1) [x47.packet] := (hO194.le (by omega : w.heap.size ≤ _))
            have ne200 : ∀ g, Value.ownBlock (Value.slice A16 m18 cp17) = some g → ¬ Value.ownBlock (Value.slice (some ⟨g191, 0, none⟩) 1 1) = some g := fun g hg e => by have h1 := hO194.ge e; have h2 := h186.lt hg; omega
            have ne201 : ∀ g, Value.ownBlock (Value.slice A20 m22 cp21) = some g → ¬ Value.ownBlock (Value.slice (some ⟨g191, 0, none⟩) 1 1) = some g := fun g hg e => by have h1 := hO194.ge e; have h2 := h187.lt hg; omega
            have ne202 : ¬ Value.ownBlock (Value.slice (some ⟨g191, 0, none⟩) 1 1) = some b58 := fun e => by have h1 := hO194.ge e; have h2 := h183.lt; omega
            have ne203 : ¬ Value.ownBlock (Value.slice (some ⟨g191, 0, none⟩) 1 1) = some b155 := fun e => by have h1 := hO194.ge e; have h2 := hB168.lt; omega
            have h204 : Own tPacket 56 w.heap.size s189 w190 (Value.slice A16 m18 cp17) ((sentL (la.take (k)) c).filter (takeC 2 la lb)) := (h186.step' st193)
            have h205 : Bx s189 w190 b58 [(Value.int .i64 (x47.packet.channel)), (uv x47.packet.seq), (uv x47.packet.timeout), (sv x47.packet.denom), (uv x47.packet.amount), (sv x47.packet.src), (sv x47.packet.dst)] 56 := (h183.step' st193)
            have h206 : Bx s189 w190 b155 [(Value.bool ((toldA (sameL lb x47.packet [2])).ok)), (Value.int .i64 ((toldA (sameL lb x47.packet [2])).code))] 53 := (hB168.step' st193)
            have h207 : Own tAck 53 w.heap.size s189 w190 (Value.slice A20 m22 cp21) (((sentL (la.take (k)) c).filter (takeC 2 la lb)).map (fun p => toldA (sameL lb p [2]))) := (h187.step' st193)
            have hz217 := hS197.size
            have hb216 : ((sentL (la.take (k)) c).filter (takeC 2 la lb)).length + ([x47.packet] : List _).length ≤ 1000000 := (by have h9 := carry_len (f := (takeC 2 la lb)) la c k; simp only [List.length_map, List.length_cons, List.length_nil] at *; omega)
            refine r_at (r_append tPacket S43 (d := 84) (x := (Operand.tmp 81)) (y := (Operand.tmp 83)) hF195 (by kernel_rfl) (by kernel_rfl) (by kernel_rfl) (by kernel_rfl) h204 hO198.rd (app_small hb216 (by decide)) (by omega) hz217 ?_)
            intro a208 s209 w210 v211 st212 hO213 hn214 hF215
            obtain ⟨A220, m223, c221, rfl, hl222⟩ := hO213.formL
            have hS224 := hS197.and st212 (fun b e => h204.ge e)
            have ne226 : ¬ Value.ownBlock (Value.slice A220 m223 c221) = some b58 := fun e => ne64 (hn214 _ h205.lt e)
            have ne227 : ¬ Value.ownBlock (Value.slice A220 m223 c221) = some b155 := fun e => ne161 (hn214 _ h206.lt e)
            have ne228 : ∀ g, Value.ownBlock (Value.slice A20 m22 cp21) = some g → ¬ Value.ownBlock (Value.slice A220 m223 c221) = some g := fun g hg e => ne24 g (hn214 _ (h207.lt hg) e) hg
            refine r_runk 1 [10, 14, 0, 1, 2, 3, 11, 12] [(10, (Value.slice A220 m223 c221)), (14, (Value.pointer (some ⟨b155, 0, none⟩))), (0, (bv 2)), (1, (Value.slice A0 la.length c0)), (2, (Value.slice A1 lb.length c1)), (3, (Value.int .i64 (c))), (11, (Value.slice A20 m22 cp21)), (12, (Value.int .i64 ((k : Nat) : Int)))] hF215 (by kernel_rfl) (by kernel_rfl) ?_
            intro a229 hF230
            refine r_end (by kernel_rfl) ?_
            refine c_reg 12 (by kernel_rfl) ?_
            refine r_runk 1 [85, 10, 14, 0, 1, 2, 3, 12] [(85, (Value.slice A20 m22 cp21)), (10, (Value.slice A220 m223 c221)), (14, (Value.pointer (some ⟨b155, 0, none⟩))), (0, (bv 2)), (1, (Value.slice A0 la.length c0)), (2, (Value.slice A1 lb.length c1)), (3, (Value.int .i64 (c))), (12, (Value.int .i64 ((k : Nat) : Int)))] hF230 (by kernel_rfl) (by kernel_rfl) ?_
            intro a231 hF232
            have h233 : Bx s209 w210 b155 [(Value.bool ((toldA (sameL lb x47.packet [2])).ok)), (Value.int .i64 ((toldA (sameL lb x47.packet [2])).code))] 53 := (h206.step st212 (fun e => ne161 e))
            refine r_at (r_val (d := 86) (op := (Op.load 53 (Operand.tmp 14))) hF232 (by kernel_rfl) (by kernel_rfl) (Value.agg #[(Value.bool ((toldA (sameL lb x47.packet [2])).ok)), (Value.int .i64 ((toldA (sameL lb x47.packet [2])).code))]) w210 (exec_load L53 (.inl rfl) (by kernel_rfl) (Bx.cells h233 0 2 [(Value.bool ((toldA (sameL lb x47.packet [2])).ok)), (Value.int .i64 ((toldA (sameL lb x47.packet [2])).code))] (by kernel_rfl))) ?_)
            intro a234 hF235
            have h236 : Own tAck 53 w.heap.size s209 w210 (Value.slice A20 m22 cp21) (((sentL (la.take (k)) c).filter (takeC 2 la lb)).map (fun p => toldA (sameL lb p [2]))) := (h207.step st212 (fun g hg e => ne24 g e hg))
            have h237 : Bx s209 w210 b58 [(Value.int .i64 (x47.packet.channel)), (uv x47.packet.seq), (uv x47.packet.timeout), (sv x47.packet.denom), (uv x47.packet.amount), (sv x47.packet.src), (sv x47.packet.dst)] 56 := (h205.step st212 (fun e => ne64 e))
            refine r_at (r_lit tAck (d := 87) (t := 44) (m := 1) (parts := #[(0, (Operand.tmp 86))]) hF235 (by kernel_rfl) (by kernel_rfl) s209 [(toldA (sameL lb x47.packet [2]))] [(Value.bool ((toldA (sameL lb x47.packet [2])).ok)), (Value.int .i64 ((toldA (sameL lb x47.packet [2])).code))] ⟨_, _, rfl, rfl, rfl⟩ rfl (by decide) (e := 53) (fun o e => by simp only [execOp, e]; kernel_rfl) (by decide) ?_)
            intro a238 s239 w240 g241 hg242 st243 hO244 hF245
            have hz246 := hS224.size
            have hS247 := hS224.then st243
            have hO248 : Own tAck 53 w.heap.size s239 w240 (Value.slice (some ⟨g241, 0, none⟩) 1 1) [(toldA (sameL lb x47.packet [2]))] := (hO244.le (by omega : w.heap.size ≤ _))
            have ne250 : ∀ g, Value.ownBlock (Value.slice A20 m22 cp21) = some g → ¬ Value.ownBlock (Value.slice (some ⟨g241, 0, none⟩) 1 1) = some g := fun g hg e => by have h1 := hO244.ge e; have h2 := h236.lt hg; omega
            have ne251 : ¬ Value.ownBlock (Value.slice (some ⟨g241, 0, none⟩) 1 1) = some b58 := fun e => by have h1 := hO244.ge e; have h2 := h237.lt; omega
            have ne252 : ¬ Value.ownBlock (Value.slice (some ⟨g241, 0, none⟩) 1 1) = some b155 := fun e => by have h1 := hO244.ge e; have h2 := h233.lt; omega
            have ne253 : ∀ g, Value.ownBlock (Value.slice A220 m223 c221) = some g → ¬ Value.ownBlock (Value.slice (some ⟨g241, 0, none⟩) 1 1) = some g := fun g hg e => by have h1 := hO244.ge e; have h2 := hO213.lt hg; omega
            have h254 : Own tAck 53 w.heap.size s239 w240 (Value.slice A20 m22 cp21) (((sentL (la.take (k)) c).filter (takeC 2 la lb)).map (fun p => toldA (sameL lb p [2]))) := (h236.step' st243)
            have h255 : Bx s239 w240 b58 [(Value.int .i64 (x47.packet.channel)), (uv x47.packet.seq), (uv x47.packet.timeout), (sv x47.packet.denom), (uv x47.packet.amount), (sv x47.packet.src), (sv x47.packet.dst)] 56 := (h237.step' st243)
            have h256 : Bx s239 w240 b155 [(Value.bool ((toldA (sameL lb x47.packet [2])).ok)), (Value.int .i64 ((toldA (sameL lb x47.packet [2])).code))] 53 := (h233.step' st243)
            have h257 : Own tPacket 56 w.heap.size s239 w240 (Value.slice A220 m223 c221) (((sentL (la.take (k)) c).filter (takeC 2 la lb)) ++ [x47.packet]) := (hO213.step' st243)
            have hz267 := hS247.size
            have hb266 : (((sentL (la.take (k)) c).filter (takeC 2 la lb)).map (fun p => toldA (sameL lb p [2]))).length + ([(toldA (sameL lb x47.packet [2]))] : List _).length ≤ 1000000 := (by have h9 := carry_len (f := (takeC 2 la lb)) la c k; simp only [List.length_map, List.length_cons, List.length_nil] at *; omega)
            refine r_at (r_append tAck S44 (d := 88) (x := (Operand.tmp 85)) (y := (Operand.tmp 87)) hF245 (by kernel_rfl) (by kernel_rfl) (by kernel_rfl) (by kernel_rfl) h254 hO248.rd (app_small hb266 (by decide)) (by omega) hz267 ?_)
            intro a258 s259 w260 v261 st262 hO263 hn264 hF265
            obtain ⟨A270, m273, c271, rfl, hl272⟩ := hO263.formL
            have hS274 := hS247.and st262 (fun b e => h254.ge e)
            have ne276 : ¬ Value.ownBlock (Value.slice A270 m273 c271) = some b58 := fun e => ne65 (hn264 _ h255.lt e)
            have ne277 : ¬ Value.ownBlock (Value.slice A270 m273 c271) = some b155 := fun e => ne162 (hn264 _ h256.lt e)
            have ne278 : ∀ g, Value.ownBlock (Value.slice A220 m223 c221) = some g → ¬ Value.ownBlock (Value.slice A270 m273 c271) = some g := fun g hg e => ne228 g (hn264 _ (h257.lt hg) e) hg
            refine r_runk 1 [11, 10, 0, 1, 2, 3, 12] [(11, (Value.slice A270 m273 c271)), (10, (Value.slice A220 m223 c221)), (0, (bv 2)), (1, (Value.slice A0 la.length c0)), (2, (Value.slice A1 lb.length c1)), (3, (Value.int .i64 (c))), (12, (Value.int .i64 ((k : Nat) : Int)))] hF265 (by kernel_rfl) (by kernel_rfl) ?_
            intro a279 hF280
            refine r_end (by kernel_rfl) ?_
            refine c_reg 5 (by kernel_rfl) ?_
            refine r_runk 1 [21, 11, 10, 0, 1, 2, 3] [(21, (Value.int .i64 ((k : Nat) : Int))), (11, (Value.slice A270 m273 c271)), (10, (Value.slice A220 m223 c221)), (0, (bv 2)), (1, (Value.slice A0 la.length c0)), (2, (Value.slice A1 lb.length c1)), (3, (Value.int .i64 (c)))] hF280 (by kernel_rfl) (by kernel_rfl) ?_
            intro a281 hF282
            refine r_one (d := 22) (v0 := (Value.int .i64 (IntKind.i64.wrap (((k : Nat) : Int) + ((1 : Nat) : Int))))) (v := (Value.int .i64 ((k + 1 : Nat) : Int))) hF282 (by kernel_rfl) (by kernel_rfl) (congrArg (Value.int .i64) (i64_eq (by omega) (by omega) (by omega))) ?_
            intro a283 hF284
            refine r_runk 1 [12, 11, 10, 0, 1, 2, 3] [(12, (Value.int .i64 ((k + 1 : Nat) : Int))), (11, (Value.slice A270 m273 c271)), (10, (Value.slice A220 m223 c221)), (0, (bv 2)), (1, (Value.slice A0 la.length c0)), (2, (Value.slice A1 lb.length c1)), (3, (Value.int .i64 (c)))] hF284 (by kernel_rfl) (by kernel_rfl) ?_
            intro a285 hF286
            refine r_end (by kernel_rfl) ?_
            have h287 : Own tPacket 56 w.heap.size s259 w260 (Value.slice A220 m223 c221) (((sentL (la.take (k)) c).filter (takeC 2 la lb)) ++ [x47.packet]) := (h257.step st262 (fun g hg e => ne228 g e hg))
            have hF288 := hF286.keep [0, 1, 2, 3, 10, 11, 12] [(0, (bv 2)), (1, (Value.slice A0 la.length c0)), (2, (Value.slice A1 lb.length c1)), (3, (Value.int .i64 (c))), (10, (Value.slice A220 m223 c221)), (11, (Value.slice A270 m273 c271)), (12, (Value.int .i64 ((k + 1 : Nat) : Int)))] (by kernel_rfl)
            exact ⟨k + 1, ⟨s259, A220, c221, m223, A270, c271, m273, hF288, hS274, (h287.cast (by first | rfl | omega | (simp only [List.length_append, List.length_cons, List.length_nil, List.length_map] at *; omega)) (by subst hx48 hx86; exact (carry_yes (by omega) (by simpa using hg97) (by simpa using hc121) (by unfold takeC; simp_all)))), (hO263.cast (by first | rfl | omega | (simp only [List.length_append, List.length_cons, List.length_nil, List.length_map] at *; omega)) (by subst hx48 hx86; exact (carryA_yes (f := (takeC 2 la lb)) (g := (fun p => toldA (sameL lb p [2]))) (by omega) (by simpa using hg97) (by simpa using hc121) (by unfold takeC; simp_all)))), (by omega), (fun g hg e => ne278 g hg e)⟩, by omega⟩
          · skip
            have hF289 := hF174.set 52 (Value.bool (!((sameL lb x47.packet [2]).isSome))) (Value.bool false) (by kernel_rfl) (congrArg Value.bool hg175)
            refine r_runk 28 [16, 14, 13, 0, 1, 2, 3, 10, 11, 12] [(16, (Value.bool false)), (14, (Value.pointer (some ⟨b155, 0, none⟩))), (13, (Value.pointer (some ⟨b58, 0, none⟩))), (0, (bv 2)), (1, (Value.slice A0 la.length c0)), (2, (Value.slice A1 lb.length c1)), (3, (Value.int .i64 (c))), (10, (Value.slice A16 m18 cp17)), (11, (Value.slice A20 m22 cp21)), (12, (Value.int .i64 ((k : Nat) : Int)))] hF289 (by kernel_rfl) (by kernel_rfl) ?_
            intro a290 hF291
            refine r_end (by kernel_rfl) ?_
            refine c_seq [1, 1, 1, 0, 1, 0, 0, 1, 0, 0, 1, 1, 1, 1, 0] [1, 1, 1, 0, 1, 0, 0, 1, 0, 0, 1, 1, 1, 1, 1] (by kernel_rfl) ?_
            refine c_reg 10 (by kernel_rfl) ?_
            refine r_runk 1 [80, 14, 13, 0, 1, 2, 3, 10, 11, 12] [(80, (Value.bool false)), (14, (Value.pointer (some ⟨b155, 0, none⟩))), (13, (Value.pointer (some ⟨b58, 0, none⟩))), (0, (bv 2)), (1, (Value.slice A0 la.length c0)), (2, (Value.slice A1 lb.length c1)), (3, (Value.int .i64 (c))), (10, (Value.slice A16 m18 cp17)), (11, (Value.slice A20 m22 cp21)), (12, (Value.int .i64 ((k : Nat) : Int)))] hF291 (by kernel_rfl) (by kernel_rfl) ?_
            intro a292 hF293
            refine r_end (by kernel_rfl) ?_
            refine c_cond_false [1, 1, 1, 0, 1, 0, 0, 1, 0, 0, 1, 1, 1, 1, 1, 0] [1, 1, 1, 0, 1, 0, 0, 1, 0, 0, 1, 1, 1, 1, 1, 1] 80 (by kernel_rfl) hF293 (by kernel_rfl) ?_
            refine c_skip (by kernel_rfl) ?_
            refine c_reg 5 (by kernel_rfl) ?_
            refine r_runk 1 [21, 0, 1, 2, 3, 10, 11] [(21, (Value.int .i64 ((k : Nat) : Int))), (0, (bv 2)), (1, (Value.slice A0 la.length c0)), (2, (Value.slice A1 lb.length c1)), (3, (Value.int .i64 (c))), (10, (Value.slice A16 m18 cp17)), (11, (Value.slice A20 m22 cp21))] hF293 (by kernel_rfl) (by kernel_rfl) ?_
            intro a294 hF295
            refine r_one (d := 22) (v0 := (Value.int .i64 (IntKind.i64.wrap (((k : Nat) : Int) + ((1 : Nat) : Int))))) (v := (Value.int .i64 ((k + 1 : Nat) : Int))) hF295 (by kernel_rfl) (by kernel_rfl) (congrArg (Value.int .i64) (i64_eq (by omega) (by omega) (by omega))) ?_
            intro a296 hF297
            refine r_runk 1 [12, 0, 1, 2, 3, 10, 11] [(12, (Value.int .i64 ((k + 1 : Nat) : Int))), (0, (bv 2)), (1, (Value.slice A0 la.length c0)), (2, (Value.slice A1 lb.length c1)), (3, (Value.int .i64 (c))), (10, (Value.slice A16 m18 cp17)), (11, (Value.slice A20 m22 cp21))] hF297 (by kernel_rfl) (by kernel_rfl) ?_
            intro a298 hF299
            refine r_end (by kernel_rfl) ?_
            have h300 : Own tPacket 56 w.heap.size s153 w166 (Value.slice A16 m18 cp17) ((sentL (la.take (k)) c).filter (takeC 2 la lb)) := ((h149.step' st157).step st167 (fun g hg e => ne161 (by subst e; exact hg)))
            have h301 : Own tAck 53 w.heap.size s153 w166 (Value.slice A20 m22 cp21) (((sentL (la.take (k)) c).filter (takeC 2 la lb)).map (fun p => toldA (sameL lb p [2]))) := ((h150.step' st157).step st167 (fun g hg e => ne162 (by subst e; exact hg)))
            have hF302 := hF299.keep [0, 1, 2, 3, 10, 11, 12] [(0, (bv 2)), (1, (Value.slice A0 la.length c0)), (2, (Value.slice A1 lb.length c1)), (3, (Value.int .i64 (c))), (10, (Value.slice A16 m18 cp17)), (11, (Value.slice A20 m22 cp21)), (12, (Value.int .i64 ((k + 1 : Nat) : Int)))] (by kernel_rfl)
            exact ⟨k + 1, ⟨s153, A16, cp17, m18, A20, cp21, m22, hF302, hS170, (h300.cast (by first | rfl | omega | (simp only [List.length_append, List.length_cons, List.length_nil, List.length_map] at *; omega)) (by subst hx48 hx86; exact (carry_no (by omega) (by simpa using hg97) (by simpa using hc121) (by unfold takeC; simp_all)))), (h301.cast (by first | rfl | omega | (simp only [List.length_append, List.length_cons, List.length_nil, List.length_map] at *; omega)) (by subst hx48 hx86; exact (congrArg (List.map (fun p => toldA (sameL lb p [2]))) (carry_no (by omega) (by simpa using hg97) (by simpa using hc121) (by unfold takeC; simp_all))))), (by omega), (fun g hg e => ne24 g hg e)⟩, by omega⟩
    · skip
      have hc35 := of_decide_eq_false hc35
      refine c_exit 0 (by kernel_rfl) ?_
      refine c_seq [1, 1, 1, 1, 0] [1, 1, 1, 1, 1] (by kernel_rfl) ?_
      refine c_reg 13 (by kernel_rfl) ?_
      refine r_runk 4 [9, 8] [(9, (Value.slice A20 m22 cp21)), (8, (Value.slice A16 m18 cp17))] hF34 (by kernel_rfl) (by kernel_rfl) ?_
      intro a303 hF304
      refine r_end (by kernel_rfl) ?_
      refine c_ret (by kernel_rfl) ?_
      try dsimp only [Exit.then, Exit.inBlock]
      refine f_ret2 hF304 8 9 (by kernel_rfl) (Value.slice A16 m18 cp17) (Value.slice A20 m22 cp21) (by kernel_rfl) (by kernel_rfl) s13 hS15 ?_
      have hk8 : k = la.length := by omega
      subst hk8
      have e1 := hO26
      have e2 := hO27
      rw [List.take_length] at e1 e2
      exact ⟨_, _, rfl, e1, e2⟩
theorem toCarry3_calls (σ : Nat → Nat) (w : World) {v0 v1 : Value} {la lb : List Event} (h0 : Rd tEvent σ w v0 la) (h1 : Rd tEvent σ w v1 lb) (hla : la.length ≤ 1000) (c : Int) :
    Ctr Try.prog 27 [(bv 3), v0, v1, (iv c)] noM σ w (fun σ' w' v => ∃ v1 v2, v = .tuple #[v1, v2] ∧ Own tPacket 56 w.heap.size σ' w' v1 (toCarry 3 la lb c) ∧ Own tAck 53 w.heap.size σ' w' v2 ((toCarry 3 la lb c).map (fun p => toldA (sameL lb p [2])))) := by
  obtain ⟨A0, c0, rfl, hlA0⟩ := h0.form
  have hbdA0 : la.length ≤ 140737488355328 := by have h := h0.bd; have e : tEvent.by_ = 104 := rfl; rw [e] at h; omega
  obtain ⟨A1, c1, rfl, hlA1⟩ := h1.form
  have hbdA1 : lb.length ≤ 140737488355328 := by have h := h1.bd; have e : tEvent.by_ = 104 := rfl; rw [e] at h; omega
  refine ctr_enter Try.func27 c27 (by kernel_rfl) 91 (by kernel_rfl) (Nat.le_of_ble_eq_true (by kernel_rfl)) [(0, (bv 3)), (1, (Value.slice A0 la.length c0)), (2, (Value.slice A1 lb.length c1)), (3, (Value.int .i64 (c)))] (by kernel_rfl) ?_
  intro a hF1
  have hS2 := Stp.refl noM σ w
  refine c_seq [0] [1] (by kernel_rfl) ?_
  refine c_reg 0 (by kernel_rfl) ?_
  refine r_runk 2 [0, 1, 2, 3] [(0, (bv 3)), (1, (Value.slice A0 la.length c0)), (2, (Value.slice A1 lb.length c1)), (3, (Value.int .i64 (c)))] hF1 (by kernel_rfl) (by kernel_rfl) ?_
  intro a3 hF4
  refine r_end (by kernel_rfl) ?_
  refine c_seq [1, 0] [1, 1] (by kernel_rfl) ?_
  refine c_reg 1 (by kernel_rfl) ?_
  refine r_runk 1 [10, 0, 1, 2, 3] [(10, (Value.slice none 0 0)), (0, (bv 3)), (1, (Value.slice A0 la.length c0)), (2, (Value.slice A1 lb.length c1)), (3, (Value.int .i64 (c)))] hF4 (by kernel_rfl) (by kernel_rfl) ?_
  intro a5 hF6
  refine r_end (by kernel_rfl) ?_
  refine c_seq [1, 1, 0] [1, 1, 1] (by kernel_rfl) ?_
  refine c_reg 2 (by kernel_rfl) ?_
  refine r_runk 1 [11, 10, 0, 1, 2, 3] [(11, (Value.slice none 0 0)), (10, (Value.slice none 0 0)), (0, (bv 3)), (1, (Value.slice A0 la.length c0)), (2, (Value.slice A1 lb.length c1)), (3, (Value.int .i64 (c)))] hF6 (by kernel_rfl) (by kernel_rfl) ?_
  intro a7 hF8
  refine r_end (by kernel_rfl) ?_
  refine c_seq [1, 1, 1, 0] [1, 1, 1, 1] (by kernel_rfl) ?_
  refine c_seq [1, 1, 1, 0, 0] [1, 1, 1, 0, 1] (by kernel_rfl) ?_
  refine c_reg 3 (by kernel_rfl) ?_
  refine r_runk 1 [12, 11, 10, 0, 1, 2, 3] [(12, (Value.int .i64 ((0 : Nat) : Int))), (11, (Value.slice none 0 0)), (10, (Value.slice none 0 0)), (0, (bv 3)), (1, (Value.slice A0 la.length c0)), (2, (Value.slice A1 lb.length c1)), (3, (Value.int .i64 (c)))] hF8 (by kernel_rfl) (by kernel_rfl) ?_
  intro a9 hF10
  refine r_end (by kernel_rfl) ?_
  refine c_block [1, 1, 1, 0, 1, 0] 0 (by kernel_rfl) ?_
  refine c_loop [1, 1, 1, 0, 1, 0, 0] (by kernel_rfl) (fun (k : Nat) a11 w12 => ∃ (s13 : Nat → Nat) (A16 : Option Addr) (cp17 : Nat) (m18 : Nat) (A20 : Option Addr) (cp21 : Nat) (m22 : Nat), Fr a11 91 [(0, (bv 3)), (1, (Value.slice A0 la.length c0)), (2, (Value.slice A1 lb.length c1)), (3, (Value.int .i64 (c))), (10, (Value.slice A16 m18 cp17)), (11, (Value.slice A20 m22 cp21)), (12, (Value.int .i64 ((k : Nat) : Int)))] ∧ Stp noM σ w s13 w12 ∧ Own tPacket 56 w.heap.size s13 w12 (Value.slice A16 m18 cp17) ((sentL (la.take (k)) c).filter (takeC 3 la lb)) ∧ Own tAck 53 w.heap.size s13 w12 (Value.slice A20 m22 cp21) (((sentL (la.take (k)) c).filter (takeC 3 la lb)).map (fun p => toldA (sameL lb p [2]))) ∧ k ≤ la.length ∧ ∀ g, Value.ownBlock (Value.slice A16 m18 cp17) = some g → ¬ Value.ownBlock (Value.slice A20 m22 cp21) = some g) (fun k => la.length - k) 0 ?_ ?_
  · skip
    have hF25 := hF10.keep [0, 1, 2, 3, 10, 11, 12] [(0, (bv 3)), (1, (Value.slice A0 la.length c0)), (2, (Value.slice A1 lb.length c1)), (3, (Value.int .i64 (c))), (10, (Value.slice none 0 0)), (11, (Value.slice none 0 0)), (12, (Value.int .i64 ((0 : Nat) : Int)))] (by kernel_rfl)
    exact ⟨σ, none, 0, 0, none, 0, 0, hF25, hS2, (Own.nil _ _ _ _ _), (Own.nil _ _ _ _ _), (by omega), (fun g hg => by simp [Value.ownBlock] at hg)⟩
  · rintro k a11 w12 ⟨s13, A16, cp17, m18, A20, cp21, m22, hF14, hS15, hO26, hO27, hk, ne24⟩
    have hln28 := hO26.ln
    have hln29 := hO27.ln
    refine c_seq [1, 1, 1, 0, 1, 0, 0, 0] [1, 1, 1, 0, 1, 0, 0, 1] (by kernel_rfl) ?_
    refine c_seq [1, 1, 1, 0, 1, 0, 0, 0, 0] [1, 1, 1, 0, 1, 0, 0, 0, 1] (by kernel_rfl) ?_
    refine c_reg 4 (by kernel_rfl) ?_
    refine r_runk 3 [19, 17, 0, 1, 2, 3, 10, 11, 12] [(19, (Value.int .i64 ((la.length : Nat) : Int))), (17, (Value.int .i64 ((k : Nat) : Int))), (0, (bv 3)), (1, (Value.slice A0 la.length c0)), (2, (Value.slice A1 lb.length c1)), (3, (Value.int .i64 (c))), (10, (Value.slice A16 m18 cp17)), (11, (Value.slice A20 m22 cp21)), (12, (Value.int .i64 ((k : Nat) : Int)))] hF14 (by kernel_rfl) (by kernel_rfl) ?_
    intro a30 hF31
    refine r_one (d := 20) (v0 := (Value.bool (decide (((k : Nat) : Int) < ((la.length : Nat) : Int))))) (v := (Value.bool (decide ((k : Nat) < la.length)))) hF31 (by kernel_rfl) (by kernel_rfl) (congrArg Value.bool (cmp_nat_lss _ _)) ?_
    intro a32 hF33
    have hF34 := hF33.keep [20, 0, 1, 2, 3, 10, 11, 12] [(20, (Value.bool (decide ((k : Nat) < la.length)))), (0, (bv 3)), (1, (Value.slice A0 la.length c0)), (2, (Value.slice A1 lb.length c1)), (3, (Value.int .i64 (c))), (10, (Value.slice A16 m18 cp17)), (11, (Value.slice A20 m22 cp21)), (12, (Value.int .i64 ((k : Nat) : Int)))] (by kernel_rfl)
    refine r_end (by kernel_rfl) ?_
    refine c_cond [1, 1, 1, 0, 1, 0, 0, 0, 1, 0] [1, 1, 1, 0, 1, 0, 0, 0, 1, 1] 20 (by kernel_rfl) hF34 (decide ((k : Nat) < la.length)) (by kernel_rfl) (fun hc35 => ?_) (fun hc35 => ?_)
    · skip
      have hc35 := of_decide_eq_true hc35
      refine c_skip (by kernel_rfl) ?_
      refine c_seq [1, 1, 1, 0, 1, 0, 0, 1, 0] [1, 1, 1, 0, 1, 0, 0, 1, 1] (by kernel_rfl) ?_
      refine c_block [1, 1, 1, 0, 1, 0, 0, 1, 0, 0] 1 (by kernel_rfl) ?_
      refine c_seq [1, 1, 1, 0, 1, 0, 0, 1, 0, 0, 0] [1, 1, 1, 0, 1, 0, 0, 1, 0, 0, 1] (by kernel_rfl) ?_
      refine c_reg 6 (by kernel_rfl) ?_
      refine r_runk 2 [24, 23, 0, 1, 2, 3, 10, 11, 12] [(24, (Value.int .i64 ((k : Nat) : Int))), (23, (Value.slice A0 la.length c0)), (0, (bv 3)), (1, (Value.slice A0 la.length c0)), (2, (Value.slice A1 lb.length c1)), (3, (Value.int .i64 (c))), (10, (Value.slice A16 m18 cp17)), (11, (Value.slice A20 m22 cp21)), (12, (Value.int .i64 ((k : Nat) : Int)))] hF34 (by kernel_rfl) (by kernel_rfl) ?_
      intro a36 hF37
      have h38 : Rd tEvent s13 w12 (Value.slice A0 la.length c0) la := h0.step hS15
      have hi45 : k < (la).length := (by have hq := h38.ln; first | omega | (simp only [List.length_append, List.length_cons, List.length_nil, List.length_map] at *; omega))
      obtain ⟨b39, o40, c41, he42, hs43, hr44⟩ := (h38).at k hi45
      obtain ⟨o46, ho46⟩ : ∃ o, o = o40 + k * 10 := ⟨_, rfl⟩
      obtain ⟨x47, hx48⟩ : ∃ x, x = (la[k]'hi45) := ⟨_, rfl⟩
      rw [← hx48] at hr44
      have hr44 : c41 = [(bv x47.kind), (Value.int .i64 (x47.packet.channel)), (uv x47.packet.seq), (uv x47.packet.timeout), (sv x47.packet.denom), (uv x47.packet.amount), (sv x47.packet.src), (sv x47.packet.dst), (Value.bool x47.ack.ok), (Value.int .i64 (x47.ack.code))] := hr44
      subst hr44
      have hs43 : Seg s13 w12 b39 o46 [(bv x47.kind), (Value.int .i64 (x47.packet.channel)), (uv x47.packet.seq), (uv x47.packet.timeout), (sv x47.packet.denom), (uv x47.packet.amount), (sv x47.packet.src), (sv x47.packet.dst), (Value.bool x47.ack.ok), (Value.int .i64 (x47.ack.code))] := by rw [ho46]; exact hs43
      refine r_at (r_val (d := 25) (op := (Op.indexAddr 41 (Operand.tmp 23) (Operand.tmp 24))) hF37 (by kernel_rfl) (by kernel_rfl) (Value.pointer (some ⟨b39, o46, none⟩)) w12 (by rw [ho46]; exact exec_index (len := la.length) (cap := c0) he42 (by kernel_rfl) (kd := .i64) k (by kernel_rfl) (by have := h38.ln; omega) 10 U41 L60.s) ?_)
      intro a49 hF50
      refine r_runk 1 [26, 0, 1, 2, 3, 10, 11, 12] [(26, (Value.pointer (some ⟨b39, o46 + 1, none⟩))), (0, (bv 3)), (1, (Value.slice A0 la.length c0)), (2, (Value.slice A1 lb.length c1)), (3, (Value.int .i64 (c))), (10, (Value.slice A16 m18 cp17)), (11, (Value.slice A20 m22 cp21)), (12, (Value.int .i64 ((k : Nat) : Int)))] hF50 (by kernel_rfl) (by kernel_rfl) ?_
      intro a51 hF52
      refine r_at (r_val (d := 27) (op := (Op.load 56 (Operand.tmp 26))) hF52 (by kernel_rfl) (by kernel_rfl) (Value.agg #[(Value.int .i64 (x47.packet.channel)), (uv x47.packet.seq), (uv x47.packet.timeout), (sv x47.packet.denom), (uv x47.packet.amount), (sv x47.packet.src), (sv x47.packet.dst)]) w12 (exec_load L56 (.inl rfl) (by kernel_rfl) (Seg.sub hs43 1 7 [(Value.int .i64 (x47.packet.channel)), (uv x47.packet.seq), (uv x47.packet.timeout), (sv x47.packet.denom), (uv x47.packet.amount), (sv x47.packet.src), (sv x47.packet.dst)] (by kernel_rfl)).cell) ?_)
      intro a53 hF54
      refine r_at (r_new (d := 13) (op := (Op.alloc 56)) hF54 (by kernel_rfl) (by kernel_rfl) s13 [(Value.int .i64 ((0 : Nat) : Int)), (uv 0), (uv 0), (sv []), (uv 0), (sv []), (sv [])] 56 (exec_alloc [(Value.int .i64 ((0 : Nat) : Int)), (uv 0), (uv 0), (sv []), (uv 0), (sv []), (sv [])] (fun _ => .inl (by kernel_rfl))) ?_)
      intro a55 s56 w57 b58 hb59 st60 hB61 hF62
      have hz63 := hS15.size
      have ne64 : ¬ Value.ownBlock (Value.slice A16 m18 cp17) = some b58 := fun e => by have := hO26.lt e; omega
      have ne65 : ¬ Value.ownBlock (Value.slice A20 m22 cp21) = some b58 := fun e => by have := hO27.lt e; omega
      have hS66 := hS15.then st60
      refine r_at (r_store (t := 56) (x := (Operand.tmp 13)) (y := (Operand.tmp 27)) hF62 (by kernel_rfl) (by kernel_rfl) hB61 0 [(Value.int .i64 (x47.packet.channel)), (uv x47.packet.seq), (uv x47.packet.timeout), (sv x47.packet.denom), (uv x47.packet.amount), (sv x47.packet.src), (sv x47.packet.dst)] [(Value.int .i64 (x47.packet.channel)), (uv x47.packet.seq), (uv x47.packet.timeout), (sv x47.packet.denom), (uv x47.packet.amount), (sv x47.packet.src), (sv x47.packet.dst)] (by kernel_rfl) (by kernel_rfl) 7 true L56 rfl (by kernel_rfl) (Nat.le_of_ble_eq_true (by kernel_rfl)) (by kernel_rfl) ?_)
      intro a67 w68 st69 hB70 hF71
      have hS72 := hS66.and st69 (fun b e => by subst e; omega)
      have hF73 := hF71.keep [13, 0, 1, 2, 3, 10, 11, 12] [(13, (Value.pointer (some ⟨b58, 0, none⟩))), (0, (bv 3)), (1, (Value.slice A0 la.length c0)), (2, (Value.slice A1 lb.length c1)), (3, (Value.int .i64 (c))), (10, (Value.slice A16 m18 cp17)), (11, (Value.slice A20 m22 cp21)), (12, (Value.int .i64 ((k : Nat) : Int)))] (by kernel_rfl)
      refine r_end (by kernel_rfl) ?_
      refine c_seq [1, 1, 1, 0, 1, 0, 0, 1, 0, 0, 1, 0] [1, 1, 1, 0, 1, 0, 0, 1, 0, 0, 1, 1] (by kernel_rfl) ?_
      refine c_seq [1, 1, 1, 0, 1, 0, 0, 1, 0, 0, 1, 0, 0] [1, 1, 1, 0, 1, 0, 0, 1, 0, 0, 1, 0, 1] (by kernel_rfl) ?_
      refine c_reg 7 (by kernel_rfl) ?_
      refine r_runk 2 [29, 28, 13, 0, 1, 2, 3, 10, 11, 12] [(29, (Value.int .i64 ((k : Nat) : Int))), (28, (Value.slice A0 la.length c0)), (13, (Value.pointer (some ⟨b58, 0, none⟩))), (0, (bv 3)), (1, (Value.slice A0 la.length c0)), (2, (Value.slice A1 lb.length c1)), (3, (Value.int .i64 (c))), (10, (Value.slice A16 m18 cp17)), (11, (Value.slice A20 m22 cp21)), (12, (Value.int .i64 ((k : Nat) : Int)))] hF73 (by kernel_rfl) (by kernel_rfl) ?_
      intro a74 hF75
      have h76 : Rd tEvent s56 w68 (Value.slice A0 la.length c0) la := ((h38.step st60).step st69)
      have hi83 : k < (la).length := (by have hq := h76.ln; first | omega | (simp only [List.length_append, List.length_cons, List.length_nil, List.length_map] at *; omega))
      obtain ⟨b77, o78, c79, he80, hs81, hr82⟩ := (h76).at k hi83
      obtain ⟨o84, ho84⟩ : ∃ o, o = o78 + k * 10 := ⟨_, rfl⟩
      obtain ⟨x85, hx86⟩ : ∃ x, x = (la[k]'hi83) := ⟨_, rfl⟩
      rw [← hx86] at hr82
      have hr82 : c79 = [(bv x85.kind), (Value.int .i64 (x85.packet.channel)), (uv x85.packet.seq), (uv x85.packet.timeout), (sv x85.packet.denom), (uv x85.packet.amount), (sv x85.packet.src), (sv x85.packet.dst), (Value.bool x85.ack.ok), (Value.int .i64 (x85.ack.code))] := hr82
      subst hr82
      have hs81 : Seg s56 w68 b77 o84 [(bv x85.kind), (Value.int .i64 (x85.packet.channel)), (uv x85.packet.seq), (uv x85.packet.timeout), (sv x85.packet.denom), (uv x85.packet.amount), (sv x85.packet.src), (sv x85.packet.dst), (Value.bool x85.ack.ok), (Value.int .i64 (x85.ack.code))] := by rw [ho84]; exact hs81
      refine r_at (r_val (d := 30) (op := (Op.indexAddr 41 (Operand.tmp 28) (Operand.tmp 29))) hF75 (by kernel_rfl) (by kernel_rfl) (Value.pointer (some ⟨b77, o84, none⟩)) w68 (by rw [ho84]; exact exec_index (len := la.length) (cap := c0) he80 (by kernel_rfl) (kd := .i64) k (by kernel_rfl) (by have := h76.ln; omega) 10 U41 L60.s) ?_)
      intro a87 hF88
      refine r_runk 1 [31, 13, 0, 1, 2, 3, 10, 11, 12] [(31, (Value.pointer (some ⟨b77, o84, none⟩))), (13, (Value.pointer (some ⟨b58, 0, none⟩))), (0, (bv 3)), (1, (Value.slice A0 la.length c0)), (2, (Value.slice A1 lb.length c1)), (3, (Value.int .i64 (c))), (10, (Value.slice A16 m18 cp17)), (11, (Value.slice A20 m22 cp21)), (12, (Value.int .i64 ((k : Nat) : Int)))] hF88 (by kernel_rfl) (by kernel_rfl) ?_
      intro a89 hF90
      refine r_at (r_val (d := 32) (op := (Op.load 47 (Operand.tmp 31))) hF90 (by kernel_rfl) (by kernel_rfl) (bv x85.kind) w68 (exec_load L47 (.inr rfl) (by kernel_rfl) (Seg.sub hs81 0 1 [(bv x85.kind)] (by kernel_rfl)).cell) ?_)
      intro a91 hF92
      refine r_one (d := 33) (v0 := (Value.bool (((x85.kind).toNat : Int) != ((1 : UInt8).toNat : Int)))) (v := (Value.bool (!decide ((x85.kind : UInt8) = 1)))) hF92 (by kernel_rfl) (by kernel_rfl) (congrArg Value.bool (cmp_u8_neq _ _)) ?_
      intro a93 hF94
      refine r_runk 1 [34, 13, 0, 1, 2, 3, 10, 11, 12] [(34, (Value.bool (!decide ((x85.kind : UInt8) = 1)))), (13, (Value.pointer (some ⟨b58, 0, none⟩))), (0, (bv 3)), (1, (Value.slice A0 la.length c0)), (2, (Value.slice A1 lb.length c1)), (3, (Value.int .i64 (c))), (10, (Value.slice A16 m18 cp17)), (11, (Value.slice A20 m22 cp21)), (12, (Value.int .i64 ((k : Nat) : Int)))] hF94 (by kernel_rfl) (by kernel_rfl) ?_
      intro a95 hF96
      rcases Bool.eq_false_or_eq_true (!decide ((x85.kind : UInt8) = 1)) with hg97 | hg97
      · skip
        have hF98 := hF96.set 34 (Value.bool (!decide ((x85.kind : UInt8) = 1))) (Value.bool true) (by kernel_rfl) (congrArg Value.bool hg97)
        refine r_runk 5 [39, 13, 0, 1, 2, 3, 10, 11, 12] [(39, (Value.bool true)), (13, (Value.pointer (some ⟨b58, 0, none⟩))), (0, (bv 3)), (1, (Value.slice A0 la.length c0)), (2, (Value.slice A1 lb.length c1)), (3, (Value.int .i64 (c))), (10, (Value.slice A16 m18 cp17)), (11, (Value.slice A20 m22 cp21)), (12, (Value.int .i64 ((k : Nat) : Int)))] hF98 (by kernel_rfl) (by kernel_rfl) ?_
        intro a99 hF100
        refine r_end (by kernel_rfl) ?_
        refine c_cond_true [1, 1, 1, 0, 1, 0, 0, 1, 0, 0, 1, 0, 1, 0] [1, 1, 1, 0, 1, 0, 0, 1, 0, 0, 1, 0, 1, 1] 39 (by kernel_rfl) hF100 (by kernel_rfl) ?_
        refine c_exit 1 (by kernel_rfl) ?_
        refine c_reg 5 (by kernel_rfl) ?_
        refine r_runk 1 [21, 0, 1, 2, 3, 10, 11] [(21, (Value.int .i64 ((k : Nat) : Int))), (0, (bv 3)), (1, (Value.slice A0 la.length c0)), (2, (Value.slice A1 lb.length c1)), (3, (Value.int .i64 (c))), (10, (Value.slice A16 m18 cp17)), (11, (Value.slice A20 m22 cp21))] hF100 (by kernel_rfl) (by kernel_rfl) ?_
        intro a101 hF102
        refine r_one (d := 22) (v0 := (Value.int .i64 (IntKind.i64.wrap (((k : Nat) : Int) + ((1 : Nat) : Int))))) (v := (Value.int .i64 ((k + 1 : Nat) : Int))) hF102 (by kernel_rfl) (by kernel_rfl) (congrArg (Value.int .i64) (i64_eq (by omega) (by omega) (by omega))) ?_
        intro a103 hF104
        refine r_runk 1 [12, 0, 1, 2, 3, 10, 11] [(12, (Value.int .i64 ((k + 1 : Nat) : Int))), (0, (bv 3)), (1, (Value.slice A0 la.length c0)), (2, (Value.slice A1 lb.length c1)), (3, (Value.int .i64 (c))), (10, (Value.slice A16 m18 cp17)), (11, (Value.slice A20 m22 cp21))] hF104 (by kernel_rfl) (by kernel_rfl) ?_
        intro a105 hF106
        refine r_end (by kernel_rfl) ?_
        have h107 : Own tPacket 56 w.heap.size s56 w68 (Value.slice A16 m18 cp17) ((sentL (la.take (k)) c).filter (takeC 3 la lb)) := ((hO26.step' st60).step st69 (fun g hg e => ne64 (by subst e; exact hg)))
        have h108 : Own tAck 53 w.heap.size s56 w68 (Value.slice A20 m22 cp21) (((sentL (la.take (k)) c).filter (takeC 3 la lb)).map (fun p => toldA (sameL lb p [2]))) := ((hO27.step' st60).step st69 (fun g hg e => ne65 (by subst e; exact hg)))
        have hF109 := hF106.keep [0, 1, 2, 3, 10, 11, 12] [(0, (bv 3)), (1, (Value.slice A0 la.length c0)), (2, (Value.slice A1 lb.length c1)), (3, (Value.int .i64 (c))), (10, (Value.slice A16 m18 cp17)), (11, (Value.slice A20 m22 cp21)), (12, (Value.int .i64 ((k + 1 : Nat) : Int)))] (by kernel_rfl)
        exact ⟨k + 1, ⟨s56, A16, cp17, m18, A20, cp21, m22, hF109, hS72, (h107.cast (by first | rfl | omega | (simp only [List.length_append, List.length_cons, List.length_nil, List.length_map] at *; omega)) (by subst hx48 hx86; exact (carry_skip1 (by omega) (by simpa using hg97)))), (h108.cast (by first | rfl | omega | (simp only [List.length_append, List.length_cons, List.length_nil, List.length_map] at *; omega)) (by subst hx48 hx86; exact (congrArg (List.map (fun p => toldA (sameL lb p [2]))) (carry_skip1 (by omega) (by simpa using hg97))))), (by omega), (fun g hg e => ne24 g hg e)⟩, by omega⟩
      · skip
        have hF110 := hF96.set 34 (Value.bool (!decide ((x85.kind : UInt8) = 1))) (Value.bool false) (by kernel_rfl) (congrArg Value.bool hg97)
        refine r_runk 1 [35, 34, 13, 0, 1, 2, 3, 10, 11, 12] [(35, (Value.pointer (some ⟨b58, 0, none⟩))), (34, (Value.bool false)), (13, (Value.pointer (some ⟨b58, 0, none⟩))), (0, (bv 3)), (1, (Value.slice A0 la.length c0)), (2, (Value.slice A1 lb.length c1)), (3, (Value.int .i64 (c))), (10, (Value.slice A16 m18 cp17)), (11, (Value.slice A20 m22 cp21)), (12, (Value.int .i64 ((k : Nat) : Int)))] hF110 (by kernel_rfl) (by kernel_rfl) ?_
        intro a111 hF112
        refine r_at (r_val (d := 36) (op := (Op.load 3 (Operand.tmp 35))) hF112 (by kernel_rfl) (by kernel_rfl) (Value.int .i64 (x47.packet.channel)) w68 (exec_load L3 (.inr rfl) (by kernel_rfl) (Bx.cells hB70 0 1 [(Value.int .i64 (x47.packet.channel))] (by kernel_rfl))) ?_)
        intro a113 hF114
        refine r_runk 1 [37, 36, 34, 13, 0, 1, 2, 3, 10, 11, 12] [(37, (Value.int .i64 (c))), (36, (Value.int .i64 (x47.packet.channel))), (34, (Value.bool false)), (13, (Value.pointer (some ⟨b58, 0, none⟩))), (0, (bv 3)), (1, (Value.slice A0 la.length c0)), (2, (Value.slice A1 lb.length c1)), (3, (Value.int .i64 (c))), (10, (Value.slice A16 m18 cp17)), (11, (Value.slice A20 m22 cp21)), (12, (Value.int .i64 ((k : Nat) : Int)))] hF114 (by kernel_rfl) (by kernel_rfl) ?_
        intro a115 hF116
        refine r_one (d := 38) (v0 := (Value.bool ((x47.packet.channel : Int) != (c : Int)))) (v := (Value.bool (!decide ((x47.packet.channel : Int) = c)))) hF116 (by kernel_rfl) (by kernel_rfl) (congrArg Value.bool (cmp_int_neq _ _)) ?_
        intro a117 hF118
        refine r_runk 1 [39, 13, 0, 1, 2, 3, 10, 11, 12] [(39, (Value.bool (!decide ((x47.packet.channel : Int) = c)))), (13, (Value.pointer (some ⟨b58, 0, none⟩))), (0, (bv 3)), (1, (Value.slice A0 la.length c0)), (2, (Value.slice A1 lb.length c1)), (3, (Value.int .i64 (c))), (10, (Value.slice A16 m18 cp17)), (11, (Value.slice A20 m22 cp21)), (12, (Value.int .i64 ((k : Nat) : Int)))] hF118 (by kernel_rfl) (by kernel_rfl) ?_
        intro a119 hF120
        refine r_end (by kernel_rfl) ?_
        refine c_cond [1, 1, 1, 0, 1, 0, 0, 1, 0, 0, 1, 0, 1, 0] [1, 1, 1, 0, 1, 0, 0, 1, 0, 0, 1, 0, 1, 1] 39 (by kernel_rfl) hF120 (!decide ((x47.packet.channel : Int) = c)) (by kernel_rfl) (fun hc121 => ?_) (fun hc121 => ?_)
        · skip
          have hc121 : ¬ ((x47.packet.channel : Int) = c) := by simpa using hc121
          refine c_exit 1 (by kernel_rfl) ?_
          refine c_reg 5 (by kernel_rfl) ?_
          refine r_runk 1 [21, 0, 1, 2, 3, 10, 11] [(21, (Value.int .i64 ((k : Nat) : Int))), (0, (bv 3)), (1, (Value.slice A0 la.length c0)), (2, (Value.slice A1 lb.length c1)), (3, (Value.int .i64 (c))), (10, (Value.slice A16 m18 cp17)), (11, (Value.slice A20 m22 cp21))] hF120 (by kernel_rfl) (by kernel_rfl) ?_
          intro a122 hF123
          refine r_one (d := 22) (v0 := (Value.int .i64 (IntKind.i64.wrap (((k : Nat) : Int) + ((1 : Nat) : Int))))) (v := (Value.int .i64 ((k + 1 : Nat) : Int))) hF123 (by kernel_rfl) (by kernel_rfl) (congrArg (Value.int .i64) (i64_eq (by omega) (by omega) (by omega))) ?_
          intro a124 hF125
          refine r_runk 1 [12, 0, 1, 2, 3, 10, 11] [(12, (Value.int .i64 ((k + 1 : Nat) : Int))), (0, (bv 3)), (1, (Value.slice A0 la.length c0)), (2, (Value.slice A1 lb.length c1)), (3, (Value.int .i64 (c))), (10, (Value.slice A16 m18 cp17)), (11, (Value.slice A20 m22 cp21))] hF125 (by kernel_rfl) (by kernel_rfl) ?_
          intro a126 hF127
          refine r_end (by kernel_rfl) ?_
          have h128 : Own tPacket 56 w.heap.size s56 w68 (Value.slice A16 m18 cp17) ((sentL (la.take (k)) c).filter (takeC 3 la lb)) := ((hO26.step' st60).step st69 (fun g hg e => ne64 (by subst e; exact hg)))
          have h129 : Own tAck 53 w.heap.size s56 w68 (Value.slice A20 m22 cp21) (((sentL (la.take (k)) c).filter (takeC 3 la lb)).map (fun p => toldA (sameL lb p [2]))) := ((hO27.step' st60).step st69 (fun g hg e => ne65 (by subst e; exact hg)))
          have hF130 := hF127.keep [0, 1, 2, 3, 10, 11, 12] [(0, (bv 3)), (1, (Value.slice A0 la.length c0)), (2, (Value.slice A1 lb.length c1)), (3, (Value.int .i64 (c))), (10, (Value.slice A16 m18 cp17)), (11, (Value.slice A20 m22 cp21)), (12, (Value.int .i64 ((k + 1 : Nat) : Int)))] (by kernel_rfl)
          exact ⟨k + 1, ⟨s56, A16, cp17, m18, A20, cp21, m22, hF130, hS72, (h128.cast (by first | rfl | omega | (simp only [List.length_append, List.length_cons, List.length_nil, List.length_map] at *; omega)) (by subst hx48 hx86; exact (carry_skip2 (by omega) (by simpa using hc121)))), (h129.cast (by first | rfl | omega | (simp only [List.length_append, List.length_cons, List.length_nil, List.length_map] at *; omega)) (by subst hx48 hx86; exact (congrArg (List.map (fun p => toldA (sameL lb p [2]))) (carry_skip2 (by omega) (by simpa using hc121))))), (by omega), (fun g hg e => ne24 g hg e)⟩, by omega⟩
        · skip
          have hc121 : ((x47.packet.channel : Int) = c) := by simpa using hc121
          refine c_skip (by kernel_rfl) ?_
          refine c_seq [1, 1, 1, 0, 1, 0, 0, 1, 0, 0, 1, 1, 0] [1, 1, 1, 0, 1, 0, 0, 1, 0, 0, 1, 1, 1] (by kernel_rfl) ?_
          refine c_reg 8 (by kernel_rfl) ?_
          refine r_runk 1 [41, 13, 0, 1, 2, 3, 10, 11, 12] [(41, (Value.slice A1 lb.length c1)), (13, (Value.pointer (some ⟨b58, 0, none⟩))), (0, (bv 3)), (1, (Value.slice A0 la.length c0)), (2, (Value.slice A1 lb.length c1)), (3, (Value.int .i64 (c))), (10, (Value.slice A16 m18 cp17)), (11, (Value.slice A20 m22 cp21)), (12, (Value.int .i64 ((k : Nat) : Int)))] hF120 (by kernel_rfl) (by kernel_rfl) ?_
          intro a131 hF132
          refine r_at (r_val (d := 42) (op := (Op.load 56 (Operand.tmp 13))) hF132 (by kernel_rfl) (by kernel_rfl) (Value.agg #[(Value.int .i64 (x47.packet.channel)), (uv x47.packet.seq), (uv x47.packet.timeout), (sv x47.packet.denom), (uv x47.packet.amount), (sv x47.packet.src), (sv x47.packet.dst)]) w68 (exec_load L56 (.inl rfl) (by kernel_rfl) (Bx.cells hB70 0 7 [(Value.int .i64 (x47.packet.channel)), (uv x47.packet.seq), (uv x47.packet.timeout), (sv x47.packet.denom), (uv x47.packet.amount), (sv x47.packet.src), (sv x47.packet.dst)] (by kernel_rfl))) ?_)
          intro a133 hF134
          have h135 : Rd tEvent s56 w68 (Value.slice A1 lb.length c1) lb := h1.step hS72
          have h136 : Own tPacket 56 w.heap.size s56 w68 (Value.slice A16 m18 cp17) ((sentL (la.take (k)) c).filter (takeC 3 la lb)) := ((hO26.step' st60).step st69 (fun g hg e => ne64 (by subst e; exact hg)))
          have h137 : Own tAck 53 w.heap.size s56 w68 (Value.slice A20 m22 cp21) (((sentL (la.take (k)) c).filter (takeC 3 la lb)).map (fun p => toldA (sameL lb p [2]))) := ((hO27.step' st60).step st69 (fun g hg e => ne65 (by subst e; exact hg)))
          refine r_at (r_call (d := (some 43)) (f := 35) (args := #[(Operand.tmp 41), (Operand.const (Value.int IntKind.u8 2)), (Operand.tmp 42)]) (tys := #[41, 47, 56]) hF134 (by kernel_rfl) (by kernel_rfl) C35 [(Value.slice A1 lb.length c1), (bv 2), (Value.agg #[(Value.int .i64 (x47.packet.channel)), (uv x47.packet.seq), (uv x47.packet.timeout), (sv x47.packet.denom), (uv x47.packet.amount), (sv x47.packet.src), (sv x47.packet.dst)])] (by kernel_rfl) (told_calls s56 w68 h135 2 x47.packet) ?_)
          intro a138 s139 w140 v141 st142 hP143 hF144
          have hz145 := hS72.size
          have hS146 := hS72.then st142
          subst hP143
          refine r_runk 3 [45, 44, 13, 0, 1, 2, 3, 10, 11, 12] [(45, (Value.bool ((sameL lb x47.packet [2]).isSome))), (44, (Value.agg #[(Value.bool ((toldA (sameL lb x47.packet [2])).ok)), (Value.int .i64 ((toldA (sameL lb x47.packet [2])).code))])), (13, (Value.pointer (some ⟨b58, 0, none⟩))), (0, (bv 3)), (1, (Value.slice A0 la.length c0)), (2, (Value.slice A1 lb.length c1)), (3, (Value.int .i64 (c))), (10, (Value.slice A16 m18 cp17)), (11, (Value.slice A20 m22 cp21)), (12, (Value.int .i64 ((k : Nat) : Int)))] hF144 (by kernel_rfl) (by kernel_rfl) ?_
          intro a147 hF148
          have h149 : Own tPacket 56 w.heap.size s139 w140 (Value.slice A16 m18 cp17) ((sentL (la.take (k)) c).filter (takeC 3 la lb)) := (h136.step' st142)
          have h150 : Own tAck 53 w.heap.size s139 w140 (Value.slice A20 m22 cp21) (((sentL (la.take (k)) c).filter (takeC 3 la lb)).map (fun p => toldA (sameL lb p [2]))) := (h137.step' st142)
          have h151 : Bx s139 w140 b58 [(Value.int .i64 (x47.packet.channel)), (uv x47.packet.seq), (uv x47.packet.timeout), (sv x47.packet.denom), (uv x47.packet.amount), (sv x47.packet.src), (sv x47.packet.dst)] 56 := (hB70.step' st142)
          refine r_at (r_new (d := 14) (op := (Op.alloc 53)) hF148 (by kernel_rfl) (by kernel_rfl) s139 [(Value.bool false), (Value.int .i64 ((0 : Nat) : Int))] 53 (exec_alloc [(Value.bool false), (Value.int .i64 ((0 : Nat) : Int))] (fun _ => .inl (by kernel_rfl))) ?_)
          intro a152 s153 w154 b155 hb156 st157 hB158 hF159
          have hz160 := hS146.size
          have ne161 : ¬ Value.ownBlock (Value.slice A16 m18 cp17) = some b155 := fun e => by have := h149.lt e; omega
          have ne162 : ¬ Value.ownBlock (Value.slice A20 m22 cp21) = some b155 := fun e => by have := h150.lt e; omega
          have ne163 : b58 < b155 := by have := h151.lt; omega
          have hS164 := hS146.then st157
          refine r_at (r_store (t := 53) (x := (Operand.tmp 14)) (y := (Operand.tmp 44)) hF159 (by kernel_rfl) (by kernel_rfl) hB158 0 [(Value.bool ((toldA (sameL lb x47.packet [2])).ok)), (Value.int .i64 ((toldA (sameL lb x47.packet [2])).code))] [(Value.bool ((toldA (sameL lb x47.packet [2])).ok)), (Value.int .i64 ((toldA (sameL lb x47.packet [2])).code))] (by kernel_rfl) (by kernel_rfl) 2 true L53 rfl (by kernel_rfl) (Nat.le_of_ble_eq_true (by kernel_rfl)) (by kernel_rfl) ?_)
          intro a165 w166 st167 hB168 hF169
          have hS170 := hS164.and st167 (fun b e => by subst e; omega)
          refine r_runk 1 [15, 14, 13, 0, 1, 2, 3, 10, 11, 12] [(15, (Value.bool ((sameL lb x47.packet [2]).isSome))), (14, (Value.pointer (some ⟨b155, 0, none⟩))), (13, (Value.pointer (some ⟨b58, 0, none⟩))), (0, (bv 3)), (1, (Value.slice A0 la.length c0)), (2, (Value.slice A1 lb.length c1)), (3, (Value.int .i64 (c))), (10, (Value.slice A16 m18 cp17)), (11, (Value.slice A20 m22 cp21)), (12, (Value.int .i64 ((k : Nat) : Int)))] hF169 (by kernel_rfl) (by kernel_rfl) ?_
          intro a171 hF172
          refine r_end (by kernel_rfl) ?_
          refine c_seq [1, 1, 1, 0, 1, 0, 0, 1, 0, 0, 1, 1, 1, 0] [1, 1, 1, 0, 1, 0, 0, 1, 0, 0, 1, 1, 1, 1] (by kernel_rfl) ?_
          refine c_reg 9 (by kernel_rfl) ?_
          refine r_runk 13 [58, 52, 14, 13, 0, 1, 2, 3, 10, 11, 12] [(58, (Value.bool ((sameL lb x47.packet [2]).isSome))), (52, (Value.bool false)), (14, (Value.pointer (some ⟨b155, 0, none⟩))), (13, (Value.pointer (some ⟨b58, 0, none⟩))), (0, (bv 3)), (1, (Value.slice A0 la.length c0)), (2, (Value.slice A1 lb.length c1)), (3, (Value.int .i64 (c))), (10, (Value.slice A16 m18 cp17)), (11, (Value.slice A20 m22 cp21)), (12, (Value.int .i64 ((k : Nat) : Int)))] hF172 (by kernel_rfl) (by kernel_rfl) ?_
          intro a173 hF174
          rcases Bool.eq_false_or_eq_true ((sameL lb x47.packet [2]).isSome) with hg175 | hg175
          · skip
            have hF176 := hF174.set 58 (Value.bool ((sameL lb x47.packet [2]).isSome)) (Value.bool true) (by kernel_rfl) (congrArg Value.bool hg175)
            refine r_runk 1 [59, 58, 52, 14, 13, 0, 1, 2, 3, 10, 11, 12] [(59, (Value.slice A0 la.length c0)), (58, (Value.bool true)), (52, (Value.bool false)), (14, (Value.pointer (some ⟨b155, 0, none⟩))), (13, (Value.pointer (some ⟨b58, 0, none⟩))), (0, (bv 3)), (1, (Value.slice A0 la.length c0)), (2, (Value.slice A1 lb.length c1)), (3, (Value.int .i64 (c))), (10, (Value.slice A16 m18 cp17)), (11, (Value.slice A20 m22 cp21)), (12, (Value.int .i64 ((k : Nat) : Int)))] hF176 (by kernel_rfl) (by kernel_rfl) ?_
            intro a177 hF178
            have h179 : Bx s153 w166 b58 [(Value.int .i64 (x47.packet.channel)), (uv x47.packet.seq), (uv x47.packet.timeout), (sv x47.packet.denom), (uv x47.packet.amount), (sv x47.packet.src), (sv x47.packet.dst)] 56 := ((h151.step' st157).step st167 (fun e => absurd e (by omega)))
            refine r_at (r_val (d := 60) (op := (Op.load 56 (Operand.tmp 13))) hF178 (by kernel_rfl) (by kernel_rfl) (Value.agg #[(Value.int .i64 (x47.packet.channel)), (uv x47.packet.seq), (uv x47.packet.timeout), (sv x47.packet.denom), (uv x47.packet.amount), (sv x47.packet.src), (sv x47.packet.dst)]) w166 (exec_load L56 (.inl rfl) (by kernel_rfl) (Bx.cells h179 0 7 [(Value.int .i64 (x47.packet.channel)), (uv x47.packet.seq), (uv x47.packet.timeout), (sv x47.packet.denom), (uv x47.packet.amount), (sv x47.packet.src), (sv x47.packet.dst)] (by kernel_rfl))) ?_)
            intro a180 hF181
            have h182 : Rd tEvent s153 w166 (Value.slice A0 la.length c0) la := (((h76.step st142).step st157).step st167)
            have h183 : Own tPacket 56 w.heap.size s153 w166 (Value.slice A16 m18 cp17) ((sentL (la.take (k)) c).filter (takeC 3 la lb)) := ((h149.step' st157).step st167 (fun g hg e => ne161 (by subst e; exact hg)))
            have h184 : Own tAck 53 w.heap.size s153 w166 (Value.slice A20 m22 cp21) (((sentL (la.take (k)) c).filter (takeC 3 la lb)).map (fun p => toldA (sameL lb p [2]))) := ((h150.step' st157).step st167 (fun g hg e => ne162 (by subst e; exact hg)))
            refine r_at (r_call (d := (some 61)) (f := 36) (args := #[(Operand.tmp 59), (Operand.tmp 60)]) (tys := #[41, 56]) hF181 (by kernel_rfl) (by kernel_rfl) C36 [(Value.slice A0 la.length c0), (Value.agg #[(Value.int .i64 (x47.packet.channel)), (uv x47.packet.seq), (uv x47.packet.timeout), (sv x47.packet.denom), (uv x47.packet.amount), (sv x47.packet.src), (sv x47.packet.dst)])] (by kernel_rfl) (over_calls s153 w166 h182 x47.packet) ?_)
            intro a185 s186 w187 v188 st189 hP190 hF191
            have hz192 := hS170.size
            have hS193 := hS170.then st189
            subst hP190
            refine r_runk 4 [65, 14, 13, 0, 1, 2, 3, 10, 11, 12] [(65, (Value.bool (!(overL la x47.packet)))), (14, (Value.pointer (some ⟨b155, 0, none⟩))), (13, (Value.pointer (some ⟨b58, 0, none⟩))), (0, (bv 3)), (1, (Value.slice A0 la.length c0)), (2, (Value.slice A1 lb.length c1)), (3, (Value.int .i64 (c))), (10, (Value.slice A16 m18 cp17)), (11, (Value.slice A20 m22 cp21)), (12, (Value.int .i64 ((k : Nat) : Int)))] hF191 (by kernel_rfl) (by kernel_rfl) ?_
            intro a194 hF195
            rcases Bool.eq_false_or_eq_true (!(overL la x47.packet)) with hg196 | hg196
            · skip
              have hF197 := hF195.set 65 (Value.bool (!(overL la x47.packet))) (Value.bool true) (by kernel_rfl) (congrArg Value.bool hg196)
              refine r_runk 15 [16, 14, 13, 0, 1, 2, 3, 10, 11, 12] [(16, (Value.bool true)), (14, (Value.pointer (some ⟨b155, 0, none⟩))), (13, (Value.pointer (some ⟨b58, 0, none⟩))), (0, (bv 3)), (1, (Value.slice A0 la.length c0)), (2, (Value.slice A1 lb.length c1)), (3, (Value.int .i64 (c))), (10, (Value.slice A16 m18 cp17)), (11, (Value.slice A20 m22 cp21)), (12, (Value.int .i64 ((k : Nat) : Int)))] hF197 (by kernel_rfl) (by kernel_rfl) ?_
              intro a198 hF199
              refine r_end (by kernel_rfl) ?_
              refine c_seq [1, 1, 1, 0, 1, 0, 0, 1, 0, 0, 1, 1, 1, 1, 0] [1, 1, 1, 0, 1, 0, 0, 1, 0, 0, 1, 1, 1, 1, 1] (by kernel_rfl) ?_
              refine c_reg 10 (by kernel_rfl) ?_
              refine r_runk 1 [80, 14, 13, 0, 1, 2, 3, 10, 11, 12] [(80, (Value.bool true)), (14, (Value.pointer (some ⟨b155, 0, none⟩))), (13, (Value.pointer (some ⟨b58, 0, none⟩))), (0, (bv 3)), (1, (Value.slice A0 la.length c0)), (2, (Value.slice A1 lb.length c1)), (3, (Value.int .i64 (c))), (10, (Value.slice A16 m18 cp17)), (11, (Value.slice A20 m22 cp21)), (12, (Value.int .i64 ((k : Nat) : Int)))] hF199 (by kernel_rfl) (by kernel_rfl) ?_
              intro a200 hF201
              refine r_end (by kernel_rfl) ?_
              refine c_cond_true [1, 1, 1, 0, 1, 0, 0, 1, 0, 0, 1, 1, 1, 1, 1, 0] [1, 1, 1, 0, 1, 0, 0, 1, 0, 0, 1, 1, 1, 1, 1, 1] 80 (by kernel_rfl) hF201 (by kernel_rfl) ?_
              refine c_seq [1, 1, 1, 0, 1, 0, 0, 1, 0, 0, 1, 1, 1, 1, 1, 0, 0] [1, 1, 1, 0, 1, 0, 0, 1, 0, 0, 1, 1, 1, 1, 1, 0, 1] (by kernel_rfl) ?_
              refine c_reg 11 (by kernel_rfl) ?_
              refine r_runk 1 [81, 14, 13, 0, 1, 2, 3, 11, 12] [(81, (Value.slice A16 m18 cp17)), (14, (Value.pointer (some ⟨b155, 0, none⟩))), (13, (Value.pointer (some ⟨b58, 0, none⟩))), (0, (bv 3)), (1, (Value.slice A0 la.length c0)), (2, (Value.slice A1 lb.length c1)), (3, (Value.int .i64 (c))), (11, (Value.slice A20 m22 cp21)), (12, (Value.int .i64 ((k : Nat) : Int)))] hF201 (by kernel_rfl) (by kernel_rfl) ?_
              intro a202 hF203
              have h204 : Bx s186 w187 b58 [(Value.int .i64 (x47.packet.channel)), (uv x47.packet.seq), (uv x47.packet.timeout), (sv x47.packet.denom), (uv x47.packet.amount), (sv x47.packet.src), (sv x47.packet.dst)] 56 := (h179.step' st189)
              refine r_at (r_val (d := 82) (op := (Op.load 56 (Operand.tmp 13))) hF203 (by kernel_rfl) (by kernel_rfl) (Value.agg #[(Value.int .i64 (x47.packet.channel)), (uv x47.packet.seq), (uv x47.packet.timeout), (sv x47.packet.denom), (uv x47.packet.amount), (sv x47.packet.src), (sv x47.packet.dst)]) w187 (exec_load L56 (.inl rfl) (by kernel_rfl) (Bx.cells h204 0 7 [(Value.int .i64 (x47.packet.channel)), (uv x47.packet.seq), (uv x47.packet.timeout), (sv x47.packet.denom), (uv x47.packet.amount), (sv x47.packet.src), (sv x47.packet.dst)] (by kernel_rfl))) ?_)
              intro a205 hF206
              have h207 : Own tPacket 56 w.heap.size s186 w187 (Value.slice A16 m18 cp17) ((sentL (la.take (k)) c).filter (takeC 3 la lb)) := (h183.step' st189)
              have h208 : Own tAck 53 w.heap.size s186 w187 (Value.slice A20 m22 cp21) (((sentL (la.take (k)) c).filter (takeC 3 la lb)).map (fun p => toldA (sameL lb p [2]))) := (h184.step' st189)
              have h209 : Bx s186 w187 b155 [(Value.bool ((toldA (sameL lb x47.packet [2])).ok)), (Value.int .i64 ((toldA (sameL lb x47.packet [2])).code))] 53 := (hB168.step' st189)
              refine r_at (r_lit tPacket (d := 83) (t := 43) (m := 1) (parts := #[(0, (Operand.tmp 82))]) hF206 (by kernel_rfl) (by kernel_rfl) s186 [x47.packet] [(Value.int .i64 (x47.packet.channel)), (uv x47.packet.seq), (uv x47.packet.timeout), (sv x47.packet.denom), (uv x47.packet.amount), (sv x47.packet.src), (sv x47.packet.dst)] ⟨_, _, rfl, rfl, rfl⟩ rfl (by decide) (e := 56) (fun o e => by simp only [execOp, e]; kernel_rfl) (by decide) ?_)
              intro a210 s211 w212 g213 hg214 st215 hO216 hF217
              have hz218 := hS193.size
              have hS219 := hS193.then st215
              have hO220 : Own tPacket 56 w.heap.size s211 w212 (Value.slice (some ⟨g213, 0, none⟩) 1 1) [x47.packet] := (hO216.le (by omega : w.heap.size ≤ _))
              have ne222 : ∀ g, Value.ownBlock (Value.slice A16 m18 cp17) = some g → ¬ Value.ownBlock (Value.slice (some ⟨g213, 0, none⟩) 1 1) = some g := fun g hg e => by have h1 := hO216.ge e; have h2 := h207.lt hg; omega
              have ne223 : ∀ g, Value.ownBlock (Value.slice A20 m22 cp21) = some g → ¬ Value.ownBlock (Value.slice (some ⟨g213, 0, none⟩) 1 1) = some g := fun g hg e => by have h1 := hO216.ge e; have h2 := h208.lt hg; omega
              have ne224 : ¬ Value.ownBlock (Value.slice (some ⟨g213, 0, none⟩) 1 1) = some b58 := fun e => by have h1 := hO216.ge e; have h2 := h204.lt; omega
              have ne225 : ¬ Value.ownBlock (Value.slice (some ⟨g213, 0, none⟩) 1 1) = some b155 := fun e => by have h1 := hO216.ge e; have h2 := h209.lt; omega
              have h226 : Own tPacket 56 w.heap.size s211 w212 (Value.slice A16 m18 cp17) ((sentL (la.take (k)) c).filter (takeC 3 la lb)) := (h207.step' st215)
              have h227 : Bx s211 w212 b58 [(Value.int .i64 (x47.packet.channel)), (uv x47.packet.seq), (uv x47.packet.timeout), (sv x47.packet.denom), (uv x47.packet.amount), (sv x47.packet.src), (sv x47.packet.dst)] 56 := (h204.step' st215)
              have h228 : Bx s211 w212 b155 [(Value.bool ((toldA (sameL lb x47.packet [2])).ok)), (Value.int .i64 ((toldA (sameL lb x47.packet [2])).code))] 53 := (h209.step' st215)
              have h229 : Own tAck 53 w.heap.size s211 w212 (Value.slice A20 m22 cp21) (((sentL (la.take (k)) c).filter (takeC 3 la lb)).map (fun p => toldA (sameL lb p [2]))) := (h208.step' st215)
              have hz239 := hS219.size
              have hb238 : ((sentL (la.take (k)) c).filter (takeC 3 la lb)).length + ([x47.packet] : List _).length ≤ 1000000 := (by have h9 := carry_len (f := (takeC 3 la lb)) la c k; simp only [List.length_map, List.length_cons, List.length_nil] at *; omega)
              refine r_at (r_append tPacket S43 (d := 84) (x := (Operand.tmp 81)) (y := (Operand.tmp 83)) hF217 (by kernel_rfl) (by kernel_rfl) (by kernel_rfl) (by kernel_rfl) h226 hO220.rd (app_small hb238 (by decide)) (by omega) hz239 ?_)
              intro a230 s231 w232 v233 st234 hO235 hn236 hF237
              obtain ⟨A242, m245, c243, rfl, hl244⟩ := hO235.formL
              have hS246 := hS219.and st234 (fun b e => h226.ge e)
              have ne248 : ¬ Value.ownBlock (Value.slice A242 m245 c243) = some b58 := fun e => ne64 (hn236 _ h227.lt e)
              have ne249 : ¬ Value.ownBlock (Value.slice A242 m245 c243) = some b155 := fun e => ne161 (hn236 _ h228.lt e)
              have ne250 : ∀ g, Value.ownBlock (Value.slice A20 m22 cp21) = some g → ¬ Value.ownBlock (Value.slice A242 m245 c243) = some g := fun g hg e => ne24 g (hn236 _ (h229.lt hg) e) hg
              refine r_runk 1 [10, 14, 0, 1, 2, 3, 11, 12] [(10, (Value.slice A242 m245 c243)), (14, (Value.pointer (some ⟨b155, 0, none⟩))), (0, (bv 3)), (1, (Value.slice A0 la.length c0)), (2, (Value.slice A1 lb.length c1)), (3, (Value.int .i64 (c))), (11, (Value.slice A20 m22 cp21)), (12, (Value.int .i64 ((k : Nat) : Int)))] hF237 (by kernel_rfl) (by kernel_rfl) ?_
              intro a251 hF252
              refine r_end (by kernel_rfl) ?_
              refine c_reg 12 (by kernel_rfl) ?_
              refine r_runk 1 [85, 10, 14, 0, 1, 2, 3, 12] [(85, (Value.slice A20 m22 cp21)), (10, (Value.slice A242 m245 c243)), (14, (Value.pointer (some ⟨b155, 0, none⟩))), (0, (bv 3)), (1, (Value.slice A0 la.length c0)), (2, (Value.slice A1 lb.length c1)), (3, (Value.int .i64 (c))), (12, (Value.int .i64 ((k : Nat) : Int)))] hF252 (by kernel_rfl) (by kernel_rfl) ?_
              intro a253 hF254
              have h255 : Bx s231 w232 b155 [(Value.bool ((toldA (sameL lb x47.packet [2])).ok)), (Value.int .i64 ((toldA (sameL lb x47.packet [2])).code))] 53 := (h228.step st234 (fun e => ne161 e))
              refine r_at (r_val (d := 86) (op := (Op.load 53 (Operand.tmp 14))) hF254 (by kernel_rfl) (by kernel_rfl) (Value.agg #[(Value.bool ((toldA (sameL lb x47.packet [2])).ok)), (Value.int .i64 ((toldA (sameL lb x47.packet [2])).code))]) w232 (exec_load L53 (.inl rfl) (by kernel_rfl) (Bx.cells h255 0 2 [(Value.bool ((toldA (sameL lb x47.packet [2])).ok)), (Value.int .i64 ((toldA (sameL lb x47.packet [2])).code))] (by kernel_rfl))) ?_)
              intro a256 hF257
              have h258 : Own tAck 53 w.heap.size s231 w232 (Value.slice A20 m22 cp21) (((sentL (la.take (k)) c).filter (takeC 3 la lb)).map (fun p => toldA (sameL lb p [2]))) := (h229.step st234 (fun g hg e => ne24 g e hg))
              have h259 : Bx s231 w232 b58 [(Value.int .i64 (x47.packet.channel)), (uv x47.packet.seq), (uv x47.packet.timeout), (sv x47.packet.denom), (uv x47.packet.amount), (sv x47.packet.src), (sv x47.packet.dst)] 56 := (h227.step st234 (fun e => ne64 e))
              refine r_at (r_lit tAck (d := 87) (t := 44) (m := 1) (parts := #[(0, (Operand.tmp 86))]) hF257 (by kernel_rfl) (by kernel_rfl) s231 [(toldA (sameL lb x47.packet [2]))] [(Value.bool ((toldA (sameL lb x47.packet [2])).ok)), (Value.int .i64 ((toldA (sameL lb x47.packet [2])).code))] ⟨_, _, rfl, rfl, rfl⟩ rfl (by decide) (e := 53) (fun o e => by simp only [execOp, e]; kernel_rfl) (by decide) ?_)
              intro a260 s261 w262 g263 hg264 st265 hO266 hF267
              have hz268 := hS246.size
              have hS269 := hS246.then st265
              have hO270 : Own tAck 53 w.heap.size s261 w262 (Value.slice (some ⟨g263, 0, none⟩) 1 1) [(toldA (sameL lb x47.packet [2]))] := (hO266.le (by omega : w.heap.size ≤ _))
              have ne272 : ∀ g, Value.ownBlock (Value.slice A20 m22 cp21) = some g → ¬ Value.ownBlock (Value.slice (some ⟨g263, 0, none⟩) 1 1) = some g := fun g hg e => by have h1 := hO266.ge e; have h2 := h258.lt hg; omega
              have ne273 : ¬ Value.ownBlock (Value.slice (some ⟨g263, 0, none⟩) 1 1) = some b58 := fun e => by have h1 := hO266.ge e; have h2 := h259.lt; omega
              have ne274 : ¬ Value.ownBlock (Value.slice (some ⟨g263, 0, none⟩) 1 1) = some b155 := fun e => by have h1 := hO266.ge e; have h2 := h255.lt; omega
              have ne275 : ∀ g, Value.ownBlock (Value.slice A242 m245 c243) = some g → ¬ Value.ownBlock (Value.slice (some ⟨g263, 0, none⟩) 1 1) = some g := fun g hg e => by have h1 := hO266.ge e; have h2 := hO235.lt hg; omega
              have h276 : Own tAck 53 w.heap.size s261 w262 (Value.slice A20 m22 cp21) (((sentL (la.take (k)) c).filter (takeC 3 la lb)).map (fun p => toldA (sameL lb p [2]))) := (h258.step' st265)
              have h277 : Bx s261 w262 b58 [(Value.int .i64 (x47.packet.channel)), (uv x47.packet.seq), (uv x47.packet.timeout), (sv x47.packet.denom), (uv x47.packet.amount), (sv x47.packet.src), (sv x47.packet.dst)] 56 := (h259.step' st265)
              have h278 : Bx s261 w262 b155 [(Value.bool ((toldA (sameL lb x47.packet [2])).ok)), (Value.int .i64 ((toldA (sameL lb x47.packet [2])).code))] 53 := (h255.step' st265)
              have h279 : Own tPacket 56 w.heap.size s261 w262 (Value.slice A242 m245 c243) (((sentL (la.take (k)) c).filter (takeC 3 la lb)) ++ [x47.packet]) := (hO235.step' st265)
              have hz289 := hS269.size
              have hb288 : (((sentL (la.take (k)) c).filter (takeC 3 la lb)).map (fun p => toldA (sameL lb p [2]))).length + ([(toldA (sameL lb x47.packet [2]))] : List _).length ≤ 1000000 := (by have h9 := carry_len (f := (takeC 3 la lb)) la c k; simp only [List.length_map, List.length_cons, List.length_nil] at *; omega)
              refine r_at (r_append tAck S44 (d := 88) (x := (Operand.tmp 85)) (y := (Operand.tmp 87)) hF267 (by kernel_rfl) (by kernel_rfl) (by kernel_rfl) (by kernel_rfl) h276 hO270.rd (app_small hb288 (by decide)) (by omega) hz289 ?_)
              intro a280 s281 w282 v283 st284 hO285 hn286 hF287
              obtain ⟨A292, m295, c293, rfl, hl294⟩ := hO285.formL
              have hS296 := hS269.and st284 (fun b e => h276.ge e)
              have ne298 : ¬ Value.ownBlock (Value.slice A292 m295 c293) = some b58 := fun e => ne65 (hn286 _ h277.lt e)
              have ne299 : ¬ Value.ownBlock (Value.slice A292 m295 c293) = some b155 := fun e => ne162 (hn286 _ h278.lt e)
              have ne300 : ∀ g, Value.ownBlock (Value.slice A242 m245 c243) = some g → ¬ Value.ownBlock (Value.slice A292 m295 c293) = some g := fun g hg e => ne250 g (hn286 _ (h279.lt hg) e) hg
              refine r_runk 1 [11, 10, 0, 1, 2, 3, 12] [(11, (Value.slice A292 m295 c293)), (10, (Value.slice A242 m245 c243)), (0, (bv 3)), (1, (Value.slice A0 la.length c0)), (2, (Value.slice A1 lb.length c1)), (3, (Value.int .i64 (c))), (12, (Value.int .i64 ((k : Nat) : Int)))] hF287 (by kernel_rfl) (by kernel_rfl) ?_
              intro a301 hF302
              refine r_end (by kernel_rfl) ?_
              refine c_reg 5 (by kernel_rfl) ?_
              refine r_runk 1 [21, 11, 10, 0, 1, 2, 3] [(21, (Value.int .i64 ((k : Nat) : Int))), (11, (Value.slice A292 m295 c293)), (10, (Value.slice A242 m245 c243)), (0, (bv 3)), (1, (Value.slice A0 la.length c0)), (2, (Value.slice A1 lb.length c1)), (3, (Value.int .i64 (c)))] hF302 (by kernel_rfl) (by kernel_rfl) ?_
              intro a303 hF304
              refine r_one (d := 22) (v0 := (Value.int .i64 (IntKind.i64.wrap (((k : Nat) : Int) + ((1 : Nat) : Int))))) (v := (Value.int .i64 ((k + 1 : Nat) : Int))) hF304 (by kernel_rfl) (by kernel_rfl) (congrArg (Value.int .i64) (i64_eq (by omega) (by omega) (by omega))) ?_
              intro a305 hF306
              refine r_runk 1 [12, 11, 10, 0, 1, 2, 3] [(12, (Value.int .i64 ((k + 1 : Nat) : Int))), (11, (Value.slice A292 m295 c293)), (10, (Value.slice A242 m245 c243)), (0, (bv 3)), (1, (Value.slice A0 la.length c0)), (2, (Value.slice A1 lb.length c1)), (3, (Value.int .i64 (c)))] hF306 (by kernel_rfl) (by kernel_rfl) ?_
              intro a307 hF308
              refine r_end (by kernel_rfl) ?_
              have h309 : Own tPacket 56 w.heap.size s281 w282 (Value.slice A242 m245 c243) (((sentL (la.take (k)) c).filter (takeC 3 la lb)) ++ [x47.packet]) := (h279.step st284 (fun g hg e => ne250 g e hg))
              have hF310 := hF308.keep [0, 1, 2, 3, 10, 11, 12] [(0, (bv 3)), (1, (Value.slice A0 la.length c0)), (2, (Value.slice A1 lb.length c1)), (3, (Value.int .i64 (c))), (10, (Value.slice A242 m245 c243)), (11, (Value.slice A292 m295 c293)), (12, (Value.int .i64 ((k + 1 : Nat) : Int)))] (by kernel_rfl)
              exact ⟨k + 1, ⟨s281, A242, c243, m245, A292, c293, m295, hF310, hS296, (h309.cast (by first | rfl | omega | (simp only [List.length_append, List.length_cons, List.length_nil, List.length_map] at *; omega)) (by subst hx48 hx86; exact (carry_yes (by omega) (by simpa using hg97) (by simpa using hc121) (by unfold takeC; simp_all)))), (hO285.cast (by first | rfl | omega | (simp only [List.length_append, List.length_cons, List.length_nil, List.length_map] at *; omega)) (by subst hx48 hx86; exact (carryA_yes (f := (takeC 3 la lb)) (g := (fun p => toldA (sameL lb p [2]))) (by omega) (by simpa using hg97) (by simpa using hc121) (by unfold takeC; simp_all)))), (by omega), (fun g hg e => ne300 g hg e)⟩, by omega⟩
            · skip
              have hF311 := hF195.set 65 (Value.bool (!(overL la x47.packet))) (Value.bool false) (by kernel_rfl) (congrArg Value.bool hg196)
              refine r_runk 15 [16, 14, 13, 0, 1, 2, 3, 10, 11, 12] [(16, (Value.bool false)), (14, (Value.pointer (some ⟨b155, 0, none⟩))), (13, (Value.pointer (some ⟨b58, 0, none⟩))), (0, (bv 3)), (1, (Value.slice A0 la.length c0)), (2, (Value.slice A1 lb.length c1)), (3, (Value.int .i64 (c))), (10, (Value.slice A16 m18 cp17)), (11, (Value.slice A20 m22 cp21)), (12, (Value.int .i64 ((k : Nat) : Int)))] hF311 (by kernel_rfl) (by kernel_rfl) ?_
              intro a312 hF313
              refine r_end (by kernel_rfl) ?_
              refine c_seq [1, 1, 1, 0, 1, 0, 0, 1, 0, 0, 1, 1, 1, 1, 0] [1, 1, 1, 0, 1, 0, 0, 1, 0, 0, 1, 1, 1, 1, 1] (by kernel_rfl) ?_
              refine c_reg 10 (by kernel_rfl) ?_
              refine r_runk 1 [80, 14, 13, 0, 1, 2, 3, 10, 11, 12] [(80, (Value.bool false)), (14, (Value.pointer (some ⟨b155, 0, none⟩))), (13, (Value.pointer (some ⟨b58, 0, none⟩))), (0, (bv 3)), (1, (Value.slice A0 la.length c0)), (2, (Value.slice A1 lb.length c1)), (3, (Value.int .i64 (c))), (10, (Value.slice A16 m18 cp17)), (11, (Value.slice A20 m22 cp21)), (12, (Value.int .i64 ((k : Nat) : Int)))] hF313 (by kernel_rfl) (by kernel_rfl) ?_
              intro a314 hF315
              refine r_end (by kernel_rfl) ?_
              refine c_cond_false [1, 1, 1, 0, 1, 0, 0, 1, 0, 0, 1, 1, 1, 1, 1, 0] [1, 1, 1, 0, 1, 0, 0, 1, 0, 0, 1, 1, 1, 1, 1, 1] 80 (by kernel_rfl) hF315 (by kernel_rfl) ?_
              refine c_skip (by kernel_rfl) ?_
              refine c_reg 5 (by kernel_rfl) ?_
              refine r_runk 1 [21, 0, 1, 2, 3, 10, 11] [(21, (Value.int .i64 ((k : Nat) : Int))), (0, (bv 3)), (1, (Value.slice A0 la.length c0)), (2, (Value.slice A1 lb.length c1)), (3, (Value.int .i64 (c))), (10, (Value.slice A16 m18 cp17)), (11, (Value.slice A20 m22 cp21))] hF315 (by kernel_rfl) (by kernel_rfl) ?_
              intro a316 hF317
              refine r_one (d := 22) (v0 := (Value.int .i64 (IntKind.i64.wrap (((k : Nat) : Int) + ((1 : Nat) : Int))))) (v := (Value.int .i64 ((k + 1 : Nat) : Int))) hF317 (by kernel_rfl) (by kernel_rfl) (congrArg (Value.int .i64) (i64_eq (by omega) (by omega) (by omega))) ?_
              intro a318 hF319
              refine r_runk 1 [12, 0, 1, 2, 3, 10, 11] [(12, (Value.int .i64 ((k + 1 : Nat) : Int))), (0, (bv 3)), (1, (Value.slice A0 la.length c0)), (2, (Value.slice A1 lb.length c1)), (3, (Value.int .i64 (c))), (10, (Value.slice A16 m18 cp17)), (11, (Value.slice A20 m22 cp21))] hF319 (by kernel_rfl) (by kernel_rfl) ?_
              intro a320 hF321
              refine r_end (by kernel_rfl) ?_
              have h322 : Own tPacket 56 w.heap.size s186 w187 (Value.slice A16 m18 cp17) ((sentL (la.take (k)) c).filter (takeC 3 la lb)) := (h183.step' st189)
              have h323 : Own tAck 53 w.heap.size s186 w187 (Value.slice A20 m22 cp21) (((sentL (la.take (k)) c).filter (takeC 3 la lb)).map (fun p => toldA (sameL lb p [2]))) := (h184.step' st189)
              have hF324 := hF321.keep [0, 1, 2, 3, 10, 11, 12] [(0, (bv 3)), (1, (Value.slice A0 la.length c0)), (2, (Value.slice A1 lb.length c1)), (3, (Value.int .i64 (c))), (10, (Value.slice A16 m18 cp17)), (11, (Value.slice A20 m22 cp21)), (12, (Value.int .i64 ((k + 1 : Nat) : Int)))] (by kernel_rfl)
              exact ⟨k + 1, ⟨s186, A16, cp17, m18, A20, cp21, m22, hF324, hS193, (h322.cast (by first | rfl | omega | (simp only [List.length_append, List.length_cons, List.length_nil, List.length_map] at *; omega)) (by subst hx48 hx86; exact (carry_no (by omega) (by simpa using hg97) (by simpa using hc121) (by unfold takeC; simp_all)))), (h323.cast (by first | rfl | omega | (simp only [List.length_append, List.length_cons, List.length_nil, List.length_map] at *; omega)) (by subst hx48 hx86; exact (congrArg (List.map (fun p => toldA (sameL lb p [2]))) (carry_no (by omega) (by simpa using hg97) (by simpa using hc121) (by unfold takeC; simp_all))))), (by omega), (fun g hg e => ne24 g hg e)⟩, by omega⟩
          · skip
            have hF325 := hF174.set 58 (Value.bool ((sameL lb x47.packet [2]).isSome)) (Value.bool false) (by kernel_rfl) (congrArg Value.bool hg175)
            refine r_runk 22 [16, 14, 13, 0, 1, 2, 3, 10, 11, 12] [(16, (Value.bool false)), (14, (Value.pointer (some ⟨b155, 0, none⟩))), (13, (Value.pointer (some ⟨b58, 0, none⟩))), (0, (bv 3)), (1, (Value.slice A0 la.length c0)), (2, (Value.slice A1 lb.length c1)), (3, (Value.int .i64 (c))), (10, (Value.slice A16 m18 cp17)), (11, (Value.slice A20 m22 cp21)), (12, (Value.int .i64 ((k : Nat) : Int)))] hF325 (by kernel_rfl) (by kernel_rfl) ?_
            intro a326 hF327
            refine r_end (by kernel_rfl) ?_
            refine c_seq [1, 1, 1, 0, 1, 0, 0, 1, 0, 0, 1, 1, 1, 1, 0] [1, 1, 1, 0, 1, 0, 0, 1, 0, 0, 1, 1, 1, 1, 1] (by kernel_rfl) ?_
            refine c_reg 10 (by kernel_rfl) ?_
            refine r_runk 1 [80, 14, 13, 0, 1, 2, 3, 10, 11, 12] [(80, (Value.bool false)), (14, (Value.pointer (some ⟨b155, 0, none⟩))), (13, (Value.pointer (some ⟨b58, 0, none⟩))), (0, (bv 3)), (1, (Value.slice A0 la.length c0)), (2, (Value.slice A1 lb.length c1)), (3, (Value.int .i64 (c))), (10, (Value.slice A16 m18 cp17)), (11, (Value.slice A20 m22 cp21)), (12, (Value.int .i64 ((k : Nat) : Int)))] hF327 (by kernel_rfl) (by kernel_rfl) ?_
            intro a328 hF329
            refine r_end (by kernel_rfl) ?_
            refine c_cond_false [1, 1, 1, 0, 1, 0, 0, 1, 0, 0, 1, 1, 1, 1, 1, 0] [1, 1, 1, 0, 1, 0, 0, 1, 0, 0, 1, 1, 1, 1, 1, 1] 80 (by kernel_rfl) hF329 (by kernel_rfl) ?_
            refine c_skip (by kernel_rfl) ?_
            refine c_reg 5 (by kernel_rfl) ?_
            refine r_runk 1 [21, 0, 1, 2, 3, 10, 11] [(21, (Value.int .i64 ((k : Nat) : Int))), (0, (bv 3)), (1, (Value.slice A0 la.length c0)), (2, (Value.slice A1 lb.length c1)), (3, (Value.int .i64 (c))), (10, (Value.slice A16 m18 cp17)), (11, (Value.slice A20 m22 cp21))] hF329 (by kernel_rfl) (by kernel_rfl) ?_
            intro a330 hF331
            refine r_one (d := 22) (v0 := (Value.int .i64 (IntKind.i64.wrap (((k : Nat) : Int) + ((1 : Nat) : Int))))) (v := (Value.int .i64 ((k + 1 : Nat) : Int))) hF331 (by kernel_rfl) (by kernel_rfl) (congrArg (Value.int .i64) (i64_eq (by omega) (by omega) (by omega))) ?_
            intro a332 hF333
            refine r_runk 1 [12, 0, 1, 2, 3, 10, 11] [(12, (Value.int .i64 ((k + 1 : Nat) : Int))), (0, (bv 3)), (1, (Value.slice A0 la.length c0)), (2, (Value.slice A1 lb.length c1)), (3, (Value.int .i64 (c))), (10, (Value.slice A16 m18 cp17)), (11, (Value.slice A20 m22 cp21))] hF333 (by kernel_rfl) (by kernel_rfl) ?_
            intro a334 hF335
            refine r_end (by kernel_rfl) ?_
            have h336 : Own tPacket 56 w.heap.size s153 w166 (Value.slice A16 m18 cp17) ((sentL (la.take (k)) c).filter (takeC 3 la lb)) := ((h149.step' st157).step st167 (fun g hg e => ne161 (by subst e; exact hg)))
            have h337 : Own tAck 53 w.heap.size s153 w166 (Value.slice A20 m22 cp21) (((sentL (la.take (k)) c).filter (takeC 3 la lb)).map (fun p => toldA (sameL lb p [2]))) := ((h150.step' st157).step st167 (fun g hg e => ne162 (by subst e; exact hg)))
            have hF338 := hF335.keep [0, 1, 2, 3, 10, 11, 12] [(0, (bv 3)), (1, (Value.slice A0 la.length c0)), (2, (Value.slice A1 lb.length c1)), (3, (Value.int .i64 (c))), (10, (Value.slice A16 m18 cp17)), (11, (Value.slice A20 m22 cp21)), (12, (Value.int .i64 ((k + 1 : Nat) : Int)))] (by kernel_rfl)
            exact ⟨k + 1, ⟨s153, A16, cp17, m18, A20, cp21, m22, hF338, hS170, (h336.cast (by first | rfl | omega | (simp only [List.length_append, List.length_cons, List.length_nil, List.length_map] at *; omega)) (by subst hx48 hx86; exact (carry_no (by omega) (by simpa using hg97) (by simpa using hc121) (by unfold takeC; simp_all)))), (h337.cast (by first | rfl | omega | (simp only [List.length_append, List.length_cons, List.length_nil, List.length_map] at *; omega)) (by subst hx48 hx86; exact (congrArg (List.map (fun p => toldA (sameL lb p [2]))) (carry_no (by omega) (by simpa using hg97) (by simpa using hc121) (by unfold takeC; simp_all))))), (by omega), (fun g hg e => ne24 g hg e)⟩, by omega⟩
    · skip
      have hc35 := of_decide_eq_false hc35
      refine c_exit 0 (by kernel_rfl) ?_
      refine c_seq [1, 1, 1, 1, 0] [1, 1, 1, 1, 1] (by kernel_rfl) ?_
      refine c_reg 13 (by kernel_rfl) ?_
      refine r_runk 4 [9, 8] [(9, (Value.slice A20 m22 cp21)), (8, (Value.slice A16 m18 cp17))] hF34 (by kernel_rfl) (by kernel_rfl) ?_
      intro a339 hF340
      refine r_end (by kernel_rfl) ?_
      refine c_ret (by kernel_rfl) ?_
      try dsimp only [Exit.then, Exit.inBlock]
      refine f_ret2 hF340 8 9 (by kernel_rfl) (Value.slice A16 m18 cp17) (Value.slice A20 m22 cp21) (by kernel_rfl) (by kernel_rfl) s13 hS15 ?_
      have hk8 : k = la.length := by omega
      subst hk8
      have e1 := hO26
      have e2 := hO27
      rw [List.take_length] at e1 e2
      exact ⟨_, _, rfl, e1, e2⟩
theorem toCarry4_calls (σ : Nat → Nat) (w : World) {v0 v1 : Value} {la lb : List Event} (h0 : Rd tEvent σ w v0 la) (h1 : Rd tEvent σ w v1 lb) (hla : la.length ≤ 1000) (c : Int) :
    Ctr Try.prog 27 [(bv 4), v0, v1, (iv c)] noM σ w (fun σ' w' v => ∃ v1 v2, v = .tuple #[v1, v2] ∧ Own tPacket 56 w.heap.size σ' w' v1 (toCarry 4 la lb c) ∧ Own tAck 53 w.heap.size σ' w' v2 ((toCarry 4 la lb c).map (fun p => toldA (sameL lb p [2])))) := by
  obtain ⟨A0, c0, rfl, hlA0⟩ := h0.form
  have hbdA0 : la.length ≤ 140737488355328 := by have h := h0.bd; have e : tEvent.by_ = 104 := rfl; rw [e] at h; omega
  obtain ⟨A1, c1, rfl, hlA1⟩ := h1.form
  have hbdA1 : lb.length ≤ 140737488355328 := by have h := h1.bd; have e : tEvent.by_ = 104 := rfl; rw [e] at h; omega
  refine ctr_enter Try.func27 c27 (by kernel_rfl) 91 (by kernel_rfl) (Nat.le_of_ble_eq_true (by kernel_rfl)) [(0, (bv 4)), (1, (Value.slice A0 la.length c0)), (2, (Value.slice A1 lb.length c1)), (3, (Value.int .i64 (c)))] (by kernel_rfl) ?_
  intro a hF1
  have hS2 := Stp.refl noM σ w
  refine c_seq [0] [1] (by kernel_rfl) ?_
  refine c_reg 0 (by kernel_rfl) ?_
  refine r_runk 2 [0, 1, 2, 3] [(0, (bv 4)), (1, (Value.slice A0 la.length c0)), (2, (Value.slice A1 lb.length c1)), (3, (Value.int .i64 (c)))] hF1 (by kernel_rfl) (by kernel_rfl) ?_
  intro a3 hF4
  refine r_end (by kernel_rfl) ?_
  refine c_seq [1, 0] [1, 1] (by kernel_rfl) ?_
  refine c_reg 1 (by kernel_rfl) ?_
  refine r_runk 1 [10, 0, 1, 2, 3] [(10, (Value.slice none 0 0)), (0, (bv 4)), (1, (Value.slice A0 la.length c0)), (2, (Value.slice A1 lb.length c1)), (3, (Value.int .i64 (c)))] hF4 (by kernel_rfl) (by kernel_rfl) ?_
  intro a5 hF6
  refine r_end (by kernel_rfl) ?_
  refine c_seq [1, 1, 0] [1, 1, 1] (by kernel_rfl) ?_
  refine c_reg 2 (by kernel_rfl) ?_
  refine r_runk 1 [11, 10, 0, 1, 2, 3] [(11, (Value.slice none 0 0)), (10, (Value.slice none 0 0)), (0, (bv 4)), (1, (Value.slice A0 la.length c0)), (2, (Value.slice A1 lb.length c1)), (3, (Value.int .i64 (c)))] hF6 (by kernel_rfl) (by kernel_rfl) ?_
  intro a7 hF8
  refine r_end (by kernel_rfl) ?_
  refine c_seq [1, 1, 1, 0] [1, 1, 1, 1] (by kernel_rfl) ?_
  refine c_seq [1, 1, 1, 0, 0] [1, 1, 1, 0, 1] (by kernel_rfl) ?_
  refine c_reg 3 (by kernel_rfl) ?_
  refine r_runk 1 [12, 11, 10, 0, 1, 2, 3] [(12, (Value.int .i64 ((0 : Nat) : Int))), (11, (Value.slice none 0 0)), (10, (Value.slice none 0 0)), (0, (bv 4)), (1, (Value.slice A0 la.length c0)), (2, (Value.slice A1 lb.length c1)), (3, (Value.int .i64 (c)))] hF8 (by kernel_rfl) (by kernel_rfl) ?_
  intro a9 hF10
  refine r_end (by kernel_rfl) ?_
  refine c_block [1, 1, 1, 0, 1, 0] 0 (by kernel_rfl) ?_
  refine c_loop [1, 1, 1, 0, 1, 0, 0] (by kernel_rfl) (fun (k : Nat) a11 w12 => ∃ (s13 : Nat → Nat) (A16 : Option Addr) (cp17 : Nat) (m18 : Nat) (A20 : Option Addr) (cp21 : Nat) (m22 : Nat), Fr a11 91 [(0, (bv 4)), (1, (Value.slice A0 la.length c0)), (2, (Value.slice A1 lb.length c1)), (3, (Value.int .i64 (c))), (10, (Value.slice A16 m18 cp17)), (11, (Value.slice A20 m22 cp21)), (12, (Value.int .i64 ((k : Nat) : Int)))] ∧ Stp noM σ w s13 w12 ∧ Own tPacket 56 w.heap.size s13 w12 (Value.slice A16 m18 cp17) ((sentL (la.take (k)) c).filter (takeC 4 la lb)) ∧ Own tAck 53 w.heap.size s13 w12 (Value.slice A20 m22 cp21) (((sentL (la.take (k)) c).filter (takeC 4 la lb)).map (fun p => toldA (sameL lb p [2]))) ∧ k ≤ la.length ∧ ∀ g, Value.ownBlock (Value.slice A16 m18 cp17) = some g → ¬ Value.ownBlock (Value.slice A20 m22 cp21) = some g) (fun k => la.length - k) 0 ?_ ?_
  · skip
    have hF25 := hF10.keep [0, 1, 2, 3, 10, 11, 12] [(0, (bv 4)), (1, (Value.slice A0 la.length c0)), (2, (Value.slice A1 lb.length c1)), (3, (Value.int .i64 (c))), (10, (Value.slice none 0 0)), (11, (Value.slice none 0 0)), (12, (Value.int .i64 ((0 : Nat) : Int)))] (by kernel_rfl)
    exact ⟨σ, none, 0, 0, none, 0, 0, hF25, hS2, (Own.nil _ _ _ _ _), (Own.nil _ _ _ _ _), (by omega), (fun g hg => by simp [Value.ownBlock] at hg)⟩
  · rintro k a11 w12 ⟨s13, A16, cp17, m18, A20, cp21, m22, hF14, hS15, hO26, hO27, hk, ne24⟩
    have hln28 := hO26.ln
    have hln29 := hO27.ln
    refine c_seq [1, 1, 1, 0, 1, 0, 0, 0] [1, 1, 1, 0, 1, 0, 0, 1] (by kernel_rfl) ?_
    refine c_seq [1, 1, 1, 0, 1, 0, 0, 0, 0] [1, 1, 1, 0, 1, 0, 0, 0, 1] (by kernel_rfl) ?_
    refine c_reg 4 (by kernel_rfl) ?_
    refine r_runk 3 [19, 17, 0, 1, 2, 3, 10, 11, 12] [(19, (Value.int .i64 ((la.length : Nat) : Int))), (17, (Value.int .i64 ((k : Nat) : Int))), (0, (bv 4)), (1, (Value.slice A0 la.length c0)), (2, (Value.slice A1 lb.length c1)), (3, (Value.int .i64 (c))), (10, (Value.slice A16 m18 cp17)), (11, (Value.slice A20 m22 cp21)), (12, (Value.int .i64 ((k : Nat) : Int)))] hF14 (by kernel_rfl) (by kernel_rfl) ?_
    intro a30 hF31
    refine r_one (d := 20) (v0 := (Value.bool (decide (((k : Nat) : Int) < ((la.length : Nat) : Int))))) (v := (Value.bool (decide ((k : Nat) < la.length)))) hF31 (by kernel_rfl) (by kernel_rfl) (congrArg Value.bool (cmp_nat_lss _ _)) ?_
    intro a32 hF33
    have hF34 := hF33.keep [20, 0, 1, 2, 3, 10, 11, 12] [(20, (Value.bool (decide ((k : Nat) < la.length)))), (0, (bv 4)), (1, (Value.slice A0 la.length c0)), (2, (Value.slice A1 lb.length c1)), (3, (Value.int .i64 (c))), (10, (Value.slice A16 m18 cp17)), (11, (Value.slice A20 m22 cp21)), (12, (Value.int .i64 ((k : Nat) : Int)))] (by kernel_rfl)
    refine r_end (by kernel_rfl) ?_
    refine c_cond [1, 1, 1, 0, 1, 0, 0, 0, 1, 0] [1, 1, 1, 0, 1, 0, 0, 0, 1, 1] 20 (by kernel_rfl) hF34 (decide ((k : Nat) < la.length)) (by kernel_rfl) (fun hc35 => ?_) (fun hc35 => ?_)
    · skip
      have hc35 := of_decide_eq_true hc35
      refine c_skip (by kernel_rfl) ?_
      refine c_seq [1, 1, 1, 0, 1, 0, 0, 1, 0] [1, 1, 1, 0, 1, 0, 0, 1, 1] (by kernel_rfl) ?_
      refine c_block [1, 1, 1, 0, 1, 0, 0, 1, 0, 0] 1 (by kernel_rfl) ?_
      refine c_seq [1, 1, 1, 0, 1, 0, 0, 1, 0, 0, 0] [1, 1, 1, 0, 1, 0, 0, 1, 0, 0, 1] (by kernel_rfl) ?_
      refine c_reg 6 (by kernel_rfl) ?_
      refine r_runk 2 [24, 23, 0, 1, 2, 3, 10, 11, 12] [(24, (Value.int .i64 ((k : Nat) : Int))), (23, (Value.slice A0 la.length c0)), (0, (bv 4)), (1, (Value.slice A0 la.length c0)), (2, (Value.slice A1 lb.length c1)), (3, (Value.int .i64 (c))), (10, (Value.slice A16 m18 cp17)), (11, (Value.slice A20 m22 cp21)), (12, (Value.int .i64 ((k : Nat) : Int)))] hF34 (by kernel_rfl) (by kernel_rfl) ?_
      intro a36 hF37
      have h38 : Rd tEvent s13 w12 (Value.slice A0 la.length c0) la := h0.step hS15
      have hi45 : k < (la).length := (by have hq := h38.ln; first | omega | (simp only [List.length_append, List.length_cons, List.length_nil, List.length_map] at *; omega))
      obtain ⟨b39, o40, c41, he42, hs43, hr44⟩ := (h38).at k hi45
      obtain ⟨o46, ho46⟩ : ∃ o, o = o40 + k * 10 := ⟨_, rfl⟩
      obtain ⟨x47, hx48⟩ : ∃ x, x = (la[k]'hi45) := ⟨_, rfl⟩
      rw [← hx48] at hr44
      have hr44 : c41 = [(bv x47.kind), (Value.int .i64 (x47.packet.channel)), (uv x47.packet.seq), (uv x47.packet.timeout), (sv x47.packet.denom), (uv x47.packet.amount), (sv x47.packet.src), (sv x47.packet.dst), (Value.bool x47.ack.ok), (Value.int .i64 (x47.ack.code))] := hr44
      subst hr44
      have hs43 : Seg s13 w12 b39 o46 [(bv x47.kind), (Value.int .i64 (x47.packet.channel)), (uv x47.packet.seq), (uv x47.packet.timeout), (sv x47.packet.denom), (uv x47.packet.amount), (sv x47.packet.src), (sv x47.packet.dst), (Value.bool x47.ack.ok), (Value.int .i64 (x47.ack.code))] := by rw [ho46]; exact hs43
      refine r_at (r_val (d := 25) (op := (Op.indexAddr 41 (Operand.tmp 23) (Operand.tmp 24))) hF37 (by kernel_rfl) (by kernel_rfl) (Value.pointer (some ⟨b39, o46, none⟩)) w12 (by rw [ho46]; exact exec_index (len := la.length) (cap := c0) he42 (by kernel_rfl) (kd := .i64) k (by kernel_rfl) (by have := h38.ln; omega) 10 U41 L60.s) ?_)
      intro a49 hF50
      refine r_runk 1 [26, 0, 1, 2, 3, 10, 11, 12] [(26, (Value.pointer (some ⟨b39, o46 + 1, none⟩))), (0, (bv 4)), (1, (Value.slice A0 la.length c0)), (2, (Value.slice A1 lb.length c1)), (3, (Value.int .i64 (c))), (10, (Value.slice A16 m18 cp17)), (11, (Value.slice A20 m22 cp21)), (12, (Value.int .i64 ((k : Nat) : Int)))] hF50 (by kernel_rfl) (by kernel_rfl) ?_
      intro a51 hF52
      refine r_at (r_val (d := 27) (op := (Op.load 56 (Operand.tmp 26))) hF52 (by kernel_rfl) (by kernel_rfl) (Value.agg #[(Value.int .i64 (x47.packet.channel)), (uv x47.packet.seq), (uv x47.packet.timeout), (sv x47.packet.denom), (uv x47.packet.amount), (sv x47.packet.src), (sv x47.packet.dst)]) w12 (exec_load L56 (.inl rfl) (by kernel_rfl) (Seg.sub hs43 1 7 [(Value.int .i64 (x47.packet.channel)), (uv x47.packet.seq), (uv x47.packet.timeout), (sv x47.packet.denom), (uv x47.packet.amount), (sv x47.packet.src), (sv x47.packet.dst)] (by kernel_rfl)).cell) ?_)
      intro a53 hF54
      refine r_at (r_new (d := 13) (op := (Op.alloc 56)) hF54 (by kernel_rfl) (by kernel_rfl) s13 [(Value.int .i64 ((0 : Nat) : Int)), (uv 0), (uv 0), (sv []), (uv 0), (sv []), (sv [])] 56 (exec_alloc [(Value.int .i64 ((0 : Nat) : Int)), (uv 0), (uv 0), (sv []), (uv 0), (sv []), (sv [])] (fun _ => .inl (by kernel_rfl))) ?_)
      intro a55 s56 w57 b58 hb59 st60 hB61 hF62
      have hz63 := hS15.size
      have ne64 : ¬ Value.ownBlock (Value.slice A16 m18 cp17) = some b58 := fun e => by have := hO26.lt e; omega
      have ne65 : ¬ Value.ownBlock (Value.slice A20 m22 cp21) = some b58 := fun e => by have := hO27.lt e; omega
      have hS66 := hS15.then st60
      refine r_at (r_store (t := 56) (x := (Operand.tmp 13)) (y := (Operand.tmp 27)) hF62 (by kernel_rfl) (by kernel_rfl) hB61 0 [(Value.int .i64 (x47.packet.channel)), (uv x47.packet.seq), (uv x47.packet.timeout), (sv x47.packet.denom), (uv x47.packet.amount), (sv x47.packet.src), (sv x47.packet.dst)] [(Value.int .i64 (x47.packet.channel)), (uv x47.packet.seq), (uv x47.packet.timeout), (sv x47.packet.denom), (uv x47.packet.amount), (sv x47.packet.src), (sv x47.packet.dst)] (by kernel_rfl) (by kernel_rfl) 7 true L56 rfl (by kernel_rfl) (Nat.le_of_ble_eq_true (by kernel_rfl)) (by kernel_rfl) ?_)
      intro a67 w68 st69 hB70 hF71
      have hS72 := hS66.and st69 (fun b e => by subst e; omega)
      have hF73 := hF71.keep [13, 0, 1, 2, 3, 10, 11, 12] [(13, (Value.pointer (some ⟨b58, 0, none⟩))), (0, (bv 4)), (1, (Value.slice A0 la.length c0)), (2, (Value.slice A1 lb.length c1)), (3, (Value.int .i64 (c))), (10, (Value.slice A16 m18 cp17)), (11, (Value.slice A20 m22 cp21)), (12, (Value.int .i64 ((k : Nat) : Int)))] (by kernel_rfl)
      refine r_end (by kernel_rfl) ?_
      refine c_seq [1, 1, 1, 0, 1, 0, 0, 1, 0, 0, 1, 0] [1, 1, 1, 0, 1, 0, 0, 1, 0, 0, 1, 1] (by kernel_rfl) ?_
      refine c_seq [1, 1, 1, 0, 1, 0, 0, 1, 0, 0, 1, 0, 0] [1, 1, 1, 0, 1, 0, 0, 1, 0, 0, 1, 0, 1] (by kernel_rfl) ?_
      refine c_reg 7 (by kernel_rfl) ?_
      refine r_runk 2 [29, 28, 13, 0, 1, 2, 3, 10, 11, 12] [(29, (Value.int .i64 ((k : Nat) : Int))), (28, (Value.slice A0 la.length c0)), (13, (Value.pointer (some ⟨b58, 0, none⟩))), (0, (bv 4)), (1, (Value.slice A0 la.length c0)), (2, (Value.slice A1 lb.length c1)), (3, (Value.int .i64 (c))), (10, (Value.slice A16 m18 cp17)), (11, (Value.slice A20 m22 cp21)), (12, (Value.int .i64 ((k : Nat) : Int)))] hF73 (by kernel_rfl) (by kernel_rfl) ?_
      intro a74 hF75
      have h76 : Rd tEvent s56 w68 (Value.slice A0 la.length c0) la := ((h38.step st60).step st69)
      have hi83 : k < (la).length := (by have hq := h76.ln; first | omega | (simp only [List.length_append, List.length_cons, List.length_nil, List.length_map] at *; omega))
      obtain ⟨b77, o78, c79, he80, hs81, hr82⟩ := (h76).at k hi83
      obtain ⟨o84, ho84⟩ : ∃ o, o = o78 + k * 10 := ⟨_, rfl⟩
      obtain ⟨x85, hx86⟩ : ∃ x, x = (la[k]'hi83) := ⟨_, rfl⟩
      rw [← hx86] at hr82
      have hr82 : c79 = [(bv x85.kind), (Value.int .i64 (x85.packet.channel)), (uv x85.packet.seq), (uv x85.packet.timeout), (sv x85.packet.denom), (uv x85.packet.amount), (sv x85.packet.src), (sv x85.packet.dst), (Value.bool x85.ack.ok), (Value.int .i64 (x85.ack.code))] := hr82
      subst hr82
      have hs81 : Seg s56 w68 b77 o84 [(bv x85.kind), (Value.int .i64 (x85.packet.channel)), (uv x85.packet.seq), (uv x85.packet.timeout), (sv x85.packet.denom), (uv x85.packet.amount), (sv x85.packet.src), (sv x85.packet.dst), (Value.bool x85.ack.ok), (Value.int .i64 (x85.ack.code))] := by rw [ho84]; exact hs81
      refine r_at (r_val (d := 30) (op := (Op.indexAddr 41 (Operand.tmp 28) (Operand.tmp 29))) hF75 (by kernel_rfl) (by kernel_rfl) (Value.pointer (some ⟨b77, o84, none⟩)) w68 (by rw [ho84]; exact exec_index (len := la.length) (cap := c0) he80 (by kernel_rfl) (kd := .i64) k (by kernel_rfl) (by have := h76.ln; omega) 10 U41 L60.s) ?_)
      intro a87 hF88
      refine r_runk 1 [31, 13, 0, 1, 2, 3, 10, 11, 12] [(31, (Value.pointer (some ⟨b77, o84, none⟩))), (13, (Value.pointer (some ⟨b58, 0, none⟩))), (0, (bv 4)), (1, (Value.slice A0 la.length c0)), (2, (Value.slice A1 lb.length c1)), (3, (Value.int .i64 (c))), (10, (Value.slice A16 m18 cp17)), (11, (Value.slice A20 m22 cp21)), (12, (Value.int .i64 ((k : Nat) : Int)))] hF88 (by kernel_rfl) (by kernel_rfl) ?_
      intro a89 hF90
      refine r_at (r_val (d := 32) (op := (Op.load 47 (Operand.tmp 31))) hF90 (by kernel_rfl) (by kernel_rfl) (bv x85.kind) w68 (exec_load L47 (.inr rfl) (by kernel_rfl) (Seg.sub hs81 0 1 [(bv x85.kind)] (by kernel_rfl)).cell) ?_)
      intro a91 hF92
      refine r_one (d := 33) (v0 := (Value.bool (((x85.kind).toNat : Int) != ((1 : UInt8).toNat : Int)))) (v := (Value.bool (!decide ((x85.kind : UInt8) = 1)))) hF92 (by kernel_rfl) (by kernel_rfl) (congrArg Value.bool (cmp_u8_neq _ _)) ?_
      intro a93 hF94
      refine r_runk 1 [34, 13, 0, 1, 2, 3, 10, 11, 12] [(34, (Value.bool (!decide ((x85.kind : UInt8) = 1)))), (13, (Value.pointer (some ⟨b58, 0, none⟩))), (0, (bv 4)), (1, (Value.slice A0 la.length c0)), (2, (Value.slice A1 lb.length c1)), (3, (Value.int .i64 (c))), (10, (Value.slice A16 m18 cp17)), (11, (Value.slice A20 m22 cp21)), (12, (Value.int .i64 ((k : Nat) : Int)))] hF94 (by kernel_rfl) (by kernel_rfl) ?_
      intro a95 hF96
      rcases Bool.eq_false_or_eq_true (!decide ((x85.kind : UInt8) = 1)) with hg97 | hg97
      · skip
        have hF98 := hF96.set 34 (Value.bool (!decide ((x85.kind : UInt8) = 1))) (Value.bool true) (by kernel_rfl) (congrArg Value.bool hg97)
        refine r_runk 5 [39, 13, 0, 1, 2, 3, 10, 11, 12] [(39, (Value.bool true)), (13, (Value.pointer (some ⟨b58, 0, none⟩))), (0, (bv 4)), (1, (Value.slice A0 la.length c0)), (2, (Value.slice A1 lb.length c1)), (3, (Value.int .i64 (c))), (10, (Value.slice A16 m18 cp17)), (11, (Value.slice A20 m22 cp21)), (12, (Value.int .i64 ((k : Nat) : Int)))] hF98 (by kernel_rfl) (by kernel_rfl) ?_
        intro a99 hF100
        refine r_end (by kernel_rfl) ?_
        refine c_cond_true [1, 1, 1, 0, 1, 0, 0, 1, 0, 0, 1, 0, 1, 0] [1, 1, 1, 0, 1, 0, 0, 1, 0, 0, 1, 0, 1, 1] 39 (by kernel_rfl) hF100 (by kernel_rfl) ?_
        refine c_exit 1 (by kernel_rfl) ?_
        refine c_reg 5 (by kernel_rfl) ?_
        refine r_runk 1 [21, 0, 1, 2, 3, 10, 11] [(21, (Value.int .i64 ((k : Nat) : Int))), (0, (bv 4)), (1, (Value.slice A0 la.length c0)), (2, (Value.slice A1 lb.length c1)), (3, (Value.int .i64 (c))), (10, (Value.slice A16 m18 cp17)), (11, (Value.slice A20 m22 cp21))] hF100 (by kernel_rfl) (by kernel_rfl) ?_
        intro a101 hF102
        refine r_one (d := 22) (v0 := (Value.int .i64 (IntKind.i64.wrap (((k : Nat) : Int) + ((1 : Nat) : Int))))) (v := (Value.int .i64 ((k + 1 : Nat) : Int))) hF102 (by kernel_rfl) (by kernel_rfl) (congrArg (Value.int .i64) (i64_eq (by omega) (by omega) (by omega))) ?_
        intro a103 hF104
        refine r_runk 1 [12, 0, 1, 2, 3, 10, 11] [(12, (Value.int .i64 ((k + 1 : Nat) : Int))), (0, (bv 4)), (1, (Value.slice A0 la.length c0)), (2, (Value.slice A1 lb.length c1)), (3, (Value.int .i64 (c))), (10, (Value.slice A16 m18 cp17)), (11, (Value.slice A20 m22 cp21))] hF104 (by kernel_rfl) (by kernel_rfl) ?_
        intro a105 hF106
        refine r_end (by kernel_rfl) ?_
        have h107 : Own tPacket 56 w.heap.size s56 w68 (Value.slice A16 m18 cp17) ((sentL (la.take (k)) c).filter (takeC 4 la lb)) := ((hO26.step' st60).step st69 (fun g hg e => ne64 (by subst e; exact hg)))
        have h108 : Own tAck 53 w.heap.size s56 w68 (Value.slice A20 m22 cp21) (((sentL (la.take (k)) c).filter (takeC 4 la lb)).map (fun p => toldA (sameL lb p [2]))) := ((hO27.step' st60).step st69 (fun g hg e => ne65 (by subst e; exact hg)))
        have hF109 := hF106.keep [0, 1, 2, 3, 10, 11, 12] [(0, (bv 4)), (1, (Value.slice A0 la.length c0)), (2, (Value.slice A1 lb.length c1)), (3, (Value.int .i64 (c))), (10, (Value.slice A16 m18 cp17)), (11, (Value.slice A20 m22 cp21)), (12, (Value.int .i64 ((k + 1 : Nat) : Int)))] (by kernel_rfl)
        exact ⟨k + 1, ⟨s56, A16, cp17, m18, A20, cp21, m22, hF109, hS72, (h107.cast (by first | rfl | omega | (simp only [List.length_append, List.length_cons, List.length_nil, List.length_map] at *; omega)) (by subst hx48 hx86; exact (carry_skip1 (by omega) (by simpa using hg97)))), (h108.cast (by first | rfl | omega | (simp only [List.length_append, List.length_cons, List.length_nil, List.length_map] at *; omega)) (by subst hx48 hx86; exact (congrArg (List.map (fun p => toldA (sameL lb p [2]))) (carry_skip1 (by omega) (by simpa using hg97))))), (by omega), (fun g hg e => ne24 g hg e)⟩, by omega⟩
      · skip
        have hF110 := hF96.set 34 (Value.bool (!decide ((x85.kind : UInt8) = 1))) (Value.bool false) (by kernel_rfl) (congrArg Value.bool hg97)
        refine r_runk 1 [35, 34, 13, 0, 1, 2, 3, 10, 11, 12] [(35, (Value.pointer (some ⟨b58, 0, none⟩))), (34, (Value.bool false)), (13, (Value.pointer (some ⟨b58, 0, none⟩))), (0, (bv 4)), (1, (Value.slice A0 la.length c0)), (2, (Value.slice A1 lb.length c1)), (3, (Value.int .i64 (c))), (10, (Value.slice A16 m18 cp17)), (11, (Value.slice A20 m22 cp21)), (12, (Value.int .i64 ((k : Nat) : Int)))] hF110 (by kernel_rfl) (by kernel_rfl) ?_
        intro a111 hF112
        refine r_at (r_val (d := 36) (op := (Op.load 3 (Operand.tmp 35))) hF112 (by kernel_rfl) (by kernel_rfl) (Value.int .i64 (x47.packet.channel)) w68 (exec_load L3 (.inr rfl) (by kernel_rfl) (Bx.cells hB70 0 1 [(Value.int .i64 (x47.packet.channel))] (by kernel_rfl))) ?_)
        intro a113 hF114
        refine r_runk 1 [37, 36, 34, 13, 0, 1, 2, 3, 10, 11, 12] [(37, (Value.int .i64 (c))), (36, (Value.int .i64 (x47.packet.channel))), (34, (Value.bool false)), (13, (Value.pointer (some ⟨b58, 0, none⟩))), (0, (bv 4)), (1, (Value.slice A0 la.length c0)), (2, (Value.slice A1 lb.length c1)), (3, (Value.int .i64 (c))), (10, (Value.slice A16 m18 cp17)), (11, (Value.slice A20 m22 cp21)), (12, (Value.int .i64 ((k : Nat) : Int)))] hF114 (by kernel_rfl) (by kernel_rfl) ?_
        intro a115 hF116
        refine r_one (d := 38) (v0 := (Value.bool ((x47.packet.channel : Int) != (c : Int)))) (v := (Value.bool (!decide ((x47.packet.channel : Int) = c)))) hF116 (by kernel_rfl) (by kernel_rfl) (congrArg Value.bool (cmp_int_neq _ _)) ?_
        intro a117 hF118
        refine r_runk 1 [39, 13, 0, 1, 2, 3, 10, 11, 12] [(39, (Value.bool (!decide ((x47.packet.channel : Int) = c)))), (13, (Value.pointer (some ⟨b58, 0, none⟩))), (0, (bv 4)), (1, (Value.slice A0 la.length c0)), (2, (Value.slice A1 lb.length c1)), (3, (Value.int .i64 (c))), (10, (Value.slice A16 m18 cp17)), (11, (Value.slice A20 m22 cp21)), (12, (Value.int .i64 ((k : Nat) : Int)))] hF118 (by kernel_rfl) (by kernel_rfl) ?_
        intro a119 hF120
        refine r_end (by kernel_rfl) ?_
        refine c_cond [1, 1, 1, 0, 1, 0, 0, 1, 0, 0, 1, 0, 1, 0] [1, 1, 1, 0, 1, 0, 0, 1, 0, 0, 1, 0, 1, 1] 39 (by kernel_rfl) hF120 (!decide ((x47.packet.channel : Int) = c)) (by kernel_rfl) (fun hc121 => ?_) (fun hc121 => ?_)
        · skip
          have hc121 : ¬ ((x47.packet.channel : Int) = c) := by simpa using hc121
          refine c_exit 1 (by kernel_rfl) ?_
          refine c_reg 5 (by kernel_rfl) ?_
          refine r_runk 1 [21, 0, 1, 2, 3, 10, 11] [(21, (Value.int .i64 ((k : Nat) : Int))), (0, (bv 4)), (1, (Value.slice A0 la.length c0)), (2, (Value.slice A1 lb.length c1)), (3, (Value.int .i64 (c))), (10, (Value.slice A16 m18 cp17)), (11, (Value.slice A20 m22 cp21))] hF120 (by kernel_rfl) (by kernel_rfl) ?_
          intro a122 hF123
          refine r_one (d := 22) (v0 := (Value.int .i64 (IntKind.i64.wrap (((k : Nat) : Int) + ((1 : Nat) : Int))))) (v := (Value.int .i64 ((k + 1 : Nat) : Int))) hF123 (by kernel_rfl) (by kernel_rfl) (congrArg (Value.int .i64) (i64_eq (by omega) (by omega) (by omega))) ?_
          intro a124 hF125
          refine r_runk 1 [12, 0, 1, 2, 3, 10, 11] [(12, (Value.int .i64 ((k + 1 : Nat) : Int))), (0, (bv 4)), (1, (Value.slice A0 la.length c0)), (2, (Value.slice A1 lb.length c1)), (3, (Value.int .i64 (c))), (10, (Value.slice A16 m18 cp17)), (11, (Value.slice A20 m22 cp21))] hF125 (by kernel_rfl) (by kernel_rfl) ?_
          intro a126 hF127
          refine r_end (by kernel_rfl) ?_
          have h128 : Own tPacket 56 w.heap.size s56 w68 (Value.slice A16 m18 cp17) ((sentL (la.take (k)) c).filter (takeC 4 la lb)) := ((hO26.step' st60).step st69 (fun g hg e => ne64 (by subst e; exact hg)))
          have h129 : Own tAck 53 w.heap.size s56 w68 (Value.slice A20 m22 cp21) (((sentL (la.take (k)) c).filter (takeC 4 la lb)).map (fun p => toldA (sameL lb p [2]))) := ((hO27.step' st60).step st69 (fun g hg e => ne65 (by subst e; exact hg)))
          have hF130 := hF127.keep [0, 1, 2, 3, 10, 11, 12] [(0, (bv 4)), (1, (Value.slice A0 la.length c0)), (2, (Value.slice A1 lb.length c1)), (3, (Value.int .i64 (c))), (10, (Value.slice A16 m18 cp17)), (11, (Value.slice A20 m22 cp21)), (12, (Value.int .i64 ((k + 1 : Nat) : Int)))] (by kernel_rfl)
          exact ⟨k + 1, ⟨s56, A16, cp17, m18, A20, cp21, m22, hF130, hS72, (h128.cast (by first | rfl | omega | (simp only [List.length_append, List.length_cons, List.length_nil, List.length_map] at *; omega)) (by subst hx48 hx86; exact (carry_skip2 (by omega) (by simpa using hc121)))), (h129.cast (by first | rfl | omega | (simp only [List.length_append, List.length_cons, List.length_nil, List.length_map] at *; omega)) (by subst hx48 hx86; exact (congrArg (List.map (fun p => toldA (sameL lb p [2]))) (carry_skip2 (by omega) (by simpa using hc121))))), (by omega), (fun g hg e => ne24 g hg e)⟩, by omega⟩
        · skip
          have hc121 : ((x47.packet.channel : Int) = c) := by simpa using hc121
          refine c_skip (by kernel_rfl) ?_
          refine c_seq [1, 1, 1, 0, 1, 0, 0, 1, 0, 0, 1, 1, 0] [1, 1, 1, 0, 1, 0, 0, 1, 0, 0, 1, 1, 1] (by kernel_rfl) ?_
          refine c_reg 8 (by kernel_rfl) ?_
          refine r_runk 1 [41, 13, 0, 1, 2, 3, 10, 11, 12] [(41, (Value.slice A1 lb.length c1)), (13, (Value.pointer (some ⟨b58, 0, none⟩))), (0, (bv 4)), (1, (Value.slice A0 la.length c0)), (2, (Value.slice A1 lb.length c1)), (3, (Value.int .i64 (c))), (10, (Value.slice A16 m18 cp17)), (11, (Value.slice A20 m22 cp21)), (12, (Value.int .i64 ((k : Nat) : Int)))] hF120 (by kernel_rfl) (by kernel_rfl) ?_
          intro a131 hF132
          refine r_at (r_val (d := 42) (op := (Op.load 56 (Operand.tmp 13))) hF132 (by kernel_rfl) (by kernel_rfl) (Value.agg #[(Value.int .i64 (x47.packet.channel)), (uv x47.packet.seq), (uv x47.packet.timeout), (sv x47.packet.denom), (uv x47.packet.amount), (sv x47.packet.src), (sv x47.packet.dst)]) w68 (exec_load L56 (.inl rfl) (by kernel_rfl) (Bx.cells hB70 0 7 [(Value.int .i64 (x47.packet.channel)), (uv x47.packet.seq), (uv x47.packet.timeout), (sv x47.packet.denom), (uv x47.packet.amount), (sv x47.packet.src), (sv x47.packet.dst)] (by kernel_rfl))) ?_)
          intro a133 hF134
          have h135 : Rd tEvent s56 w68 (Value.slice A1 lb.length c1) lb := h1.step hS72
          have h136 : Own tPacket 56 w.heap.size s56 w68 (Value.slice A16 m18 cp17) ((sentL (la.take (k)) c).filter (takeC 4 la lb)) := ((hO26.step' st60).step st69 (fun g hg e => ne64 (by subst e; exact hg)))
          have h137 : Own tAck 53 w.heap.size s56 w68 (Value.slice A20 m22 cp21) (((sentL (la.take (k)) c).filter (takeC 4 la lb)).map (fun p => toldA (sameL lb p [2]))) := ((hO27.step' st60).step st69 (fun g hg e => ne65 (by subst e; exact hg)))
          refine r_at (r_call (d := (some 43)) (f := 35) (args := #[(Operand.tmp 41), (Operand.const (Value.int IntKind.u8 2)), (Operand.tmp 42)]) (tys := #[41, 47, 56]) hF134 (by kernel_rfl) (by kernel_rfl) C35 [(Value.slice A1 lb.length c1), (bv 2), (Value.agg #[(Value.int .i64 (x47.packet.channel)), (uv x47.packet.seq), (uv x47.packet.timeout), (sv x47.packet.denom), (uv x47.packet.amount), (sv x47.packet.src), (sv x47.packet.dst)])] (by kernel_rfl) (told_calls s56 w68 h135 2 x47.packet) ?_)
          intro a138 s139 w140 v141 st142 hP143 hF144
          have hz145 := hS72.size
          have hS146 := hS72.then st142
          subst hP143
          refine r_runk 3 [45, 44, 13, 0, 1, 2, 3, 10, 11, 12] [(45, (Value.bool ((sameL lb x47.packet [2]).isSome))), (44, (Value.agg #[(Value.bool ((toldA (sameL lb x47.packet [2])).ok)), (Value.int .i64 ((toldA (sameL lb x47.packet [2])).code))])), (13, (Value.pointer (some ⟨b58, 0, none⟩))), (0, (bv 4)), (1, (Value.slice A0 la.length c0)), (2, (Value.slice A1 lb.length c1)), (3, (Value.int .i64 (c))), (10, (Value.slice A16 m18 cp17)), (11, (Value.slice A20 m22 cp21)), (12, (Value.int .i64 ((k : Nat) : Int)))] hF144 (by kernel_rfl) (by kernel_rfl) ?_
          intro a147 hF148
          have h149 : Own tPacket 56 w.heap.size s139 w140 (Value.slice A16 m18 cp17) ((sentL (la.take (k)) c).filter (takeC 4 la lb)) := (h136.step' st142)
          have h150 : Own tAck 53 w.heap.size s139 w140 (Value.slice A20 m22 cp21) (((sentL (la.take (k)) c).filter (takeC 4 la lb)).map (fun p => toldA (sameL lb p [2]))) := (h137.step' st142)
          have h151 : Bx s139 w140 b58 [(Value.int .i64 (x47.packet.channel)), (uv x47.packet.seq), (uv x47.packet.timeout), (sv x47.packet.denom), (uv x47.packet.amount), (sv x47.packet.src), (sv x47.packet.dst)] 56 := (hB70.step' st142)
          refine r_at (r_new (d := 14) (op := (Op.alloc 53)) hF148 (by kernel_rfl) (by kernel_rfl) s139 [(Value.bool false), (Value.int .i64 ((0 : Nat) : Int))] 53 (exec_alloc [(Value.bool false), (Value.int .i64 ((0 : Nat) : Int))] (fun _ => .inl (by kernel_rfl))) ?_)
          intro a152 s153 w154 b155 hb156 st157 hB158 hF159
          have hz160 := hS146.size
          have ne161 : ¬ Value.ownBlock (Value.slice A16 m18 cp17) = some b155 := fun e => by have := h149.lt e; omega
          have ne162 : ¬ Value.ownBlock (Value.slice A20 m22 cp21) = some b155 := fun e => by have := h150.lt e; omega
          have ne163 : b58 < b155 := by have := h151.lt; omega
          have hS164 := hS146.then st157
          refine r_at (r_store (t := 53) (x := (Operand.tmp 14)) (y := (Operand.tmp 44)) hF159 (by kernel_rfl) (by kernel_rfl) hB158 0 [(Value.bool ((toldA (sameL lb x47.packet [2])).ok)), (Value.int .i64 ((toldA (sameL lb x47.packet [2])).code))] [(Value.bool ((toldA (sameL lb x47.packet [2])).ok)), (Value.int .i64 ((toldA (sameL lb x47.packet [2])).code))] (by kernel_rfl) (by kernel_rfl) 2 true L53 rfl (by kernel_rfl) (Nat.le_of_ble_eq_true (by kernel_rfl)) (by kernel_rfl) ?_)
          intro a165 w166 st167 hB168 hF169
          have hS170 := hS164.and st167 (fun b e => by subst e; omega)
          refine r_runk 1 [15, 14, 13, 0, 1, 2, 3, 10, 11, 12] [(15, (Value.bool ((sameL lb x47.packet [2]).isSome))), (14, (Value.pointer (some ⟨b155, 0, none⟩))), (13, (Value.pointer (some ⟨b58, 0, none⟩))), (0, (bv 4)), (1, (Value.slice A0 la.length c0)), (2, (Value.slice A1 lb.length c1)), (3, (Value.int .i64 (c))), (10, (Value.slice A16 m18 cp17)), (11, (Value.slice A20 m22 cp21)), (12, (Value.int .i64 ((k : Nat) : Int)))] hF169 (by kernel_rfl) (by kernel_rfl) ?_
          intro a171 hF172
          refine r_end (by kernel_rfl) ?_
          refine c_seq [1, 1, 1, 0, 1, 0, 0, 1, 0, 0, 1, 1, 1, 0] [1, 1, 1, 0, 1, 0, 0, 1, 0, 0, 1, 1, 1, 1] (by kernel_rfl) ?_
          refine c_reg 9 (by kernel_rfl) ?_
          refine r_runk 24 [69, 68, 65, 14, 13, 0, 1, 2, 3, 10, 11, 12] [(69, (Value.pointer (some ⟨b58, 2, none⟩))), (68, (Value.bool true)), (65, (Value.bool false)), (14, (Value.pointer (some ⟨b155, 0, none⟩))), (13, (Value.pointer (some ⟨b58, 0, none⟩))), (0, (bv 4)), (1, (Value.slice A0 la.length c0)), (2, (Value.slice A1 lb.length c1)), (3, (Value.int .i64 (c))), (10, (Value.slice A16 m18 cp17)), (11, (Value.slice A20 m22 cp21)), (12, (Value.int .i64 ((k : Nat) : Int)))] hF172 (by kernel_rfl) (by kernel_rfl) ?_
          intro a173 hF174
          have h175 : Bx s153 w166 b58 [(Value.int .i64 (x47.packet.channel)), (uv x47.packet.seq), (uv x47.packet.timeout), (sv x47.packet.denom), (uv x47.packet.amount), (sv x47.packet.src), (sv x47.packet.dst)] 56 := ((h151.step' st157).step st167 (fun e => absurd e (by omega)))
          refine r_at (r_val (d := 70) (op := (Op.load 22 (Operand.tmp 69))) hF174 (by kernel_rfl) (by kernel_rfl) (uv x47.packet.timeout) w166 (exec_load L22 (.inr rfl) (by kernel_rfl) (Bx.cells h175 2 1 [(uv x47.packet.timeout)] (by kernel_rfl))) ?_)
          intro a176 hF177
          refine r_one (d := 71) (v0 := (Value.bool (((x47.packet.timeout).toNat : Int) != ((0 : UInt64).toNat : Int)))) (v := (Value.bool (!decide ((x47.packet.timeout : UInt64) = 0)))) hF177 (by kernel_rfl) (by kernel_rfl) (congrArg Value.bool (cmp_u64_neq _ _)) ?_
          intro a178 hF179
          refine r_runk 2 [73, 65, 14, 13, 0, 1, 2, 3, 10, 11, 12] [(73, (Value.bool (!decide ((x47.packet.timeout : UInt64) = 0)))), (65, (Value.bool false)), (14, (Value.pointer (some ⟨b155, 0, none⟩))), (13, (Value.pointer (some ⟨b58, 0, none⟩))), (0, (bv 4)), (1, (Value.slice A0 la.length c0)), (2, (Value.slice A1 lb.length c1)), (3, (Value.int .i64 (c))), (10, (Value.slice A16 m18 cp17)), (11, (Value.slice A20 m22 cp21)), (12, (Value.int .i64 ((k : Nat) : Int)))] hF179 (by kernel_rfl) (by kernel_rfl) ?_
          intro a180 hF181
          rcases Bool.eq_false_or_eq_true (!decide ((x47.packet.timeout : UInt64) = 0)) with hg182 | hg182
          · skip
            have hF183 := hF181.set 73 (Value.bool (!decide ((x47.packet.timeout : UInt64) = 0))) (Value.bool true) (by kernel_rfl) (congrArg Value.bool hg182)
            refine r_runk 1 [74, 73, 65, 14, 13, 0, 1, 2, 3, 10, 11, 12] [(74, (Value.slice A0 la.length c0)), (73, (Value.bool true)), (65, (Value.bool false)), (14, (Value.pointer (some ⟨b155, 0, none⟩))), (13, (Value.pointer (some ⟨b58, 0, none⟩))), (0, (bv 4)), (1, (Value.slice A0 la.length c0)), (2, (Value.slice A1 lb.length c1)), (3, (Value.int .i64 (c))), (10, (Value.slice A16 m18 cp17)), (11, (Value.slice A20 m22 cp21)), (12, (Value.int .i64 ((k : Nat) : Int)))] hF183 (by kernel_rfl) (by kernel_rfl) ?_
            intro a184 hF185
            refine r_at (r_val (d := 75) (op := (Op.load 56 (Operand.tmp 13))) hF185 (by kernel_rfl) (by kernel_rfl) (Value.agg #[(Value.int .i64 (x47.packet.channel)), (uv x47.packet.seq), (uv x47.packet.timeout), (sv x47.packet.denom), (uv x47.packet.amount), (sv x47.packet.src), (sv x47.packet.dst)]) w166 (exec_load L56 (.inl rfl) (by kernel_rfl) (Bx.cells h175 0 7 [(Value.int .i64 (x47.packet.channel)), (uv x47.packet.seq), (uv x47.packet.timeout), (sv x47.packet.denom), (uv x47.packet.amount), (sv x47.packet.src), (sv x47.packet.dst)] (by kernel_rfl))) ?_)
            intro a186 hF187
            have h188 : Rd tEvent s153 w166 (Value.slice A0 la.length c0) la := (((h76.step st142).step st157).step st167)
            have h189 : Own tPacket 56 w.heap.size s153 w166 (Value.slice A16 m18 cp17) ((sentL (la.take (k)) c).filter (takeC 4 la lb)) := ((h149.step' st157).step st167 (fun g hg e => ne161 (by subst e; exact hg)))
            have h190 : Own tAck 53 w.heap.size s153 w166 (Value.slice A20 m22 cp21) (((sentL (la.take (k)) c).filter (takeC 4 la lb)).map (fun p => toldA (sameL lb p [2]))) := ((h150.step' st157).step st167 (fun g hg e => ne162 (by subst e; exact hg)))
            refine r_at (r_call (d := (some 76)) (f := 36) (args := #[(Operand.tmp 74), (Operand.tmp 75)]) (tys := #[41, 56]) hF187 (by kernel_rfl) (by kernel_rfl) C36 [(Value.slice A0 la.length c0), (Value.agg #[(Value.int .i64 (x47.packet.channel)), (uv x47.packet.seq), (uv x47.packet.timeout), (sv x47.packet.denom), (uv x47.packet.amount), (sv x47.packet.src), (sv x47.packet.dst)])] (by kernel_rfl) (over_calls s153 w166 h188 x47.packet) ?_)
            intro a191 s192 w193 v194 st195 hP196 hF197
            have hz198 := hS170.size
            have hS199 := hS170.then st195
            subst hP196
            refine r_runk 4 [16, 14, 13, 0, 1, 2, 3, 10, 11, 12] [(16, (Value.bool (!(overL la x47.packet)))), (14, (Value.pointer (some ⟨b155, 0, none⟩))), (13, (Value.pointer (some ⟨b58, 0, none⟩))), (0, (bv 4)), (1, (Value.slice A0 la.length c0)), (2, (Value.slice A1 lb.length c1)), (3, (Value.int .i64 (c))), (10, (Value.slice A16 m18 cp17)), (11, (Value.slice A20 m22 cp21)), (12, (Value.int .i64 ((k : Nat) : Int)))] hF197 (by kernel_rfl) (by kernel_rfl) ?_
            intro a200 hF201
            refine r_end (by kernel_rfl) ?_
            refine c_seq [1, 1, 1, 0, 1, 0, 0, 1, 0, 0, 1, 1, 1, 1, 0] [1, 1, 1, 0, 1, 0, 0, 1, 0, 0, 1, 1, 1, 1, 1] (by kernel_rfl) ?_
            refine c_reg 10 (by kernel_rfl) ?_
            refine r_runk 1 [80, 14, 13, 0, 1, 2, 3, 10, 11, 12] [(80, (Value.bool (!(overL la x47.packet)))), (14, (Value.pointer (some ⟨b155, 0, none⟩))), (13, (Value.pointer (some ⟨b58, 0, none⟩))), (0, (bv 4)), (1, (Value.slice A0 la.length c0)), (2, (Value.slice A1 lb.length c1)), (3, (Value.int .i64 (c))), (10, (Value.slice A16 m18 cp17)), (11, (Value.slice A20 m22 cp21)), (12, (Value.int .i64 ((k : Nat) : Int)))] hF201 (by kernel_rfl) (by kernel_rfl) ?_
            intro a202 hF203
            refine r_end (by kernel_rfl) ?_
            refine c_cond [1, 1, 1, 0, 1, 0, 0, 1, 0, 0, 1, 1, 1, 1, 1, 0] [1, 1, 1, 0, 1, 0, 0, 1, 0, 0, 1, 1, 1, 1, 1, 1] 80 (by kernel_rfl) hF203 (!(overL la x47.packet)) (by kernel_rfl) (fun hc204 => ?_) (fun hc204 => ?_)
            · skip
              refine c_seq [1, 1, 1, 0, 1, 0, 0, 1, 0, 0, 1, 1, 1, 1, 1, 0, 0] [1, 1, 1, 0, 1, 0, 0, 1, 0, 0, 1, 1, 1, 1, 1, 0, 1] (by kernel_rfl) ?_
              refine c_reg 11 (by kernel_rfl) ?_
              refine r_runk 1 [81, 14, 13, 0, 1, 2, 3, 11, 12] [(81, (Value.slice A16 m18 cp17)), (14, (Value.pointer (some ⟨b155, 0, none⟩))), (13, (Value.pointer (some ⟨b58, 0, none⟩))), (0, (bv 4)), (1, (Value.slice A0 la.length c0)), (2, (Value.slice A1 lb.length c1)), (3, (Value.int .i64 (c))), (11, (Value.slice A20 m22 cp21)), (12, (Value.int .i64 ((k : Nat) : Int)))] hF203 (by kernel_rfl) (by kernel_rfl) ?_
              intro a205 hF206
              have h207 : Bx s192 w193 b58 [(Value.int .i64 (x47.packet.channel)), (uv x47.packet.seq), (uv x47.packet.timeout), (sv x47.packet.denom), (uv x47.packet.amount), (sv x47.packet.src), (sv x47.packet.dst)] 56 := (h175.step' st195)
              refine r_at (r_val (d := 82) (op := (Op.load 56 (Operand.tmp 13))) hF206 (by kernel_rfl) (by kernel_rfl) (Value.agg #[(Value.int .i64 (x47.packet.channel)), (uv x47.packet.seq), (uv x47.packet.timeout), (sv x47.packet.denom), (uv x47.packet.amount), (sv x47.packet.src), (sv x47.packet.dst)]) w193 (exec_load L56 (.inl rfl) (by kernel_rfl) (Bx.cells h207 0 7 [(Value.int .i64 (x47.packet.channel)), (uv x47.packet.seq), (uv x47.packet.timeout), (sv x47.packet.denom), (uv x47.packet.amount), (sv x47.packet.src), (sv x47.packet.dst)] (by kernel_rfl))) ?_)
              intro a208 hF209
              have h210 : Own tPacket 56 w.heap.size s192 w193 (Value.slice A16 m18 cp17) ((sentL (la.take (k)) c).filter (takeC 4 la lb)) := (h189.step' st195)
              have h211 : Own tAck 53 w.heap.size s192 w193 (Value.slice A20 m22 cp21) (((sentL (la.take (k)) c).filter (takeC 4 la lb)).map (fun p => toldA (sameL lb p [2]))) := (h190.step' st195)
              have h212 : Bx s192 w193 b155 [(Value.bool ((toldA (sameL lb x47.packet [2])).ok)), (Value.int .i64 ((toldA (sameL lb x47.packet [2])).code))] 53 := (hB168.step' st195)
              refine r_at (r_lit tPacket (d := 83) (t := 43) (m := 1) (parts := #[(0, (Operand.tmp 82))]) hF209 (by kernel_rfl) (by kernel_rfl) s192 [x47.packet] [(Value.int .i64 (x47.packet.channel)), (uv x47.packet.seq), (uv x47.packet.timeout), (sv x47.packet.denom), (uv x47.packet.amount), (sv x47.packet.src), (sv x47.packet.dst)] ⟨_, _, rfl, rfl, rfl⟩ rfl (by decide) (e := 56) (fun o e => by simp only [execOp, e]; kernel_rfl) (by decide) ?_)
              intro a213 s214 w215 g216 hg217 st218 hO219 hF220
              have hz221 := hS199.size
              have hS222 := hS199.then st218
              have hO223 : Own tPacket 56 w.heap.size s214 w215 (Value.slice (some ⟨g216, 0, none⟩) 1 1) [x47.packet] := (hO219.le (by omega : w.heap.size ≤ _))
              have ne225 : ∀ g, Value.ownBlock (Value.slice A16 m18 cp17) = some g → ¬ Value.ownBlock (Value.slice (some ⟨g216, 0, none⟩) 1 1) = some g := fun g hg e => by have h1 := hO219.ge e; have h2 := h210.lt hg; omega
              have ne226 : ∀ g, Value.ownBlock (Value.slice A20 m22 cp21) = some g → ¬ Value.ownBlock (Value.slice (some ⟨g216, 0, none⟩) 1 1) = some g := fun g hg e => by have h1 := hO219.ge e; have h2 := h211.lt hg; omega
              have ne227 : ¬ Value.ownBlock (Value.slice (some ⟨g216, 0, none⟩) 1 1) = some b58 := fun e => by have h1 := hO219.ge e; have h2 := h207.lt; omega
              have ne228 : ¬ Value.ownBlock (Value.slice (some ⟨g216, 0, none⟩) 1 1) = some b155 := fun e => by have h1 := hO219.ge e; have h2 := h212.lt; omega
              have h229 : Own tPacket 56 w.heap.size s214 w215 (Value.slice A16 m18 cp17) ((sentL (la.take (k)) c).filter (takeC 4 la lb)) := (h210.step' st218)
              have h230 : Bx s214 w215 b58 [(Value.int .i64 (x47.packet.channel)), (uv x47.packet.seq), (uv x47.packet.timeout), (sv x47.packet.denom), (uv x47.packet.amount), (sv x47.packet.src), (sv x47.packet.dst)] 56 := (h207.step' st218)
              have h231 : Bx s214 w215 b155 [(Value.bool ((toldA (sameL lb x47.packet [2])).ok)), (Value.int .i64 ((toldA (sameL lb x47.packet [2])).code))] 53 := (h212.step' st218)
              have h232 : Own tAck 53 w.heap.size s214 w215 (Value.slice A20 m22 cp21) (((sentL (la.take (k)) c).filter (takeC 4 la lb)).map (fun p => toldA (sameL lb p [2]))) := (h211.step' st218)
              have hz242 := hS222.size
              have hb241 : ((sentL (la.take (k)) c).filter (takeC 4 la lb)).length + ([x47.packet] : List _).length ≤ 1000000 := (by have h9 := carry_len (f := (takeC 4 la lb)) la c k; simp only [List.length_map, List.length_cons, List.length_nil] at *; omega)
              refine r_at (r_append tPacket S43 (d := 84) (x := (Operand.tmp 81)) (y := (Operand.tmp 83)) hF220 (by kernel_rfl) (by kernel_rfl) (by kernel_rfl) (by kernel_rfl) h229 hO223.rd (app_small hb241 (by decide)) (by omega) hz242 ?_)
              intro a233 s234 w235 v236 st237 hO238 hn239 hF240
              obtain ⟨A245, m248, c246, rfl, hl247⟩ := hO238.formL
              have hS249 := hS222.and st237 (fun b e => h229.ge e)
              have ne251 : ¬ Value.ownBlock (Value.slice A245 m248 c246) = some b58 := fun e => ne64 (hn239 _ h230.lt e)
              have ne252 : ¬ Value.ownBlock (Value.slice A245 m248 c246) = some b155 := fun e => ne161 (hn239 _ h231.lt e)
              have ne253 : ∀ g, Value.ownBlock (Value.slice A20 m22 cp21) = some g → ¬ Value.ownBlock (Value.slice A245 m248 c246) = some g := fun g hg e => ne24 g (hn239 _ (h232.lt hg) e) hg
              refine r_runk 1 [10, 14, 0, 1, 2, 3, 11, 12] [(10, (Value.slice A245 m248 c246)), (14, (Value.pointer (some ⟨b155, 0, none⟩))), (0, (bv 4)), (1, (Value.slice A0 la.length c0)), (2, (Value.slice A1 lb.length c1)), (3, (Value.int .i64 (c))), (11, (Value.slice A20 m22 cp21)), (12, (Value.int .i64 ((k : Nat) : Int)))] hF240 (by kernel_rfl) (by kernel_rfl) ?_
              intro a254 hF255
              refine r_end (by kernel_rfl) ?_
              refine c_reg 12 (by kernel_rfl) ?_
              refine r_runk 1 [85, 10, 14, 0, 1, 2, 3, 12] [(85, (Value.slice A20 m22 cp21)), (10, (Value.slice A245 m248 c246)), (14, (Value.pointer (some ⟨b155, 0, none⟩))), (0, (bv 4)), (1, (Value.slice A0 la.length c0)), (2, (Value.slice A1 lb.length c1)), (3, (Value.int .i64 (c))), (12, (Value.int .i64 ((k : Nat) : Int)))] hF255 (by kernel_rfl) (by kernel_rfl) ?_
              intro a256 hF257
              have h258 : Bx s234 w235 b155 [(Value.bool ((toldA (sameL lb x47.packet [2])).ok)), (Value.int .i64 ((toldA (sameL lb x47.packet [2])).code))] 53 := (h231.step st237 (fun e => ne161 e))
              refine r_at (r_val (d := 86) (op := (Op.load 53 (Operand.tmp 14))) hF257 (by kernel_rfl) (by kernel_rfl) (Value.agg #[(Value.bool ((toldA (sameL lb x47.packet [2])).ok)), (Value.int .i64 ((toldA (sameL lb x47.packet [2])).code))]) w235 (exec_load L53 (.inl rfl) (by kernel_rfl) (Bx.cells h258 0 2 [(Value.bool ((toldA (sameL lb x47.packet [2])).ok)), (Value.int .i64 ((toldA (sameL lb x47.packet [2])).code))] (by kernel_rfl))) ?_)
              intro a259 hF260
              have h261 : Own tAck 53 w.heap.size s234 w235 (Value.slice A20 m22 cp21) (((sentL (la.take (k)) c).filter (takeC 4 la lb)).map (fun p => toldA (sameL lb p [2]))) := (h232.step st237 (fun g hg e => ne24 g e hg))
              have h262 : Bx s234 w235 b58 [(Value.int .i64 (x47.packet.channel)), (uv x47.packet.seq), (uv x47.packet.timeout), (sv x47.packet.denom), (uv x47.packet.amount), (sv x47.packet.src), (sv x47.packet.dst)] 56 := (h230.step st237 (fun e => ne64 e))
              refine r_at (r_lit tAck (d := 87) (t := 44) (m := 1) (parts := #[(0, (Operand.tmp 86))]) hF260 (by kernel_rfl) (by kernel_rfl) s234 [(toldA (sameL lb x47.packet [2]))] [(Value.bool ((toldA (sameL lb x47.packet [2])).ok)), (Value.int .i64 ((toldA (sameL lb x47.packet [2])).code))] ⟨_, _, rfl, rfl, rfl⟩ rfl (by decide) (e := 53) (fun o e => by simp only [execOp, e]; kernel_rfl) (by decide) ?_)
              intro a263 s264 w265 g266 hg267 st268 hO269 hF270
              have hz271 := hS249.size
              have hS272 := hS249.then st268
              have hO273 : Own tAck 53 w.heap.size s264 w265 (Value.slice (some ⟨g266, 0, none⟩) 1 1) [(toldA (sameL lb x47.packet [2]))] := (hO269.le (by omega : w.heap.size ≤ _))
              have ne275 : ∀ g, Value.ownBlock (Value.slice A20 m22 cp21) = some g → ¬ Value.ownBlock (Value.slice (some ⟨g266, 0, none⟩) 1 1) = some g := fun g hg e => by have h1 := hO269.ge e; have h2 := h261.lt hg; omega
              have ne276 : ¬ Value.ownBlock (Value.slice (some ⟨g266, 0, none⟩) 1 1) = some b58 := fun e => by have h1 := hO269.ge e; have h2 := h262.lt; omega
              have ne277 : ¬ Value.ownBlock (Value.slice (some ⟨g266, 0, none⟩) 1 1) = some b155 := fun e => by have h1 := hO269.ge e; have h2 := h258.lt; omega
              have ne278 : ∀ g, Value.ownBlock (Value.slice A245 m248 c246) = some g → ¬ Value.ownBlock (Value.slice (some ⟨g266, 0, none⟩) 1 1) = some g := fun g hg e => by have h1 := hO269.ge e; have h2 := hO238.lt hg; omega
              have h279 : Own tAck 53 w.heap.size s264 w265 (Value.slice A20 m22 cp21) (((sentL (la.take (k)) c).filter (takeC 4 la lb)).map (fun p => toldA (sameL lb p [2]))) := (h261.step' st268)
              have h280 : Bx s264 w265 b58 [(Value.int .i64 (x47.packet.channel)), (uv x47.packet.seq), (uv x47.packet.timeout), (sv x47.packet.denom), (uv x47.packet.amount), (sv x47.packet.src), (sv x47.packet.dst)] 56 := (h262.step' st268)
              have h281 : Bx s264 w265 b155 [(Value.bool ((toldA (sameL lb x47.packet [2])).ok)), (Value.int .i64 ((toldA (sameL lb x47.packet [2])).code))] 53 := (h258.step' st268)
              have h282 : Own tPacket 56 w.heap.size s264 w265 (Value.slice A245 m248 c246) (((sentL (la.take (k)) c).filter (takeC 4 la lb)) ++ [x47.packet]) := (hO238.step' st268)
              have hz292 := hS272.size
              have hb291 : (((sentL (la.take (k)) c).filter (takeC 4 la lb)).map (fun p => toldA (sameL lb p [2]))).length + ([(toldA (sameL lb x47.packet [2]))] : List _).length ≤ 1000000 := (by have h9 := carry_len (f := (takeC 4 la lb)) la c k; simp only [List.length_map, List.length_cons, List.length_nil] at *; omega)
              refine r_at (r_append tAck S44 (d := 88) (x := (Operand.tmp 85)) (y := (Operand.tmp 87)) hF270 (by kernel_rfl) (by kernel_rfl) (by kernel_rfl) (by kernel_rfl) h279 hO273.rd (app_small hb291 (by decide)) (by omega) hz292 ?_)
              intro a283 s284 w285 v286 st287 hO288 hn289 hF290
              obtain ⟨A295, m298, c296, rfl, hl297⟩ := hO288.formL
              have hS299 := hS272.and st287 (fun b e => h279.ge e)
              have ne301 : ¬ Value.ownBlock (Value.slice A295 m298 c296) = some b58 := fun e => ne65 (hn289 _ h280.lt e)
              have ne302 : ¬ Value.ownBlock (Value.slice A295 m298 c296) = some b155 := fun e => ne162 (hn289 _ h281.lt e)
              have ne303 : ∀ g, Value.ownBlock (Value.slice A245 m248 c246) = some g → ¬ Value.ownBlock (Value.slice A295 m298 c296) = some g := fun g hg e => ne253 g (hn289 _ (h282.lt hg) e) hg
              refine r_runk 1 [11, 10, 0, 1, 2, 3, 12] [(11, (Value.slice A295 m298 c296)), (10, (Value.slice A245 m248 c246)), (0, (bv 4)), (1, (Value.slice A0 la.length c0)), (2, (Value.slice A1 lb.length c1)), (3, (Value.int .i64 (c))), (12, (Value.int .i64 ((k : Nat) : Int)))] hF290 (by kernel_rfl) (by kernel_rfl) ?_
              intro a304 hF305
              refine r_end (by kernel_rfl) ?_
              refine c_reg 5 (by kernel_rfl) ?_
              refine r_runk 1 [21, 11, 10, 0, 1, 2, 3] [(21, (Value.int .i64 ((k : Nat) : Int))), (11, (Value.slice A295 m298 c296)), (10, (Value.slice A245 m248 c246)), (0, (bv 4)), (1, (Value.slice A0 la.length c0)), (2, (Value.slice A1 lb.length c1)), (3, (Value.int .i64 (c)))] hF305 (by kernel_rfl) (by kernel_rfl) ?_
              intro a306 hF307
              refine r_one (d := 22) (v0 := (Value.int .i64 (IntKind.i64.wrap (((k : Nat) : Int) + ((1 : Nat) : Int))))) (v := (Value.int .i64 ((k + 1 : Nat) : Int))) hF307 (by kernel_rfl) (by kernel_rfl) (congrArg (Value.int .i64) (i64_eq (by omega) (by omega) (by omega))) ?_
              intro a308 hF309
              refine r_runk 1 [12, 11, 10, 0, 1, 2, 3] [(12, (Value.int .i64 ((k + 1 : Nat) : Int))), (11, (Value.slice A295 m298 c296)), (10, (Value.slice A245 m248 c246)), (0, (bv 4)), (1, (Value.slice A0 la.length c0)), (2, (Value.slice A1 lb.length c1)), (3, (Value.int .i64 (c)))] hF309 (by kernel_rfl) (by kernel_rfl) ?_
              intro a310 hF311
              refine r_end (by kernel_rfl) ?_
              have h312 : Own tPacket 56 w.heap.size s284 w285 (Value.slice A245 m248 c246) (((sentL (la.take (k)) c).filter (takeC 4 la lb)) ++ [x47.packet]) := (h282.step st287 (fun g hg e => ne253 g e hg))
              have hF313 := hF311.keep [0, 1, 2, 3, 10, 11, 12] [(0, (bv 4)), (1, (Value.slice A0 la.length c0)), (2, (Value.slice A1 lb.length c1)), (3, (Value.int .i64 (c))), (10, (Value.slice A245 m248 c246)), (11, (Value.slice A295 m298 c296)), (12, (Value.int .i64 ((k + 1 : Nat) : Int)))] (by kernel_rfl)
              exact ⟨k + 1, ⟨s284, A245, c246, m248, A295, c296, m298, hF313, hS299, (h312.cast (by first | rfl | omega | (simp only [List.length_append, List.length_cons, List.length_nil, List.length_map] at *; omega)) (by subst hx48 hx86; exact (carry_yes (by omega) (by simpa using hg97) (by simpa using hc121) (by unfold takeC; simp_all)))), (hO288.cast (by first | rfl | omega | (simp only [List.length_append, List.length_cons, List.length_nil, List.length_map] at *; omega)) (by subst hx48 hx86; exact (carryA_yes (f := (takeC 4 la lb)) (g := (fun p => toldA (sameL lb p [2]))) (by omega) (by simpa using hg97) (by simpa using hc121) (by unfold takeC; simp_all)))), (by omega), (fun g hg e => ne303 g hg e)⟩, by omega⟩
            · skip
              refine c_skip (by kernel_rfl) ?_
              refine c_reg 5 (by kernel_rfl) ?_
              refine r_runk 1 [21, 0, 1, 2, 3, 10, 11] [(21, (Value.int .i64 ((k : Nat) : Int))), (0, (bv 4)), (1, (Value.slice A0 la.length c0)), (2, (Value.slice A1 lb.length c1)), (3, (Value.int .i64 (c))), (10, (Value.slice A16 m18 cp17)), (11, (Value.slice A20 m22 cp21))] hF203 (by kernel_rfl) (by kernel_rfl) ?_
              intro a314 hF315
              refine r_one (d := 22) (v0 := (Value.int .i64 (IntKind.i64.wrap (((k : Nat) : Int) + ((1 : Nat) : Int))))) (v := (Value.int .i64 ((k + 1 : Nat) : Int))) hF315 (by kernel_rfl) (by kernel_rfl) (congrArg (Value.int .i64) (i64_eq (by omega) (by omega) (by omega))) ?_
              intro a316 hF317
              refine r_runk 1 [12, 0, 1, 2, 3, 10, 11] [(12, (Value.int .i64 ((k + 1 : Nat) : Int))), (0, (bv 4)), (1, (Value.slice A0 la.length c0)), (2, (Value.slice A1 lb.length c1)), (3, (Value.int .i64 (c))), (10, (Value.slice A16 m18 cp17)), (11, (Value.slice A20 m22 cp21))] hF317 (by kernel_rfl) (by kernel_rfl) ?_
              intro a318 hF319
              refine r_end (by kernel_rfl) ?_
              have h320 : Own tPacket 56 w.heap.size s192 w193 (Value.slice A16 m18 cp17) ((sentL (la.take (k)) c).filter (takeC 4 la lb)) := (h189.step' st195)
              have h321 : Own tAck 53 w.heap.size s192 w193 (Value.slice A20 m22 cp21) (((sentL (la.take (k)) c).filter (takeC 4 la lb)).map (fun p => toldA (sameL lb p [2]))) := (h190.step' st195)
              have hF322 := hF319.keep [0, 1, 2, 3, 10, 11, 12] [(0, (bv 4)), (1, (Value.slice A0 la.length c0)), (2, (Value.slice A1 lb.length c1)), (3, (Value.int .i64 (c))), (10, (Value.slice A16 m18 cp17)), (11, (Value.slice A20 m22 cp21)), (12, (Value.int .i64 ((k + 1 : Nat) : Int)))] (by kernel_rfl)
              exact ⟨k + 1, ⟨s192, A16, cp17, m18, A20, cp21, m22, hF322, hS199, (h320.cast (by first | rfl | omega | (simp only [List.length_append, List.length_cons, List.length_nil, List.length_map] at *; omega)) (by subst hx48 hx86; exact (carry_no (by omega) (by simpa using hg97) (by simpa using hc121) (by unfold takeC; simp_all)))), (h321.cast (by first | rfl | omega | (simp only [List.length_append, List.length_cons, List.length_nil, List.length_map] at *; omega)) (by subst hx48 hx86; exact (congrArg (List.map (fun p => toldA (sameL lb p [2]))) (carry_no (by omega) (by simpa using hg97) (by simpa using hc121) (by unfold takeC; simp_all))))), (by omega), (fun g hg e => ne24 g hg e)⟩, by omega⟩
          · skip
            have hF323 := hF181.set 73 (Value.bool (!decide ((x47.packet.timeout : UInt64) = 0))) (Value.bool false) (by kernel_rfl) (congrArg Value.bool hg182)
            refine r_runk 7 [16, 14, 13, 0, 1, 2, 3, 10, 11, 12] [(16, (Value.bool false)), (14, (Value.pointer (some ⟨b155, 0, none⟩))), (13, (Value.pointer (some ⟨b58, 0, none⟩))), (0, (bv 4)), (1, (Value.slice A0 la.length c0)), (2, (Value.slice A1 lb.length c1)), (3, (Value.int .i64 (c))), (10, (Value.slice A16 m18 cp17)), (11, (Value.slice A20 m22 cp21)), (12, (Value.int .i64 ((k : Nat) : Int)))] hF323 (by kernel_rfl) (by kernel_rfl) ?_
            intro a324 hF325
            refine r_end (by kernel_rfl) ?_
            refine c_seq [1, 1, 1, 0, 1, 0, 0, 1, 0, 0, 1, 1, 1, 1, 0] [1, 1, 1, 0, 1, 0, 0, 1, 0, 0, 1, 1, 1, 1, 1] (by kernel_rfl) ?_
            refine c_reg 10 (by kernel_rfl) ?_
            refine r_runk 1 [80, 14, 13, 0, 1, 2, 3, 10, 11, 12] [(80, (Value.bool false)), (14, (Value.pointer (some ⟨b155, 0, none⟩))), (13, (Value.pointer (some ⟨b58, 0, none⟩))), (0, (bv 4)), (1, (Value.slice A0 la.length c0)), (2, (Value.slice A1 lb.length c1)), (3, (Value.int .i64 (c))), (10, (Value.slice A16 m18 cp17)), (11, (Value.slice A20 m22 cp21)), (12, (Value.int .i64 ((k : Nat) : Int)))] hF325 (by kernel_rfl) (by kernel_rfl) ?_
            intro a326 hF327
            refine r_end (by kernel_rfl) ?_
            refine c_cond_false [1, 1, 1, 0, 1, 0, 0, 1, 0, 0, 1, 1, 1, 1, 1, 0] [1, 1, 1, 0, 1, 0, 0, 1, 0, 0, 1, 1, 1, 1, 1, 1] 80 (by kernel_rfl) hF327 (by kernel_rfl) ?_
            refine c_skip (by kernel_rfl) ?_
            refine c_reg 5 (by kernel_rfl) ?_
            refine r_runk 1 [21, 0, 1, 2, 3, 10, 11] [(21, (Value.int .i64 ((k : Nat) : Int))), (0, (bv 4)), (1, (Value.slice A0 la.length c0)), (2, (Value.slice A1 lb.length c1)), (3, (Value.int .i64 (c))), (10, (Value.slice A16 m18 cp17)), (11, (Value.slice A20 m22 cp21))] hF327 (by kernel_rfl) (by kernel_rfl) ?_
            intro a328 hF329
            refine r_one (d := 22) (v0 := (Value.int .i64 (IntKind.i64.wrap (((k : Nat) : Int) + ((1 : Nat) : Int))))) (v := (Value.int .i64 ((k + 1 : Nat) : Int))) hF329 (by kernel_rfl) (by kernel_rfl) (congrArg (Value.int .i64) (i64_eq (by omega) (by omega) (by omega))) ?_
            intro a330 hF331
            refine r_runk 1 [12, 0, 1, 2, 3, 10, 11] [(12, (Value.int .i64 ((k + 1 : Nat) : Int))), (0, (bv 4)), (1, (Value.slice A0 la.length c0)), (2, (Value.slice A1 lb.length c1)), (3, (Value.int .i64 (c))), (10, (Value.slice A16 m18 cp17)), (11, (Value.slice A20 m22 cp21))] hF331 (by kernel_rfl) (by kernel_rfl) ?_
            intro a332 hF333
            refine r_end (by kernel_rfl) ?_
            have h334 : Own tPacket 56 w.heap.size s153 w166 (Value.slice A16 m18 cp17) ((sentL (la.take (k)) c).filter (takeC 4 la lb)) := ((h149.step' st157).step st167 (fun g hg e => ne161 (by subst e; exact hg)))
            have h335 : Own tAck 53 w.heap.size s153 w166 (Value.slice A20 m22 cp21) (((sentL (la.take (k)) c).filter (takeC 4 la lb)).map (fun p => toldA (sameL lb p [2]))) := ((h150.step' st157).step st167 (fun g hg e => ne162 (by subst e; exact hg)))
            have hF336 := hF333.keep [0, 1, 2, 3, 10, 11, 12] [(0, (bv 4)), (1, (Value.slice A0 la.length c0)), (2, (Value.slice A1 lb.length c1)), (3, (Value.int .i64 (c))), (10, (Value.slice A16 m18 cp17)), (11, (Value.slice A20 m22 cp21)), (12, (Value.int .i64 ((k + 1 : Nat) : Int)))] (by kernel_rfl)
            exact ⟨k + 1, ⟨s153, A16, cp17, m18, A20, cp21, m22, hF336, hS170, (h334.cast (by first | rfl | omega | (simp only [List.length_append, List.length_cons, List.length_nil, List.length_map] at *; omega)) (by subst hx48 hx86; exact (carry_no (by omega) (by simpa using hg97) (by simpa using hc121) (by unfold takeC; simp_all)))), (h335.cast (by first | rfl | omega | (simp only [List.length_append, List.length_cons, List.length_nil, List.length_map] at *; omega)) (by subst hx48 hx86; exact (congrArg (List.map (fun p => toldA (sameL lb p [2]))) (carry_no (by omega) (by simpa using hg97) (by simpa using hc121) (by unfold takeC; simp_all))))), (by omega), (fun g hg e => ne24 g hg e)⟩, by omega⟩
    · skip
      have hc35 := of_decide_eq_false hc35
      refine c_exit 0 (by kernel_rfl) ?_
      refine c_seq [1, 1, 1, 1, 0] [1, 1, 1, 1, 1] (by kernel_rfl) ?_
      refine c_reg 13 (by kernel_rfl) ?_
      refine r_runk 4 [9, 8] [(9, (Value.slice A20 m22 cp21)), (8, (Value.slice A16 m18 cp17))] hF34 (by kernel_rfl) (by kernel_rfl) ?_
      intro a337 hF338
      refine r_end (by kernel_rfl) ?_
      refine c_ret (by kernel_rfl) ?_
      try dsimp only [Exit.then, Exit.inBlock]
      refine f_ret2 hF338 8 9 (by kernel_rfl) (Value.slice A16 m18 cp17) (Value.slice A20 m22 cp21) (by kernel_rfl) (by kernel_rfl) s13 hS15 ?_
      have hk8 : k = la.length := by omega
      subst hk8
      have e1 := hO26
      have e2 := hO27
      rw [List.take_length] at e1 e2
      exact ⟨_, _, rfl, e1, e2⟩
end Go.Proofs.Ytaoamokfbhlaaaa.E
