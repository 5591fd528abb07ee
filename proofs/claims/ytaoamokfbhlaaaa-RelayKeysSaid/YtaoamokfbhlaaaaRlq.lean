/- Walks, printed by a program of this session. -/
import Derived.Test.YtaoamokfbhlaaaaK
import Derived.Test.Ytaoamokfbhlaaaapure21d
import Derived.Test.YtaoamokfbhlaaaaKn
import Derived.Test.YtaoamokfbhlaaaaRk
set_option linter.unusedVariables false
set_option linter.unusedSimpArgs false
set_option maxRecDepth 100000
namespace Go.Proofs.Ytaoamokfbhlaaaa.E
open Go Go.RowKit
open Go.Proofs
theorem place_calls (σ : Nat → Nat) (w : World) (n : UInt64) :
    Ctr Try.prog 42 [(uv n)] noM σ w (fun σ' w' v => v = .tuple #[uv ((n - 1) / 64), iv (IntKind.i64.wrap (((n - 1) % 64).toNat : Int))]) := by
  refine ctr_enter Try.func42 c42 (by kernel_rfl) 11 (by kernel_rfl) (Nat.le_of_ble_eq_true (by kernel_rfl)) [(0, (uv n))] (by kernel_rfl) ?_
  intro a hF1
  have hS2 := Stp.refl noM σ w
  refine c_seq [0] [1] (by kernel_rfl) ?_
  refine c_reg 0 (by kernel_rfl) ?_
  refine r_runk 2 [0] [(0, (uv n))] hF1 (by kernel_rfl) (by kernel_rfl) ?_
  intro a3 hF4
  refine r_end (by kernel_rfl) ?_
  refine c_seq [1, 0] [1, 1] (by kernel_rfl) ?_
  refine c_reg 1 (by kernel_rfl) ?_
  refine r_runk 1 [4, 0] [(4, (uv n)), (0, (uv n))] hF4 (by kernel_rfl) (by kernel_rfl) ?_
  intro a5 hF6
  refine r_one (d := 5) (v0 := (Value.int .u64 (IntKind.u64.wrap (((n).toNat : Int) - ((1 : UInt64).toNat : Int))))) (v := (uv (n - 1))) hF6 (by kernel_rfl) (by kernel_rfl) (congrArg (Value.int .u64) (u64_sub _ _)) ?_
  intro a7 hF8
  refine r_one (d := 6) (v0 := (Value.int .u64 (IntKind.u64.wrap (Int.tdiv ((n - 1).toNat : Int) ((64 : UInt64).toNat : Int))))) (v := (uv ((n - 1) / 64))) hF8 (by kernel_rfl) (by kernel_rfl) (congrArg (Value.int .u64) (u64_quo (n - 1) 64 (by decide))) ?_
  intro a9 hF10
  refine r_runk 1 [7, 6] [(7, (uv n)), (6, (uv ((n - 1) / 64)))] hF10 (by kernel_rfl) (by kernel_rfl) ?_
  intro a11 hF12
  refine r_one (d := 8) (v0 := (Value.int .u64 (IntKind.u64.wrap (((n).toNat : Int) - ((1 : UInt64).toNat : Int))))) (v := (uv (n - 1))) hF12 (by kernel_rfl) (by kernel_rfl) (congrArg (Value.int .u64) (u64_sub _ _)) ?_
  intro a13 hF14
  refine r_one (d := 9) (v0 := (Value.int .u64 (Int.tmod ((n - 1).toNat : Int) ((64 : UInt64).toNat : Int)))) (v := (uv ((n - 1) % 64))) hF14 (by kernel_rfl) (by kernel_rfl) (congrArg (Value.int .u64) (u64_rem (n - 1) 64 (by decide))) ?_
  intro a15 hF16
  refine r_runk 3 [3, 2] [(3, (Value.int .i64 (IntKind.i64.wrap (((n - 1) % 64).toNat : Int)))), (2, (uv ((n - 1) / 64)))] hF16 (by kernel_rfl) (by kernel_rfl) ?_
  intro a17 hF18
  refine r_end (by kernel_rfl) ?_
  refine c_ret (by kernel_rfl) ?_
  try dsimp only [Exit.then, Exit.inBlock]
  refine f_ret2 hF18 2 3 (by kernel_rfl) (uv ((n - 1) / 64)) (Value.int .i64 (IntKind.i64.wrap (((n - 1) % 64).toNat : Int))) (by kernel_rfl) (by kernel_rfl) σ hS2 ?_
  rfl
theorem relKeys_calls (σ : Nat → Nat) (w : World) (kd : UInt8) {v0 : Value} {la : List Packet} (h0 : Rd tPacket σ w v0 la) (hla : la.length ≤ 1000) (o : Bool) :
    Ctr Try.prog 33 [(bv kd), v0, (Value.bool o)] noM σ w (fun σ' w' v => Own (tSl tU8) 27 w.heap.size σ' w' v (keysL kd o la)) := by
  obtain ⟨A0, c0, rfl, hlA0⟩ := h0.form
  have hbdA0 : la.length ≤ 140737488355328 := by have h := h0.bd; have e : tPacket.by_ = 80 := rfl; rw [e] at h; omega
  refine ctr_enter Try.func33 c33 (by kernel_rfl) 63 (by kernel_rfl) (Nat.le_of_ble_eq_true (by kernel_rfl)) [(0, (bv kd)), (1, (Value.slice A0 la.length c0)), (2, (Value.bool o))] (by kernel_rfl) ?_
  intro a hF1
  have hS2 := Stp.refl noM σ w
  refine c_seq [0] [1] (by kernel_rfl) ?_
  refine c_reg 0 (by kernel_rfl) ?_
  refine r_runk 1 [0, 1, 2] [(0, (bv kd)), (1, (Value.slice A0 la.length c0)), (2, (Value.bool o))] hF1 (by kernel_rfl) (by kernel_rfl) ?_
  intro a3 hF4
  refine r_end (by kernel_rfl) ?_
  refine c_seq [1, 0] [1, 1] (by kernel_rfl) ?_
  refine c_reg 1 (by kernel_rfl) ?_
  refine r_runk 1 [7, 0, 1, 2] [(7, (Value.slice none 0 0)), (0, (bv kd)), (1, (Value.slice A0 la.length c0)), (2, (Value.bool o))] hF4 (by kernel_rfl) (by kernel_rfl) ?_
  intro a5 hF6
  refine r_end (by kernel_rfl) ?_
  refine c_seq [1, 1, 0] [1, 1, 1] (by kernel_rfl) ?_
  refine c_seq [1, 1, 0, 0] [1, 1, 0, 1] (by kernel_rfl) ?_
  refine c_reg 2 (by kernel_rfl) ?_
  refine r_runk 3 [14, 13, 12, 7, 0, 2] [(14, (Value.int .i64 ((0 : Nat) : Int))), (13, (Value.int .i64 ((la.length : Nat) : Int))), (12, (Value.slice A0 la.length c0)), (7, (Value.slice none 0 0)), (0, (bv kd)), (2, (Value.bool o))] hF6 (by kernel_rfl) (by kernel_rfl) ?_
  intro a7 hF8
  refine r_end (by kernel_rfl) ?_
  refine c_block [1, 1, 0, 1, 0] 0 (by kernel_rfl) ?_
  refine c_loop [1, 1, 0, 1, 0, 0] (by kernel_rfl) (fun (k : Nat) a9 w10 => ∃ (s11 : Nat → Nat) (A14 : Option Addr) (cp15 : Nat) (m16 : Nat), Fr a9 63 [(0, (bv kd)), (2, (Value.bool o)), (7, (Value.slice A14 m16 cp15)), (12, (Value.slice A0 la.length c0)), (13, (Value.int .i64 ((la.length : Nat) : Int))), (14, (Value.int .i64 ((k : Nat) : Int)))] ∧ Stp noM σ w s11 w10 ∧ Own (tSl tU8) 27 w.heap.size s11 w10 (Value.slice A14 m16 cp15) (keysL kd o (la.take (k))) ∧ k ≤ la.length) (fun k => la.length - k) 0 ?_ ?_
  · skip
    have hF18 := hF8.keep [0, 2, 7, 12, 13, 14] [(0, (bv kd)), (2, (Value.bool o)), (7, (Value.slice none 0 0)), (12, (Value.slice A0 la.length c0)), (13, (Value.int .i64 ((la.length : Nat) : Int))), (14, (Value.int .i64 ((0 : Nat) : Int)))] (by kernel_rfl)
    exact ⟨σ, none, 0, 0, hF18, hS2, (Own.nil _ _ _ _ _), (by omega)⟩
  · rintro k a9 w10 ⟨s11, A14, cp15, m16, hF12, hS13, hO19, hk⟩
    have hln20 := hO19.ln
    refine c_seq [1, 1, 0, 1, 0, 0, 0] [1, 1, 0, 1, 0, 0, 1] (by kernel_rfl) ?_
    refine c_reg 3 (by kernel_rfl) ?_
    refine r_one (d := 15) (v0 := (Value.bool (decide (((k : Nat) : Int) < ((la.length : Nat) : Int))))) (v := (Value.bool (decide ((k : Nat) < la.length)))) hF12 (by kernel_rfl) (by kernel_rfl) (congrArg Value.bool (cmp_nat_lss _ _)) ?_
    intro a21 hF22
    refine r_end (by kernel_rfl) ?_
    refine c_seq [1, 1, 0, 1, 0, 0, 1, 0] [1, 1, 0, 1, 0, 0, 1, 1] (by kernel_rfl) ?_
    refine c_cond [1, 1, 0, 1, 0, 0, 1, 0, 0] [1, 1, 0, 1, 0, 0, 1, 0, 1] 15 (by kernel_rfl) hF22 (decide ((k : Nat) < la.length)) (by kernel_rfl) (fun hc23 => ?_) (fun hc23 => ?_)
    · skip
      have hc23 := of_decide_eq_true hc23
      refine c_skip (by kernel_rfl) ?_
      refine c_seq [1, 1, 0, 1, 0, 0, 1, 1, 0] [1, 1, 0, 1, 0, 0, 1, 1, 1] (by kernel_rfl) ?_
      refine c_block [1, 1, 0, 1, 0, 0, 1, 1, 0, 0] 1 (by kernel_rfl) ?_
      refine c_seq [1, 1, 0, 1, 0, 0, 1, 1, 0, 0, 0] [1, 1, 0, 1, 0, 0, 1, 1, 0, 0, 1] (by kernel_rfl) ?_
      refine c_reg 4 (by kernel_rfl) ?_
      have h24 : Rd tPacket s11 w10 (Value.slice A0 la.length c0) la := h0.step hS13
      have hi31 : k < (la).length := (by have hq := h24.ln; first | omega | (simp only [List.length_append, List.length_cons, List.length_nil, List.length_map] at *; omega))
      obtain ⟨b25, o26, c27, he28, hs29, hr30⟩ := (h24).at k hi31
      obtain ⟨o32, ho32⟩ : ∃ o, o = o26 + k * 7 := ⟨_, rfl⟩
      obtain ⟨x33, hx34⟩ : ∃ x, x = (la[k]'hi31) := ⟨_, rfl⟩
      rw [← hx34] at hr30
      have hr30 : c27 = [(Value.int .i64 (x33.channel)), (uv x33.seq), (uv x33.timeout), (sv x33.denom), (uv x33.amount), (sv x33.src), (sv x33.dst)] := hr30
      subst hr30
      have hs29 : Seg s11 w10 b25 o32 [(Value.int .i64 (x33.channel)), (uv x33.seq), (uv x33.timeout), (sv x33.denom), (uv x33.amount), (sv x33.src), (sv x33.dst)] := by rw [ho32]; exact hs29
      refine r_at (r_val (d := 16) (op := (Op.indexAddr 43 (Operand.tmp 12) (Operand.tmp 14))) hF22 (by kernel_rfl) (by kernel_rfl) (Value.pointer (some ⟨b25, o32, none⟩)) w10 (by rw [ho32]; exact exec_index (len := la.length) (cap := c0) he28 (by kernel_rfl) (kd := .i64) k (by kernel_rfl) (by have := h24.ln; omega) 7 U43 L56.s) ?_)
      intro a35 hF36
      refine r_at (r_val (d := 17) (op := (Op.load 56 (Operand.tmp 16))) hF36 (by kernel_rfl) (by kernel_rfl) (Value.agg #[(Value.int .i64 (x33.channel)), (uv x33.seq), (uv x33.timeout), (sv x33.denom), (uv x33.amount), (sv x33.src), (sv x33.dst)]) w10 (exec_load L56 (.inl rfl) (by kernel_rfl) hs29.cell) ?_)
      intro a37 hF38
      refine r_at (r_new (d := 9) (op := (Op.alloc 56)) hF38 (by kernel_rfl) (by kernel_rfl) s11 [(Value.int .i64 ((0 : Nat) : Int)), (uv 0), (uv 0), (sv []), (uv 0), (sv []), (sv [])] 56 (exec_alloc [(Value.int .i64 ((0 : Nat) : Int)), (uv 0), (uv 0), (sv []), (uv 0), (sv []), (sv [])] (fun _ => .inl (by kernel_rfl))) ?_)
      intro a39 s40 w41 b42 hb43 st44 hB45 hF46
      have hz47 := hS13.size
      have ne48 : ¬ Value.ownBlock (Value.slice A14 m16 cp15) = some b42 := fun e => by have := hO19.lt e; omega
      have hS49 := hS13.then st44
      refine r_at (r_store (t := 56) (x := (Operand.tmp 9)) (y := (Operand.tmp 17)) hF46 (by kernel_rfl) (by kernel_rfl) hB45 0 [(Value.int .i64 (x33.channel)), (uv x33.seq), (uv x33.timeout), (sv x33.denom), (uv x33.amount), (sv x33.src), (sv x33.dst)] [(Value.int .i64 (x33.channel)), (uv x33.seq), (uv x33.timeout), (sv x33.denom), (uv x33.amount), (sv x33.src), (sv x33.dst)] (by kernel_rfl) (by kernel_rfl) 7 true L56 rfl (by kernel_rfl) (Nat.le_of_ble_eq_true (by kernel_rfl)) (by kernel_rfl) ?_)
      intro a50 w51 st52 hB53 hF54
      have hS55 := hS49.and st52 (fun b e => by subst e; omega)
      have hF56 := hF54.keep [9, 0, 2, 7, 12, 13, 14] [(9, (Value.pointer (some ⟨b42, 0, none⟩))), (0, (bv kd)), (2, (Value.bool o)), (7, (Value.slice A14 m16 cp15)), (12, (Value.slice A0 la.length c0)), (13, (Value.int .i64 ((la.length : Nat) : Int))), (14, (Value.int .i64 ((k : Nat) : Int)))] (by kernel_rfl)
      refine r_end (by kernel_rfl) ?_
      refine c_seq [1, 1, 0, 1, 0, 0, 1, 1, 0, 0, 1, 0] [1, 1, 0, 1, 0, 0, 1, 1, 0, 0, 1, 1] (by kernel_rfl) ?_
      refine c_reg 5 (by kernel_rfl) ?_
      refine r_runk 1 [18, 9, 0, 2, 7, 12, 13, 14] [(18, (bv kd)), (9, (Value.pointer (some ⟨b42, 0, none⟩))), (0, (bv kd)), (2, (Value.bool o)), (7, (Value.slice A14 m16 cp15)), (12, (Value.slice A0 la.length c0)), (13, (Value.int .i64 ((la.length : Nat) : Int))), (14, (Value.int .i64 ((k : Nat) : Int)))] hF56 (by kernel_rfl) (by kernel_rfl) ?_
      intro a57 hF58
      refine r_end (by kernel_rfl) ?_
      refine c_block [1, 1, 0, 1, 0, 0, 1, 1, 0, 0, 1, 1, 0] 2 (by kernel_rfl) ?_
      refine c_seq [1, 1, 0, 1, 0, 0, 1, 1, 0, 0, 1, 1, 0, 0] [1, 1, 0, 1, 0, 0, 1, 1, 0, 0, 1, 1, 0, 1] (by kernel_rfl) ?_
      refine c_reg 6 (by kernel_rfl) ?_
      refine r_one (d := 20) (v0 := (Value.bool (((kd).toNat : Int) == ((2 : UInt8).toNat : Int)))) (v := (Value.bool (decide ((kd : UInt8) = 2)))) hF58 (by kernel_rfl) (by kernel_rfl) (congrArg Value.bool (cmp_u8_eql _ _)) ?_
      intro a59 hF60
      refine r_runk 1 [19, 18, 9, 0, 2, 7, 12, 13, 14] [(19, (Value.bool (decide ((kd : UInt8) = 2)))), (18, (bv kd)), (9, (Value.pointer (some ⟨b42, 0, none⟩))), (0, (bv kd)), (2, (Value.bool o)), (7, (Value.slice A14 m16 cp15)), (12, (Value.slice A0 la.length c0)), (13, (Value.int .i64 ((la.length : Nat) : Int))), (14, (Value.int .i64 ((k : Nat) : Int)))] hF60 (by kernel_rfl) (by kernel_rfl) ?_
      intro a61 hF62
      refine r_end (by kernel_rfl) ?_
      refine c_cond [1, 1, 0, 1, 0, 0, 1, 1, 0, 0, 1, 1, 0, 1, 0] [1, 1, 0, 1, 0, 0, 1, 1, 0, 0, 1, 1, 0, 1, 1] 19 (by kernel_rfl) hF62 (decide ((kd : UInt8) = 2)) (by kernel_rfl) (fun hc63 => ?_) (fun hc63 => ?_)
      · skip
        have hc63 := of_decide_eq_true hc63
        refine c_reg 7 (by kernel_rfl) ?_
        refine r_runk 2 [22, 21, 9, 0, 2, 12, 13, 14] [(22, (Value.pointer (some ⟨b42, 0, none⟩))), (21, (Value.slice A14 m16 cp15)), (9, (Value.pointer (some ⟨b42, 0, none⟩))), (0, (bv kd)), (2, (Value.bool o)), (12, (Value.slice A0 la.length c0)), (13, (Value.int .i64 ((la.length : Nat) : Int))), (14, (Value.int .i64 ((k : Nat) : Int)))] hF62 (by kernel_rfl) (by kernel_rfl) ?_
        intro a64 hF65
        refine r_at (r_val (d := 23) (op := (Op.load 3 (Operand.tmp 22))) hF65 (by kernel_rfl) (by kernel_rfl) (Value.int .i64 (x33.channel)) w51 (exec_load L3 (.inr rfl) (by kernel_rfl) (Bx.cells hB53 0 1 [(Value.int .i64 (x33.channel))] (by kernel_rfl))) ?_)
        intro a66 hF67
        refine r_runk 1 [24, 23, 21, 0, 2, 12, 13, 14] [(24, (Value.pointer (some ⟨b42, 1, none⟩))), (23, (Value.int .i64 (x33.channel))), (21, (Value.slice A14 m16 cp15)), (0, (bv kd)), (2, (Value.bool o)), (12, (Value.slice A0 la.length c0)), (13, (Value.int .i64 ((la.length : Nat) : Int))), (14, (Value.int .i64 ((k : Nat) : Int)))] hF67 (by kernel_rfl) (by kernel_rfl) ?_
        intro a68 hF69
        refine r_at (r_val (d := 25) (op := (Op.load 22 (Operand.tmp 24))) hF69 (by kernel_rfl) (by kernel_rfl) (uv x33.seq) w51 (exec_load L22 (.inr rfl) (by kernel_rfl) (Bx.cells hB53 1 1 [(uv x33.seq)] (by kernel_rfl))) ?_)
        intro a70 hF71
        have h72 : Own (tSl tU8) 27 w.heap.size s40 w51 (Value.slice A14 m16 cp15) (keysL kd o (la.take (k))) := ((hO19.step' st44).step st52 (fun g hg e => ne48 (by subst e; exact hg)))
        refine r_at (r_call (d := (some 26)) (f := 11) (args := #[(Operand.tmp 23), (Operand.tmp 25)]) (tys := #[3, 22]) hF71 (by kernel_rfl) (by kernel_rfl) C11 [(Value.int .i64 (x33.channel)), (uv x33.seq)] (by kernel_rfl) (commit_calls s40 w51 (x33.channel : Int) x33.seq) ?_)
        intro a73 s74 w75 v76 st77 hP78 hF79
        have hz80 := hS55.size
        have hS81 := hS55.then st77
        obtain ⟨A82, m85, c83, rfl, hl84⟩ := hP78.formL
        have hO86 : Own tU8 5 w.heap.size s74 w75 (Value.slice A82 m85 c83) (ofL 99 (x33.channel : Int) [x33.seq]) := hP78.le (by omega)
        have ne88 : ∀ g, Value.ownBlock (Value.slice A14 m16 cp15) = some g → ¬ Value.ownBlock (Value.slice A82 m85 c83) = some g := fun g hg e => by have h1 := hP78.ge e; have h2 := h72.lt hg; omega
        have ne89 : ¬ Value.ownBlock (Value.slice A82 m85 c83) = some b42 := fun e => by have h1 := hP78.ge e; have h2 := hB53.lt; omega
        have h90 : Own (tSl tU8) 27 w.heap.size s74 w75 (Value.slice A14 m16 cp15) (keysL kd o (la.take (k))) := (h72.step' st77)
        have h91 : Bx s74 w75 b42 [(Value.int .i64 (x33.channel)), (uv x33.seq), (uv x33.timeout), (sv x33.denom), (uv x33.amount), (sv x33.src), (sv x33.dst)] 56 := (hB53.step' st77)
        refine r_at (r_lit (tSl tU8) (d := 27) (t := 29) (m := 1) (parts := #[(0, (Operand.tmp 26))]) hF79 (by kernel_rfl) (by kernel_rfl) s74 [ofL 99 (x33.channel : Int) [x33.seq]] [(Value.slice A82 m85 c83)] ⟨_, _, rfl, ⟨_, rfl, hO86.rd⟩, rfl⟩ rfl (by decide) (e := 27) (fun o e => by simp only [execOp, e]; kernel_rfl) (by decide) ?_)
        intro a92 s93 w94 g95 hg96 st97 hO98 hF99
        have hz100 := hS81.size
        have hS101 := hS81.then st97
        have hO102 : Own (tSl tU8) 27 w.heap.size s93 w94 (Value.slice (some ⟨g95, 0, none⟩) 1 1) [ofL 99 (x33.channel : Int) [x33.seq]] := (hO98.le (by omega : w.heap.size ≤ _))
        have ne104 : ∀ g, Value.ownBlock (Value.slice A14 m16 cp15) = some g → ¬ Value.ownBlock (Value.slice (some ⟨g95, 0, none⟩) 1 1) = some g := fun g hg e => by have h1 := hO98.ge e; have h2 := h90.lt hg; omega
        have ne105 : ¬ Value.ownBlock (Value.slice (some ⟨g95, 0, none⟩) 1 1) = some b42 := fun e => by have h1 := hO98.ge e; have h2 := h91.lt; omega
        have h106 : Own (tSl tU8) 27 w.heap.size s93 w94 (Value.slice A14 m16 cp15) (keysL kd o (la.take (k))) := (h90.step' st97)
        have h107 : Bx s93 w94 b42 [(Value.int .i64 (x33.channel)), (uv x33.seq), (uv x33.timeout), (sv x33.denom), (uv x33.amount), (sv x33.src), (sv x33.dst)] 56 := (h91.step' st97)
        have hz117 := hS101.size
        have hb116 : (keysL kd o (la.take (k))).length + ([ofL 99 (x33.channel : Int) [x33.seq]] : List _).length ≤ 1000000 := (by have h9 := keysL_lenk kd o la k; simp only [List.length_cons, List.length_nil] at *; omega)
        refine r_at (r_append (tSl tU8) S29 (d := 28) (x := (Operand.tmp 21)) (y := (Operand.tmp 27)) hF99 (by kernel_rfl) (by kernel_rfl) (by kernel_rfl) (by kernel_rfl) h106 hO102.rd (app_small hb116 (by decide)) (by omega) hz117 ?_)
        intro a108 s109 w110 v111 st112 hO113 hn114 hF115
        obtain ⟨A120, m123, c121, rfl, hl122⟩ := hO113.formL
        have hS124 := hS101.and st112 (fun b e => h106.ge e)
        have ne126 : ¬ Value.ownBlock (Value.slice A120 m123 c121) = some b42 := fun e => ne48 (hn114 _ h107.lt e)
        refine r_runk 1 [7, 0, 2, 12, 13, 14] [(7, (Value.slice A120 m123 c121)), (0, (bv kd)), (2, (Value.bool o)), (12, (Value.slice A0 la.length c0)), (13, (Value.int .i64 ((la.length : Nat) : Int))), (14, (Value.int .i64 ((k : Nat) : Int)))] hF115 (by kernel_rfl) (by kernel_rfl) ?_
        intro a127 hF128
        refine r_end (by kernel_rfl) ?_
        refine c_reg 15 (by kernel_rfl) ?_
        refine r_one (d := 61) (v0 := (Value.int .i64 (IntKind.i64.wrap (((k : Nat) : Int) + ((1 : Nat) : Int))))) (v := (Value.int .i64 ((k + 1 : Nat) : Int))) hF128 (by kernel_rfl) (by kernel_rfl) (congrArg (Value.int .i64) (i64_eq (by omega) (by omega) (by omega))) ?_
        intro a129 hF130
        refine r_runk 1 [14, 7, 0, 2, 12, 13] [(14, (Value.int .i64 ((k + 1 : Nat) : Int))), (7, (Value.slice A120 m123 c121)), (0, (bv kd)), (2, (Value.bool o)), (12, (Value.slice A0 la.length c0)), (13, (Value.int .i64 ((la.length : Nat) : Int)))] hF130 (by kernel_rfl) (by kernel_rfl) ?_
        intro a131 hF132
        refine r_end (by kernel_rfl) ?_
        have hF133 := hF132.keep [0, 2, 7, 12, 13, 14] [(0, (bv kd)), (2, (Value.bool o)), (7, (Value.slice A120 m123 c121)), (12, (Value.slice A0 la.length c0)), (13, (Value.int .i64 ((la.length : Nat) : Int))), (14, (Value.int .i64 ((k + 1 : Nat) : Int)))] (by kernel_rfl)
        exact ⟨k + 1, ⟨s109, A120, c121, m123, hF133, hS124, (hO113.cast (by first | rfl | omega | (simp only [List.length_append, List.length_cons, List.length_nil, List.length_map] at *; omega)) (by subst hx34; exact (keysL_some (by omega) (by unfold keyL; simp [hc63])))), (by omega)⟩, by omega⟩
      · skip
        have hc63 := of_decide_eq_false hc63
        refine c_seq [1, 1, 0, 1, 0, 0, 1, 1, 0, 0, 1, 1, 0, 1, 1, 0] [1, 1, 0, 1, 0, 0, 1, 1, 0, 0, 1, 1, 0, 1, 1, 1] (by kernel_rfl) ?_
        refine c_reg 8 (by kernel_rfl) ?_
        refine r_one (d := 30) (v0 := (Value.bool (((kd).toNat : Int) == ((3 : UInt8).toNat : Int)))) (v := (Value.bool (decide ((kd : UInt8) = 3)))) hF62 (by kernel_rfl) (by kernel_rfl) (congrArg Value.bool (cmp_u8_eql _ _)) ?_
        intro a134 hF135
        refine r_runk 1 [29, 18, 9, 0, 2, 7, 12, 13, 14] [(29, (Value.bool (decide ((kd : UInt8) = 3)))), (18, (bv kd)), (9, (Value.pointer (some ⟨b42, 0, none⟩))), (0, (bv kd)), (2, (Value.bool o)), (7, (Value.slice A14 m16 cp15)), (12, (Value.slice A0 la.length c0)), (13, (Value.int .i64 ((la.length : Nat) : Int))), (14, (Value.int .i64 ((k : Nat) : Int)))] hF135 (by kernel_rfl) (by kernel_rfl) ?_
        intro a136 hF137
        refine r_end (by kernel_rfl) ?_
        refine c_cond [1, 1, 0, 1, 0, 0, 1, 1, 0, 0, 1, 1, 0, 1, 1, 1, 0] [1, 1, 0, 1, 0, 0, 1, 1, 0, 0, 1, 1, 0, 1, 1, 1, 1] 29 (by kernel_rfl) hF137 (decide ((kd : UInt8) = 3)) (by kernel_rfl) (fun hc138 => ?_) (fun hc138 => ?_)
        · skip
          have hc138 := of_decide_eq_true hc138
          refine c_reg 9 (by kernel_rfl) ?_
          refine r_runk 2 [32, 31, 9, 0, 2, 12, 13, 14] [(32, (Value.pointer (some ⟨b42, 0, none⟩))), (31, (Value.slice A14 m16 cp15)), (9, (Value.pointer (some ⟨b42, 0, none⟩))), (0, (bv kd)), (2, (Value.bool o)), (12, (Value.slice A0 la.length c0)), (13, (Value.int .i64 ((la.length : Nat) : Int))), (14, (Value.int .i64 ((k : Nat) : Int)))] hF137 (by kernel_rfl) (by kernel_rfl) ?_
          intro a139 hF140
          refine r_at (r_val (d := 33) (op := (Op.load 3 (Operand.tmp 32))) hF140 (by kernel_rfl) (by kernel_rfl) (Value.int .i64 (x33.channel)) w51 (exec_load L3 (.inr rfl) (by kernel_rfl) (Bx.cells hB53 0 1 [(Value.int .i64 (x33.channel))] (by kernel_rfl))) ?_)
          intro a141 hF142
          refine r_runk 1 [34, 33, 31, 0, 2, 12, 13, 14] [(34, (Value.pointer (some ⟨b42, 1, none⟩))), (33, (Value.int .i64 (x33.channel))), (31, (Value.slice A14 m16 cp15)), (0, (bv kd)), (2, (Value.bool o)), (12, (Value.slice A0 la.length c0)), (13, (Value.int .i64 ((la.length : Nat) : Int))), (14, (Value.int .i64 ((k : Nat) : Int)))] hF142 (by kernel_rfl) (by kernel_rfl) ?_
          intro a143 hF144
          refine r_at (r_val (d := 35) (op := (Op.load 22 (Operand.tmp 34))) hF144 (by kernel_rfl) (by kernel_rfl) (uv x33.seq) w51 (exec_load L22 (.inr rfl) (by kernel_rfl) (Bx.cells hB53 1 1 [(uv x33.seq)] (by kernel_rfl))) ?_)
          intro a145 hF146
          have h147 : Own (tSl tU8) 27 w.heap.size s40 w51 (Value.slice A14 m16 cp15) (keysL kd o (la.take (k))) := ((hO19.step' st44).step st52 (fun g hg e => ne48 (by subst e; exact hg)))
          refine r_at (r_call (d := (some 36)) (f := 12) (args := #[(Operand.tmp 33), (Operand.tmp 35)]) (tys := #[3, 22]) hF146 (by kernel_rfl) (by kernel_rfl) C12 [(Value.int .i64 (x33.channel)), (uv x33.seq)] (by kernel_rfl) (answer_calls s40 w51 (x33.channel : Int) x33.seq) ?_)
          intro a148 s149 w150 v151 st152 hP153 hF154
          have hz155 := hS55.size
          have hS156 := hS55.then st152
          obtain ⟨A157, m160, c158, rfl, hl159⟩ := hP153.formL
          have hO161 : Own tU8 5 w.heap.size s149 w150 (Value.slice A157 m160 c158) (ofL 97 (x33.channel : Int) [x33.seq]) := hP153.le (by omega)
          have ne163 : ∀ g, Value.ownBlock (Value.slice A14 m16 cp15) = some g → ¬ Value.ownBlock (Value.slice A157 m160 c158) = some g := fun g hg e => by have h1 := hP153.ge e; have h2 := h147.lt hg; omega
          have ne164 : ¬ Value.ownBlock (Value.slice A157 m160 c158) = some b42 := fun e => by have h1 := hP153.ge e; have h2 := hB53.lt; omega
          have h165 : Own (tSl tU8) 27 w.heap.size s149 w150 (Value.slice A14 m16 cp15) (keysL kd o (la.take (k))) := (h147.step' st152)
          have h166 : Bx s149 w150 b42 [(Value.int .i64 (x33.channel)), (uv x33.seq), (uv x33.timeout), (sv x33.denom), (uv x33.amount), (sv x33.src), (sv x33.dst)] 56 := (hB53.step' st152)
          refine r_at (r_lit (tSl tU8) (d := 37) (t := 29) (m := 1) (parts := #[(0, (Operand.tmp 36))]) hF154 (by kernel_rfl) (by kernel_rfl) s149 [ofL 97 (x33.channel : Int) [x33.seq]] [(Value.slice A157 m160 c158)] ⟨_, _, rfl, ⟨_, rfl, hO161.rd⟩, rfl⟩ rfl (by decide) (e := 27) (fun o e => by simp only [execOp, e]; kernel_rfl) (by decide) ?_)
          intro a167 s168 w169 g170 hg171 st172 hO173 hF174
          have hz175 := hS156.size
          have hS176 := hS156.then st172
          have hO177 : Own (tSl tU8) 27 w.heap.size s168 w169 (Value.slice (some ⟨g170, 0, none⟩) 1 1) [ofL 97 (x33.channel : Int) [x33.seq]] := (hO173.le (by omega : w.heap.size ≤ _))
          have ne179 : ∀ g, Value.ownBlock (Value.slice A14 m16 cp15) = some g → ¬ Value.ownBlock (Value.slice (some ⟨g170, 0, none⟩) 1 1) = some g := fun g hg e => by have h1 := hO173.ge e; have h2 := h165.lt hg; omega
          have ne180 : ¬ Value.ownBlock (Value.slice (some ⟨g170, 0, none⟩) 1 1) = some b42 := fun e => by have h1 := hO173.ge e; have h2 := h166.lt; omega
          have h181 : Own (tSl tU8) 27 w.heap.size s168 w169 (Value.slice A14 m16 cp15) (keysL kd o (la.take (k))) := (h165.step' st172)
          have h182 : Bx s168 w169 b42 [(Value.int .i64 (x33.channel)), (uv x33.seq), (uv x33.timeout), (sv x33.denom), (uv x33.amount), (sv x33.src), (sv x33.dst)] 56 := (h166.step' st172)
          have hz192 := hS176.size
          have hb191 : (keysL kd o (la.take (k))).length + ([ofL 97 (x33.channel : Int) [x33.seq]] : List _).length ≤ 1000000 := (by have h9 := keysL_lenk kd o la k; simp only [List.length_cons, List.length_nil] at *; omega)
          refine r_at (r_append (tSl tU8) S29 (d := 38) (x := (Operand.tmp 31)) (y := (Operand.tmp 37)) hF174 (by kernel_rfl) (by kernel_rfl) (by kernel_rfl) (by kernel_rfl) h181 hO177.rd (app_small hb191 (by decide)) (by omega) hz192 ?_)
          intro a183 s184 w185 v186 st187 hO188 hn189 hF190
          obtain ⟨A195, m198, c196, rfl, hl197⟩ := hO188.formL
          have hS199 := hS176.and st187 (fun b e => h181.ge e)
          have ne201 : ¬ Value.ownBlock (Value.slice A195 m198 c196) = some b42 := fun e => ne48 (hn189 _ h182.lt e)
          refine r_runk 1 [7, 0, 2, 12, 13, 14] [(7, (Value.slice A195 m198 c196)), (0, (bv kd)), (2, (Value.bool o)), (12, (Value.slice A0 la.length c0)), (13, (Value.int .i64 ((la.length : Nat) : Int))), (14, (Value.int .i64 ((k : Nat) : Int)))] hF190 (by kernel_rfl) (by kernel_rfl) ?_
          intro a202 hF203
          refine r_end (by kernel_rfl) ?_
          refine c_reg 15 (by kernel_rfl) ?_
          refine r_one (d := 61) (v0 := (Value.int .i64 (IntKind.i64.wrap (((k : Nat) : Int) + ((1 : Nat) : Int))))) (v := (Value.int .i64 ((k + 1 : Nat) : Int))) hF203 (by kernel_rfl) (by kernel_rfl) (congrArg (Value.int .i64) (i64_eq (by omega) (by omega) (by omega))) ?_
          intro a204 hF205
          refine r_runk 1 [14, 7, 0, 2, 12, 13] [(14, (Value.int .i64 ((k + 1 : Nat) : Int))), (7, (Value.slice A195 m198 c196)), (0, (bv kd)), (2, (Value.bool o)), (12, (Value.slice A0 la.length c0)), (13, (Value.int .i64 ((la.length : Nat) : Int)))] hF205 (by kernel_rfl) (by kernel_rfl) ?_
          intro a206 hF207
          refine r_end (by kernel_rfl) ?_
          have hF208 := hF207.keep [0, 2, 7, 12, 13, 14] [(0, (bv kd)), (2, (Value.bool o)), (7, (Value.slice A195 m198 c196)), (12, (Value.slice A0 la.length c0)), (13, (Value.int .i64 ((la.length : Nat) : Int))), (14, (Value.int .i64 ((k + 1 : Nat) : Int)))] (by kernel_rfl)
          exact ⟨k + 1, ⟨s184, A195, c196, m198, hF208, hS199, (hO188.cast (by first | rfl | omega | (simp only [List.length_append, List.length_cons, List.length_nil, List.length_map] at *; omega)) (by subst hx34; exact (keysL_some (by omega) (by unfold keyL; simp [hc63, hc138])))), (by omega)⟩, by omega⟩
        · skip
          have hc138 := of_decide_eq_false hc138
          refine c_seq [1, 1, 0, 1, 0, 0, 1, 1, 0, 0, 1, 1, 0, 1, 1, 1, 1, 0] [1, 1, 0, 1, 0, 0, 1, 1, 0, 0, 1, 1, 0, 1, 1, 1, 1, 1] (by kernel_rfl) ?_
          refine c_reg 10 (by kernel_rfl) ?_
          refine r_one (d := 40) (v0 := (Value.bool (((kd).toNat : Int) == ((4 : UInt8).toNat : Int)))) (v := (Value.bool (decide ((kd : UInt8) = 4)))) hF137 (by kernel_rfl) (by kernel_rfl) (congrArg Value.bool (cmp_u8_eql _ _)) ?_
          intro a209 hF210
          refine r_runk 1 [39, 9, 0, 2, 7, 12, 13, 14] [(39, (Value.bool (decide ((kd : UInt8) = 4)))), (9, (Value.pointer (some ⟨b42, 0, none⟩))), (0, (bv kd)), (2, (Value.bool o)), (7, (Value.slice A14 m16 cp15)), (12, (Value.slice A0 la.length c0)), (13, (Value.int .i64 ((la.length : Nat) : Int))), (14, (Value.int .i64 ((k : Nat) : Int)))] hF210 (by kernel_rfl) (by kernel_rfl) ?_
          intro a211 hF212
          refine r_end (by kernel_rfl) ?_
          refine c_cond [1, 1, 0, 1, 0, 0, 1, 1, 0, 0, 1, 1, 0, 1, 1, 1, 1, 1, 0] [1, 1, 0, 1, 0, 0, 1, 1, 0, 0, 1, 1, 0, 1, 1, 1, 1, 1, 1] 39 (by kernel_rfl) hF212 (decide ((kd : UInt8) = 4)) (by kernel_rfl) (fun hc213 => ?_) (fun hc213 => ?_)
          · skip
            have hc213 := of_decide_eq_true hc213
            refine c_seq [1, 1, 0, 1, 0, 0, 1, 1, 0, 0, 1, 1, 0, 1, 1, 1, 1, 1, 0, 0] [1, 1, 0, 1, 0, 0, 1, 1, 0, 0, 1, 1, 0, 1, 1, 1, 1, 1, 0, 1] (by kernel_rfl) ?_
            refine c_seq [1, 1, 0, 1, 0, 0, 1, 1, 0, 0, 1, 1, 0, 1, 1, 1, 1, 1, 0, 0, 0] [1, 1, 0, 1, 0, 0, 1, 1, 0, 0, 1, 1, 0, 1, 1, 1, 1, 1, 0, 0, 1] (by kernel_rfl) ?_
            refine c_reg 11 (by kernel_rfl) ?_
            refine r_runk 1 [41, 9, 0, 2, 7, 12, 13, 14] [(41, (Value.bool o)), (9, (Value.pointer (some ⟨b42, 0, none⟩))), (0, (bv kd)), (2, (Value.bool o)), (7, (Value.slice A14 m16 cp15)), (12, (Value.slice A0 la.length c0)), (13, (Value.int .i64 ((la.length : Nat) : Int))), (14, (Value.int .i64 ((k : Nat) : Int)))] hF212 (by kernel_rfl) (by kernel_rfl) ?_
            intro a214 hF215
            refine r_end (by kernel_rfl) ?_
            refine c_cond [1, 1, 0, 1, 0, 0, 1, 1, 0, 0, 1, 1, 0, 1, 1, 1, 1, 1, 0, 0, 1, 0] [1, 1, 0, 1, 0, 0, 1, 1, 0, 0, 1, 1, 0, 1, 1, 1, 1, 1, 0, 0, 1, 1] 41 (by kernel_rfl) hF215 o (by kernel_rfl) (fun hc216 => ?_) (fun hc216 => ?_)
            · skip
              refine c_seq [1, 1, 0, 1, 0, 0, 1, 1, 0, 0, 1, 1, 0, 1, 1, 1, 1, 1, 0, 0, 1, 0, 0] [1, 1, 0, 1, 0, 0, 1, 1, 0, 0, 1, 1, 0, 1, 1, 1, 1, 1, 0, 0, 1, 0, 1] (by kernel_rfl) ?_
              refine c_reg 12 (by kernel_rfl) ?_
              refine r_runk 2 [43, 42, 0, 2, 12, 13, 14] [(43, (Value.pointer (some ⟨b42, 0, none⟩))), (42, (Value.slice A14 m16 cp15)), (0, (bv kd)), (2, (Value.bool o)), (12, (Value.slice A0 la.length c0)), (13, (Value.int .i64 ((la.length : Nat) : Int))), (14, (Value.int .i64 ((k : Nat) : Int)))] hF215 (by kernel_rfl) (by kernel_rfl) ?_
              intro a217 hF218
              refine r_at (r_val (d := 44) (op := (Op.load 3 (Operand.tmp 43))) hF218 (by kernel_rfl) (by kernel_rfl) (Value.int .i64 (x33.channel)) w51 (exec_load L3 (.inr rfl) (by kernel_rfl) (Bx.cells hB53 0 1 [(Value.int .i64 (x33.channel))] (by kernel_rfl))) ?_)
              intro a219 hF220
              have h221 : Own (tSl tU8) 27 w.heap.size s40 w51 (Value.slice A14 m16 cp15) (keysL kd o (la.take (k))) := ((hO19.step' st44).step st52 (fun g hg e => ne48 (by subst e; exact hg)))
              refine r_at (r_call (d := (some 45)) (f := 16) (args := #[(Operand.tmp 44)]) (tys := #[3]) hF220 (by kernel_rfl) (by kernel_rfl) C16 [(Value.int .i64 (x33.channel))] (by kernel_rfl) (got_calls s40 w51 (x33.channel : Int)) ?_)
              intro a222 s223 w224 v225 st226 hP227 hF228
              have hz229 := hS55.size
              have hS230 := hS55.then st226
              obtain ⟨A231, m234, c232, rfl, hl233⟩ := hP227.formL
              have hO235 : Own tU8 5 w.heap.size s223 w224 (Value.slice A231 m234 c232) (ofL 110 (x33.channel : Int) []) := hP227.le (by omega)
              have ne237 : ∀ g, Value.ownBlock (Value.slice A14 m16 cp15) = some g → ¬ Value.ownBlock (Value.slice A231 m234 c232) = some g := fun g hg e => by have h1 := hP227.ge e; have h2 := h221.lt hg; omega
              have ne238 : ¬ Value.ownBlock (Value.slice A231 m234 c232) = some b42 := fun e => by have h1 := hP227.ge e; have h2 := hB53.lt; omega
              have h239 : Own (tSl tU8) 27 w.heap.size s223 w224 (Value.slice A14 m16 cp15) (keysL kd o (la.take (k))) := (h221.step' st226)
              have h240 : Bx s223 w224 b42 [(Value.int .i64 (x33.channel)), (uv x33.seq), (uv x33.timeout), (sv x33.denom), (uv x33.amount), (sv x33.src), (sv x33.dst)] 56 := (hB53.step' st226)
              refine r_at (r_lit (tSl tU8) (d := 46) (t := 29) (m := 1) (parts := #[(0, (Operand.tmp 45))]) hF228 (by kernel_rfl) (by kernel_rfl) s223 [ofL 110 (x33.channel : Int) []] [(Value.slice A231 m234 c232)] ⟨_, _, rfl, ⟨_, rfl, hO235.rd⟩, rfl⟩ rfl (by decide) (e := 27) (fun o e => by simp only [execOp, e]; kernel_rfl) (by decide) ?_)
              intro a241 s242 w243 g244 hg245 st246 hO247 hF248
              have hz249 := hS230.size
              have hS250 := hS230.then st246
              have hO251 : Own (tSl tU8) 27 w.heap.size s242 w243 (Value.slice (some ⟨g244, 0, none⟩) 1 1) [ofL 110 (x33.channel : Int) []] := (hO247.le (by omega : w.heap.size ≤ _))
              have ne253 : ∀ g, Value.ownBlock (Value.slice A14 m16 cp15) = some g → ¬ Value.ownBlock (Value.slice (some ⟨g244, 0, none⟩) 1 1) = some g := fun g hg e => by have h1 := hO247.ge e; have h2 := h239.lt hg; omega
              have ne254 : ¬ Value.ownBlock (Value.slice (some ⟨g244, 0, none⟩) 1 1) = some b42 := fun e => by have h1 := hO247.ge e; have h2 := h240.lt; omega
              have h255 : Own (tSl tU8) 27 w.heap.size s242 w243 (Value.slice A14 m16 cp15) (keysL kd o (la.take (k))) := (h239.step' st246)
              have h256 : Bx s242 w243 b42 [(Value.int .i64 (x33.channel)), (uv x33.seq), (uv x33.timeout), (sv x33.denom), (uv x33.amount), (sv x33.src), (sv x33.dst)] 56 := (h240.step' st246)
              have hz266 := hS250.size
              have hb265 : (keysL kd o (la.take (k))).length + ([ofL 110 (x33.channel : Int) []] : List _).length ≤ 1000000 := (by have h9 := keysL_lenk kd o la k; simp only [List.length_cons, List.length_nil] at *; omega)
              refine r_at (r_append (tSl tU8) S29 (d := 47) (x := (Operand.tmp 42)) (y := (Operand.tmp 46)) hF248 (by kernel_rfl) (by kernel_rfl) (by kernel_rfl) (by kernel_rfl) h255 hO251.rd (app_small hb265 (by decide)) (by omega) hz266 ?_)
              intro a257 s258 w259 v260 st261 hO262 hn263 hF264
              obtain ⟨A269, m272, c270, rfl, hl271⟩ := hO262.formL
              have hS273 := hS250.and st261 (fun b e => h255.ge e)
              have ne275 : ¬ Value.ownBlock (Value.slice A269 m272 c270) = some b42 := fun e => ne48 (hn263 _ h256.lt e)
              refine r_runk 1 [7, 0, 2, 12, 13, 14] [(7, (Value.slice A269 m272 c270)), (0, (bv kd)), (2, (Value.bool o)), (12, (Value.slice A0 la.length c0)), (13, (Value.int .i64 ((la.length : Nat) : Int))), (14, (Value.int .i64 ((k : Nat) : Int)))] hF264 (by kernel_rfl) (by kernel_rfl) ?_
              intro a276 hF277
              refine r_end (by kernel_rfl) ?_
              refine c_exit 1 (by kernel_rfl) ?_
              refine c_reg 15 (by kernel_rfl) ?_
              refine r_one (d := 61) (v0 := (Value.int .i64 (IntKind.i64.wrap (((k : Nat) : Int) + ((1 : Nat) : Int))))) (v := (Value.int .i64 ((k + 1 : Nat) : Int))) hF277 (by kernel_rfl) (by kernel_rfl) (congrArg (Value.int .i64) (i64_eq (by omega) (by omega) (by omega))) ?_
              intro a278 hF279
              refine r_runk 1 [14, 7, 0, 2, 12, 13] [(14, (Value.int .i64 ((k + 1 : Nat) : Int))), (7, (Value.slice A269 m272 c270)), (0, (bv kd)), (2, (Value.bool o)), (12, (Value.slice A0 la.length c0)), (13, (Value.int .i64 ((la.length : Nat) : Int)))] hF279 (by kernel_rfl) (by kernel_rfl) ?_
              intro a280 hF281
              refine r_end (by kernel_rfl) ?_
              have hF282 := hF281.keep [0, 2, 7, 12, 13, 14] [(0, (bv kd)), (2, (Value.bool o)), (7, (Value.slice A269 m272 c270)), (12, (Value.slice A0 la.length c0)), (13, (Value.int .i64 ((la.length : Nat) : Int))), (14, (Value.int .i64 ((k + 1 : Nat) : Int)))] (by kernel_rfl)
              exact ⟨k + 1, ⟨s258, A269, c270, m272, hF282, hS273, (hO262.cast (by first | rfl | omega | (simp only [List.length_append, List.length_cons, List.length_nil, List.length_map] at *; omega)) (by subst hx34; exact (keysL_some (by omega) (by unfold keyL; simp [hc63, hc138, hc213, hc216])))), (by omega)⟩, by omega⟩
            · skip
              refine c_skip (by kernel_rfl) ?_
              refine c_seq [1, 1, 0, 1, 0, 0, 1, 1, 0, 0, 1, 1, 0, 1, 1, 1, 1, 1, 0, 1, 0] [1, 1, 0, 1, 0, 0, 1, 1, 0, 0, 1, 1, 0, 1, 1, 1, 1, 1, 0, 1, 1] (by kernel_rfl) ?_
              refine c_reg 13 (by kernel_rfl) ?_
              refine r_runk 1 [49, 9, 0, 2, 7, 12, 13, 14] [(49, (Value.pointer (some ⟨b42, 1, none⟩))), (9, (Value.pointer (some ⟨b42, 0, none⟩))), (0, (bv kd)), (2, (Value.bool o)), (7, (Value.slice A14 m16 cp15)), (12, (Value.slice A0 la.length c0)), (13, (Value.int .i64 ((la.length : Nat) : Int))), (14, (Value.int .i64 ((k : Nat) : Int)))] hF215 (by kernel_rfl) (by kernel_rfl) ?_
              intro a283 hF284
              refine r_at (r_val (d := 50) (op := (Op.load 22 (Operand.tmp 49))) hF284 (by kernel_rfl) (by kernel_rfl) (uv x33.seq) w51 (exec_load L22 (.inr rfl) (by kernel_rfl) (Bx.cells hB53 1 1 [(uv x33.seq)] (by kernel_rfl))) ?_)
              intro a285 hF286
              have h287 : Own (tSl tU8) 27 w.heap.size s40 w51 (Value.slice A14 m16 cp15) (keysL kd o (la.take (k))) := ((hO19.step' st44).step st52 (fun g hg e => ne48 (by subst e; exact hg)))
              refine r_at (r_call (d := (some 51)) (f := 42) (args := #[(Operand.tmp 50)]) (tys := #[22]) hF286 (by kernel_rfl) (by kernel_rfl) C42 [(uv x33.seq)] (by kernel_rfl) (place_calls s40 w51 x33.seq) ?_)
              intro a288 s289 w290 v291 st292 hP293 hF294
              have hz295 := hS55.size
              have hS296 := hS55.then st292
              subst hP293
              refine r_runk 5 [10, 9, 0, 2, 7, 12, 13, 14] [(10, (uv ((x33.seq - 1) / 64))), (9, (Value.pointer (some ⟨b42, 0, none⟩))), (0, (bv kd)), (2, (Value.bool o)), (7, (Value.slice A14 m16 cp15)), (12, (Value.slice A0 la.length c0)), (13, (Value.int .i64 ((la.length : Nat) : Int))), (14, (Value.int .i64 ((k : Nat) : Int)))] hF294 (by kernel_rfl) (by kernel_rfl) ?_
              intro a297 hF298
              refine r_end (by kernel_rfl) ?_
              refine c_reg 14 (by kernel_rfl) ?_
              refine r_runk 2 [55, 54, 10, 0, 2, 12, 13, 14] [(55, (Value.pointer (some ⟨b42, 0, none⟩))), (54, (Value.slice A14 m16 cp15)), (10, (uv ((x33.seq - 1) / 64))), (0, (bv kd)), (2, (Value.bool o)), (12, (Value.slice A0 la.length c0)), (13, (Value.int .i64 ((la.length : Nat) : Int))), (14, (Value.int .i64 ((k : Nat) : Int)))] hF298 (by kernel_rfl) (by kernel_rfl) ?_
              intro a299 hF300
              have h301 : Bx s289 w290 b42 [(Value.int .i64 (x33.channel)), (uv x33.seq), (uv x33.timeout), (sv x33.denom), (uv x33.amount), (sv x33.src), (sv x33.dst)] 56 := (hB53.step' st292)
              refine r_at (r_val (d := 56) (op := (Op.load 3 (Operand.tmp 55))) hF300 (by kernel_rfl) (by kernel_rfl) (Value.int .i64 (x33.channel)) w290 (exec_load L3 (.inr rfl) (by kernel_rfl) (Bx.cells h301 0 1 [(Value.int .i64 (x33.channel))] (by kernel_rfl))) ?_)
              intro a302 hF303
              refine r_runk 1 [57, 56, 54, 0, 2, 12, 13, 14] [(57, (uv ((x33.seq - 1) / 64))), (56, (Value.int .i64 (x33.channel))), (54, (Value.slice A14 m16 cp15)), (0, (bv kd)), (2, (Value.bool o)), (12, (Value.slice A0 la.length c0)), (13, (Value.int .i64 ((la.length : Nat) : Int))), (14, (Value.int .i64 ((k : Nat) : Int)))] hF303 (by kernel_rfl) (by kernel_rfl) ?_
              intro a304 hF305
              have h306 : Own (tSl tU8) 27 w.heap.size s289 w290 (Value.slice A14 m16 cp15) (keysL kd o (la.take (k))) := (h287.step' st292)
              refine r_at (r_call (d := (some 58)) (f := 14) (args := #[(Operand.tmp 56), (Operand.tmp 57)]) (tys := #[3, 22]) hF305 (by kernel_rfl) (by kernel_rfl) C14 [(Value.int .i64 (x33.channel)), (uv ((x33.seq - 1) / 64))] (by kernel_rfl) (word_calls s289 w290 (x33.channel : Int) ((x33.seq - 1) / 64)) ?_)
              intro a307 s308 w309 v310 st311 hP312 hF313
              have hz314 := hS296.size
              have hS315 := hS296.then st311
              obtain ⟨A316, m319, c317, rfl, hl318⟩ := hP312.formL
              have hO320 : Own tU8 5 w.heap.size s308 w309 (Value.slice A316 m319 c317) (ofL 119 (x33.channel : Int) [(x33.seq - 1) / 64]) := hP312.le (by omega)
              have ne322 : ∀ g, Value.ownBlock (Value.slice A14 m16 cp15) = some g → ¬ Value.ownBlock (Value.slice A316 m319 c317) = some g := fun g hg e => by have h1 := hP312.ge e; have h2 := h306.lt hg; omega
              have ne323 : ¬ Value.ownBlock (Value.slice A316 m319 c317) = some b42 := fun e => by have h1 := hP312.ge e; have h2 := h301.lt; omega
              have h324 : Own (tSl tU8) 27 w.heap.size s308 w309 (Value.slice A14 m16 cp15) (keysL kd o (la.take (k))) := (h306.step' st311)
              have h325 : Bx s308 w309 b42 [(Value.int .i64 (x33.channel)), (uv x33.seq), (uv x33.timeout), (sv x33.denom), (uv x33.amount), (sv x33.src), (sv x33.dst)] 56 := (h301.step' st311)
              refine r_at (r_lit (tSl tU8) (d := 59) (t := 29) (m := 1) (parts := #[(0, (Operand.tmp 58))]) hF313 (by kernel_rfl) (by kernel_rfl) s308 [ofL 119 (x33.channel : Int) [(x33.seq - 1) / 64]] [(Value.slice A316 m319 c317)] ⟨_, _, rfl, ⟨_, rfl, hO320.rd⟩, rfl⟩ rfl (by decide) (e := 27) (fun o e => by simp only [execOp, e]; kernel_rfl) (by decide) ?_)
              intro a326 s327 w328 g329 hg330 st331 hO332 hF333
              have hz334 := hS315.size
              have hS335 := hS315.then st331
              have hO336 : Own (tSl tU8) 27 w.heap.size s327 w328 (Value.slice (some ⟨g329, 0, none⟩) 1 1) [ofL 119 (x33.channel : Int) [(x33.seq - 1) / 64]] := (hO332.le (by omega : w.heap.size ≤ _))
              have ne338 : ∀ g, Value.ownBlock (Value.slice A14 m16 cp15) = some g → ¬ Value.ownBlock (Value.slice (some ⟨g329, 0, none⟩) 1 1) = some g := fun g hg e => by have h1 := hO332.ge e; have h2 := h324.lt hg; omega
              have ne339 : ¬ Value.ownBlock (Value.slice (some ⟨g329, 0, none⟩) 1 1) = some b42 := fun e => by have h1 := hO332.ge e; have h2 := h325.lt; omega
              have h340 : Own (tSl tU8) 27 w.heap.size s327 w328 (Value.slice A14 m16 cp15) (keysL kd o (la.take (k))) := (h324.step' st331)
              have h341 : Bx s327 w328 b42 [(Value.int .i64 (x33.channel)), (uv x33.seq), (uv x33.timeout), (sv x33.denom), (uv x33.amount), (sv x33.src), (sv x33.dst)] 56 := (h325.step' st331)
              have hz351 := hS335.size
              have hb350 : (keysL kd o (la.take (k))).length + ([ofL 119 (x33.channel : Int) [(x33.seq - 1) / 64]] : List _).length ≤ 1000000 := (by have h9 := keysL_lenk kd o la k; simp only [List.length_cons, List.length_nil] at *; omega)
              refine r_at (r_append (tSl tU8) S29 (d := 60) (x := (Operand.tmp 54)) (y := (Operand.tmp 59)) hF333 (by kernel_rfl) (by kernel_rfl) (by kernel_rfl) (by kernel_rfl) h340 hO336.rd (app_small hb350 (by decide)) (by omega) hz351 ?_)
              intro a342 s343 w344 v345 st346 hO347 hn348 hF349
              obtain ⟨A354, m357, c355, rfl, hl356⟩ := hO347.formL
              have hS358 := hS335.and st346 (fun b e => h340.ge e)
              have ne360 : ¬ Value.ownBlock (Value.slice A354 m357 c355) = some b42 := fun e => ne48 (hn348 _ h341.lt e)
              refine r_runk 1 [7, 0, 2, 12, 13, 14] [(7, (Value.slice A354 m357 c355)), (0, (bv kd)), (2, (Value.bool o)), (12, (Value.slice A0 la.length c0)), (13, (Value.int .i64 ((la.length : Nat) : Int))), (14, (Value.int .i64 ((k : Nat) : Int)))] hF349 (by kernel_rfl) (by kernel_rfl) ?_
              intro a361 hF362
              refine r_end (by kernel_rfl) ?_
              refine c_reg 15 (by kernel_rfl) ?_
              refine r_one (d := 61) (v0 := (Value.int .i64 (IntKind.i64.wrap (((k : Nat) : Int) + ((1 : Nat) : Int))))) (v := (Value.int .i64 ((k + 1 : Nat) : Int))) hF362 (by kernel_rfl) (by kernel_rfl) (congrArg (Value.int .i64) (i64_eq (by omega) (by omega) (by omega))) ?_
              intro a363 hF364
              refine r_runk 1 [14, 7, 0, 2, 12, 13] [(14, (Value.int .i64 ((k + 1 : Nat) : Int))), (7, (Value.slice A354 m357 c355)), (0, (bv kd)), (2, (Value.bool o)), (12, (Value.slice A0 la.length c0)), (13, (Value.int .i64 ((la.length : Nat) : Int)))] hF364 (by kernel_rfl) (by kernel_rfl) ?_
              intro a365 hF366
              refine r_end (by kernel_rfl) ?_
              have hF367 := hF366.keep [0, 2, 7, 12, 13, 14] [(0, (bv kd)), (2, (Value.bool o)), (7, (Value.slice A354 m357 c355)), (12, (Value.slice A0 la.length c0)), (13, (Value.int .i64 ((la.length : Nat) : Int))), (14, (Value.int .i64 ((k + 1 : Nat) : Int)))] (by kernel_rfl)
              exact ⟨k + 1, ⟨s343, A354, c355, m357, hF367, hS358, (hO347.cast (by first | rfl | omega | (simp only [List.length_append, List.length_cons, List.length_nil, List.length_map] at *; omega)) (by subst hx34; exact (keysL_some (by omega) (by unfold keyL; simp [hc63, hc138, hc213, hc216])))), (by omega)⟩, by omega⟩
          · skip
            have hc213 := of_decide_eq_false hc213
            refine c_skip (by kernel_rfl) ?_
            refine c_reg 15 (by kernel_rfl) ?_
            refine r_one (d := 61) (v0 := (Value.int .i64 (IntKind.i64.wrap (((k : Nat) : Int) + ((1 : Nat) : Int))))) (v := (Value.int .i64 ((k + 1 : Nat) : Int))) hF212 (by kernel_rfl) (by kernel_rfl) (congrArg (Value.int .i64) (i64_eq (by omega) (by omega) (by omega))) ?_
            intro a368 hF369
            refine r_runk 1 [14, 0, 2, 7, 12, 13] [(14, (Value.int .i64 ((k + 1 : Nat) : Int))), (0, (bv kd)), (2, (Value.bool o)), (7, (Value.slice A14 m16 cp15)), (12, (Value.slice A0 la.length c0)), (13, (Value.int .i64 ((la.length : Nat) : Int)))] hF369 (by kernel_rfl) (by kernel_rfl) ?_
            intro a370 hF371
            refine r_end (by kernel_rfl) ?_
            have h372 : Own (tSl tU8) 27 w.heap.size s40 w51 (Value.slice A14 m16 cp15) (keysL kd o (la.take (k))) := ((hO19.step' st44).step st52 (fun g hg e => ne48 (by subst e; exact hg)))
            have hF373 := hF371.keep [0, 2, 7, 12, 13, 14] [(0, (bv kd)), (2, (Value.bool o)), (7, (Value.slice A14 m16 cp15)), (12, (Value.slice A0 la.length c0)), (13, (Value.int .i64 ((la.length : Nat) : Int))), (14, (Value.int .i64 ((k + 1 : Nat) : Int)))] (by kernel_rfl)
            exact ⟨k + 1, ⟨s40, A14, cp15, m16, hF373, hS55, (h372.cast (by first | rfl | omega | (simp only [List.length_append, List.length_cons, List.length_nil, List.length_map] at *; omega)) (by subst hx34; exact (keysL_none (by omega) (by unfold keyL; simp [hc63, hc138, hc213])))), (by omega)⟩, by omega⟩
    · skip
      have hc23 := of_decide_eq_false hc23
      refine c_exit 0 (by kernel_rfl) ?_
      refine c_seq [1, 1, 1, 0] [1, 1, 1, 1] (by kernel_rfl) ?_
      refine c_reg 16 (by kernel_rfl) ?_
      refine r_runk 2 [6] [(6, (Value.slice A14 m16 cp15))] hF22 (by kernel_rfl) (by kernel_rfl) ?_
      intro a374 hF375
      refine r_end (by kernel_rfl) ?_
      refine c_ret (by kernel_rfl) ?_
      try dsimp only [Exit.then, Exit.inBlock]
      refine f_ret1 hF375 6 (by kernel_rfl) (Value.slice A14 m16 cp15) (by kernel_rfl) s11 hS13 ?_
      have hk8 : k = la.length := by omega
      subst hk8
      have e1 := hO19
      rw [List.take_length] at e1
      exact e1
end Go.Proofs.Ytaoamokfbhlaaaa.E
