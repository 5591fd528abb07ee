/- Walks, printed by a program of this session. -/
import Derived.Test.YtaoamokfbhlaaaaK
import Derived.Test.Ytaoamokfbhlaaaapure21b
import Derived.Test.YtaoamokfbhlaaaaRc
import Derived.Test.YtaoamokfbhlaaaaRi
import Derived.Test.YtaoamokfbhlaaaaRe
import Derived.Test.YtaoamokfbhlaaaaRz
import Derived.Test.YtaoamokfbhlaaaaRa
set_option linter.unusedVariables false
set_option linter.unusedSimpArgs false
set_option maxRecDepth 100000
namespace Go.Proofs.Ytaoamokfbhlaaaa.E
open Go Go.RowKit
open Go.Proofs
theorem awake_calls (σ : Nat → Nat) (w : World) :
    Ctr Try.prog 25 [] noM σ w (fun σ' w' v => v = .bool true) := by
  refine ctr_enter Try.func25 c25 (by kernel_rfl) 65 (by kernel_rfl) (Nat.le_of_ble_eq_true (by kernel_rfl)) [] (by kernel_rfl) ?_
  intro a hF1
  have hS2 := Stp.refl noM σ w
  refine c_seq [0] [1] (by kernel_rfl) ?_
  refine c_reg 0 (by kernel_rfl) ?_
  refine r_runk 1 [] [] hF1 (by kernel_rfl) (by kernel_rfl) ?_
  intro a3 hF4
  refine r_end (by kernel_rfl) ?_
  refine c_seq [1, 0] [1, 1] (by kernel_rfl) ?_
  refine c_reg 1 (by kernel_rfl) ?_
  refine r_runk 1 [8] [(8, (Value.agg #[(Value.int .i64 ((0 : Nat) : Int)), (uv 1), (uv 3), (sv [120]), (uv 0), (sv []), (sv [])]))] hF4 (by kernel_rfl) (by kernel_rfl) ?_
  intro a5 hF6
  refine r_at (r_new (d := 1) (op := (Op.alloc 56)) hF6 (by kernel_rfl) (by kernel_rfl) σ [(Value.int .i64 ((0 : Nat) : Int)), (uv 0), (uv 0), (sv []), (uv 0), (sv []), (sv [])] 56 (exec_alloc [(Value.int .i64 ((0 : Nat) : Int)), (uv 0), (uv 0), (sv []), (uv 0), (sv []), (sv [])] (fun _ => .inl (by kernel_rfl))) ?_)
  intro a7 s8 w9 b10 hb11 st12 hB13 hF14
  have hz15 := hS2.size
  have hS16 := hS2.then st12
  refine r_at (r_store (t := 56) (x := (Operand.tmp 1)) (y := (Operand.tmp 8)) hF14 (by kernel_rfl) (by kernel_rfl) hB13 0 [(Value.int .i64 ((0 : Nat) : Int)), (uv 1), (uv 3), (sv [120]), (uv 0), (sv []), (sv [])] [(Value.int .i64 ((0 : Nat) : Int)), (uv 1), (uv 3), (sv [120]), (uv 0), (sv []), (sv [])] (by kernel_rfl) (by kernel_rfl) 7 true L56 rfl (by kernel_rfl) (Nat.le_of_ble_eq_true (by kernel_rfl)) (by kernel_rfl) ?_)
  intro a17 w18 st19 hB20 hF21
  have hS22 := hS16.and st19 (fun b e => by subst e; omega)
  have hF23 := hF21.keep [1] [(1, (Value.pointer (some ⟨b10, 0, none⟩)))] (by kernel_rfl)
  refine r_end (by kernel_rfl) ?_
  refine c_seq [1, 1, 0] [1, 1, 1] (by kernel_rfl) ?_
  refine c_reg 2 (by kernel_rfl) ?_
  refine r_at (r_val (d := 9) (op := (Op.load 56 (Operand.tmp 1))) hF23 (by kernel_rfl) (by kernel_rfl) (Value.agg #[(Value.int .i64 ((0 : Nat) : Int)), (uv 1), (uv 3), (sv [120]), (uv 0), (sv []), (sv [])]) w18 (exec_load L56 (.inl rfl) (by kernel_rfl) (Bx.cells hB20 0 7 [(Value.int .i64 ((0 : Nat) : Int)), (uv 1), (uv 3), (sv [120]), (uv 0), (sv []), (sv [])] (by kernel_rfl))) ?_)
  intro a24 hF25
  refine r_runk 1 [10, 1] [(10, (Value.agg #[(bv 1), (Value.int .i64 ((0 : Nat) : Int)), (uv 1), (uv 3), (sv [120]), (uv 0), (sv []), (sv []), (Value.bool false), (Value.int .i64 ((0 : Nat) : Int))])), (1, (Value.pointer (some ⟨b10, 0, none⟩)))] hF25 (by kernel_rfl) (by kernel_rfl) ?_
  intro a26 hF27
  refine r_at (r_lit tEvent (d := 11) (t := 41) (m := 1) (parts := #[(0, (Operand.tmp 10))]) hF27 (by kernel_rfl) (by kernel_rfl) s8 [(⟨1, (⟨((0 : Nat) : Int), 1, 3, [120], 0, [], []⟩ : Packet), (⟨false, ((0 : Nat) : Int)⟩ : Ack)⟩ : Event)] [(bv 1), (Value.int .i64 ((0 : Nat) : Int)), (uv 1), (uv 3), (sv [120]), (uv 0), (sv []), (sv []), (Value.bool false), (Value.int .i64 ((0 : Nat) : Int))] ⟨_, _, rfl, rfl, rfl⟩ rfl (by decide) (e := 60) (fun o e => by simp only [execOp, e]; kernel_rfl) (by decide) ?_)
  intro a28 s29 w30 g31 hg32 st33 hO34 hF35
  have hz36 := hS22.size
  have hS37 := hS22.then st33
  have hO38 : Own tEvent 60 w.heap.size s29 w30 (Value.slice (some ⟨g31, 0, none⟩) 1 1) [(⟨1, (⟨((0 : Nat) : Int), 1, 3, [120], 0, [], []⟩ : Packet), (⟨false, ((0 : Nat) : Int)⟩ : Ack)⟩ : Event)] := (hO34.le (by omega : w.heap.size ≤ _))
  have ne40 : ¬ Value.ownBlock (Value.slice (some ⟨g31, 0, none⟩) 1 1) = some b10 := fun e => by have h1 := hO34.ge e; have h2 := hB20.lt; omega
  refine r_runk 1 [2, 1] [(2, (Value.slice (some ⟨g31, 0, none⟩) 1 1)), (1, (Value.pointer (some ⟨b10, 0, none⟩)))] hF35 (by kernel_rfl) (by kernel_rfl) ?_
  intro a41 hF42
  refine r_end (by kernel_rfl) ?_
  refine c_seq [1, 1, 1, 0] [1, 1, 1, 1] (by kernel_rfl) ?_
  refine c_reg 3 (by kernel_rfl) ?_
  refine r_runk 1 [12, 2, 1] [(12, (Value.slice (some ⟨g31, 0, none⟩) 1 1)), (2, (Value.slice (some ⟨g31, 0, none⟩) 1 1)), (1, (Value.pointer (some ⟨b10, 0, none⟩)))] hF42 (by kernel_rfl) (by kernel_rfl) ?_
  intro a43 hF44
  have h45 : Bx s29 w30 b10 [(Value.int .i64 ((0 : Nat) : Int)), (uv 1), (uv 3), (sv [120]), (uv 0), (sv []), (sv [])] 56 := (hB20.step' st33)
  refine r_at (r_call (d := (some 13)) (f := 30) (args := #[(Operand.tmp 12), (Operand.const (Value.slice none 0 0)), (Operand.const (Value.int IntKind.i64 0))]) (tys := #[41, 41, 3]) hF44 (by kernel_rfl) (by kernel_rfl) C30 [(Value.slice (some ⟨g31, 0, none⟩) 1 1), (Value.slice none 0 0), (Value.int .i64 ((0 : Nat) : Int))] (by kernel_rfl) (toReceive_calls s29 w30 hO38.rd (Rd.nil _ s29 w30 none 0) (by decide) ((0 : Nat) : Int)) ?_)
  intro a46 s47 w48 v49 st50 hP51 hF52
  have hz53 := hS37.size
  have hS54 := hS37.then st50
  have hP55 := hP51.rd
  obtain ⟨A56, m59, c57, rfl, hl58⟩ := hP55.formL
  have hbd60 : (toReceive [(⟨1, (⟨((0 : Nat) : Int), 1, 3, [120], 0, [], []⟩ : Packet), (⟨false, ((0 : Nat) : Int)⟩ : Ack)⟩ : Event)] [] ((0 : Nat) : Int)).length ≤ 140737488355328 := Nat.le_trans (Nat.le_mul_of_pos_right _ (by decide)) hP55.bd
  refine r_runk 1 [3, 2, 1] [(3, (Value.slice A56 m59 c57)), (2, (Value.slice (some ⟨g31, 0, none⟩) 1 1)), (1, (Value.pointer (some ⟨b10, 0, none⟩)))] hF52 (by kernel_rfl) (by kernel_rfl) ?_
  intro a61 hF62
  refine r_end (by kernel_rfl) ?_
  refine c_seq [1, 1, 1, 1, 0] [1, 1, 1, 1, 1] (by kernel_rfl) ?_
  refine c_reg 4 (by kernel_rfl) ?_
  refine r_runk 1 [15, 3, 2, 1] [(15, (Value.slice (some ⟨g31, 0, none⟩) 1 1)), (3, (Value.slice A56 m59 c57)), (2, (Value.slice (some ⟨g31, 0, none⟩) 1 1)), (1, (Value.pointer (some ⟨b10, 0, none⟩)))] hF62 (by kernel_rfl) (by kernel_rfl) ?_
  intro a63 hF64
  have h65 : Own tEvent 60 w.heap.size s47 w48 (Value.slice (some ⟨g31, 0, none⟩) 1 1) [(⟨1, (⟨((0 : Nat) : Int), 1, 3, [120], 0, [], []⟩ : Packet), (⟨false, ((0 : Nat) : Int)⟩ : Ack)⟩ : Event)] := (hO38.step' st50)
  have h66 : Bx s47 w48 b10 [(Value.int .i64 ((0 : Nat) : Int)), (uv 1), (uv 3), (sv [120]), (uv 0), (sv []), (sv [])] 56 := (h45.step' st50)
  refine r_at (r_call (d := (some 16)) (f := 28) (args := #[(Operand.tmp 15), (Operand.const (Value.slice none 0 0)), (Operand.const (Value.int IntKind.i64 0))]) (tys := #[41, 41, 3]) hF64 (by kernel_rfl) (by kernel_rfl) C28 [(Value.slice (some ⟨g31, 0, none⟩) 1 1), (Value.slice none 0 0), (Value.int .i64 ((0 : Nat) : Int))] (by kernel_rfl) (toAnswer_calls s47 w48 h65.rd (Rd.nil _ s47 w48 none 0) (by decide) ((0 : Nat) : Int)) ?_)
  intro a67 s68 w69 v70 st71 hP72 hF73
  have hz74 := hS54.size
  have hS75 := hS54.then st71
  obtain ⟨v76, v77, rfl, hP78, hP79⟩ := hP72
  have hP80 := hP78.rd
  obtain ⟨A81, m84, c82, rfl, hl83⟩ := hP80.formL
  have hbd85 : (toAnswer [(⟨1, (⟨((0 : Nat) : Int), 1, 3, [120], 0, [], []⟩ : Packet), (⟨false, ((0 : Nat) : Int)⟩ : Ack)⟩ : Event)] [] ((0 : Nat) : Int)).length ≤ 140737488355328 := Nat.le_trans (Nat.le_mul_of_pos_right _ (by decide)) hP80.bd
  have hP86 := hP79.rd
  obtain ⟨A87, m90, c88, rfl, hl89⟩ := hP86.formL
  have hbd91 : ((toAnswer [(⟨1, (⟨((0 : Nat) : Int), 1, 3, [120], 0, [], []⟩ : Packet), (⟨false, ((0 : Nat) : Int)⟩ : Ack)⟩ : Event)] [] ((0 : Nat) : Int)).map (ackOf [])).length ≤ 140737488355328 := Nat.le_trans (Nat.le_mul_of_pos_right _ (by decide)) hP86.bd
  refine r_runk 5 [4, 3, 2, 1] [(4, (Value.slice A81 m84 c82)), (3, (Value.slice A56 m59 c57)), (2, (Value.slice (some ⟨g31, 0, none⟩) 1 1)), (1, (Value.pointer (some ⟨b10, 0, none⟩)))] hF73 (by kernel_rfl) (by kernel_rfl) ?_
  intro a92 hF93
  refine r_end (by kernel_rfl) ?_
  refine c_seq [1, 1, 1, 1, 1, 0] [1, 1, 1, 1, 1, 1] (by kernel_rfl) ?_
  refine c_reg 5 (by kernel_rfl) ?_
  refine r_runk 1 [20, 4, 3, 2, 1] [(20, (Value.slice (some ⟨g31, 0, none⟩) 1 1)), (4, (Value.slice A81 m84 c82)), (3, (Value.slice A56 m59 c57)), (2, (Value.slice (some ⟨g31, 0, none⟩) 1 1)), (1, (Value.pointer (some ⟨b10, 0, none⟩)))] hF93 (by kernel_rfl) (by kernel_rfl) ?_
  intro a94 hF95
  have h96 : Bx s68 w69 b10 [(Value.int .i64 ((0 : Nat) : Int)), (uv 1), (uv 3), (sv [120]), (uv 0), (sv []), (sv [])] 56 := (h66.step' st71)
  refine r_at (r_val (d := 21) (op := (Op.load 56 (Operand.tmp 1))) hF95 (by kernel_rfl) (by kernel_rfl) (Value.agg #[(Value.int .i64 ((0 : Nat) : Int)), (uv 1), (uv 3), (sv [120]), (uv 0), (sv []), (sv [])]) w69 (exec_load L56 (.inl rfl) (by kernel_rfl) (Bx.cells h96 0 7 [(Value.int .i64 ((0 : Nat) : Int)), (uv 1), (uv 3), (sv [120]), (uv 0), (sv []), (sv [])] (by kernel_rfl))) ?_)
  intro a97 hF98
  refine r_runk 2 [23, 20, 4, 3, 2, 1] [(23, (Value.agg #[(bv 2), (Value.int .i64 ((0 : Nat) : Int)), (uv 1), (uv 3), (sv [120]), (uv 0), (sv []), (sv []), (Value.bool true), (Value.int .i64 ((0 : Nat) : Int))])), (20, (Value.slice (some ⟨g31, 0, none⟩) 1 1)), (4, (Value.slice A81 m84 c82)), (3, (Value.slice A56 m59 c57)), (2, (Value.slice (some ⟨g31, 0, none⟩) 1 1)), (1, (Value.pointer (some ⟨b10, 0, none⟩)))] hF98 (by kernel_rfl) (by kernel_rfl) ?_
  intro a99 hF100
  refine r_at (r_lit tEvent (d := 24) (t := 41) (m := 1) (parts := #[(0, (Operand.tmp 23))]) hF100 (by kernel_rfl) (by kernel_rfl) s68 [(⟨2, (⟨((0 : Nat) : Int), 1, 3, [120], 0, [], []⟩ : Packet), (⟨true, ((0 : Nat) : Int)⟩ : Ack)⟩ : Event)] [(bv 2), (Value.int .i64 ((0 : Nat) : Int)), (uv 1), (uv 3), (sv [120]), (uv 0), (sv []), (sv []), (Value.bool true), (Value.int .i64 ((0 : Nat) : Int))] ⟨_, _, rfl, rfl, rfl⟩ rfl (by decide) (e := 60) (fun o e => by simp only [execOp, e]; kernel_rfl) (by decide) ?_)
  intro a101 s102 w103 g104 hg105 st106 hO107 hF108
  have hz109 := hS75.size
  have hS110 := hS75.then st106
  have hO111 : Own tEvent 60 w.heap.size s102 w103 (Value.slice (some ⟨g104, 0, none⟩) 1 1) [(⟨2, (⟨((0 : Nat) : Int), 1, 3, [120], 0, [], []⟩ : Packet), (⟨true, ((0 : Nat) : Int)⟩ : Ack)⟩ : Event)] := (hO107.le (by omega : w.heap.size ≤ _))
  have ne113 : ¬ Value.ownBlock (Value.slice (some ⟨g104, 0, none⟩) 1 1) = some b10 := fun e => by have h1 := hO107.ge e; have h2 := h96.lt; omega
  have h114 : Own tEvent 60 w.heap.size s102 w103 (Value.slice (some ⟨g31, 0, none⟩) 1 1) [(⟨1, (⟨((0 : Nat) : Int), 1, 3, [120], 0, [], []⟩ : Packet), (⟨false, ((0 : Nat) : Int)⟩ : Ack)⟩ : Event)] := ((h65.step' st71).step' st106)
  have h115 : Bx s102 w103 b10 [(Value.int .i64 ((0 : Nat) : Int)), (uv 1), (uv 3), (sv [120]), (uv 0), (sv []), (sv [])] 56 := (h96.step' st106)
  refine r_at (r_call (d := (some 25)) (f := 28) (args := #[(Operand.tmp 20), (Operand.tmp 24), (Operand.const (Value.int IntKind.i64 0))]) (tys := #[41, 41, 3]) hF108 (by kernel_rfl) (by kernel_rfl) C28 [(Value.slice (some ⟨g31, 0, none⟩) 1 1), (Value.slice (some ⟨g104, 0, none⟩) 1 1), (Value.int .i64 ((0 : Nat) : Int))] (by kernel_rfl) (toAnswer_calls s102 w103 h114.rd hO111.rd (by decide) ((0 : Nat) : Int)) ?_)
  intro a116 s117 w118 v119 st120 hP121 hF122
  have hz123 := hS110.size
  have hS124 := hS110.then st120
  obtain ⟨v125, v126, rfl, hP127, hP128⟩ := hP121
  have hP129 := hP127.rd
  obtain ⟨A130, m133, c131, rfl, hl132⟩ := hP129.formL
  have hbd134 : (toAnswer [(⟨1, (⟨((0 : Nat) : Int), 1, 3, [120], 0, [], []⟩ : Packet), (⟨false, ((0 : Nat) : Int)⟩ : Ack)⟩ : Event)] [(⟨2, (⟨((0 : Nat) : Int), 1, 3, [120], 0, [], []⟩ : Packet), (⟨true, ((0 : Nat) : Int)⟩ : Ack)⟩ : Event)] ((0 : Nat) : Int)).length ≤ 140737488355328 := Nat.le_trans (Nat.le_mul_of_pos_right _ (by decide)) hP129.bd
  have hP135 := hP128.rd
  obtain ⟨A136, m139, c137, rfl, hl138⟩ := hP135.formL
  have hbd140 : ((toAnswer [(⟨1, (⟨((0 : Nat) : Int), 1, 3, [120], 0, [], []⟩ : Packet), (⟨false, ((0 : Nat) : Int)⟩ : Ack)⟩ : Event)] [(⟨2, (⟨((0 : Nat) : Int), 1, 3, [120], 0, [], []⟩ : Packet), (⟨true, ((0 : Nat) : Int)⟩ : Ack)⟩ : Event)] ((0 : Nat) : Int)).map (ackOf [(⟨2, (⟨((0 : Nat) : Int), 1, 3, [120], 0, [], []⟩ : Packet), (⟨true, ((0 : Nat) : Int)⟩ : Ack)⟩ : Event)])).length ≤ 140737488355328 := Nat.le_trans (Nat.le_mul_of_pos_right _ (by decide)) hP135.bd
  refine r_runk 5 [7, 6, 4, 3, 2, 1] [(7, (Value.slice A136 m139 c137)), (6, (Value.slice A130 m133 c131)), (4, (Value.slice A81 m84 c82)), (3, (Value.slice A56 m59 c57)), (2, (Value.slice (some ⟨g31, 0, none⟩) 1 1)), (1, (Value.pointer (some ⟨b10, 0, none⟩)))] hF122 (by kernel_rfl) (by kernel_rfl) ?_
  intro a141 hF142
  refine r_end (by kernel_rfl) ?_
  refine c_seq [1, 1, 1, 1, 1, 1, 0] [1, 1, 1, 1, 1, 1, 1] (by kernel_rfl) ?_
  refine c_plan 6 (by kernel_rfl) (by kernel_rfl) s117 (fun b => b ≠ b10 ∧ True) [(0, true), (1, true), (2, true), (3, true), (4, true), (5, true), (6, true), (7, true), (8, true), (9, true), (10, true), (11, true), (12, true), (13, true), (14, true), (15, true), (16, true), (17, true), (18, true), (19, true), (20, true), (21, true), (22, true), (23, true), (24, true), (25, true), (26, true), (27, true), (28, true), (29, true), (30, true), (31, true), (32, true), (33, false), (34, true), (35, true), (36, true), (37, true)] [(0, 268435456, 8), (1, 536870912, 268435456), (2, 1073741824, 536870912), (4, 2147483648, 1073741824), (8, 4294967296, 2147483656), (24, 8589934592, 6442450944), (40, 17179869184, 10737418240), (8, 34359738368, 2147483650), (200, 68719476736, 53687091200), (264, 137438953472, 70866960384), (520, 274877906944, 137438953472), (1024, 549755813888, 274877906960), (3072, 1099511627776, 824633720832), (5120, 2199023255552, 1374389534720), (9216, 4398046511104, 2473901162496), (17408, 8796093022208, 4398046511104), (32768, 17592186044416, 8796093022272), (98304, 35184372088832, 26388279066624), (163840, 70368744177664, 43980465111040), (294912, 140737488355328, 79164837199872), (557056, 281474976710656, 140737488355328), (1048576, 562949953421312, 281474976710784), (3145728, 1125899906842624, 844424930131968), (5242880, 2251799813685248, 1407374883553280), (9437184, 4503599627370496, 2533274790395904), (17825792, 9007199254740992, 4503599627370496), (33554432, 18014398509481984, 9007199254741120), (100663296, 36028797018963968, 27021597764222976), (167772160, 72057594037927936, 45035996273704960), (301989888, 144115188075855872, 81064793292668928), (570425344, 288230376151711744, 153122387330596864), (1107296256, 576460752303423488, 288230376151711744), (2147483648, 1152921504606846976, 576460752303423492), (6442450944, 2305843009213693952, 1729382256910270464), (10737418240, 4611686018427387904, 2882303761517117440), (19327352832, 9223372036854775808, 5188146770730811392), (36507222016, 18446744073709551616, 9799832789158199296), (137438953471, 1, 18446744073709551616)] (by kernel_rfl) (by kernel_rfl) (by kernel_rfl) (by kernel_rfl) ?_
  intro w143 st144
  have hS145 := hS124.then st144
  refine p_run (d := 28) (v := (Value.slice A56 m59 c57)) hF142 (by kernel_rfl) (fun _ => by kernel_rfl) (fun _ _ _ h => h) ?_
  intro a146 hF147
  refine p_run (d := 29) (v := (Value.int .i64 ((m59 : Nat) : Int))) hF147 (by kernel_rfl) (fun _ => by kernel_rfl) (fun _ _ _ h => h) ?_
  intro a148 hF149
  refine p_run (d := 30) (v := (Value.bool (((m59 : Nat) : Int) == ((1 : Nat) : Int)))) hF149 (by kernel_rfl) (fun _ => by kernel_rfl) (fun _ _ _ h => h) ?_
  intro a150 hF151
  have hF152 := hF151.set 30 (Value.bool (((m59 : Nat) : Int) == ((1 : Nat) : Int))) (Value.bool true) (by kernel_rfl) (Eq.trans (congrArg Value.bool (cmp_nat_eql _ _)) (congrArg Value.bool ((by subst_vars; kernel_rfl) : (decide ((m59 : Nat) = 1)) = true)))
  refine p_run (d := 31) (v := (Value.bool true)) hF152 (by kernel_rfl) (fun _ => by kernel_rfl) (fun _ _ _ h => h) ?_
  intro a153 hF154
  refine p_run (d := 32) (v := (Value.slice A56 m59 c57)) hF154 (by kernel_rfl) (fun _ => by kernel_rfl) (fun _ _ _ h => h) ?_
  intro a155 hF156
  have h157 : Rd tPacket s117 w143 (Value.slice A56 m59 c57) (toReceive [(⟨1, (⟨((0 : Nat) : Int), 1, 3, [120], 0, [], []⟩ : Packet), (⟨false, ((0 : Nat) : Int)⟩ : Ack)⟩ : Event)] [] ((0 : Nat) : Int)) := ((((hP55.step st71).step st106).step st120).step st144)
  have hi164 : 0 < (toReceive [(⟨1, (⟨((0 : Nat) : Int), 1, 3, [120], 0, [], []⟩ : Packet), (⟨false, ((0 : Nat) : Int)⟩ : Ack)⟩ : Event)] [] ((0 : Nat) : Int)).length := (by have hq := h157.ln; first | omega | exact Nat.le_of_ble_eq_true (by kernel_rfl) | (simp only [List.length_append, List.length_cons, List.length_nil, List.length_map] at *; omega))
  obtain ⟨b158, o159, c160, he161, hs162, hr163⟩ := (h157).at 0 hi164
  obtain ⟨o165, ho165⟩ : ∃ o, o = o159 + 0 * 7 := ⟨_, rfl⟩
  obtain ⟨x166, hx167⟩ : ∃ x, x = ((toReceive [(⟨1, (⟨((0 : Nat) : Int), 1, 3, [120], 0, [], []⟩ : Packet), (⟨false, ((0 : Nat) : Int)⟩ : Ack)⟩ : Event)] [] ((0 : Nat) : Int))[0]'hi164) := ⟨_, rfl⟩
  rw [← hx167] at hr163
  have hr163 : c160 = [(Value.int .i64 (x166.channel)), (uv x166.seq), (uv x166.timeout), (sv x166.denom), (uv x166.amount), (sv x166.src), (sv x166.dst)] := hr163
  subst hr163
  have hs162 : Seg s117 w143 b158 o165 [(Value.int .i64 (x166.channel)), (uv x166.seq), (uv x166.timeout), (sv x166.denom), (uv x166.amount), (sv x166.src), (sv x166.dst)] := by rw [ho165]; exact hs162
  refine p_val (d := 33) (op := (Op.indexAddr 43 (Operand.tmp 32) (Operand.const (Value.int IntKind.i64 0)))) (v := (Value.pointer (some ⟨b158, o165, none⟩))) hF156 (by kernel_rfl) (by kernel_rfl) (fun w9 ⟨s9, hw9⟩ => (by rw [ho165]; exact exec_index (len := m59) (cap := c57) he161 (by kernel_rfl) (kd := .i64) 0 (by kernel_rfl) (by have := h157.ln; omega) 7 U43 L56.s)) (fun _ _ _ h => h) ?_
  intro a168 hF169
  refine p_val (d := 34) (op := (Op.load 56 (Operand.tmp 33))) (v := (Value.agg #[(Value.int .i64 (x166.channel)), (uv x166.seq), (uv x166.timeout), (sv x166.denom), (uv x166.amount), (sv x166.src), (sv x166.dst)])) hF169 (by kernel_rfl) (by kernel_rfl) (fun w9 ⟨s9, hw9⟩ => (exec_load L56 (.inl rfl) (by kernel_rfl) (hs162.step hw9).cell)) (fun _ _ _ h => h) ?_
  intro a170 hF171
  have h172 : Bx s117 w143 b10 [(Value.int .i64 ((0 : Nat) : Int)), (uv 1), (uv 3), (sv [120]), (uv 0), (sv []), (sv [])] 56 := ((h115.step' st120).step' st144)
  refine p_val (d := 35) (op := (Op.load 56 (Operand.tmp 1))) (v := (Value.agg #[(Value.int .i64 ((0 : Nat) : Int)), (uv 1), (uv 3), (sv [120]), (uv 0), (sv []), (sv [])])) hF171 (by kernel_rfl) (by kernel_rfl) (fun w9 ⟨s9, hw9⟩ => (exec_load L56 (.inl rfl) (by kernel_rfl) (Bx.cells (h172.step hw9 (fun h => h.1 rfl)) 0 7 [(Value.int .i64 ((0 : Nat) : Int)), (uv 1), (uv 3), (sv [120]), (uv 0), (sv []), (sv [])] (by kernel_rfl)))) (fun _ _ _ h => h) ?_
  intro a173 hF174
  have hF175 := hF174.keep [35, 34, 31, 7, 6, 4, 2] [(35, (Value.agg #[(Value.int .i64 ((0 : Nat) : Int)), (uv 1), (uv 3), (sv [120]), (uv 0), (sv []), (sv [])])), (34, (Value.agg #[(Value.int .i64 (x166.channel)), (uv x166.seq), (uv x166.timeout), (sv x166.denom), (uv x166.amount), (sv x166.src), (sv x166.dst)])), (31, (Value.bool true)), (7, (Value.slice A136 m139 c137)), (6, (Value.slice A130 m133 c131)), (4, (Value.slice A81 m84 c82)), (2, (Value.slice (some ⟨g31, 0, none⟩) 1 1))] (by kernel_rfl)
  refine p_val (d := 36) (op := (Op.binOp BinOp.eql 56 (Operand.tmp 34) (Operand.tmp 35) 56)) (v := (Value.bool (decide (x166 = (⟨((0 : Nat) : Int), 1, 3, [120], 0, [], []⟩ : Packet))))) hF175 (by kernel_rfl) (by kernel_rfl) (fun w9 ⟨s9, hw9⟩ => (exec_eqS (r := decide (x166 = (⟨((0 : Nat) : Int), 1, 3, [120], 0, [], []⟩ : Packet))) (by kernel_rfl) (by kernel_rfl) (by kernel_rfl) (fun w => eqin56 9998 x166 (⟨((0 : Nat) : Int), 1, 3, [120], 0, [], []⟩ : Packet) w))) (fun _ _ _ h => h) ?_
  intro a176 hF177
  have hF178 := hF177.set 36 (Value.bool (decide (x166 = (⟨((0 : Nat) : Int), 1, 3, [120], 0, [], []⟩ : Packet)))) (Value.bool true) (by kernel_rfl) (congrArg Value.bool (by subst_vars; kernel_rfl))
  refine p_run (d := 37) (v := (Value.bool true)) hF178 (by kernel_rfl) (fun _ => by kernel_rfl) (fun _ _ _ h => h) ?_
  intro a179 hF180
  refine p_run (d := 38) (v := (Value.bool true)) hF180 (by kernel_rfl) (fun _ => by kernel_rfl) (fun _ _ _ h => h) ?_
  intro a181 hF182
  refine p_run (d := 39) (v := (Value.slice A81 m84 c82)) hF182 (by kernel_rfl) (fun _ => by kernel_rfl) (fun _ _ _ h => h) ?_
  intro a183 hF184
  refine p_run (d := 40) (v := (Value.int .i64 ((m84 : Nat) : Int))) hF184 (by kernel_rfl) (fun _ => by kernel_rfl) (fun _ _ _ h => h) ?_
  intro a185 hF186
  refine p_run (d := 41) (v := (Value.bool (((m84 : Nat) : Int) == ((0 : Nat) : Int)))) hF186 (by kernel_rfl) (fun _ => by kernel_rfl) (fun _ _ _ h => h) ?_
  intro a187 hF188
  have hF189 := hF188.set 41 (Value.bool (((m84 : Nat) : Int) == ((0 : Nat) : Int))) (Value.bool true) (by kernel_rfl) (Eq.trans (congrArg Value.bool (cmp_nat_eql _ _)) (congrArg Value.bool ((by subst_vars; kernel_rfl) : (decide ((m84 : Nat) = 0)) = true)))
  have hF190 := hF189.keep [41, 38, 7, 6, 2] [(41, (Value.bool true)), (38, (Value.bool true)), (7, (Value.slice A136 m139 c137)), (6, (Value.slice A130 m133 c131)), (2, (Value.slice (some ⟨g31, 0, none⟩) 1 1))] (by kernel_rfl)
  refine p_run (d := 42) (v := (Value.bool true)) hF190 (by kernel_rfl) (fun _ => by kernel_rfl) (fun _ _ _ h => h) ?_
  intro a191 hF192
  refine p_run (d := 43) (v := (Value.bool true)) hF192 (by kernel_rfl) (fun _ => by kernel_rfl) (fun _ _ _ h => h) ?_
  intro a193 hF194
  refine p_run (d := 44) (v := (Value.slice A130 m133 c131)) hF194 (by kernel_rfl) (fun _ => by kernel_rfl) (fun _ _ _ h => h) ?_
  intro a195 hF196
  refine p_run (d := 45) (v := (Value.int .i64 ((m133 : Nat) : Int))) hF196 (by kernel_rfl) (fun _ => by kernel_rfl) (fun _ _ _ h => h) ?_
  intro a197 hF198
  refine p_run (d := 46) (v := (Value.bool (((m133 : Nat) : Int) == ((1 : Nat) : Int)))) hF198 (by kernel_rfl) (fun _ => by kernel_rfl) (fun _ _ _ h => h) ?_
  intro a199 hF200
  have hF201 := hF200.set 46 (Value.bool (((m133 : Nat) : Int) == ((1 : Nat) : Int))) (Value.bool true) (by kernel_rfl) (Eq.trans (congrArg Value.bool (cmp_nat_eql _ _)) (congrArg Value.bool ((by subst_vars; kernel_rfl) : (decide ((m133 : Nat) = 1)) = true)))
  refine p_run (d := 47) (v := (Value.bool true)) hF201 (by kernel_rfl) (fun _ => by kernel_rfl) (fun _ _ _ h => h) ?_
  intro a202 hF203
  refine p_run (d := 48) (v := (Value.bool true)) hF203 (by kernel_rfl) (fun _ => by kernel_rfl) (fun _ _ _ h => h) ?_
  intro a204 hF205
  refine p_run (d := 49) (v := (Value.slice A136 m139 c137)) hF205 (by kernel_rfl) (fun _ => by kernel_rfl) (fun _ _ _ h => h) ?_
  intro a206 hF207
  refine p_run (d := 50) (v := (Value.int .i64 ((m139 : Nat) : Int))) hF207 (by kernel_rfl) (fun _ => by kernel_rfl) (fun _ _ _ h => h) ?_
  intro a208 hF209
  have hF210 := hF209.keep [50, 48, 7, 2] [(50, (Value.int .i64 ((m139 : Nat) : Int))), (48, (Value.bool true)), (7, (Value.slice A136 m139 c137)), (2, (Value.slice (some ⟨g31, 0, none⟩) 1 1))] (by kernel_rfl)
  refine p_run (d := 51) (v := (Value.bool (((m139 : Nat) : Int) == ((1 : Nat) : Int)))) hF210 (by kernel_rfl) (fun _ => by kernel_rfl) (fun _ _ _ h => h) ?_
  intro a211 hF212
  have hF213 := hF212.set 51 (Value.bool (((m139 : Nat) : Int) == ((1 : Nat) : Int))) (Value.bool true) (by kernel_rfl) (Eq.trans (congrArg Value.bool (cmp_nat_eql _ _)) (congrArg Value.bool ((by subst_vars; kernel_rfl) : (decide ((m139 : Nat) = 1)) = true)))
  refine p_run (d := 52) (v := (Value.bool true)) hF213 (by kernel_rfl) (fun _ => by kernel_rfl) (fun _ _ _ h => h) ?_
  intro a214 hF215
  refine p_run (d := 53) (v := (Value.bool true)) hF215 (by kernel_rfl) (fun _ => by kernel_rfl) (fun _ _ _ h => h) ?_
  intro a216 hF217
  refine p_run (d := 54) (v := (Value.slice A136 m139 c137)) hF217 (by kernel_rfl) (fun _ => by kernel_rfl) (fun _ _ _ h => h) ?_
  intro a218 hF219
  have h220 : Rd tAck s117 w143 (Value.slice A136 m139 c137) ((toAnswer [(⟨1, (⟨((0 : Nat) : Int), 1, 3, [120], 0, [], []⟩ : Packet), (⟨false, ((0 : Nat) : Int)⟩ : Ack)⟩ : Event)] [(⟨2, (⟨((0 : Nat) : Int), 1, 3, [120], 0, [], []⟩ : Packet), (⟨true, ((0 : Nat) : Int)⟩ : Ack)⟩ : Event)] ((0 : Nat) : Int)).map (ackOf [(⟨2, (⟨((0 : Nat) : Int), 1, 3, [120], 0, [], []⟩ : Packet), (⟨true, ((0 : Nat) : Int)⟩ : Ack)⟩ : Event)])) := (hP135.step st144)
  have hi227 : 0 < ((toAnswer [(⟨1, (⟨((0 : Nat) : Int), 1, 3, [120], 0, [], []⟩ : Packet), (⟨false, ((0 : Nat) : Int)⟩ : Ack)⟩ : Event)] [(⟨2, (⟨((0 : Nat) : Int), 1, 3, [120], 0, [], []⟩ : Packet), (⟨true, ((0 : Nat) : Int)⟩ : Ack)⟩ : Event)] ((0 : Nat) : Int)).map (ackOf [(⟨2, (⟨((0 : Nat) : Int), 1, 3, [120], 0, [], []⟩ : Packet), (⟨true, ((0 : Nat) : Int)⟩ : Ack)⟩ : Event)])).length := (by have hq := h220.ln; first | omega | exact Nat.le_of_ble_eq_true (by kernel_rfl) | (simp only [List.length_append, List.length_cons, List.length_nil, List.length_map] at *; omega))
  obtain ⟨b221, o222, c223, he224, hs225, hr226⟩ := (h220).at 0 hi227
  obtain ⟨o228, ho228⟩ : ∃ o, o = o222 + 0 * 2 := ⟨_, rfl⟩
  obtain ⟨x229, hx230⟩ : ∃ x, x = (((toAnswer [(⟨1, (⟨((0 : Nat) : Int), 1, 3, [120], 0, [], []⟩ : Packet), (⟨false, ((0 : Nat) : Int)⟩ : Ack)⟩ : Event)] [(⟨2, (⟨((0 : Nat) : Int), 1, 3, [120], 0, [], []⟩ : Packet), (⟨true, ((0 : Nat) : Int)⟩ : Ack)⟩ : Event)] ((0 : Nat) : Int)).map (ackOf [(⟨2, (⟨((0 : Nat) : Int), 1, 3, [120], 0, [], []⟩ : Packet), (⟨true, ((0 : Nat) : Int)⟩ : Ack)⟩ : Event)]))[0]'hi227) := ⟨_, rfl⟩
  rw [← hx230] at hr226
  have hr226 : c223 = [(Value.bool x229.ok), (Value.int .i64 (x229.code))] := hr226
  subst hr226
  have hs225 : Seg s117 w143 b221 o228 [(Value.bool x229.ok), (Value.int .i64 (x229.code))] := by rw [ho228]; exact hs225
  refine p_val (d := 55) (op := (Op.indexAddr 44 (Operand.tmp 54) (Operand.const (Value.int IntKind.i64 0)))) (v := (Value.pointer (some ⟨b221, o228, none⟩))) hF219 (by kernel_rfl) (by kernel_rfl) (fun w9 ⟨s9, hw9⟩ => (by rw [ho228]; exact exec_index (len := m139) (cap := c137) he224 (by kernel_rfl) (kd := .i64) 0 (by kernel_rfl) (by have := h220.ln; omega) 2 U44 L53.s)) (fun _ _ _ h => h) ?_
  intro a231 hF232
  refine p_run (d := 56) (v := (Value.pointer (some ⟨b221, o228, none⟩))) hF232 (by kernel_rfl) (fun _ => by kernel_rfl) (fun _ _ _ h => h) ?_
  intro a233 hF234
  refine p_val (d := 57) (op := (Op.load 4 (Operand.tmp 56))) (v := (Value.bool x229.ok)) hF234 (by kernel_rfl) (by kernel_rfl) (fun w9 ⟨s9, hw9⟩ => (exec_load L4 (.inr rfl) (by kernel_rfl) (Seg.sub (hs225.step hw9) 0 1 [(Value.bool x229.ok)] (by kernel_rfl)).cell)) (fun _ _ _ h => h) ?_
  intro a235 hF236
  refine p_run (d := 58) (v := (Value.bool x229.ok)) hF236 (by kernel_rfl) (fun _ => by kernel_rfl) (fun _ _ _ h => h) ?_
  intro a237 hF238
  have hF239 := hF238.set 58 (Value.bool x229.ok) (Value.bool true) (by kernel_rfl) (congrArg Value.bool (by subst_vars; kernel_rfl))
  refine p_run (d := 59) (v := (Value.bool true)) hF239 (by kernel_rfl) (fun _ => by kernel_rfl) (fun _ _ _ h => h) ?_
  intro a240 hF241
  refine p_run (d := 60) (v := (Value.slice (some ⟨g31, 0, none⟩) 1 1)) hF241 (by kernel_rfl) (fun _ => by kernel_rfl) (fun _ _ _ h => h) ?_
  intro a242 hF243
  have hF244 := hF243.keep [60, 59] [(60, (Value.slice (some ⟨g31, 0, none⟩) 1 1)), (59, (Value.bool true))] (by kernel_rfl)
  have h245 : Own tEvent 60 w.heap.size s117 w143 (Value.slice (some ⟨g31, 0, none⟩) 1 1) [(⟨1, (⟨((0 : Nat) : Int), 1, 3, [120], 0, [], []⟩ : Packet), (⟨false, ((0 : Nat) : Int)⟩ : Ack)⟩ : Event)] := ((h114.step' st120).step' st144)
  refine p_do (r_call (d := (some 61)) (f := 31) (args := #[(Operand.tmp 60), (Operand.const (Value.int IntKind.i64 0))]) (tys := #[41, 3]) hF244 (by kernel_rfl) (by kernel_rfl) C31 [(Value.slice (some ⟨g31, 0, none⟩) 1 1), (Value.int .i64 ((0 : Nat) : Int))] (by kernel_rfl) (toTimeout_calls s117 w143 h245.rd (by decide) ((0 : Nat) : Int)) ?_)
  intro a246 s247 w248 v249 st250 hP251 hF252
  have hz253 := hS145.size
  have hS254 := hS145.then st250
  refine ⟨s247, st250.mono (fun b _ e => (fun _ e => e.elim) b e), ?_⟩
  have hP255 := hP251.rd
  obtain ⟨A256, m259, c257, rfl, hl258⟩ := hP255.formL
  have hbd260 : (toTimeout [(⟨1, (⟨((0 : Nat) : Int), 1, 3, [120], 0, [], []⟩ : Packet), (⟨false, ((0 : Nat) : Int)⟩ : Ack)⟩ : Event)] ((0 : Nat) : Int)).length ≤ 140737488355328 := Nat.le_trans (Nat.le_mul_of_pos_right _ (by decide)) hP255.bd
  refine p_run (d := 62) (v := (Value.int .i64 ((m259 : Nat) : Int))) hF252 (by kernel_rfl) (fun _ => by kernel_rfl) (fun _ _ _ h => h) ?_
  intro a261 hF262
  refine p_run (d := 63) (v := (Value.bool (((m259 : Nat) : Int) == ((1 : Nat) : Int)))) hF262 (by kernel_rfl) (fun _ => by kernel_rfl) (fun _ _ _ h => h) ?_
  intro a263 hF264
  have hF265 := hF264.set 63 (Value.bool (((m259 : Nat) : Int) == ((1 : Nat) : Int))) (Value.bool true) (by kernel_rfl) (Eq.trans (congrArg Value.bool (cmp_nat_eql _ _)) (congrArg Value.bool ((by subst_vars; kernel_rfl) : (decide ((m259 : Nat) = 1)) = true)))
  refine p_run (d := 64) (v := (Value.bool true)) hF265 (by kernel_rfl) (fun _ => by kernel_rfl) (fun _ _ _ h => h) ?_
  intro a266 hF267
  refine p_run (d := 0) (v := (Value.bool true)) hF267 (by kernel_rfl) (fun _ => by kernel_rfl) (fun _ _ _ h => h) ?_
  intro a268 hF269
  refine p_end ?_
  have hF270 := hF269.keep [0] [(0, (Value.bool true))] (by kernel_rfl)
  refine c_ret (by kernel_rfl) ?_
  try dsimp only [Exit.then, Exit.inBlock]
  refine f_ret1 hF270 0 (by kernel_rfl) (Value.bool true) (by kernel_rfl) s247 hS254 ?_
  rfl
end Go.Proofs.Ytaoamokfbhlaaaa.E
