/- Walks, printed by a program of this session. -/
import Derived.Test.YtaoamokfbhlaaaaK
import Derived.Test.Ytaoamokfbhlaaaapure21b
import Derived.Test.YtaoamokfbhlaaaaRc
import Derived.Test.YtaoamokfbhlaaaaRi
import Derived.Test.YtaoamokfbhlaaaaRe
import Derived.Test.YtaoamokfbhlaaaaRz
import Derived.Test.YtaoamokfbhlaaaaRa
set_option linter.unusedVariables false
set_option linter.unusedSimpArgs false
set_option maxRecDepth 100000
namespace Go.Proofs.Ytaoamokfbhlaaaa.E
open Go Go.RowKit
open Go.Proofs
theorem awake_calls (σ : Nat → Nat) (w : World) :
    Ctr Try.prog 25 [] noM σ w (fun σ' w' v => v = .bool true) := by
  refine ctr_enter Try.func25 c25 (by kernel_rfl) 65 (by kernel_rfl) (Nat.le_of_ble_eq_true (by kernel_rfl)) [] (by kernel_rfl) ?_
  intro a hF1
  have hS2 := Stp.refl noM σ w
  refine c_seq [0] [1] (by kernel_rfl) ?_
  refine c_reg 0 (by kernel_rfl) ?_
  refine r_runk 1 [] [] hF1 (by kernel_rfl) (by kernel_rfl) ?_
  intro a3 hF4
  refine r_end (by kernel_rfl) ?_
  refine c_seq [1, 0] [1, 1] (by kernel_rfl) ?_
  refine c_reg 1 (by kernel_rfl) ?_
  refine r_runk 1 [8] [(8, (Value.agg #[(Value.int .i64 ((0 : Nat) : Int)), (uv 1), (uv 3), (sv [120]), (uv 0), (sv []), (sv [])]))] hF4 (by kernel_rfl) (by kernel_rfl) ?_
  intro a5 hF6
  refine r_at (r_new (d := 1) (op := (Op.alloc 56)) hF6 (by kernel_rfl) (by kernel_rfl) σ [(Value.int .i64 ((0 : Nat) : Int)), (uv 0), (uv 0), (sv []), (uv 0), (sv []), (sv [])] 56 (exec_alloc [(Value.int .i64 ((0 : Nat) : Int)), (uv 0), (uv 0), (sv []), (uv 0), (sv []), (sv [])] (fun _ => .inl (by kernel_rfl))) ?_)
  intro a7 s8 w9 b10 hb11 st12 hB13 hF14
  have hz15 := hS2.size
  have hS16 := hS2.then st12
  refine r_at (r_store (t := 56) (x := (Operand.tmp 1)) (y := (Operand.tmp 8)) hF14 (by kernel_rfl) (by kernel_rfl) hB13 0 [(Value.int .i64 ((0 : Nat) : Int)), (uv 1), (uv 3), (sv [120]), (uv 0), (sv []), (sv [])] [(Value.int .i64 ((0 : Nat) : Int)), (uv 1), (uv 3), (sv [120]), (uv 0), (sv []), (sv [])] (by kernel_rfl) (by kernel_rfl) 7 true L56 rfl (by kernel_rfl) (Nat.le_of_ble_eq_true (by kernel_rfl)) (by kernel_rfl) ?_)
  intro a17 w18 st19 hB20 hF21
  have hS22 := hS16.and st19 (fun b e => by subst e; omega)
  have hF23 := hF21.keep [1] [(1, (Value.pointer (some ⟨b10, 0, none⟩)))] (by kernel_rfl)
  refine r_end (by kernel_rfl) ?_
  refine c_seq [1, 1, 0] [1, 1, 1] (by kernel_rfl) ?_
  refine c_reg 2 (by kernel_rfl) ?_
  refine r_at (r_val (d := 9) (op := (Op.load 56 (Operand.tmp 1))) hF23 (by kernel_rfl) (by kernel_rfl) (Value.agg #[(Value.int .i64 ((0 : Nat) : Int)), (uv 1), (uv 3), (sv [120]), (uv 0), (sv []), (sv [])]) w18 (exec_load L56 (.inl rfl) (by kernel_rfl) (Bx.cells hB20 0 7 [(Value.int .i64 ((0 : Nat) : Int)), (uv 1), (uv 3), (sv [120]), (uv 0), (sv []), (sv [])] (by kernel_rfl))) ?_)
  intro a24 hF25
  refine r_runk 1 [10, 1] [(10, (Value.agg #[(bv 1), (Value.int .i64 ((0 : Nat) : Int)), (uv 1), (uv 3), (sv [120]), (uv 0), (sv []), (sv []), (Value.bool false), (Value.int .i64 ((0 : Nat) : Int))])), (1, (Value.pointer (some ⟨b10, 0, none⟩)))] hF25 (by kernel_rfl) (by kernel_rfl) ?_
  intro a26 hF27
  refine r_at (r_lit tEvent (d := 11) (t := 41) (m := 1) (parts := #[(0, (Operand.tmp 10))]) hF27 (by kernel_rfl) (by kernel_rfl) s8 [(⟨1, (⟨((0 : Nat) : Int), 1, 3, [120], 0, [], []⟩ : Packet), (⟨false, ((0 : Nat) : Int)⟩ : Ack)⟩ : Event)] [(bv 1), (Value.int .i64 ((0 : Nat) : Int)), (uv 1), (uv 3), (sv [120]), (uv 0), (sv []), (sv []), (Value.bool false), (Value.int .i64 ((0 : Nat) : Int))] ⟨_, _, rfl, rfl, rfl⟩ rfl (by decide) (e := 60) (fun o e => by simp only [execOp, e]; kernel_rfl) (by decide) ?_)
  intro a28 s29 w30 g31 hg32 st33 hO34 hF35
  have hz36 := hS22.size
  have hS37 := hS22.then st33
  have hO38 : Own tEvent 60 w.heap.size s29 w30 (Value.slice (some ⟨g31, 0, none⟩) 1 1) [(⟨1, (⟨((0 : Nat) : Int), 1, 3, [120], 0, [], []⟩ : Packet), (⟨false, ((0 : Nat) : Int)⟩ : Ack)⟩ : Event)] := (hO34.le (by omega : w.heap.size ≤ _))
  have ne40 : ¬ Value.ownBlock (Value.slice (some ⟨g31, 0, none⟩) 1 1) = some b10 := fun e => by have h1 := hO34.ge e; have h2 := hB20.lt; omega
  refine r_runk 1 [2, 1] [(2, (Value.slice (some ⟨g31, 0, none⟩) 1 1)), (1, (Value.pointer (some ⟨b10, 0, none⟩)))] hF35 (by kernel_rfl) (by kernel_rfl) ?_
  intro a41 hF42
  refine r_end (by kernel_rfl) ?_
  refine c_seq [1, 1, 1, 0] [1, 1, 1, 1] (by kernel_rfl) ?_
  refine c_reg 3 (by kernel_rfl) ?_
  refine r_runk 1 [12, 2, 1] [(12, (Value.slice (some ⟨g31, 0, none⟩) 1 1)), (2, (Value.slice (some ⟨g31, 0, none⟩) 1 1)), (1, (Value.pointer (some ⟨b10, 0, none⟩)))] hF42 (by kernel_rfl) (by kernel_rfl) ?_
  intro a43 hF44
  have h45 : Bx s29 w30 b10 [(Value.int .i64 ((0 : Nat) : Int)), (uv 1), (uv 3), (sv [120]), (uv 0), (sv []), (sv [])] 56 := (hB20.step' st33)
  refine r_at (r_call (d := (some 13)) (f := 30) (args := #[(Operand.tmp 12), (Operand.const (Value.slice none 0 0)), (Operand.const (Value.int IntKind.i64 0))]) (tys := #[41, 41, 3]) hF44 (by kernel_rfl) (by kernel_rfl) C30 [(Value.slice (some ⟨g31, 0, none⟩) 1 1), (Value.slice none 0 0), (Value.int .i64 ((0 : Nat) : Int))] (by kernel_rfl) (toReceive_calls s29 w30 hO38.rd (Rd.nil _ s29 w30 none 0) (by decide) ((0 : Nat) : Int)) ?_)
  intro a46 s47 w48 v49 st50 hP51 hF52
  have hz53 := hS37.size
  have hS54 := hS37.then st50
  have hP55 := hP51.rd
  obtain ⟨A56, m59, c57, rfl, hl58⟩ := hP55.formL
  refine r_runk 1 [3, 2, 1] [(3, (Value.slice A56 m59 c57)), (2, (Value.slice (some ⟨g31, 0, none⟩) 1 1)), (1, (Value.pointer (some ⟨b10, 0, none⟩)))] hF52 (by kernel_rfl) (by kernel_rfl) ?_
  intro a60 hF61
  refine r_end (by kernel_rfl) ?_
  refine c_seq [1, 1, 1, 1, 0] [1, 1, 1, 1, 1] (by kernel_rfl) ?_
  refine c_reg 4 (by kernel_rfl) ?_
  refine r_runk 1 [15, 3, 2, 1] [(15, (Value.slice (some ⟨g31, 0, none⟩) 1 1)), (3, (Value.slice A56 m59 c57)), (2, (Value.slice (some ⟨g31, 0, none⟩) 1 1)), (1, (Value.pointer (some ⟨b10, 0, none⟩)))] hF61 (by kernel_rfl) (by kernel_rfl) ?_
  intro a62 hF63
  have h64 : Own tEvent 60 w.heap.size s47 w48 (Value.slice (some ⟨g31, 0, none⟩) 1 1) [(⟨1, (⟨((0 : Nat) : Int), 1, 3, [120], 0, [], []⟩ : Packet), (⟨false, ((0 : Nat) : Int)⟩ : Ack)⟩ : Event)] := (hO38.step' st50)
  have h65 : Bx s47 w48 b10 [(Value.int .i64 ((0 : Nat) : Int)), (uv 1), (uv 3), (sv [120]), (uv 0), (sv []), (sv [])] 56 := (h45.step' st50)
  refine r_at (r_call (d := (some 16)) (f := 28) (args := #[(Operand.tmp 15), (Operand.const (Value.slice none 0 0)), (Operand.const (Value.int IntKind.i64 0))]) (tys := #[41, 41, 3]) hF63 (by kernel_rfl) (by kernel_rfl) C28 [(Value.slice (some ⟨g31, 0, none⟩) 1 1), (Value.slice none 0 0), (Value.int .i64 ((0 : Nat) : Int))] (by kernel_rfl) (toAnswer_calls s47 w48 h64.rd (Rd.nil _ s47 w48 none 0) (by decide) ((0 : Nat) : Int)) ?_)
  intro a66 s67 w68 v69 st70 hP71 hF72
  have hz73 := hS54.size
  have hS74 := hS54.then st70
  obtain ⟨v75, v76, rfl, hP77, hP78⟩ := hP71
  have hP79 := hP77.rd
  obtain ⟨A80, m83, c81, rfl, hl82⟩ := hP79.formL
  have hP84 := hP78.rd
  obtain ⟨A85, m88, c86, rfl, hl87⟩ := hP84.formL
  refine r_runk 5 [4, 3, 2, 1] [(4, (Value.slice A80 m83 c81)), (3, (Value.slice A56 m59 c57)), (2, (Value.slice (some ⟨g31, 0, none⟩) 1 1)), (1, (Value.pointer (some ⟨b10, 0, none⟩)))] hF72 (by kernel_rfl) (by kernel_rfl) ?_
  intro a89 hF90
  refine r_end (by kernel_rfl) ?_
  refine c_seq [1, 1, 1, 1, 1, 0] [1, 1, 1, 1, 1, 1] (by kernel_rfl) ?_
  refine c_reg 5 (by kernel_rfl) ?_
  refine r_runk 1 [20, 4, 3, 2, 1] [(20, (Value.slice (some ⟨g31, 0, none⟩) 1 1)), (4, (Value.slice A80 m83 c81)), (3, (Value.slice A56 m59 c57)), (2, (Value.slice (some ⟨g31, 0, none⟩) 1 1)), (1, (Value.pointer (some ⟨b10, 0, none⟩)))] hF90 (by kernel_rfl) (by kernel_rfl) ?_
  intro a91 hF92
  have h93 : Bx s67 w68 b10 [(Value.int .i64 ((0 : Nat) : Int)), (uv 1), (uv 3), (sv [120]), (uv 0), (sv []), (sv [])] 56 := (h65.step' st70)
  refine r_at (r_val (d := 21) (op := (Op.load 56 (Operand.tmp 1))) hF92 (by kernel_rfl) (by kernel_rfl) (Value.agg #[(Value.int .i64 ((0 : Nat) : Int)), (uv 1), (uv 3), (sv [120]), (uv 0), (sv []), (sv [])]) w68 (exec_load L56 (.inl rfl) (by kernel_rfl) (Bx.cells h93 0 7 [(Value.int .i64 ((0 : Nat) : Int)), (uv 1), (uv 3), (sv [120]), (uv 0), (sv []), (sv [])] (by kernel_rfl))) ?_)
  intro a94 hF95
  refine r_runk 2 [23, 20, 4, 3, 2, 1] [(23, (Value.agg #[(bv 2), (Value.int .i64 ((0 : Nat) : Int)), (uv 1), (uv 3), (sv [120]), (uv 0), (sv []), (sv []), (Value.bool true), (Value.int .i64 ((0 : Nat) : Int))])), (20, (Value.slice (some ⟨g31, 0, none⟩) 1 1)), (4, (Value.slice A80 m83 c81)), (3, (Value.slice A56 m59 c57)), (2, (Value.slice (some ⟨g31, 0, none⟩) 1 1)), (1, (Value.pointer (some ⟨b10, 0, none⟩)))] hF95 (by kernel_rfl) (by kernel_rfl) ?_
  intro a96 hF97
  refine r_at (r_lit tEvent (d := 24) (t := 41) (m := 1) (parts := #[(0, (Operand.tmp 23))]) hF97 (by kernel_rfl) (by kernel_rfl) s67 [(⟨2, (⟨((0 : Nat) : Int), 1, 3, [120], 0, [], []⟩ : Packet), (⟨true, ((0 : Nat) : Int)⟩ : Ack)⟩ : Event)] [(bv 2), (Value.int .i64 ((0 : Nat) : Int)), (uv 1), (uv 3), (sv [120]), (uv 0), (sv []), (sv []), (Value.bool true), (Value.int .i64 ((0 : Nat) : Int))] ⟨_, _, rfl, rfl, rfl⟩ rfl (by decide) (e := 60) (fun o e => by simp only [execOp, e]; kernel_rfl) (by decide) ?_)
  intro a98 s99 w100 g101 hg102 st103 hO104 hF105
  have hz106 := hS74.size
  have hS107 := hS74.then st103
  have hO108 : Own tEvent 60 w.heap.size s99 w100 (Value.slice (some ⟨g101, 0, none⟩) 1 1) [(⟨2, (⟨((0 : Nat) : Int), 1, 3, [120], 0, [], []⟩ : Packet), (⟨true, ((0 : Nat) : Int)⟩ : Ack)⟩ : Event)] := (hO104.le (by omega : w.heap.size ≤ _))
  have ne110 : ¬ Value.ownBlock (Value.slice (some ⟨g101, 0, none⟩) 1 1) = some b10 := fun e => by have h1 := hO104.ge e; have h2 := h93.lt; omega
  have h111 : Own tEvent 60 w.heap.size s99 w100 (Value.slice (some ⟨g31, 0, none⟩) 1 1) [(⟨1, (⟨((0 : Nat) : Int), 1, 3, [120], 0, [], []⟩ : Packet), (⟨false, ((0 : Nat) : Int)⟩ : Ack)⟩ : Event)] := ((h64.step' st70).step' st103)
  have h112 : Bx s99 w100 b10 [(Value.int .i64 ((0 : Nat) : Int)), (uv 1), (uv 3), (sv [120]), (uv 0), (sv []), (sv [])] 56 := (h93.step' st103)
  refine r_at (r_call (d := (some 25)) (f := 28) (args := #[(Operand.tmp 20), (Operand.tmp 24), (Operand.const (Value.int IntKind.i64 0))]) (tys := #[41, 41, 3]) hF105 (by kernel_rfl) (by kernel_rfl) C28 [(Value.slice (some ⟨g31, 0, none⟩) 1 1), (Value.slice (some ⟨g101, 0, none⟩) 1 1), (Value.int .i64 ((0 : Nat) : Int))] (by kernel_rfl) (toAnswer_calls s99 w100 h111.rd hO108.rd (by decide) ((0 : Nat) : Int)) ?_)
  intro a113 s114 w115 v116 st117 hP118 hF119
  have hz120 := hS107.size
  have hS121 := hS107.then st117
  obtain ⟨v122, v123, rfl, hP124, hP125⟩ := hP118
  have hP126 := hP124.rd
  obtain ⟨A127, m130, c128, rfl, hl129⟩ := hP126.formL
  have hP131 := hP125.rd
  obtain ⟨A132, m135, c133, rfl, hl134⟩ := hP131.formL
  refine r_runk 5 [7, 6, 4, 3, 2, 1] [(7, (Value.slice A132 m135 c133)), (6, (Value.slice A127 m130 c128)), (4, (Value.slice A80 m83 c81)), (3, (Value.slice A56 m59 c57)), (2, (Value.slice (some ⟨g31, 0, none⟩) 1 1)), (1, (Value.pointer (some ⟨b10, 0, none⟩)))] hF119 (by kernel_rfl) (by kernel_rfl) ?_
  intro a136 hF137
  refine r_end (by kernel_rfl) ?_
  refine c_seq [1, 1, 1, 1, 1, 1, 0] [1, 1, 1, 1, 1, 1, 1] (by kernel_rfl) ?_
  refine c_plan 6 (by kernel_rfl) (by kernel_rfl) s114 (fun b => b ≠ b10 ∧ True) [(0, true), (1, true), (2, true), (3, true), (4, true), (5, true), (6, true), (7, true), (8, true), (9, true), (10, true), (11, true), (12, true), (13, true), (14, true), (15, true), (16, true), (17, true), (18, true), (19, true), (20, true), (21, true), (22, true), (23, true), (24, true), (25, true), (26, true), (27, true), (28, true), (29, true), (30, true), (31, true), (32, true), (33, false), (34, true), (35, true), (36, true), (37, true)] [(0, 268435456, 8), (1, 536870912, 268435456), (2, 1073741824, 536870912), (4, 2147483648, 1073741824), (8, 4294967296, 2147483656), (24, 8589934592, 6442450944), (40, 17179869184, 10737418240), (8, 34359738368, 2147483650), (200, 68719476736, 53687091200), (264, 137438953472, 70866960384), (520, 274877906944, 137438953472), (1024, 549755813888, 274877906960), (3072, 1099511627776, 824633720832), (5120, 2199023255552, 1374389534720), (9216, 4398046511104, 2473901162496), (17408, 8796093022208, 4398046511104), (32768, 17592186044416, 8796093022272), (98304, 35184372088832, 26388279066624), (163840, 70368744177664, 43980465111040), (294912, 140737488355328, 79164837199872), (557056, 281474976710656, 140737488355328), (1048576, 562949953421312, 281474976710784), (3145728, 1125899906842624, 844424930131968), (5242880, 2251799813685248, 1407374883553280), (9437184, 4503599627370496, 2533274790395904), (17825792, 9007199254740992, 4503599627370496), (33554432, 18014398509481984, 9007199254741120), (100663296, 36028797018963968, 27021597764222976), (167772160, 72057594037927936, 45035996273704960), (301989888, 144115188075855872, 81064793292668928), (570425344, 288230376151711744, 153122387330596864), (1107296256, 576460752303423488, 288230376151711744), (2147483648, 1152921504606846976, 576460752303423492), (6442450944, 2305843009213693952, 1729382256910270464), (10737418240, 4611686018427387904, 2882303761517117440), (19327352832, 9223372036854775808, 5188146770730811392), (36507222016, 18446744073709551616, 9799832789158199296), (137438953471, 1, 18446744073709551616)] (by kernel_rfl) (by kernel_rfl) (by kernel_rfl) (by kernel_rfl) ?_
  intro w138 st139
  have hS140 := hS121.then st139
  refine p_run (d := 28) (v := (Value.slice A56 m59 c57)) hF137 (by kernel_rfl) (fun _ => by kernel_rfl) (fun _ _ _ h => h) ?_
  intro a141 hF142
  refine p_run (d := 29) (v := (Value.int .i64 ((m59 : Nat) : Int))) hF142 (by kernel_rfl) (fun _ => by kernel_rfl) (fun _ _ _ h => h) ?_
  intro a143 hF144
  refine p_run (d := 30) (v := (Value.bool (((m59 : Nat) : Int) == ((1 : Nat) : Int)))) hF144 (by kernel_rfl) (fun _ => by kernel_rfl) (fun _ _ _ h => h) ?_
  intro a145 hF146
  have hF147 := hF146.set 30 (Value.bool (((m59 : Nat) : Int) == ((1 : Nat) : Int))) (Value.bool true) (by kernel_rfl) (Eq.trans (congrArg Value.bool (cmp_nat_eql _ _)) (congrArg Value.bool ((by subst_vars; kernel_rfl) : decide ((m59 : Nat) = 1) = true)))
  refine p_run (d := 31) (v := (Value.bool true)) hF147 (by kernel_rfl) (fun _ => by kernel_rfl) (fun _ _ _ h => h) ?_
  intro a148 hF149
  refine p_run (d := 32) (v := (Value.slice A56 m59 c57)) hF149 (by kernel_rfl) (fun _ => by kernel_rfl) (fun _ _ _ h => h) ?_
  intro a150 hF151
  have h152 : Rd tPacket s114 w138 (Value.slice A56 m59 c57) (toReceive [(⟨1, (⟨((0 : Nat) : Int), 1, 3, [120], 0, [], []⟩ : Packet), (⟨false, ((0 : Nat) : Int)⟩ : Ack)⟩ : Event)] [] ((0 : Nat) : Int)) := ((((hP55.step st70).step st103).step st117).step st139)
  have hi159 : 0 < (toReceive [(⟨1, (⟨((0 : Nat) : Int), 1, 3, [120], 0, [], []⟩ : Packet), (⟨false, ((0 : Nat) : Int)⟩ : Ack)⟩ : Event)] [] ((0 : Nat) : Int)).length := (by have hq := h152.ln; first | omega | exact Nat.le_of_ble_eq_true (by kernel_rfl) | (simp only [List.length_append, List.length_cons, List.length_nil, List.length_map] at *; omega))
  obtain ⟨b153, o154, c155, he156, hs157, hr158⟩ := (h152).at 0 hi159
  obtain ⟨o160, ho160⟩ : ∃ o, o = o154 + 0 * 7 := ⟨_, rfl⟩
  obtain ⟨x161, hx162⟩ : ∃ x, x = ((toReceive [(⟨1, (⟨((0 : Nat) : Int), 1, 3, [120], 0, [], []⟩ : Packet), (⟨false, ((0 : Nat) : Int)⟩ : Ack)⟩ : Event)] [] ((0 : Nat) : Int))[0]'hi159) := ⟨_, rfl⟩
  rw [← hx162] at hr158
  have hr158 : c155 = [(Value.int .i64 (x161.channel)), (uv x161.seq), (uv x161.timeout), (sv x161.denom), (uv x161.amount), (sv x161.src), (sv x161.dst)] := hr158
  subst hr158
  have hs157 : Seg s114 w138 b153 o160 [(Value.int .i64 (x161.channel)), (uv x161.seq), (uv x161.timeout), (sv x161.denom), (uv x161.amount), (sv x161.src), (sv x161.dst)] := by rw [ho160]; exact hs157
  refine p_val (d := 33) (op := (Op.indexAddr 43 (Operand.tmp 32) (Operand.const (Value.int IntKind.i64 0)))) (v := (Value.pointer (some ⟨b153, o160, none⟩))) hF151 (by kernel_rfl) (by kernel_rfl) (fun w9 ⟨s9, hw9⟩ => (by rw [ho160]; exact exec_index (len := m59) (cap := c57) he156 (by kernel_rfl) (kd := .i64) 0 (by kernel_rfl) (by have := h152.ln; omega) 7 U43 L56.s)) (fun _ _ _ h => h) ?_
  intro a163 hF164
  refine p_val (d := 34) (op := (Op.load 56 (Operand.tmp 33))) (v := (Value.agg #[(Value.int .i64 (x161.channel)), (uv x161.seq), (uv x161.timeout), (sv x161.denom), (uv x161.amount), (sv x161.src), (sv x161.dst)])) hF164 (by kernel_rfl) (by kernel_rfl) (fun w9 ⟨s9, hw9⟩ => (exec_load L56 (.inl rfl) (by kernel_rfl) (hs157.step hw9).cell)) (fun _ _ _ h => h) ?_
  intro a165 hF166
  have h167 : Bx s114 w138 b10 [(Value.int .i64 ((0 : Nat) : Int)), (uv 1), (uv 3), (sv [120]), (uv 0), (sv []), (sv [])] 56 := ((h112.step' st117).step' st139)
  refine p_val (d := 35) (op := (Op.load 56 (Operand.tmp 1))) (v := (Value.agg #[(Value.int .i64 ((0 : Nat) : Int)), (uv 1), (uv 3), (sv [120]), (uv 0), (sv []), (sv [])])) hF166 (by kernel_rfl) (by kernel_rfl) (fun w9 ⟨s9, hw9⟩ => (exec_load L56 (.inl rfl) (by kernel_rfl) (Bx.cells (h167.step hw9 (fun h => h.1 rfl)) 0 7 [(Value.int .i64 ((0 : Nat) : Int)), (uv 1), (uv 3), (sv [120]), (uv 0), (sv []), (sv [])] (by kernel_rfl)))) (fun _ _ _ h => h) ?_
  intro a168 hF169
  have hF170 := hF169.keep [35, 34, 31, 7, 6, 4, 2] [(35, (Value.agg #[(Value.int .i64 ((0 : Nat) : Int)), (uv 1), (uv 3), (sv [120]), (uv 0), (sv []), (sv [])])), (34, (Value.agg #[(Value.int .i64 (x161.channel)), (uv x161.seq), (uv x161.timeout), (sv x161.denom), (uv x161.amount), (sv x161.src), (sv x161.dst)])), (31, (Value.bool true)), (7, (Value.slice A132 m135 c133)), (6, (Value.slice A127 m130 c128)), (4, (Value.slice A80 m83 c81)), (2, (Value.slice (some ⟨g31, 0, none⟩) 1 1))] (by kernel_rfl)
  refine p_val (d := 36) (op := (Op.binOp BinOp.eql 56 (Operand.tmp 34) (Operand.tmp 35) 56)) (v := (Value.bool (decide (x161 = (⟨((0 : Nat) : Int), 1, 3, [120], 0, [], []⟩ : Packet))))) hF170 (by kernel_rfl) (by kernel_rfl) (fun w9 ⟨s9, hw9⟩ => (exec_eqS (r := decide (x161 = (⟨((0 : Nat) : Int), 1, 3, [120], 0, [], []⟩ : Packet))) (by kernel_rfl) (by kernel_rfl) (by kernel_rfl) (fun w => eqin56 9998 x161 (⟨((0 : Nat) : Int), 1, 3, [120], 0, [], []⟩ : Packet) w))) (fun _ _ _ h => h) ?_
  intro a171 hF172
  have hF173 := hF172.set 36 (Value.bool (decide (x161 = (⟨((0 : Nat) : Int), 1, 3, [120], 0, [], []⟩ : Packet)))) (Value.bool true) (by kernel_rfl) (congrArg Value.bool (by subst_vars; kernel_rfl))
  refine p_run (d := 37) (v := (Value.bool true)) hF173 (by kernel_rfl) (fun _ => by kernel_rfl) (fun _ _ _ h => h) ?_
  intro a174 hF175
  refine p_run (d := 38) (v := (Value.bool true)) hF175 (by kernel_rfl) (fun _ => by kernel_rfl) (fun _ _ _ h => h) ?_
  intro a176 hF177
  refine p_run (d := 39) (v := (Value.slice A80 m83 c81)) hF177 (by kernel_rfl) (fun _ => by kernel_rfl) (fun _ _ _ h => h) ?_
  intro a178 hF179
  refine p_run (d := 40) (v := (Value.int .i64 ((m83 : Nat) : Int))) hF179 (by kernel_rfl) (fun _ => by kernel_rfl) (fun _ _ _ h => h) ?_
  intro a180 hF181
  refine p_run (d := 41) (v := (Value.bool (((m83 : Nat) : Int) == ((0 : Nat) : Int)))) hF181 (by kernel_rfl) (fun _ => by kernel_rfl) (fun _ _ _ h => h) ?_
  intro a182 hF183
  have hF184 := hF183.set 41 (Value.bool (((m83 : Nat) : Int) == ((0 : Nat) : Int))) (Value.bool true) (by kernel_rfl) (Eq.trans (congrArg Value.bool (cmp_nat_eql _ _)) (congrArg Value.bool ((by subst_vars; kernel_rfl) : decide ((m83 : Nat) = 0) = true)))
  have hF185 := hF184.keep [41, 38, 7, 6, 2] [(41, (Value.bool true)), (38, (Value.bool true)), (7, (Value.slice A132 m135 c133)), (6, (Value.slice A127 m130 c128)), (2, (Value.slice (some ⟨g31, 0, none⟩) 1 1))] (by kernel_rfl)
  refine p_run (d := 42) (v := (Value.bool true)) hF185 (by kernel_rfl) (fun _ => by kernel_rfl) (fun _ _ _ h => h) ?_
  intro a186 hF187
  refine p_run (d := 43) (v := (Value.bool true)) hF187 (by kernel_rfl) (fun _ => by kernel_rfl) (fun _ _ _ h => h) ?_
  intro a188 hF189
  refine p_run (d := 44) (v := (Value.slice A127 m130 c128)) hF189 (by kernel_rfl) (fun _ => by kernel_rfl) (fun _ _ _ h => h) ?_
  intro a190 hF191
  refine p_run (d := 45) (v := (Value.int .i64 ((m130 : Nat) : Int))) hF191 (by kernel_rfl) (fun _ => by kernel_rfl) (fun _ _ _ h => h) ?_
  intro a192 hF193
  refine p_run (d := 46) (v := (Value.bool (((m130 : Nat) : Int) == ((1 : Nat) : Int)))) hF193 (by kernel_rfl) (fun _ => by kernel_rfl) (fun _ _ _ h => h) ?_
  intro a194 hF195
  have hF196 := hF195.set 46 (Value.bool (((m130 : Nat) : Int) == ((1 : Nat) : Int))) (Value.bool true) (by kernel_rfl) (Eq.trans (congrArg Value.bool (cmp_nat_eql _ _)) (congrArg Value.bool ((by subst_vars; kernel_rfl) : decide ((m130 : Nat) = 1) = true)))
  refine p_run (d := 47) (v := (Value.bool true)) hF196 (by kernel_rfl) (fun _ => by kernel_rfl) (fun _ _ _ h => h) ?_
  intro a197 hF198
  refine p_run (d := 48) (v := (Value.bool true)) hF198 (by kernel_rfl) (fun _ => by kernel_rfl) (fun _ _ _ h => h) ?_
  intro a199 hF200
  refine p_run (d := 49) (v := (Value.slice A132 m135 c133)) hF200 (by kernel_rfl) (fun _ => by kernel_rfl) (fun _ _ _ h => h) ?_
  intro a201 hF202
  refine p_run (d := 50) (v := (Value.int .i64 ((m135 : Nat) : Int))) hF202 (by kernel_rfl) (fun _ => by kernel_rfl) (fun _ _ _ h => h) ?_
  intro a203 hF204
  have hF205 := hF204.keep [50, 48, 7, 2] [(50, (Value.int .i64 ((m135 : Nat) : Int))), (48, (Value.bool true)), (7, (Value.slice A132 m135 c133)), (2, (Value.slice (some ⟨g31, 0, none⟩) 1 1))] (by kernel_rfl)
  refine p_run (d := 51) (v := (Value.bool (((m135 : Nat) : Int) == ((1 : Nat) : Int)))) hF205 (by kernel_rfl) (fun _ => by kernel_rfl) (fun _ _ _ h => h) ?_
  intro a206 hF207
  have hF208 := hF207.set 51 (Value.bool (((m135 : Nat) : Int) == ((1 : Nat) : Int))) (Value.bool true) (by kernel_rfl) (Eq.trans (congrArg Value.bool (cmp_nat_eql _ _)) (congrArg Value.bool ((by subst_vars; kernel_rfl) : decide ((m135 : Nat) = 1) = true)))
  refine p_run (d := 52) (v := (Value.bool true)) hF208 (by kernel_rfl) (fun _ => by kernel_rfl) (fun _ _ _ h => h) ?_
  intro a209 hF210
  refine p_run (d := 53) (v := (Value.bool true)) hF210 (by kernel_rfl) (fun _ => by kernel_rfl) (fun _ _ _ h => h) ?_
  intro a211 hF212
  refine p_run (d := 54) (v := (Value.slice A132 m135 c133)) hF212 (by kernel_rfl) (fun _ => by kernel_rfl) (fun _ _ _ h => h) ?_
  intro a213 hF214
  have h215 : Rd tAck s114 w138 (Value.slice A132 m135 c133) ((toAnswer [(⟨1, (⟨((0 : Nat) : Int), 1, 3, [120], 0, [], []⟩ : Packet), (⟨false, ((0 : Nat) : Int)⟩ : Ack)⟩ : Event)] [(⟨2, (⟨((0 : Nat) : Int), 1, 3, [120], 0, [], []⟩ : Packet), (⟨true, ((0 : Nat) : Int)⟩ : Ack)⟩ : Event)] ((0 : Nat) : Int)).map (ackOf [(⟨2, (⟨((0 : Nat) : Int), 1, 3, [120], 0, [], []⟩ : Packet), (⟨true, ((0 : Nat) : Int)⟩ : Ack)⟩ : Event)])) := (hP131.step st139)
  have hi222 : 0 < ((toAnswer [(⟨1, (⟨((0 : Nat) : Int), 1, 3, [120], 0, [], []⟩ : Packet), (⟨false, ((0 : Nat) : Int)⟩ : Ack)⟩ : Event)] [(⟨2, (⟨((0 : Nat) : Int), 1, 3, [120], 0, [], []⟩ : Packet), (⟨true, ((0 : Nat) : Int)⟩ : Ack)⟩ : Event)] ((0 : Nat) : Int)).map (ackOf [(⟨2, (⟨((0 : Nat) : Int), 1, 3, [120], 0, [], []⟩ : Packet), (⟨true, ((0 : Nat) : Int)⟩ : Ack)⟩ : Event)])).length := (by have hq := h215.ln; first | omega | exact Nat.le_of_ble_eq_true (by kernel_rfl) | (simp only [List.length_append, List.length_cons, List.length_nil, List.length_map] at *; omega))
  obtain ⟨b216, o217, c218, he219, hs220, hr221⟩ := (h215).at 0 hi222
  obtain ⟨o223, ho223⟩ : ∃ o, o = o217 + 0 * 2 := ⟨_, rfl⟩
  obtain ⟨x224, hx225⟩ : ∃ x, x = (((toAnswer [(⟨1, (⟨((0 : Nat) : Int), 1, 3, [120], 0, [], []⟩ : Packet), (⟨false, ((0 : Nat) : Int)⟩ : Ack)⟩ : Event)] [(⟨2, (⟨((0 : Nat) : Int), 1, 3, [120], 0, [], []⟩ : Packet), (⟨true, ((0 : Nat) : Int)⟩ : Ack)⟩ : Event)] ((0 : Nat) : Int)).map (ackOf [(⟨2, (⟨((0 : Nat) : Int), 1, 3, [120], 0, [], []⟩ : Packet), (⟨true, ((0 : Nat) : Int)⟩ : Ack)⟩ : Event)]))[0]'hi222) := ⟨_, rfl⟩
  rw [← hx225] at hr221
  have hr221 : c218 = [(Value.bool x224.ok), (Value.int .i64 (x224.code))] := hr221
  subst hr221
  have hs220 : Seg s114 w138 b216 o223 [(Value.bool x224.ok), (Value.int .i64 (x224.code))] := by rw [ho223]; exact hs220
  refine p_val (d := 55) (op := (Op.indexAddr 44 (Operand.tmp 54) (Operand.const (Value.int IntKind.i64 0)))) (v := (Value.pointer (some ⟨b216, o223, none⟩))) hF214 (by kernel_rfl) (by kernel_rfl) (fun w9 ⟨s9, hw9⟩ => (by rw [ho223]; exact exec_index (len := m135) (cap := c133) he219 (by kernel_rfl) (kd := .i64) 0 (by kernel_rfl) (by have := h215.ln; omega) 2 U44 L53.s)) (fun _ _ _ h => h) ?_
  intro a226 hF227
  refine p_run (d := 56) (v := (Value.pointer (some ⟨b216, o223, none⟩))) hF227 (by kernel_rfl) (fun _ => by kernel_rfl) (fun _ _ _ h => h) ?_
  intro a228 hF229
  refine p_val (d := 57) (op := (Op.load 4 (Operand.tmp 56))) (v := (Value.bool x224.ok)) hF229 (by kernel_rfl) (by kernel_rfl) (fun w9 ⟨s9, hw9⟩ => (exec_load L4 (.inr rfl) (by kernel_rfl) (Seg.sub (hs220.step hw9) 0 1 [(Value.bool x224.ok)] (by kernel_rfl)).cell)) (fun _ _ _ h => h) ?_
  intro a230 hF231
  refine p_run (d := 58) (v := (Value.bool x224.ok)) hF231 (by kernel_rfl) (fun _ => by kernel_rfl) (fun _ _ _ h => h) ?_
  intro a232 hF233
  have hF234 := hF233.set 58 (Value.bool x224.ok) (Value.bool true) (by kernel_rfl) (congrArg Value.bool (by subst_vars; kernel_rfl))
  refine p_run (d := 59) (v := (Value.bool true)) hF234 (by kernel_rfl) (fun _ => by kernel_rfl) (fun _ _ _ h => h) ?_
  intro a235 hF236
  refine p_run (d := 60) (v := (Value.slice (some ⟨g31, 0, none⟩) 1 1)) hF236 (by kernel_rfl) (fun _ => by kernel_rfl) (fun _ _ _ h => h) ?_
  intro a237 hF238
  have hF239 := hF238.keep [60, 59] [(60, (Value.slice (some ⟨g31, 0, none⟩) 1 1)), (59, (Value.bool true))] (by kernel_rfl)
  have h240 : Own tEvent 60 w.heap.size s114 w138 (Value.slice (some ⟨g31, 0, none⟩) 1 1) [(⟨1, (⟨((0 : Nat) : Int), 1, 3, [120], 0, [], []⟩ : Packet), (⟨false, ((0 : Nat) : Int)⟩ : Ack)⟩ : Event)] := ((h111.step' st117).step' st139)
  refine p_do (r_call (d := (some 61)) (f := 31) (args := #[(Operand.tmp 60), (Operand.const (Value.int IntKind.i64 0))]) (tys := #[41, 3]) hF239 (by kernel_rfl) (by kernel_rfl) C31 [(Value.slice (some ⟨g31, 0, none⟩) 1 1), (Value.int .i64 ((0 : Nat) : Int))] (by kernel_rfl) (toTimeout_calls s114 w138 h240.rd (by decide) ((0 : Nat) : Int)) ?_)
  intro a241 s242 w243 v244 st245 hP246 hF247
  have hz248 := hS140.size
  have hS249 := hS140.then st245
  refine ⟨s242, st245.mono (fun b _ e => (fun _ e => e.elim) b e), ?_⟩
  have hP250 := hP246.rd
  obtain ⟨A251, m254, c252, rfl, hl253⟩ := hP250.formL
  refine p_run (d := 62) (v := (Value.int .i64 ((m254 : Nat) : Int))) hF247 (by kernel_rfl) (fun _ => by kernel_rfl) (fun _ _ _ h => h) ?_
  intro a255 hF256
  refine p_run (d := 63) (v := (Value.bool (((m254 : Nat) : Int) == ((1 : Nat) : Int)))) hF256 (by kernel_rfl) (fun _ => by kernel_rfl) (fun _ _ _ h => h) ?_
  intro a257 hF258
  have hF259 := hF258.set 63 (Value.bool (((m254 : Nat) : Int) == ((1 : Nat) : Int))) (Value.bool true) (by kernel_rfl) (Eq.trans (congrArg Value.bool (cmp_nat_eql _ _)) (congrArg Value.bool ((by subst_vars; kernel_rfl) : decide ((m254 : Nat) = 1) = true)))
  refine p_run (d := 64) (v := (Value.bool true)) hF259 (by kernel_rfl) (fun _ => by kernel_rfl) (fun _ _ _ h => h) ?_
  intro a260 hF261
  refine p_run (d := 0) (v := (Value.bool true)) hF261 (by kernel_rfl) (fun _ => by kernel_rfl) (fun _ _ _ h => h) ?_
  intro a262 hF263
  refine p_end ?_
  have hF264 := hF263.keep [0] [(0, (Value.bool true))] (by kernel_rfl)
  refine c_ret (by kernel_rfl) ?_
  try dsimp only [Exit.then, Exit.inBlock]
  refine f_ret1 hF264 0 (by kernel_rfl) (Value.bool true) (by kernel_rfl) s242 hS249 ?_
  rfl
end Go.Proofs.Ytaoamokfbhlaaaa.E
