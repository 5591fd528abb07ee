/- Walks, printed by a program of this session. -/
import Derived.Test.YtaoamokfbhlaaaaK
import Derived.Test.Ytaoamokfbhlaaaapure17b
import Derived.Test.YtaoamokfbhlaaaaE8
import Derived.Test.YtaoamokfbhlaaaaKn
set_option linter.unusedVariables false
set_option linter.unusedSimpArgs false
set_option maxRecDepth 100000
namespace Go.Proofs.Ytaoamokfbhlaaaa.E
open Go Go.RowKit
open Go.Proofs
theorem value_eight_calls (σ : Nat → Nat) (w : World) (n : UInt64) {v0 : Value} (h0 : Rd tU8 σ w v0 (eight n)) : Ctr Try.prog 23 [v0] noM σ w (fun σ' w' v => v = .tuple #[uv n, iv 0]) := by
  have h := value_calls σ w h0
  rw [value_eight] at h
  exact h
theorem value_ok_calls (σ : Nat → Nat) (w : World) {v0 : Value} {b : List UInt8} (h0 : Rd tU8 σ w v0 b) (hb : b.length = 8) : Ctr Try.prog 23 [v0] noM σ w (fun σ' w' v => v = .tuple #[uv (valueL b).1, iv 0]) := by
  have h := value_calls σ w h0
  rw [value_ok b hb] at h
  exact h
theorem value_no_calls (σ : Nat → Nat) (w : World) {v0 : Value} {b : List UInt8} (h0 : Rd tU8 σ w v0 b) (hb : ¬ b.length = 8) : Ctr Try.prog 23 [v0] noM σ w (fun σ' w' v => v = .tuple #[uv 0, iv 7]) := by
  have h := value_calls σ w h0
  rw [value_no b hb] at h
  exact h

theorem keysNums_ok (σ : Nat → Nat) (w : World) (n : UInt64) {v0 : Value} {b : List UInt8} (h0 : Rd tU8 σ w v0 b) (hb : b.length = 8) :
    Ctr Try.prog 5 [(uv n), v0] noM σ w (fun σ' w' v => v = .bool true) := by
  obtain ⟨A0, c0, rfl, hl0⟩ := h0.form
  have hbd := h0.bd
  have hb1 : b.length ≤ 140737488355328 := by have : tU8.by_ = 1 := rfl; rw [this] at hbd; omega
  refine ctr_enter Try.func5 c5 (by kernel_rfl) 71 (by kernel_rfl) (Nat.le_of_ble_eq_true (by kernel_rfl)) [(0, (uv n)), (1, (Value.slice A0 b.length c0))] (by kernel_rfl) ?_
  intro a hF1
  have hS2 := Stp.refl noM σ w
  refine c_seq [0] [1] (by kernel_rfl) ?_
  refine c_reg 0 (by kernel_rfl) ?_
  refine r_runk 1 [0, 1] [(0, (uv n)), (1, (Value.slice A0 b.length c0))] hF1 (by kernel_rfl) (by kernel_rfl) ?_
  intro a3 hF4
  refine r_end (by kernel_rfl) ?_
  refine c_seq [1, 0] [1, 1] (by kernel_rfl) ?_
  refine c_seq [1, 0, 0] [1, 0, 1] (by kernel_rfl) ?_
  refine c_reg 1 (by kernel_rfl) ?_
  refine r_at (r_call (d := (some 10)) (f := 10) (args := #[]) (tys := #[]) hF4 (by kernel_rfl) (by kernel_rfl) C10 [] (by kernel_rfl) (awake17_calls σ w ) ?_)
  intro a5 s6 w7 v8 st9 hP10 hF11
  have hz12 := hS2.size
  have hS13 := hS2.then st9
  subst hP10
  refine r_runk 1 [11, 0, 1] [(11, (Value.bool false)), (0, (uv n)), (1, (Value.slice A0 b.length c0))] hF11 (by kernel_rfl) (by kernel_rfl) ?_
  intro a14 hF15
  refine r_end (by kernel_rfl) ?_
  refine c_cond_false [1, 0, 1, 0] [1, 0, 1, 1] 11 (by kernel_rfl) hF15 (by kernel_rfl) ?_
  refine c_skip (by kernel_rfl) ?_
  refine c_seq [1, 1, 0] [1, 1, 1] (by kernel_rfl) ?_
  refine c_reg 3 (by kernel_rfl) ?_
  refine r_runk 1 [12, 0, 1] [(12, (uv n)), (0, (uv n)), (1, (Value.slice A0 b.length c0))] hF15 (by kernel_rfl) (by kernel_rfl) ?_
  intro a16 hF17
  refine r_at (r_call (d := (some 13)) (f := 22) (args := #[(Operand.tmp 12)]) (tys := #[22]) hF17 (by kernel_rfl) (by kernel_rfl) C22 [(uv n)] (by kernel_rfl) (num_calls s6 w7 n) ?_)
  intro a18 s19 w20 v21 st22 hP23 hF24
  have hz25 := hS13.size
  have hS26 := hS13.then st22
  obtain ⟨A27, m30, c28, rfl, hl29⟩ := hP23.formL
  have hO31 : Own tU8 5 w.heap.size s19 w20 (Value.slice A27 m30 c28) (eight n) := hP23.le (by omega)
  refine r_runk 1 [5, 0, 1] [(5, (Value.slice A27 m30 c28)), (0, (uv n)), (1, (Value.slice A0 b.length c0))] hF24 (by kernel_rfl) (by kernel_rfl) ?_
  intro a33 hF34
  refine r_end (by kernel_rfl) ?_
  refine c_seq [1, 1, 1, 0] [1, 1, 1, 1] (by kernel_rfl) ?_
  refine c_reg 4 (by kernel_rfl) ?_
  refine r_runk 1 [15, 5, 0, 1] [(15, (Value.slice A27 m30 c28)), (5, (Value.slice A27 m30 c28)), (0, (uv n)), (1, (Value.slice A0 b.length c0))] hF34 (by kernel_rfl) (by kernel_rfl) ?_
  intro a35 hF36
  refine r_at (r_call (d := (some 16)) (f := 23) (args := #[(Operand.tmp 15)]) (tys := #[27]) hF36 (by kernel_rfl) (by kernel_rfl) C23 [(Value.slice A27 m30 c28)] (by kernel_rfl) (value_eight_calls s19 w20  n hO31.rd) ?_)
  intro a37 s38 w39 v40 st41 hP42 hF43
  have hz44 := hS26.size
  have hS45 := hS26.then st41
  subst hP42
  refine r_runk 5 [7, 6, 5, 0, 1] [(7, (Value.int .i64 ((0 : Nat) : Int))), (6, (uv n)), (5, (Value.slice A27 m30 c28)), (0, (uv n)), (1, (Value.slice A0 b.length c0))] hF43 (by kernel_rfl) (by kernel_rfl) ?_
  intro a46 hF47
  refine r_end (by kernel_rfl) ?_
  refine c_seq [1, 1, 1, 1, 0] [1, 1, 1, 1, 1] (by kernel_rfl) ?_
  refine c_reg 5 (by kernel_rfl) ?_
  refine r_runk 1 [20, 7, 6, 5, 0, 1] [(20, (Value.slice A0 b.length c0)), (7, (Value.int .i64 ((0 : Nat) : Int))), (6, (uv n)), (5, (Value.slice A27 m30 c28)), (0, (uv n)), (1, (Value.slice A0 b.length c0))] hF47 (by kernel_rfl) (by kernel_rfl) ?_
  intro a48 hF49
  have h50 : Rd tU8 s38 w39 (Value.slice A0 b.length c0) b := h0.step hS45
  refine r_at (r_call (d := (some 21)) (f := 23) (args := #[(Operand.tmp 20)]) (tys := #[27]) hF49 (by kernel_rfl) (by kernel_rfl) C23 [(Value.slice A0 b.length c0)] (by kernel_rfl) (value_ok_calls s38 w39  h50 hb) ?_)
  intro a51 s52 w53 v54 st55 hP56 hF57
  have hz58 := hS45.size
  have hS59 := hS45.then st55
  subst hP56
  refine r_runk 5 [9, 8, 7, 6, 5, 0, 1] [(9, (Value.int .i64 ((0 : Nat) : Int))), (8, (uv ((valueL b).1))), (7, (Value.int .i64 ((0 : Nat) : Int))), (6, (uv n)), (5, (Value.slice A27 m30 c28)), (0, (uv n)), (1, (Value.slice A0 b.length c0))] hF57 (by kernel_rfl) (by kernel_rfl) ?_
  intro a60 hF61
  refine r_end (by kernel_rfl) ?_
  refine c_seq [1, 1, 1, 1, 1, 0] [1, 1, 1, 1, 1, 1] (by kernel_rfl) ?_
  refine c_plan 6 (by kernel_rfl) (by kernel_rfl) s52 (fun b => True) [(0, true), (2, true), (1, true), (3, false), (4, true), (5, true), (6, true), (7, true), (8, true), (9, true), (10, true), (11, true), (12, true), (13, true), (14, true), (15, true), (16, true), (17, true), (18, true), (19, true), (20, true), (21, true), (22, true), (23, true), (24, true), (25, true), (26, true), (27, true), (28, true), (29, true), (30, true), (31, true), (32, true), (33, true), (34, true), (35, true), (36, true), (37, true), (38, true), (39, true), (42, true), (43, true), (40, false), (41, true), (44, true), (45, true), (46, true), (47, true)] [(0, 16777216, 32), (1, 33554432, 16777216), (0, 67108864, 1), (4, 134217728, 67108864), (8, 268435456, 134217728), (18, 536870912, 301989888), (40, 1073741824, 536870912), (64, 2147483648, 1073741952), (192, 4294967296, 3221225472), (320, 8589934592, 5368709120), (576, 17179869184, 8589934592), (1024, 34359738368, 17179869248), (1024, 68719476736, 17179869185), (7168, 137438953472, 120259084288), (9216, 274877906944, 154618822656), (17408, 549755813888, 274877906944), (32768, 1099511627776, 549755814400), (98304, 2199023255552, 1649267441664), (32768, 4398046511104, 549755813890), (294912, 8796093022208, 4947802324992), (557056, 17592186044416, 9345848836096), (1212416, 35184372088832, 20340965113856), (2129920, 70368744177664, 35734127902720), (4227072, 140737488355328, 70368744177664), (8388608, 281474976710656, 140737488355840), (25165824, 562949953421312, 422212465065984), (41943040, 1125899906842624, 703687441776640), (67108864, 2251799813685248, 1125899906843136), (201326592, 4503599627370496, 3377699720527872), (335544320, 9007199254740992, 5629499534213120), (536870912, 18014398509481984, 9007199254741248), (1610612736, 36028797018963968, 27021597764222976), (2751463424, 72057594037927936, 46161896180547584), (4370464768, 144115188075855872, 73324231433125888), (8598323200, 288230376151711744, 144255925564211200), (17716740096, 576460752303423488, 288230376151711744), (34359738368, 1152921504606846976, 576460752303424000), (103079215104, 2305843009213693952, 1729382256910270464), (171798691840, 4611686018427387904, 2882303761517117440), (274877906944, 9223372036854775808, 4611686018427388160), (824633720832, 18446744073709551616, 13835058055282163712), (1374389534720, 36893488147419103232, 23058430092136939520), (274877906944, 73786976294838206464, 4611686018427387906), (4672924418048, 147573952589676412928, 78398662313265594368), (11269994184704, 295147905179352825856, 189079126755522904064), (17901423689728, 590295810358705651712, 300336051950083637248), (35218731827200, 1180591620717411303424, 590872271111009075200), (140737488355327, 16, 1180591620717411303424)] (by kernel_rfl) (by kernel_rfl) (by kernel_rfl) (by kernel_rfl) ?_
  intro w62 st63
  have hS64 := hS59.then st63
  refine p_run (d := 24) (v := (Value.slice A27 m30 c28)) hF61 (by kernel_rfl) (fun _ => by kernel_rfl) (fun _ _ _ h => h) ?_
  intro a65 hF66
  refine p_run (d := 26) (v := (uv n)) hF66 (by kernel_rfl) (fun _ => by kernel_rfl) (fun _ _ _ h => h) ?_
  intro a67 hF68
  have h69 : Own tU8 5 w.heap.size s52 w62 (Value.slice A27 m30 c28) (eight n) := (((hO31.step' st41).step' st55).step' st63)
  refine p_val (d := 25) (op := (Op.convert 27 9 (Operand.tmp 24))) (v := (sv (eight n))) hF68 (by kernel_rfl) (by kernel_rfl) (fun w9 ⟨s9, hw9⟩ => (exec_b2s U27 U5 U9 (by kernel_rfl) (h69.rd.step hw9))) (fun _ _ _ h => h) ?_
  intro a70 hF71
  refine p_do (r_call (d := (some 27)) (f := 24) (args := #[(Operand.tmp 26)]) (tys := #[22]) hF71 (by kernel_rfl) (by kernel_rfl) C24 [(uv n)] (by kernel_rfl) (eight_calls s52 w62 n) ?_)
  intro a72 s73 w74 v75 st76 hP77 hF78
  have hz79 := hS64.size
  have hS80 := hS64.then st76
  refine ⟨s73, st76.mono (fun b _ e => (fun _ e => e.elim) b e), ?_⟩
  obtain ⟨A81, m84, c82, rfl, hl83⟩ := hP77.formL
  have hO85 : Own tU8 5 w.heap.size s73 w74 (Value.slice A81 m84 c82) (eight n) := hP77.le (by omega)
  refine p_val (d := 28) (op := (Op.convert 27 9 (Operand.tmp 27))) (v := (sv (eight n))) hF78 (by kernel_rfl) (by kernel_rfl) (fun w9 ⟨s9, hw9⟩ => (exec_b2s U27 U5 U9 (by kernel_rfl) (hO85.rd.step hw9))) (fun _ _ _ h => h) ?_
  intro a87 hF88
  refine p_run (d := 29) (v := (Value.bool ((⟨(eight n).toArray⟩ : ByteArray).toList == (⟨(eight n).toArray⟩ : ByteArray).toList))) hF88 (by kernel_rfl) (fun _ => by kernel_rfl) (fun _ _ _ h => h) ?_
  intro a89 hF90
  have hF91 := hF90.set 29 (Value.bool ((⟨(eight n).toArray⟩ : ByteArray).toList == (⟨(eight n).toArray⟩ : ByteArray).toList)) (Value.bool true) (by kernel_rfl) (Eq.trans (congrArg Value.bool (str_eql _ _)) (congrArg Value.bool ((decide_eq_true rfl) : decide (eight n = eight n) = true)))
  refine p_run (d := 30) (v := (Value.bool true)) hF91 (by kernel_rfl) (fun _ => by kernel_rfl) (fun _ _ _ h => h) ?_
  intro a92 hF93
  have hF94 := hF93.keep [30, 9, 8, 7, 6, 0, 1] [(30, (Value.bool true)), (9, (Value.int .i64 ((0 : Nat) : Int))), (8, (uv ((valueL b).1))), (7, (Value.int .i64 ((0 : Nat) : Int))), (6, (uv n)), (0, (uv n)), (1, (Value.slice A0 b.length c0))] (by kernel_rfl)
  refine p_run (d := 31) (v := (Value.int .i64 ((0 : Nat) : Int))) hF94 (by kernel_rfl) (fun _ => by kernel_rfl) (fun _ _ _ h => h) ?_
  intro a95 hF96
  refine p_run (d := 32) (v := (Value.bool true)) hF96 (by kernel_rfl) (fun _ => by kernel_rfl) (fun _ _ _ h => h) ?_
  intro a97 hF98
  refine p_run (d := 33) (v := (Value.bool true)) hF98 (by kernel_rfl) (fun _ => by kernel_rfl) (fun _ _ _ h => h) ?_
  intro a99 hF100
  refine p_run (d := 34) (v := (Value.bool true)) hF100 (by kernel_rfl) (fun _ => by kernel_rfl) (fun _ _ _ h => h) ?_
  intro a101 hF102
  refine p_run (d := 35) (v := (uv n)) hF102 (by kernel_rfl) (fun _ => by kernel_rfl) (fun _ _ _ h => h) ?_
  intro a103 hF104
  refine p_run (d := 36) (v := (uv n)) hF104 (by kernel_rfl) (fun _ => by kernel_rfl) (fun _ _ _ h => h) ?_
  intro a105 hF106
  refine p_run (d := 37) (v := (Value.bool (((n).toNat : Int) == ((n).toNat : Int)))) hF106 (by kernel_rfl) (fun _ => by kernel_rfl) (fun _ _ _ h => h) ?_
  intro a107 hF108
  have hF109 := hF108.set 37 (Value.bool (((n).toNat : Int) == ((n).toNat : Int))) (Value.bool true) (by kernel_rfl) (Eq.trans (congrArg Value.bool (cmp_u64_eql _ _)) (congrArg Value.bool ((decide_eq_true rfl) : decide ((n : UInt64) = n) = true)))
  have hF110 := hF109.keep [37, 34, 9, 8, 1] [(37, (Value.bool true)), (34, (Value.bool true)), (9, (Value.int .i64 ((0 : Nat) : Int))), (8, (uv ((valueL b).1))), (1, (Value.slice A0 b.length c0))] (by kernel_rfl)
  refine p_run (d := 38) (v := (Value.bool true)) hF110 (by kernel_rfl) (fun _ => by kernel_rfl) (fun _ _ _ h => h) ?_
  intro a111 hF112
  refine p_run (d := 39) (v := (Value.bool true)) hF112 (by kernel_rfl) (fun _ => by kernel_rfl) (fun _ _ _ h => h) ?_
  intro a113 hF114
  refine p_run (d := 40) (v := (Value.int .i64 ((0 : Nat) : Int))) hF114 (by kernel_rfl) (fun _ => by kernel_rfl) (fun _ _ _ h => h) ?_
  intro a115 hF116
  refine p_run (d := 41) (v := (Value.bool true)) hF116 (by kernel_rfl) (fun _ => by kernel_rfl) (fun _ _ _ h => h) ?_
  intro a117 hF118
  refine p_run (d := 42) (v := (Value.slice A0 b.length c0)) hF118 (by kernel_rfl) (fun _ => by kernel_rfl) (fun _ _ _ h => h) ?_
  intro a119 hF120
  refine p_run (d := 43) (v := (Value.int .i64 ((b.length : Nat) : Int))) hF120 (by kernel_rfl) (fun _ => by kernel_rfl) (fun _ _ _ h => h) ?_
  intro a121 hF122
  refine p_run (d := 44) (v := (Value.bool (((b.length : Nat) : Int) == ((8 : Nat) : Int)))) hF122 (by kernel_rfl) (fun _ => by kernel_rfl) (fun _ _ _ h => h) ?_
  intro a123 hF124
  have hF125 := hF124.set 44 (Value.bool (((b.length : Nat) : Int) == ((8 : Nat) : Int))) (Value.bool true) (by kernel_rfl) (Eq.trans (congrArg Value.bool (cmp_nat_eql _ _)) (congrArg Value.bool ((decide_eq_true hb) : decide ((b.length : Nat) = 8) = true)))
  refine p_run (d := 45) (v := (Value.bool true)) hF125 (by kernel_rfl) (fun _ => by kernel_rfl) (fun _ _ _ h => h) ?_
  intro a126 hF127
  refine p_run (d := 46) (v := (Value.bool true)) hF127 (by kernel_rfl) (fun _ => by kernel_rfl) (fun _ _ _ h => h) ?_
  intro a128 hF129
  have hF130 := hF129.keep [46, 9, 8, 1] [(46, (Value.bool true)), (9, (Value.int .i64 ((0 : Nat) : Int))), (8, (uv ((valueL b).1))), (1, (Value.slice A0 b.length c0))] (by kernel_rfl)
  refine p_run (d := 47) (v := (Value.bool true)) hF130 (by kernel_rfl) (fun _ => by kernel_rfl) (fun _ _ _ h => h) ?_
  intro a131 hF132
  refine p_run (d := 48) (v := (Value.int .i64 ((0 : Nat) : Int))) hF132 (by kernel_rfl) (fun _ => by kernel_rfl) (fun _ _ _ h => h) ?_
  intro a133 hF134
  refine p_run (d := 49) (v := (Value.bool true)) hF134 (by kernel_rfl) (fun _ => by kernel_rfl) (fun _ _ _ h => h) ?_
  intro a135 hF136
  refine p_run (d := 50) (v := (Value.bool true)) hF136 (by kernel_rfl) (fun _ => by kernel_rfl) (fun _ _ _ h => h) ?_
  intro a137 hF138
  refine p_run (d := 51) (v := undef) hF138 (by kernel_rfl) (fun _ => by kernel_rfl) (fun _ _ _ h => h) ?_
  intro a139 hF140
  refine p_run (d := 52) (v := undef) hF140 (by kernel_rfl) (fun _ => by kernel_rfl) (fun _ _ _ h => h) ?_
  intro a141 hF142
  refine p_run (d := 53) (v := undef) hF142 (by kernel_rfl) (fun _ => by kernel_rfl) (fun _ _ _ h => h) ?_
  intro a143 hF144
  refine p_run (d := 54) (v := undef) hF144 (by kernel_rfl) (fun _ => by kernel_rfl) (fun _ _ _ h => h) ?_
  intro a145 hF146
  refine p_run (d := 55) (v := undef) hF146 (by kernel_rfl) (fun _ => by kernel_rfl) (fun _ _ _ h => h) ?_
  intro a147 hF148
  refine p_run (d := 56) (v := undef) hF148 (by kernel_rfl) (fun _ => by kernel_rfl) (fun _ _ _ h => h) ?_
  intro a149 hF150
  have hF151 := hF150.keep [56, 50, 47, 9, 8, 1] [(56, undef), (50, (Value.bool true)), (47, (Value.bool true)), (9, (Value.int .i64 ((0 : Nat) : Int))), (8, (uv ((valueL b).1))), (1, (Value.slice A0 b.length c0))] (by kernel_rfl)
  refine p_run (d := 57) (v := (Value.bool true)) hF151 (by kernel_rfl) (fun _ => by kernel_rfl) (fun _ _ _ h => h) ?_
  intro a152 hF153
  refine p_run (d := 58) (v := (Value.bool true)) hF153 (by kernel_rfl) (fun _ => by kernel_rfl) (fun _ _ _ h => h) ?_
  intro a154 hF155
  refine p_run (d := 59) (v := (Value.bool true)) hF155 (by kernel_rfl) (fun _ => by kernel_rfl) (fun _ _ _ h => h) ?_
  intro a156 hF157
  refine p_run (d := 60) (v := (Value.int .i64 ((0 : Nat) : Int))) hF157 (by kernel_rfl) (fun _ => by kernel_rfl) (fun _ _ _ h => h) ?_
  intro a158 hF159
  refine p_run (d := 61) (v := (Value.bool false)) hF159 (by kernel_rfl) (fun _ => by kernel_rfl) (fun _ _ _ h => h) ?_
  intro a160 hF161
  refine p_run (d := 62) (v := (Value.bool false)) hF161 (by kernel_rfl) (fun _ => by kernel_rfl) (fun _ _ _ h => h) ?_
  intro a162 hF163
  refine p_run (d := 63) (v := (uv ((valueL b).1))) hF163 (by kernel_rfl) (fun _ => by kernel_rfl) (fun _ _ _ h => h) ?_
  intro a164 hF165
  refine p_run (d := 66) (v := (Value.slice A0 b.length c0)) hF165 (by kernel_rfl) (fun _ => by kernel_rfl) (fun _ _ _ h => h) ?_
  intro a166 hF167
  have hF168 := hF167.keep [66, 63, 62, 59] [(66, (Value.slice A0 b.length c0)), (63, (uv ((valueL b).1))), (62, (Value.bool false)), (59, (Value.bool true))] (by kernel_rfl)
  have h169 : Rd tU8 s73 w74 (Value.slice A0 b.length c0) b := (((h50.step st55).step st63).step st76)
  refine p_val (d := 67) (op := (Op.convert 27 9 (Operand.tmp 66))) (v := (sv b)) hF168 (by kernel_rfl) (by kernel_rfl) (fun w9 ⟨s9, hw9⟩ => (exec_b2s U27 U5 U9 (by kernel_rfl) (h169.step hw9))) (fun _ _ _ h => h) ?_
  intro a170 hF171
  refine p_do (r_call (d := (some 64)) (f := 22) (args := #[(Operand.tmp 63)]) (tys := #[22]) hF171 (by kernel_rfl) (by kernel_rfl) C22 [(uv ((valueL b).1))] (by kernel_rfl) (num_calls s73 w74 ((valueL b).1)) ?_)
  intro a172 s173 w174 v175 st176 hP177 hF178
  have hz179 := hS80.size
  have hS180 := hS80.then st176
  refine ⟨s173, st176.mono (fun b _ e => (fun _ e => e.elim) b e), ?_⟩
  obtain ⟨A181, m184, c182, rfl, hl183⟩ := hP177.formL
  have hO185 : Own tU8 5 w.heap.size s173 w174 (Value.slice A181 m184 c182) (eight ((valueL b).1)) := hP177.le (by omega)
  refine p_val (d := 65) (op := (Op.convert 27 9 (Operand.tmp 64))) (v := (sv (eight ((valueL b).1)))) hF178 (by kernel_rfl) (by kernel_rfl) (fun w9 ⟨s9, hw9⟩ => (exec_b2s U27 U5 U9 (by kernel_rfl) (hO185.rd.step hw9))) (fun _ _ _ h => h) ?_
  intro a187 hF188
  refine p_run (d := 68) (v := (Value.bool ((⟨(eight ((valueL b).1)).toArray⟩ : ByteArray).toList == (⟨(b).toArray⟩ : ByteArray).toList))) hF188 (by kernel_rfl) (fun _ => by kernel_rfl) (fun _ _ _ h => h) ?_
  intro a189 hF190
  have hF191 := hF190.set 68 (Value.bool ((⟨(eight ((valueL b).1)).toArray⟩ : ByteArray).toList == (⟨(b).toArray⟩ : ByteArray).toList)) (Value.bool true) (by kernel_rfl) (Eq.trans (congrArg Value.bool (str_eql _ _)) (congrArg Value.bool ((decide_eq_true (eight_value b hb)) : decide (eight ((valueL b).1) = b) = true)))
  refine p_run (d := 69) (v := (Value.bool true)) hF191 (by kernel_rfl) (fun _ => by kernel_rfl) (fun _ _ _ h => h) ?_
  intro a192 hF193
  refine p_run (d := 70) (v := (Value.bool true)) hF193 (by kernel_rfl) (fun _ => by kernel_rfl) (fun _ _ _ h => h) ?_
  intro a194 hF195
  refine p_run (d := 4) (v := (Value.bool true)) hF195 (by kernel_rfl) (fun _ => by kernel_rfl) (fun _ _ _ h => h) ?_
  intro a196 hF197
  refine p_end ?_
  have hF198 := hF197.keep [4] [(4, (Value.bool true))] (by kernel_rfl)
  refine c_ret (by kernel_rfl) ?_
  try dsimp only [Exit.then, Exit.inBlock]
  refine f_ret1 hF198 4 (by kernel_rfl) (Value.bool true) (by kernel_rfl) s173 hS180 ?_
  exact rfl
theorem keysNums_no (σ : Nat → Nat) (w : World) (n : UInt64) {v0 : Value} {b : List UInt8} (h0 : Rd tU8 σ w v0 b) (hb : ¬ b.length = 8) :
    Ctr Try.prog 5 [(uv n), v0] noM σ w (fun σ' w' v => v = .bool true) := by
  obtain ⟨A0, c0, rfl, hl0⟩ := h0.form
  have hbd := h0.bd
  have hb1 : b.length ≤ 140737488355328 := by have : tU8.by_ = 1 := rfl; rw [this] at hbd; omega
  refine ctr_enter Try.func5 c5 (by kernel_rfl) 71 (by kernel_rfl) (Nat.le_of_ble_eq_true (by kernel_rfl)) [(0, (uv n)), (1, (Value.slice A0 b.length c0))] (by kernel_rfl) ?_
  intro a hF1
  have hS2 := Stp.refl noM σ w
  refine c_seq [0] [1] (by kernel_rfl) ?_
  refine c_reg 0 (by kernel_rfl) ?_
  refine r_runk 1 [0, 1] [(0, (uv n)), (1, (Value.slice A0 b.length c0))] hF1 (by kernel_rfl) (by kernel_rfl) ?_
  intro a3 hF4
  refine r_end (by kernel_rfl) ?_
  refine c_seq [1, 0] [1, 1] (by kernel_rfl) ?_
  refine c_seq [1, 0, 0] [1, 0, 1] (by kernel_rfl) ?_
  refine c_reg 1 (by kernel_rfl) ?_
  refine r_at (r_call (d := (some 10)) (f := 10) (args := #[]) (tys := #[]) hF4 (by kernel_rfl) (by kernel_rfl) C10 [] (by kernel_rfl) (awake17_calls σ w ) ?_)
  intro a5 s6 w7 v8 st9 hP10 hF11
  have hz12 := hS2.size
  have hS13 := hS2.then st9
  subst hP10
  refine r_runk 1 [11, 0, 1] [(11, (Value.bool false)), (0, (uv n)), (1, (Value.slice A0 b.length c0))] hF11 (by kernel_rfl) (by kernel_rfl) ?_
  intro a14 hF15
  refine r_end (by kernel_rfl) ?_
  refine c_cond_false [1, 0, 1, 0] [1, 0, 1, 1] 11 (by kernel_rfl) hF15 (by kernel_rfl) ?_
  refine c_skip (by kernel_rfl) ?_
  refine c_seq [1, 1, 0] [1, 1, 1] (by kernel_rfl) ?_
  refine c_reg 3 (by kernel_rfl) ?_
  refine r_runk 1 [12, 0, 1] [(12, (uv n)), (0, (uv n)), (1, (Value.slice A0 b.length c0))] hF15 (by kernel_rfl) (by kernel_rfl) ?_
  intro a16 hF17
  refine r_at (r_call (d := (some 13)) (f := 22) (args := #[(Operand.tmp 12)]) (tys := #[22]) hF17 (by kernel_rfl) (by kernel_rfl) C22 [(uv n)] (by kernel_rfl) (num_calls s6 w7 n) ?_)
  intro a18 s19 w20 v21 st22 hP23 hF24
  have hz25 := hS13.size
  have hS26 := hS13.then st22
  obtain ⟨A27, m30, c28, rfl, hl29⟩ := hP23.formL
  have hO31 : Own tU8 5 w.heap.size s19 w20 (Value.slice A27 m30 c28) (eight n) := hP23.le (by omega)
  refine r_runk 1 [5, 0, 1] [(5, (Value.slice A27 m30 c28)), (0, (uv n)), (1, (Value.slice A0 b.length c0))] hF24 (by kernel_rfl) (by kernel_rfl) ?_
  intro a33 hF34
  refine r_end (by kernel_rfl) ?_
  refine c_seq [1, 1, 1, 0] [1, 1, 1, 1] (by kernel_rfl) ?_
  refine c_reg 4 (by kernel_rfl) ?_
  refine r_runk 1 [15, 5, 0, 1] [(15, (Value.slice A27 m30 c28)), (5, (Value.slice A27 m30 c28)), (0, (uv n)), (1, (Value.slice A0 b.length c0))] hF34 (by kernel_rfl) (by kernel_rfl) ?_
  intro a35 hF36
  refine r_at (r_call (d := (some 16)) (f := 23) (args := #[(Operand.tmp 15)]) (tys := #[27]) hF36 (by kernel_rfl) (by kernel_rfl) C23 [(Value.slice A27 m30 c28)] (by kernel_rfl) (value_eight_calls s19 w20  n hO31.rd) ?_)
  intro a37 s38 w39 v40 st41 hP42 hF43
  have hz44 := hS26.size
  have hS45 := hS26.then st41
  subst hP42
  refine r_runk 5 [7, 6, 5, 0, 1] [(7, (Value.int .i64 ((0 : Nat) : Int))), (6, (uv n)), (5, (Value.slice A27 m30 c28)), (0, (uv n)), (1, (Value.slice A0 b.length c0))] hF43 (by kernel_rfl) (by kernel_rfl) ?_
  intro a46 hF47
  refine r_end (by kernel_rfl) ?_
  refine c_seq [1, 1, 1, 1, 0] [1, 1, 1, 1, 1] (by kernel_rfl) ?_
  refine c_reg 5 (by kernel_rfl) ?_
  refine r_runk 1 [20, 7, 6, 5, 0, 1] [(20, (Value.slice A0 b.length c0)), (7, (Value.int .i64 ((0 : Nat) : Int))), (6, (uv n)), (5, (Value.slice A27 m30 c28)), (0, (uv n)), (1, (Value.slice A0 b.length c0))] hF47 (by kernel_rfl) (by kernel_rfl) ?_
  intro a48 hF49
  have h50 : Rd tU8 s38 w39 (Value.slice A0 b.length c0) b := h0.step hS45
  refine r_at (r_call (d := (some 21)) (f := 23) (args := #[(Operand.tmp 20)]) (tys := #[27]) hF49 (by kernel_rfl) (by kernel_rfl) C23 [(Value.slice A0 b.length c0)] (by kernel_rfl) (value_no_calls s38 w39  h50 hb) ?_)
  intro a51 s52 w53 v54 st55 hP56 hF57
  have hz58 := hS45.size
  have hS59 := hS45.then st55
  subst hP56
  refine r_runk 5 [9, 8, 7, 6, 5, 0, 1] [(9, (Value.int .i64 ((7 : Nat) : Int))), (8, (uv 0)), (7, (Value.int .i64 ((0 : Nat) : Int))), (6, (uv n)), (5, (Value.slice A27 m30 c28)), (0, (uv n)), (1, (Value.slice A0 b.length c0))] hF57 (by kernel_rfl) (by kernel_rfl) ?_
  intro a60 hF61
  refine r_end (by kernel_rfl) ?_
  refine c_seq [1, 1, 1, 1, 1, 0] [1, 1, 1, 1, 1, 1] (by kernel_rfl) ?_
  refine c_plan 6 (by kernel_rfl) (by kernel_rfl) s52 (fun b => True) [(0, true), (2, true), (1, true), (3, false), (4, true), (5, true), (6, true), (7, true), (8, true), (9, true), (10, true), (11, true), (12, true), (13, true), (14, true), (15, true), (16, true), (17, true), (18, true), (19, true), (20, true), (21, true), (22, true), (23, true), (24, true), (25, true), (26, true), (27, true), (28, true), (29, true), (30, true), (31, true), (32, true), (33, true), (34, true), (35, true), (36, true), (37, true), (38, true), (39, true), (40, true), (41, true), (42, true), (43, true), (44, true), (45, true), (46, true), (47, true)] [(0, 16777216, 32), (1, 33554432, 16777216), (0, 67108864, 1), (4, 134217728, 67108864), (8, 268435456, 134217728), (18, 536870912, 301989888), (40, 1073741824, 536870912), (64, 2147483648, 1073741952), (192, 4294967296, 3221225472), (320, 8589934592, 5368709120), (576, 17179869184, 8589934592), (1024, 34359738368, 17179869248), (1024, 68719476736, 17179869185), (7168, 137438953472, 120259084288), (9216, 274877906944, 154618822656), (17408, 549755813888, 274877906944), (32768, 1099511627776, 549755814400), (98304, 2199023255552, 1649267441664), (32768, 4398046511104, 549755813890), (294912, 8796093022208, 4947802324992), (557056, 17592186044416, 9345848836096), (1212416, 35184372088832, 20340965113856), (2129920, 70368744177664, 35734127902720), (4227072, 140737488355328, 70368744177664), (8388608, 281474976710656, 140737488355840), (25165824, 562949953421312, 422212465065984), (41943040, 1125899906842624, 703687441776640), (67108864, 2251799813685248, 1125899906843136), (201326592, 4503599627370496, 3377699720527872), (335544320, 9007199254740992, 5629499534213120), (536870912, 18014398509481984, 9007199254741248), (1610612736, 36028797018963968, 27021597764222976), (2751463424, 72057594037927936, 46161896180547584), (4370464768, 144115188075855872, 73324231433125888), (8598323200, 288230376151711744, 144255925564211200), (17716740096, 576460752303423488, 288230376151711744), (34359738368, 1152921504606846976, 576460752303424000), (103079215104, 2305843009213693952, 1729382256910270464), (171798691840, 4611686018427387904, 2882303761517117440), (274877906944, 9223372036854775808, 4611686018427388160), (824633720832, 18446744073709551616, 13835058055282163712), (1374389534720, 36893488147419103232, 23058430092136939520), (274877906944, 73786976294838206464, 4611686018427387906), (4672924418048, 147573952589676412928, 78398662313265594368), (11269994184704, 295147905179352825856, 189079126755522904064), (17901423689728, 590295810358705651712, 300336051950083637248), (35218731827200, 1180591620717411303424, 590872271111009075200), (140737488355327, 16, 1180591620717411303424)] (by kernel_rfl) (by kernel_rfl) (by kernel_rfl) (by kernel_rfl) ?_
  intro w62 st63
  have hS64 := hS59.then st63
  refine p_run (d := 24) (v := (Value.slice A27 m30 c28)) hF61 (by kernel_rfl) (fun _ => by kernel_rfl) (fun _ _ _ h => h) ?_
  intro a65 hF66
  refine p_run (d := 26) (v := (uv n)) hF66 (by kernel_rfl) (fun _ => by kernel_rfl) (fun _ _ _ h => h) ?_
  intro a67 hF68
  have h69 : Own tU8 5 w.heap.size s52 w62 (Value.slice A27 m30 c28) (eight n) := (((hO31.step' st41).step' st55).step' st63)
  refine p_val (d := 25) (op := (Op.convert 27 9 (Operand.tmp 24))) (v := (sv (eight n))) hF68 (by kernel_rfl) (by kernel_rfl) (fun w9 ⟨s9, hw9⟩ => (exec_b2s U27 U5 U9 (by kernel_rfl) (h69.rd.step hw9))) (fun _ _ _ h => h) ?_
  intro a70 hF71
  refine p_do (r_call (d := (some 27)) (f := 24) (args := #[(Operand.tmp 26)]) (tys := #[22]) hF71 (by kernel_rfl) (by kernel_rfl) C24 [(uv n)] (by kernel_rfl) (eight_calls s52 w62 n) ?_)
  intro a72 s73 w74 v75 st76 hP77 hF78
  have hz79 := hS64.size
  have hS80 := hS64.then st76
  refine ⟨s73, st76.mono (fun b _ e => (fun _ e => e.elim) b e), ?_⟩
  obtain ⟨A81, m84, c82, rfl, hl83⟩ := hP77.formL
  have hO85 : Own tU8 5 w.heap.size s73 w74 (Value.slice A81 m84 c82) (eight n) := hP77.le (by omega)
  refine p_val (d := 28) (op := (Op.convert 27 9 (Operand.tmp 27))) (v := (sv (eight n))) hF78 (by kernel_rfl) (by kernel_rfl) (fun w9 ⟨s9, hw9⟩ => (exec_b2s U27 U5 U9 (by kernel_rfl) (hO85.rd.step hw9))) (fun _ _ _ h => h) ?_
  intro a87 hF88
  refine p_run (d := 29) (v := (Value.bool ((⟨(eight n).toArray⟩ : ByteArray).toList == (⟨(eight n).toArray⟩ : ByteArray).toList))) hF88 (by kernel_rfl) (fun _ => by kernel_rfl) (fun _ _ _ h => h) ?_
  intro a89 hF90
  have hF91 := hF90.set 29 (Value.bool ((⟨(eight n).toArray⟩ : ByteArray).toList == (⟨(eight n).toArray⟩ : ByteArray).toList)) (Value.bool true) (by kernel_rfl) (Eq.trans (congrArg Value.bool (str_eql _ _)) (congrArg Value.bool ((decide_eq_true rfl) : decide (eight n = eight n) = true)))
  refine p_run (d := 30) (v := (Value.bool true)) hF91 (by kernel_rfl) (fun _ => by kernel_rfl) (fun _ _ _ h => h) ?_
  intro a92 hF93
  have hF94 := hF93.keep [30, 9, 8, 7, 6, 0, 1] [(30, (Value.bool true)), (9, (Value.int .i64 ((7 : Nat) : Int))), (8, (uv 0)), (7, (Value.int .i64 ((0 : Nat) : Int))), (6, (uv n)), (0, (uv n)), (1, (Value.slice A0 b.length c0))] (by kernel_rfl)
  refine p_run (d := 31) (v := (Value.int .i64 ((0 : Nat) : Int))) hF94 (by kernel_rfl) (fun _ => by kernel_rfl) (fun _ _ _ h => h) ?_
  intro a95 hF96
  refine p_run (d := 32) (v := (Value.bool true)) hF96 (by kernel_rfl) (fun _ => by kernel_rfl) (fun _ _ _ h => h) ?_
  intro a97 hF98
  refine p_run (d := 33) (v := (Value.bool true)) hF98 (by kernel_rfl) (fun _ => by kernel_rfl) (fun _ _ _ h => h) ?_
  intro a99 hF100
  refine p_run (d := 34) (v := (Value.bool true)) hF100 (by kernel_rfl) (fun _ => by kernel_rfl) (fun _ _ _ h => h) ?_
  intro a101 hF102
  refine p_run (d := 35) (v := (uv n)) hF102 (by kernel_rfl) (fun _ => by kernel_rfl) (fun _ _ _ h => h) ?_
  intro a103 hF104
  refine p_run (d := 36) (v := (uv n)) hF104 (by kernel_rfl) (fun _ => by kernel_rfl) (fun _ _ _ h => h) ?_
  intro a105 hF106
  refine p_run (d := 37) (v := (Value.bool (((n).toNat : Int) == ((n).toNat : Int)))) hF106 (by kernel_rfl) (fun _ => by kernel_rfl) (fun _ _ _ h => h) ?_
  intro a107 hF108
  have hF109 := hF108.set 37 (Value.bool (((n).toNat : Int) == ((n).toNat : Int))) (Value.bool true) (by kernel_rfl) (Eq.trans (congrArg Value.bool (cmp_u64_eql _ _)) (congrArg Value.bool ((decide_eq_true rfl) : decide ((n : UInt64) = n) = true)))
  have hF110 := hF109.keep [37, 34, 9, 8, 1] [(37, (Value.bool true)), (34, (Value.bool true)), (9, (Value.int .i64 ((7 : Nat) : Int))), (8, (uv 0)), (1, (Value.slice A0 b.length c0))] (by kernel_rfl)
  refine p_run (d := 38) (v := (Value.bool true)) hF110 (by kernel_rfl) (fun _ => by kernel_rfl) (fun _ _ _ h => h) ?_
  intro a111 hF112
  refine p_run (d := 39) (v := (Value.bool true)) hF112 (by kernel_rfl) (fun _ => by kernel_rfl) (fun _ _ _ h => h) ?_
  intro a113 hF114
  refine p_run (d := 40) (v := (Value.int .i64 ((7 : Nat) : Int))) hF114 (by kernel_rfl) (fun _ => by kernel_rfl) (fun _ _ _ h => h) ?_
  intro a115 hF116
  refine p_run (d := 41) (v := (Value.bool false)) hF116 (by kernel_rfl) (fun _ => by kernel_rfl) (fun _ _ _ h => h) ?_
  intro a117 hF118
  refine p_run (d := 42) (v := (Value.slice A0 b.length c0)) hF118 (by kernel_rfl) (fun _ => by kernel_rfl) (fun _ _ _ h => h) ?_
  intro a119 hF120
  refine p_run (d := 43) (v := (Value.int .i64 ((b.length : Nat) : Int))) hF120 (by kernel_rfl) (fun _ => by kernel_rfl) (fun _ _ _ h => h) ?_
  intro a121 hF122
  refine p_run (d := 44) (v := (Value.bool (((b.length : Nat) : Int) == ((8 : Nat) : Int)))) hF122 (by kernel_rfl) (fun _ => by kernel_rfl) (fun _ _ _ h => h) ?_
  intro a123 hF124
  have hF125 := hF124.set 44 (Value.bool (((b.length : Nat) : Int) == ((8 : Nat) : Int))) (Value.bool false) (by kernel_rfl) (Eq.trans (congrArg Value.bool (cmp_nat_eql _ _)) (congrArg Value.bool ((decide_eq_false hb) : decide ((b.length : Nat) = 8) = false)))
  refine p_run (d := 45) (v := (Value.bool true)) hF125 (by kernel_rfl) (fun _ => by kernel_rfl) (fun _ _ _ h => h) ?_
  intro a126 hF127
  refine p_run (d := 46) (v := (Value.bool true)) hF127 (by kernel_rfl) (fun _ => by kernel_rfl) (fun _ _ _ h => h) ?_
  intro a128 hF129
  have hF130 := hF129.keep [46, 9, 8, 1] [(46, (Value.bool true)), (9, (Value.int .i64 ((7 : Nat) : Int))), (8, (uv 0)), (1, (Value.slice A0 b.length c0))] (by kernel_rfl)
  refine p_run (d := 47) (v := (Value.bool true)) hF130 (by kernel_rfl) (fun _ => by kernel_rfl) (fun _ _ _ h => h) ?_
  intro a131 hF132
  refine p_run (d := 48) (v := (Value.int .i64 ((7 : Nat) : Int))) hF132 (by kernel_rfl) (fun _ => by kernel_rfl) (fun _ _ _ h => h) ?_
  intro a133 hF134
  refine p_run (d := 49) (v := (Value.bool false)) hF134 (by kernel_rfl) (fun _ => by kernel_rfl) (fun _ _ _ h => h) ?_
  intro a135 hF136
  refine p_run (d := 50) (v := (Value.bool false)) hF136 (by kernel_rfl) (fun _ => by kernel_rfl) (fun _ _ _ h => h) ?_
  intro a137 hF138
  refine p_run (d := 51) (v := (Value.int .i64 ((7 : Nat) : Int))) hF138 (by kernel_rfl) (fun _ => by kernel_rfl) (fun _ _ _ h => h) ?_
  intro a139 hF140
  refine p_run (d := 52) (v := (Value.bool true)) hF140 (by kernel_rfl) (fun _ => by kernel_rfl) (fun _ _ _ h => h) ?_
  intro a141 hF142
  refine p_run (d := 53) (v := (Value.bool true)) hF142 (by kernel_rfl) (fun _ => by kernel_rfl) (fun _ _ _ h => h) ?_
  intro a143 hF144
  refine p_run (d := 54) (v := (uv 0)) hF144 (by kernel_rfl) (fun _ => by kernel_rfl) (fun _ _ _ h => h) ?_
  intro a145 hF146
  refine p_run (d := 55) (v := (Value.bool true)) hF146 (by kernel_rfl) (fun _ => by kernel_rfl) (fun _ _ _ h => h) ?_
  intro a147 hF148
  refine p_run (d := 56) (v := (Value.bool true)) hF148 (by kernel_rfl) (fun _ => by kernel_rfl) (fun _ _ _ h => h) ?_
  intro a149 hF150
  have hF151 := hF150.keep [56, 50, 47, 9, 8, 1] [(56, (Value.bool true)), (50, (Value.bool false)), (47, (Value.bool true)), (9, (Value.int .i64 ((7 : Nat) : Int))), (8, (uv 0)), (1, (Value.slice A0 b.length c0))] (by kernel_rfl)
  refine p_run (d := 57) (v := (Value.bool true)) hF151 (by kernel_rfl) (fun _ => by kernel_rfl) (fun _ _ _ h => h) ?_
  intro a152 hF153
  refine p_run (d := 58) (v := (Value.bool true)) hF153 (by kernel_rfl) (fun _ => by kernel_rfl) (fun _ _ _ h => h) ?_
  intro a154 hF155
  refine p_run (d := 59) (v := (Value.bool true)) hF155 (by kernel_rfl) (fun _ => by kernel_rfl) (fun _ _ _ h => h) ?_
  intro a156 hF157
  refine p_run (d := 60) (v := (Value.int .i64 ((7 : Nat) : Int))) hF157 (by kernel_rfl) (fun _ => by kernel_rfl) (fun _ _ _ h => h) ?_
  intro a158 hF159
  refine p_run (d := 61) (v := (Value.bool true)) hF159 (by kernel_rfl) (fun _ => by kernel_rfl) (fun _ _ _ h => h) ?_
  intro a160 hF161
  refine p_run (d := 62) (v := (Value.bool true)) hF161 (by kernel_rfl) (fun _ => by kernel_rfl) (fun _ _ _ h => h) ?_
  intro a162 hF163
  refine p_run (d := 63) (v := undef) hF163 (by kernel_rfl) (fun _ => by kernel_rfl) (fun _ _ _ h => h) ?_
  intro a164 hF165
  refine p_run (d := 64) (v := undef) hF165 (by kernel_rfl) (fun _ => by kernel_rfl) (fun _ _ _ h => h) ?_
  intro a166 hF167
  have hF168 := hF167.keep [64, 62, 59, 1] [(64, undef), (62, (Value.bool true)), (59, (Value.bool true)), (1, (Value.slice A0 b.length c0))] (by kernel_rfl)
  refine p_run (d := 65) (v := undef) hF168 (by kernel_rfl) (fun _ => by kernel_rfl) (fun _ _ _ h => h) ?_
  intro a169 hF170
  refine p_run (d := 66) (v := undef) hF170 (by kernel_rfl) (fun _ => by kernel_rfl) (fun _ _ _ h => h) ?_
  intro a171 hF172
  refine p_run (d := 67) (v := undef) hF172 (by kernel_rfl) (fun _ => by kernel_rfl) (fun _ _ _ h => h) ?_
  intro a173 hF174
  refine p_run (d := 68) (v := undef) hF174 (by kernel_rfl) (fun _ => by kernel_rfl) (fun _ _ _ h => h) ?_
  intro a175 hF176
  refine p_run (d := 69) (v := (Value.bool true)) hF176 (by kernel_rfl) (fun _ => by kernel_rfl) (fun _ _ _ h => h) ?_
  intro a177 hF178
  refine p_run (d := 70) (v := (Value.bool true)) hF178 (by kernel_rfl) (fun _ => by kernel_rfl) (fun _ _ _ h => h) ?_
  intro a179 hF180
  refine p_run (d := 4) (v := (Value.bool true)) hF180 (by kernel_rfl) (fun _ => by kernel_rfl) (fun _ _ _ h => h) ?_
  intro a181 hF182
  refine p_end ?_
  have hF183 := hF182.keep [4] [(4, (Value.bool true))] (by kernel_rfl)
  refine c_ret (by kernel_rfl) ?_
  try dsimp only [Exit.then, Exit.inBlock]
  refine f_ret1 hF183 4 (by kernel_rfl) (Value.bool true) (by kernel_rfl) s73 hS80 ?_
  exact rfl

theorem keysNums_calls (σ : Nat → Nat) (w : World) (n : UInt64) {v0 : Value} {b : List UInt8} (h0 : Rd tU8 σ w v0 b) : Ctr Try.prog 5 [uv n, v0] noM σ w (fun σ' w' v => v = .bool true) := by
  by_cases hb : b.length = 8
  · exact keysNums_ok σ w n h0 hb
  · exact keysNums_no σ w n h0 hb

end Go.Proofs.Ytaoamokfbhlaaaa.E
