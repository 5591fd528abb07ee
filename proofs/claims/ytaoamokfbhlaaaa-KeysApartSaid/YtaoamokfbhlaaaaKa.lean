/- Walks, printed by a program of this session. -/
import Derived.Test.YtaoamokfbhlaaaaKn
import Derived.Test.Ytaoamokfbhlaaaapure17
set_option linter.unusedVariables false
set_option linter.unusedSimpArgs false
set_option maxRecDepth 100000
namespace Go.Proofs.Ytaoamokfbhlaaaa.E
open Go Go.RowKit
open Go.Proofs

theorem keysAll_calls (σ : Nat → Nat) (w : World) (channel : Int) (n : UInt64) (p : List UInt8) (hp : p.length ≤ 140737488355328) (q : List UInt8) (hq : q.length ≤ 140737488355328) :
    Ctr Try.prog 4 [(Value.int .i64 (channel)), (uv n), (sv p), (sv q)] noM σ w (fun σ' w' v => v = .bool true) := by
  refine ctr_enter Try.func4 c4 (by kernel_rfl) 109 (by kernel_rfl) (Nat.le_of_ble_eq_true (by kernel_rfl)) [(0, (Value.int .i64 (channel))), (1, (uv n)), (2, (sv p)), (3, (sv q))] (by kernel_rfl) ?_
  intro a hF1
  have hS2 := Stp.refl noM σ w
  refine c_seq [0] [1] (by kernel_rfl) ?_
  refine c_reg 0 (by kernel_rfl) ?_
  refine r_runk 1 [0, 1, 2, 3] [(0, (Value.int .i64 (channel))), (1, (uv n)), (2, (sv p)), (3, (sv q))] hF1 (by kernel_rfl) (by kernel_rfl) ?_
  intro a3 hF4
  refine r_end (by kernel_rfl) ?_
  refine c_seq [1, 0] [1, 1] (by kernel_rfl) ?_
  refine c_seq [1, 0, 0] [1, 0, 1] (by kernel_rfl) ?_
  refine c_reg 1 (by kernel_rfl) ?_
  refine r_at (r_call (d := (some 10)) (f := 10) (args := #[]) (tys := #[]) hF4 (by kernel_rfl) (by kernel_rfl) C10 [] (by kernel_rfl) (awake17_calls σ w ) ?_)
  intro a5 s6 w7 v8 st9 hP10 hF11
  have hz12 := hS2.size
  have hS13 := hS2.then st9
  subst hP10
  refine r_runk 1 [11, 0, 1, 2, 3] [(11, (Value.bool false)), (0, (Value.int .i64 (channel))), (1, (uv n)), (2, (sv p)), (3, (sv q))] hF11 (by kernel_rfl) (by kernel_rfl) ?_
  intro a14 hF15
  refine r_end (by kernel_rfl) ?_
  refine c_cond_false [1, 0, 1, 0] [1, 0, 1, 1] 11 (by kernel_rfl) hF15 (by kernel_rfl) ?_
  refine c_skip (by kernel_rfl) ?_
  refine c_seq [1, 1, 0] [1, 1, 1] (by kernel_rfl) ?_
  refine c_seq [1, 1, 0, 0] [1, 1, 0, 1] (by kernel_rfl) ?_
  refine c_reg 3 (by kernel_rfl) ?_
  refine r_runk 4 [15, 13, 0, 1, 2, 3] [(15, (Value.int .i64 (((q).length : Nat) : Int))), (13, (Value.int .i64 (((p).length : Nat) : Int))), (0, (Value.int .i64 (channel))), (1, (uv n)), (2, (sv p)), (3, (sv q))] hF15 (by kernel_rfl) (by kernel_rfl) ?_
  intro a16 hF17
  refine r_one (d := 16) (v0 := (Value.int .i64 (IntKind.i64.wrap ((((p).length : Nat) : Int) + (((q).length : Nat) : Int))))) (v := (Value.int .i64 ((((p).length) + ((q).length) : Nat) : Int))) hF17 (by kernel_rfl) (by kernel_rfl) (congrArg (Value.int .i64) (i64_eq (by omega) (by omega) (by omega))) ?_
  intro a18 hF19
  refine r_one (d := 17) (v0 := (Value.bool (decide (((((p).length) + ((q).length) : Nat) : Int) > ((1000 : Nat) : Int))))) (v := (Value.bool (decide ((((p).length) + ((q).length) : Nat) > 1000)))) hF19 (by kernel_rfl) (by kernel_rfl) (congrArg Value.bool (cmp_nat_gtr _ _)) ?_
  intro a20 hF21
  have hF22 := hF21.keep [17, 0, 1, 2, 3] [(17, (Value.bool (decide ((((p).length) + ((q).length) : Nat) > 1000)))), (0, (Value.int .i64 (channel))), (1, (uv n)), (2, (sv p)), (3, (sv q))] (by kernel_rfl)
  refine r_end (by kernel_rfl) ?_
  refine c_cond [1, 1, 0, 1, 0] [1, 1, 0, 1, 1] 17 (by kernel_rfl) hF22 (decide ((((p).length) + ((q).length) : Nat) > 1000)) (by kernel_rfl) (fun hc23 => ?_) (fun hc23 => ?_)
  · skip
    have hc23 := of_decide_eq_true hc23
    refine c_seq [1, 1, 0, 1, 0, 0] [1, 1, 0, 1, 0, 1] (by kernel_rfl) ?_
    refine c_reg 4 (by kernel_rfl) ?_
    refine r_runk 1 [8] [(8, (Value.bool true))] hF22 (by kernel_rfl) (by kernel_rfl) ?_
    intro a24 hF25
    refine r_end (by kernel_rfl) ?_
    refine c_ret (by kernel_rfl) ?_
    try dsimp only [Exit.then, Exit.inBlock]
    refine f_ret1 hF25 8 (by kernel_rfl) (Value.bool true) (by kernel_rfl) s6 hS13 ?_
    exact rfl
  · skip
    have hc23 := of_decide_eq_false hc23
    refine c_skip (by kernel_rfl) ?_
    refine c_seq [1, 1, 1, 0] [1, 1, 1, 1] (by kernel_rfl) ?_
    refine c_reg 5 (by kernel_rfl) ?_
    refine r_runk 1 [18, 0, 1, 2, 3] [(18, (uv n)), (0, (Value.int .i64 (channel))), (1, (uv n)), (2, (sv p)), (3, (sv q))] hF22 (by kernel_rfl) (by kernel_rfl) ?_
    intro a26 hF27
    refine r_at (r_lit tU64 (d := 19) (t := 26) (m := 1) (parts := #[(0, (Operand.tmp 18))]) hF27 (by kernel_rfl) (by kernel_rfl) s6 [n] [(uv n)] ⟨_, _, rfl, rfl, rfl⟩ rfl (by decide) (e := 22) (fun o e => by simp only [execOp, e]; kernel_rfl) (by decide) ?_)
    intro a28 s29 w30 g31 hg32 st33 hO34 hF35
    have hz36 := hS13.size
    have hS37 := hS13.then st33
    have hO38 : Own tU64 22 w.heap.size s29 w30 (Value.slice (some ⟨g31, 0, none⟩) 1 1) [n] := (hO34.le (by omega : w.heap.size ≤ _))
    refine r_runk 1 [9, 0, 1, 2, 3] [(9, (Value.slice (some ⟨g31, 0, none⟩) 1 1)), (0, (Value.int .i64 (channel))), (1, (uv n)), (2, (sv p)), (3, (sv q))] hF35 (by kernel_rfl) (by kernel_rfl) ?_
    intro a40 hF41
    refine r_end (by kernel_rfl) ?_
    refine c_seq [1, 1, 1, 1, 0] [1, 1, 1, 1, 1] (by kernel_rfl) ?_
    refine c_plan 6 (by kernel_rfl) (by kernel_rfl) s29 (fun b => True) [(0, true), (1, true), (4, true), (5, true), (2, false), (3, true), (6, false), (7, true), (8, true), (9, true), (10, true), (11, true), (14, true), (15, true), (12, false), (13, true), (16, false), (17, true), (18, true), (19, true), (20, true), (21, true), (22, true), (25, true), (26, true), (23, false), (24, true), (27, false), (28, true), (29, true), (30, true), (31, true), (32, true), (33, true), (36, true), (37, true), (34, false), (35, true), (38, false), (39, true), (40, true), (41, true), (42, true), (43, true), (46, true), (44, false), (45, true), (47, false), (48, true), (49, true), (50, true), (51, true), (52, true), (55, true), (53, false), (54, true), (56, false), (57, true), (58, true), (59, true), (60, true), (61, true), (64, true), (62, false), (63, true), (65, false), (66, true), (67, true), (68, true), (69, true), (70, true), (73, true), (71, false), (72, true), (74, false), (75, true), (76, true), (77, true), (78, true), (79, true), (80, true), (83, true), (84, true), (81, false), (82, true), (85, false), (86, true), (87, true), (88, true), (89, true)] [(0, 1048576, 1), (0, 2097152, 2), (3, 4194304, 3145728), (4, 8388608, 4194304), (0, 16777216, 1), (0, 33554432, 512), (52, 67108864, 50331648), (64, 134217728, 67108864), (136, 268435456, 142606336), (320, 536870912, 268435456), (512, 1073741824, 536870913), (512, 2147483648, 536870914), (3584, 4294967296, 3758096384), (4608, 8589934592, 4831838208), (512, 17179869184, 536870913), (512, 34359738368, 536871424), (53760, 68719476736, 52076478464), (66048, 137438953472, 69256347648), (139776, 274877906944, 146565758976), (262656, 549755813888, 275414777856), (589824, 1099511627776, 549755813888), (1048576, 2199023255552, 1099511627777), (1048576, 4398046511104, 1099511627778), (7340032, 8796093022208, 7696581394432), (9437184, 17592186044416, 9895604649984), (1048576, 35184372088832, 1099511627777), (1048576, 70368744177664, 1099511628288), (110100480, 140737488355328, 106652627894272), (135266304, 281474976710656, 141836999983104), (286261248, 562949953421312, 300166674382848), (537919488, 1125899906842624, 564049465049088), (1207959552, 2251799813685248, 1125899906842624), (2147483648, 4503599627370496, 2251799813685249), (2147483648, 9007199254740992, 2251799813685250), (15032385536, 18014398509481984, 15762598695796736), (19327352832, 36028797018963968, 20266198323167232), (2147483648, 72057594037927936, 2251799813685249), (2147483648, 144115188075855872, 2251799813685760), (225485783040, 288230376151711744, 218424581927469056), (277025390592, 576460752303423488, 290482175965396992), (586263035904, 1152921504606846976, 614741349136072704), (1101659111424, 2305843009213693952, 1155173304420532224), (2473901162496, 4611686018427387904, 2305843009213693952), (4398046511104, 9223372036854775808, 4611686018427387905), (13194139533312, 18446744073709551616, 13835058055282163712), (21990232555520, 36893488147419103232, 23058430092136939520), (4398046511104, 73786976294838206464, 4611686018427387905), (92358976733184, 147573952589676412928, 78398662313265594368), (145135534866432, 295147905179352825856, 152185638608103800832), (321057395310592, 590295810358705651712, 336653079345199316992), (567347999932416, 1180591620717411303424, 594907496377133039616), (1266637395197952, 2361183241434822606848, 1180591620717411303424), (2251799813685248, 4722366482869645213696, 2361183241434822606849), (6755399441055744, 9444732965739290427392, 7083549724304467820544), (11258999068426240, 18889465931478580854784, 11805916207174113034240), (2251799813685248, 37778931862957161709568, 2361183241434822606849), (47287796087390208, 75557863725914323419136, 40140115104391984316416), (74309393851613184, 151115727451828646838272, 77919046967349146025984), (164381386399023104, 302231454903657293676544, 172366376624742050299904), (290482175965396992, 604462909807314587353088, 304592638145092116283392), (648518346341351424, 1208925819614629174706176, 604462909807314587353088), (1152921504606846976, 2417851639229258349412352, 1208925819614629174706177), (3458764513820540928, 4835703278458516698824704, 3626777458843887524118528), (5764607523034234880, 9671406556917033397649408, 6044629098073145873530880), (1152921504606846976, 19342813113834066795298816, 1208925819614629174706177), (24211351596743786496, 38685626227668133590597632, 20551738933448695970004992), (38046409652025950208, 77371252455336267181195264, 39894552047282762765303808), (84163269836299829248, 154742504910672534362390528, 88251584831867929753550848), (148726874094283259904, 309485009821345068724781056, 155951430730287163537096704), (332041393326771929088, 618970019642690137449562112, 309485009821345068724781056), (590295810358705651712, 1237940039285380274899124224, 618970019642690137449562113), (1770887431076116955136, 2475880078570760549798248448, 1856910058928070412348686336), (2951479051793528258560, 4951760157141521099596496896, 3094850098213450687247810560), (590295810358705651712, 9903520314283042199192993792, 618970019642690137449562113), (12396212017532818685952, 19807040628566084398385987584, 10522490333925732336642555904), (19479761741837286506496, 39614081257132168796771975168, 20426010648208774535835549696), (43091594156185512574976, 79228162514264337593543950336, 45184811433916380033818034176), (76148159536273029070848, 158456325028528675187087900672, 79847132533907027730993512448), (170005193383307227693056, 316912650057057350374175801344, 158456325028528675187087900672), (302231454903657293676544, 633825300114114700748351602688, 316912650057057350374175801348), (302231454903657293676544, 1267650600228229401496703205376, 316912650057057350374175801352), (2115620184325601055735808, 2535301200456458802993406410752, 2218388550399401452619230609408), (2720083094132915643088896, 5070602400912917605986812821504, 2852213850513516153367582212096), (302231454903657293676544, 10141204801825835211973625643008, 316912650057057350374175801348), (302231454903657293676544, 20282409603651670423947251286016, 316912650057057350374175801352), (31734302764884015836037120, 40564819207303340847894502572032, 30740527055534562986295052730368), (38987857682571790884274176, 81129638414606681695789005144064, 40881731857360398198268678373376), (82509187188698441173696512, 162259276829213363391578010288128, 86517153465576656652149993766912), (155044736365576191656067072, 324518553658426726783156020576256, 162576189479270420741952186089472), (618970019642690137449562111, 256, 324518553658426726783156020576256)] (by kernel_rfl) (by kernel_rfl) (by kernel_rfl) (by kernel_rfl) ?_
    intro w42 st43
    have hS44 := hS37.then st43
    refine p_run (d := 20) (v := (Value.int .i64 (channel))) hF41 (by kernel_rfl) (fun _ => by kernel_rfl) (fun _ _ _ h => h) ?_
    intro a45 hF46
    refine p_run (d := 21) (v := (uv n)) hF46 (by kernel_rfl) (fun _ => by kernel_rfl) (fun _ _ _ h => h) ?_
    intro a47 hF48
    refine p_run (d := 24) (v := (Value.int .i64 (channel))) hF48 (by kernel_rfl) (fun _ => by kernel_rfl) (fun _ _ _ h => h) ?_
    intro a49 hF50
    refine p_run (d := 25) (v := (Value.slice (some ⟨g31, 0, none⟩) 1 1)) hF50 (by kernel_rfl) (fun _ => by kernel_rfl) (fun _ _ _ h => h) ?_
    intro a51 hF52
    refine p_do (r_call (d := (some 22)) (f := 11) (args := #[(Operand.tmp 20), (Operand.tmp 21)]) (tys := #[3, 22]) hF52 (by kernel_rfl) (by kernel_rfl) C11 [(Value.int .i64 (channel)), (uv n)] (by kernel_rfl) (commit_calls s29 w42 (channel : Int) n) ?_)
    intro a53 s54 w55 v56 st57 hP58 hF59
    have hz60 := hS44.size
    have hS61 := hS44.then st57
    refine ⟨s54, st57.mono (fun b _ e => (fun _ e => e.elim) b e), ?_⟩
    obtain ⟨A62, m65, c63, rfl, hl64⟩ := hP58.formL
    have hO66 : Own tU8 5 w.heap.size s54 w55 (Value.slice A62 m65 c63) (ofL 99 (channel : Int) [n]) := hP58.le (by omega)
    refine p_val (d := 23) (op := (Op.convert 27 9 (Operand.tmp 22))) (v := (sv (ofL 99 (channel : Int) [n]))) hF59 (by kernel_rfl) (by kernel_rfl) (fun w9 ⟨s9, hw9⟩ => (exec_b2s U27 U5 U9 (by kernel_rfl) (hO66.rd.step hw9))) (fun _ _ _ h => h) ?_
    intro a68 hF69
    have h70 : Own tU64 22 w.heap.size s54 w55 (Value.slice (some ⟨g31, 0, none⟩) 1 1) [n] := ((hO38.step' st43).step' st57)
    refine p_do (r_call (d := (some 26)) (f := 19) (args := #[(Operand.const (Value.int IntKind.u8 99)), (Operand.tmp 24), (Operand.tmp 25)]) (tys := #[5, 3, 26]) hF69 (by kernel_rfl) (by kernel_rfl) C19 [(bv 99), (Value.int .i64 (channel)), (Value.slice (some ⟨g31, 0, none⟩) 1 1)] (by kernel_rfl) (key_calls s54 w55 99 (channel : Int) h70.rd (Nat.le_of_ble_eq_true (by kernel_rfl))) ?_)
    intro a71 s72 w73 v74 st75 hP76 hF77
    have hz78 := hS61.size
    have hS79 := hS61.then st75
    refine ⟨s72, st75.mono (fun b _ e => (fun _ e => e.elim) b e), ?_⟩
    obtain ⟨A80, m83, c81, rfl, hl82⟩ := hP76.formL
    have hO84 : Own tU8 5 w.heap.size s72 w73 (Value.slice A80 m83 c81) (ofL 99 (channel : Int) [n]) := hP76.le (by omega)
    refine p_val (d := 27) (op := (Op.convert 27 9 (Operand.tmp 26))) (v := (sv (ofL 99 (channel : Int) [n]))) hF77 (by kernel_rfl) (by kernel_rfl) (fun w9 ⟨s9, hw9⟩ => (exec_b2s U27 U5 U9 (by kernel_rfl) (hO84.rd.step hw9))) (fun _ _ _ h => h) ?_
    intro a86 hF87
    refine p_run (d := 28) (v := (Value.bool ((⟨(ofL 99 (channel : Int) [n]).toArray⟩ : ByteArray).toList == (⟨(ofL 99 (channel : Int) [n]).toArray⟩ : ByteArray).toList))) hF87 (by kernel_rfl) (fun _ => by kernel_rfl) (fun _ _ _ h => h) ?_
    intro a88 hF89
    have hF90 := hF89.set 28 (Value.bool ((⟨(ofL 99 (channel : Int) [n]).toArray⟩ : ByteArray).toList == (⟨(ofL 99 (channel : Int) [n]).toArray⟩ : ByteArray).toList)) (Value.bool true) (by kernel_rfl) (Eq.trans (congrArg Value.bool (str_eql _ _)) (congrArg Value.bool ((decide_eq_true rfl) : decide (ofL 99 (channel : Int) [n] = ofL 99 (channel : Int) [n]) = true)))
    have hF91 := hF90.keep [28, 9, 0, 1, 2, 3] [(28, (Value.bool true)), (9, (Value.slice (some ⟨g31, 0, none⟩) 1 1)), (0, (Value.int .i64 (channel))), (1, (uv n)), (2, (sv p)), (3, (sv q))] (by kernel_rfl)
    refine p_run (d := 29) (v := (Value.bool true)) hF91 (by kernel_rfl) (fun _ => by kernel_rfl) (fun _ _ _ h => h) ?_
    intro a92 hF93
    refine p_run (d := 30) (v := (Value.int .i64 (channel))) hF93 (by kernel_rfl) (fun _ => by kernel_rfl) (fun _ _ _ h => h) ?_
    intro a94 hF95
    refine p_run (d := 31) (v := (uv n)) hF95 (by kernel_rfl) (fun _ => by kernel_rfl) (fun _ _ _ h => h) ?_
    intro a96 hF97
    refine p_run (d := 34) (v := (Value.int .i64 (channel))) hF97 (by kernel_rfl) (fun _ => by kernel_rfl) (fun _ _ _ h => h) ?_
    intro a98 hF99
    refine p_run (d := 35) (v := (Value.slice (some ⟨g31, 0, none⟩) 1 1)) hF99 (by kernel_rfl) (fun _ => by kernel_rfl) (fun _ _ _ h => h) ?_
    intro a100 hF101
    refine p_do (r_call (d := (some 32)) (f := 12) (args := #[(Operand.tmp 30), (Operand.tmp 31)]) (tys := #[3, 22]) hF101 (by kernel_rfl) (by kernel_rfl) C12 [(Value.int .i64 (channel)), (uv n)] (by kernel_rfl) (answer_calls s72 w73 (channel : Int) n) ?_)
    intro a102 s103 w104 v105 st106 hP107 hF108
    have hz109 := hS79.size
    have hS110 := hS79.then st106
    refine ⟨s103, st106.mono (fun b _ e => (fun _ e => e.elim) b e), ?_⟩
    obtain ⟨A111, m114, c112, rfl, hl113⟩ := hP107.formL
    have hO115 : Own tU8 5 w.heap.size s103 w104 (Value.slice A111 m114 c112) (ofL 97 (channel : Int) [n]) := hP107.le (by omega)
    refine p_val (d := 33) (op := (Op.convert 27 9 (Operand.tmp 32))) (v := (sv (ofL 97 (channel : Int) [n]))) hF108 (by kernel_rfl) (by kernel_rfl) (fun w9 ⟨s9, hw9⟩ => (exec_b2s U27 U5 U9 (by kernel_rfl) (hO115.rd.step hw9))) (fun _ _ _ h => h) ?_
    intro a117 hF118
    have h119 : Own tU64 22 w.heap.size s103 w104 (Value.slice (some ⟨g31, 0, none⟩) 1 1) [n] := ((h70.step' st75).step' st106)
    refine p_do (r_call (d := (some 36)) (f := 19) (args := #[(Operand.const (Value.int IntKind.u8 97)), (Operand.tmp 34), (Operand.tmp 35)]) (tys := #[5, 3, 26]) hF118 (by kernel_rfl) (by kernel_rfl) C19 [(bv 97), (Value.int .i64 (channel)), (Value.slice (some ⟨g31, 0, none⟩) 1 1)] (by kernel_rfl) (key_calls s103 w104 97 (channel : Int) h119.rd (Nat.le_of_ble_eq_true (by kernel_rfl))) ?_)
    intro a120 s121 w122 v123 st124 hP125 hF126
    have hz127 := hS110.size
    have hS128 := hS110.then st124
    refine ⟨s121, st124.mono (fun b _ e => (fun _ e => e.elim) b e), ?_⟩
    obtain ⟨A129, m132, c130, rfl, hl131⟩ := hP125.formL
    have hO133 : Own tU8 5 w.heap.size s121 w122 (Value.slice A129 m132 c130) (ofL 97 (channel : Int) [n]) := hP125.le (by omega)
    have hF135 := hF126.keep [36, 33, 29, 9, 0, 1, 2, 3] [(36, (Value.slice A129 m132 c130)), (33, (sv (ofL 97 (channel : Int) [n]))), (29, (Value.bool true)), (9, (Value.slice (some ⟨g31, 0, none⟩) 1 1)), (0, (Value.int .i64 (channel))), (1, (uv n)), (2, (sv p)), (3, (sv q))] (by kernel_rfl)
    refine p_val (d := 37) (op := (Op.convert 27 9 (Operand.tmp 36))) (v := (sv (ofL 97 (channel : Int) [n]))) hF135 (by kernel_rfl) (by kernel_rfl) (fun w9 ⟨s9, hw9⟩ => (exec_b2s U27 U5 U9 (by kernel_rfl) (hO133.rd.step hw9))) (fun _ _ _ h => h) ?_
    intro a136 hF137
    refine p_run (d := 38) (v := (Value.bool ((⟨(ofL 97 (channel : Int) [n]).toArray⟩ : ByteArray).toList == (⟨(ofL 97 (channel : Int) [n]).toArray⟩ : ByteArray).toList))) hF137 (by kernel_rfl) (fun _ => by kernel_rfl) (fun _ _ _ h => h) ?_
    intro a138 hF139
    have hF140 := hF139.set 38 (Value.bool ((⟨(ofL 97 (channel : Int) [n]).toArray⟩ : ByteArray).toList == (⟨(ofL 97 (channel : Int) [n]).toArray⟩ : ByteArray).toList)) (Value.bool true) (by kernel_rfl) (Eq.trans (congrArg Value.bool (str_eql _ _)) (congrArg Value.bool ((decide_eq_true rfl) : decide (ofL 97 (channel : Int) [n] = ofL 97 (channel : Int) [n]) = true)))
    refine p_run (d := 39) (v := (Value.bool true)) hF140 (by kernel_rfl) (fun _ => by kernel_rfl) (fun _ _ _ h => h) ?_
    intro a141 hF142
    refine p_run (d := 40) (v := (Value.bool true)) hF142 (by kernel_rfl) (fun _ => by kernel_rfl) (fun _ _ _ h => h) ?_
    intro a143 hF144
    refine p_run (d := 41) (v := (Value.int .i64 (channel))) hF144 (by kernel_rfl) (fun _ => by kernel_rfl) (fun _ _ _ h => h) ?_
    intro a145 hF146
    refine p_run (d := 42) (v := (uv n)) hF146 (by kernel_rfl) (fun _ => by kernel_rfl) (fun _ _ _ h => h) ?_
    intro a147 hF148
    have hF149 := hF148.keep [42, 41, 40, 9, 0, 1, 2, 3] [(42, (uv n)), (41, (Value.int .i64 (channel))), (40, (Value.bool true)), (9, (Value.slice (some ⟨g31, 0, none⟩) 1 1)), (0, (Value.int .i64 (channel))), (1, (uv n)), (2, (sv p)), (3, (sv q))] (by kernel_rfl)
    refine p_run (d := 45) (v := (Value.int .i64 (channel))) hF149 (by kernel_rfl) (fun _ => by kernel_rfl) (fun _ _ _ h => h) ?_
    intro a150 hF151
    refine p_run (d := 46) (v := (Value.slice (some ⟨g31, 0, none⟩) 1 1)) hF151 (by kernel_rfl) (fun _ => by kernel_rfl) (fun _ _ _ h => h) ?_
    intro a152 hF153
    refine p_do (r_call (d := (some 43)) (f := 13) (args := #[(Operand.tmp 41), (Operand.tmp 42)]) (tys := #[3, 22]) hF153 (by kernel_rfl) (by kernel_rfl) C13 [(Value.int .i64 (channel)), (uv n)] (by kernel_rfl) (receipt_calls s121 w122 (channel : Int) n) ?_)
    intro a154 s155 w156 v157 st158 hP159 hF160
    have hz161 := hS128.size
    have hS162 := hS128.then st158
    refine ⟨s155, st158.mono (fun b _ e => (fun _ e => e.elim) b e), ?_⟩
    obtain ⟨A163, m166, c164, rfl, hl165⟩ := hP159.formL
    have hO167 : Own tU8 5 w.heap.size s155 w156 (Value.slice A163 m166 c164) (ofL 114 (channel : Int) [n]) := hP159.le (by omega)
    refine p_val (d := 44) (op := (Op.convert 27 9 (Operand.tmp 43))) (v := (sv (ofL 114 (channel : Int) [n]))) hF160 (by kernel_rfl) (by kernel_rfl) (fun w9 ⟨s9, hw9⟩ => (exec_b2s U27 U5 U9 (by kernel_rfl) (hO167.rd.step hw9))) (fun _ _ _ h => h) ?_
    intro a169 hF170
    have h171 : Own tU64 22 w.heap.size s155 w156 (Value.slice (some ⟨g31, 0, none⟩) 1 1) [n] := ((h119.step' st124).step' st158)
    refine p_do (r_call (d := (some 47)) (f := 19) (args := #[(Operand.const (Value.int IntKind.u8 114)), (Operand.tmp 45), (Operand.tmp 46)]) (tys := #[5, 3, 26]) hF170 (by kernel_rfl) (by kernel_rfl) C19 [(bv 114), (Value.int .i64 (channel)), (Value.slice (some ⟨g31, 0, none⟩) 1 1)] (by kernel_rfl) (key_calls s155 w156 114 (channel : Int) h171.rd (Nat.le_of_ble_eq_true (by kernel_rfl))) ?_)
    intro a172 s173 w174 v175 st176 hP177 hF178
    have hz179 := hS162.size
    have hS180 := hS162.then st176
    refine ⟨s173, st176.mono (fun b _ e => (fun _ e => e.elim) b e), ?_⟩
    obtain ⟨A181, m184, c182, rfl, hl183⟩ := hP177.formL
    have hO185 : Own tU8 5 w.heap.size s173 w174 (Value.slice A181 m184 c182) (ofL 114 (channel : Int) [n]) := hP177.le (by omega)
    refine p_val (d := 48) (op := (Op.convert 27 9 (Operand.tmp 47))) (v := (sv (ofL 114 (channel : Int) [n]))) hF178 (by kernel_rfl) (by kernel_rfl) (fun w9 ⟨s9, hw9⟩ => (exec_b2s U27 U5 U9 (by kernel_rfl) (hO185.rd.step hw9))) (fun _ _ _ h => h) ?_
    intro a187 hF188
    have hF189 := hF188.keep [48, 44, 40, 9, 0, 1, 2, 3] [(48, (sv (ofL 114 (channel : Int) [n]))), (44, (sv (ofL 114 (channel : Int) [n]))), (40, (Value.bool true)), (9, (Value.slice (some ⟨g31, 0, none⟩) 1 1)), (0, (Value.int .i64 (channel))), (1, (uv n)), (2, (sv p)), (3, (sv q))] (by kernel_rfl)
    refine p_run (d := 49) (v := (Value.bool ((⟨(ofL 114 (channel : Int) [n]).toArray⟩ : ByteArray).toList == (⟨(ofL 114 (channel : Int) [n]).toArray⟩ : ByteArray).toList))) hF189 (by kernel_rfl) (fun _ => by kernel_rfl) (fun _ _ _ h => h) ?_
    intro a190 hF191
    have hF192 := hF191.set 49 (Value.bool ((⟨(ofL 114 (channel : Int) [n]).toArray⟩ : ByteArray).toList == (⟨(ofL 114 (channel : Int) [n]).toArray⟩ : ByteArray).toList)) (Value.bool true) (by kernel_rfl) (Eq.trans (congrArg Value.bool (str_eql _ _)) (congrArg Value.bool ((decide_eq_true rfl) : decide (ofL 114 (channel : Int) [n] = ofL 114 (channel : Int) [n]) = true)))
    refine p_run (d := 50) (v := (Value.bool true)) hF192 (by kernel_rfl) (fun _ => by kernel_rfl) (fun _ _ _ h => h) ?_
    intro a193 hF194
    refine p_run (d := 51) (v := (Value.bool true)) hF194 (by kernel_rfl) (fun _ => by kernel_rfl) (fun _ _ _ h => h) ?_
    intro a195 hF196
    refine p_run (d := 52) (v := (Value.int .i64 (channel))) hF196 (by kernel_rfl) (fun _ => by kernel_rfl) (fun _ _ _ h => h) ?_
    intro a197 hF198
    refine p_run (d := 53) (v := (uv n)) hF198 (by kernel_rfl) (fun _ => by kernel_rfl) (fun _ _ _ h => h) ?_
    intro a199 hF200
    refine p_run (d := 56) (v := (Value.int .i64 (channel))) hF200 (by kernel_rfl) (fun _ => by kernel_rfl) (fun _ _ _ h => h) ?_
    intro a201 hF202
    have hF203 := hF202.keep [56, 53, 52, 51, 9, 0, 2, 3] [(56, (Value.int .i64 (channel))), (53, (uv n)), (52, (Value.int .i64 (channel))), (51, (Value.bool true)), (9, (Value.slice (some ⟨g31, 0, none⟩) 1 1)), (0, (Value.int .i64 (channel))), (2, (sv p)), (3, (sv q))] (by kernel_rfl)
    refine p_run (d := 57) (v := (Value.slice (some ⟨g31, 0, none⟩) 1 1)) hF203 (by kernel_rfl) (fun _ => by kernel_rfl) (fun _ _ _ h => h) ?_
    intro a204 hF205
    refine p_do (r_call (d := (some 54)) (f := 14) (args := #[(Operand.tmp 52), (Operand.tmp 53)]) (tys := #[3, 22]) hF205 (by kernel_rfl) (by kernel_rfl) C14 [(Value.int .i64 (channel)), (uv n)] (by kernel_rfl) (word_calls s173 w174 (channel : Int) n) ?_)
    intro a206 s207 w208 v209 st210 hP211 hF212
    have hz213 := hS180.size
    have hS214 := hS180.then st210
    refine ⟨s207, st210.mono (fun b _ e => (fun _ e => e.elim) b e), ?_⟩
    obtain ⟨A215, m218, c216, rfl, hl217⟩ := hP211.formL
    have hO219 : Own tU8 5 w.heap.size s207 w208 (Value.slice A215 m218 c216) (ofL 119 (channel : Int) [n]) := hP211.le (by omega)
    refine p_val (d := 55) (op := (Op.convert 27 9 (Operand.tmp 54))) (v := (sv (ofL 119 (channel : Int) [n]))) hF212 (by kernel_rfl) (by kernel_rfl) (fun w9 ⟨s9, hw9⟩ => (exec_b2s U27 U5 U9 (by kernel_rfl) (hO219.rd.step hw9))) (fun _ _ _ h => h) ?_
    intro a221 hF222
    have h223 : Own tU64 22 w.heap.size s207 w208 (Value.slice (some ⟨g31, 0, none⟩) 1 1) [n] := ((h171.step' st176).step' st210)
    refine p_do (r_call (d := (some 58)) (f := 19) (args := #[(Operand.const (Value.int IntKind.u8 119)), (Operand.tmp 56), (Operand.tmp 57)]) (tys := #[5, 3, 26]) hF222 (by kernel_rfl) (by kernel_rfl) C19 [(bv 119), (Value.int .i64 (channel)), (Value.slice (some ⟨g31, 0, none⟩) 1 1)] (by kernel_rfl) (key_calls s207 w208 119 (channel : Int) h223.rd (Nat.le_of_ble_eq_true (by kernel_rfl))) ?_)
    intro a224 s225 w226 v227 st228 hP229 hF230
    have hz231 := hS214.size
    have hS232 := hS214.then st228
    refine ⟨s225, st228.mono (fun b _ e => (fun _ e => e.elim) b e), ?_⟩
    obtain ⟨A233, m236, c234, rfl, hl235⟩ := hP229.formL
    have hO237 : Own tU8 5 w.heap.size s225 w226 (Value.slice A233 m236 c234) (ofL 119 (channel : Int) [n]) := hP229.le (by omega)
    refine p_val (d := 59) (op := (Op.convert 27 9 (Operand.tmp 58))) (v := (sv (ofL 119 (channel : Int) [n]))) hF230 (by kernel_rfl) (by kernel_rfl) (fun w9 ⟨s9, hw9⟩ => (exec_b2s U27 U5 U9 (by kernel_rfl) (hO237.rd.step hw9))) (fun _ _ _ h => h) ?_
    intro a239 hF240
    refine p_run (d := 60) (v := (Value.bool ((⟨(ofL 119 (channel : Int) [n]).toArray⟩ : ByteArray).toList == (⟨(ofL 119 (channel : Int) [n]).toArray⟩ : ByteArray).toList))) hF240 (by kernel_rfl) (fun _ => by kernel_rfl) (fun _ _ _ h => h) ?_
    intro a241 hF242
    have hF243 := hF242.set 60 (Value.bool ((⟨(ofL 119 (channel : Int) [n]).toArray⟩ : ByteArray).toList == (⟨(ofL 119 (channel : Int) [n]).toArray⟩ : ByteArray).toList)) (Value.bool true) (by kernel_rfl) (Eq.trans (congrArg Value.bool (str_eql _ _)) (congrArg Value.bool ((decide_eq_true rfl) : decide (ofL 119 (channel : Int) [n] = ofL 119 (channel : Int) [n]) = true)))
    have hF244 := hF243.keep [60, 51, 0, 2, 3] [(60, (Value.bool true)), (51, (Value.bool true)), (0, (Value.int .i64 (channel))), (2, (sv p)), (3, (sv q))] (by kernel_rfl)
    refine p_run (d := 61) (v := (Value.bool true)) hF244 (by kernel_rfl) (fun _ => by kernel_rfl) (fun _ _ _ h => h) ?_
    intro a245 hF246
    refine p_run (d := 62) (v := (Value.bool true)) hF246 (by kernel_rfl) (fun _ => by kernel_rfl) (fun _ _ _ h => h) ?_
    intro a247 hF248
    refine p_run (d := 63) (v := (Value.int .i64 (channel))) hF248 (by kernel_rfl) (fun _ => by kernel_rfl) (fun _ _ _ h => h) ?_
    intro a249 hF250
    refine p_run (d := 66) (v := (Value.int .i64 (channel))) hF250 (by kernel_rfl) (fun _ => by kernel_rfl) (fun _ _ _ h => h) ?_
    intro a251 hF252
    refine p_do (r_call (d := (some 64)) (f := 15) (args := #[(Operand.tmp 63)]) (tys := #[3]) hF252 (by kernel_rfl) (by kernel_rfl) C15 [(Value.int .i64 (channel))] (by kernel_rfl) (sent_calls s225 w226 (channel : Int)) ?_)
    intro a253 s254 w255 v256 st257 hP258 hF259
    have hz260 := hS232.size
    have hS261 := hS232.then st257
    refine ⟨s254, st257.mono (fun b _ e => (fun _ e => e.elim) b e), ?_⟩
    obtain ⟨A262, m265, c263, rfl, hl264⟩ := hP258.formL
    have hO266 : Own tU8 5 w.heap.size s254 w255 (Value.slice A262 m265 c263) (ofL 115 (channel : Int) []) := hP258.le (by omega)
    refine p_val (d := 65) (op := (Op.convert 27 9 (Operand.tmp 64))) (v := (sv (ofL 115 (channel : Int) []))) hF259 (by kernel_rfl) (by kernel_rfl) (fun w9 ⟨s9, hw9⟩ => (exec_b2s U27 U5 U9 (by kernel_rfl) (hO266.rd.step hw9))) (fun _ _ _ h => h) ?_
    intro a268 hF269
    refine p_do (r_call (d := (some 67)) (f := 19) (args := #[(Operand.const (Value.int IntKind.u8 115)), (Operand.tmp 66), (Operand.const (Value.slice none 0 0))]) (tys := #[5, 3, 26]) hF269 (by kernel_rfl) (by kernel_rfl) C19 [(bv 115), (Value.int .i64 (channel)), (Value.slice none 0 0)] (by kernel_rfl) (key_calls s254 w255 115 (channel : Int) (Rd.nil _ s254 w255 none 0) (Nat.le_of_ble_eq_true (by kernel_rfl))) ?_)
    intro a270 s271 w272 v273 st274 hP275 hF276
    have hz277 := hS261.size
    have hS278 := hS261.then st274
    refine ⟨s271, st274.mono (fun b _ e => (fun _ e => e.elim) b e), ?_⟩
    obtain ⟨A279, m282, c280, rfl, hl281⟩ := hP275.formL
    have hO283 : Own tU8 5 w.heap.size s271 w272 (Value.slice A279 m282 c280) (ofL 115 (channel : Int) []) := hP275.le (by omega)
    refine p_val (d := 68) (op := (Op.convert 27 9 (Operand.tmp 67))) (v := (sv (ofL 115 (channel : Int) []))) hF276 (by kernel_rfl) (by kernel_rfl) (fun w9 ⟨s9, hw9⟩ => (exec_b2s U27 U5 U9 (by kernel_rfl) (hO283.rd.step hw9))) (fun _ _ _ h => h) ?_
    intro a285 hF286
    refine p_run (d := 69) (v := (Value.bool ((⟨(ofL 115 (channel : Int) []).toArray⟩ : ByteArray).toList == (⟨(ofL 115 (channel : Int) []).toArray⟩ : ByteArray).toList))) hF286 (by kernel_rfl) (fun _ => by kernel_rfl) (fun _ _ _ h => h) ?_
    intro a287 hF288
    have hF289 := hF288.set 69 (Value.bool ((⟨(ofL 115 (channel : Int) []).toArray⟩ : ByteArray).toList == (⟨(ofL 115 (channel : Int) []).toArray⟩ : ByteArray).toList)) (Value.bool true) (by kernel_rfl) (Eq.trans (congrArg Value.bool (str_eql _ _)) (congrArg Value.bool ((decide_eq_true rfl) : decide (ofL 115 (channel : Int) [] = ofL 115 (channel : Int) []) = true)))
    have hF290 := hF289.keep [69, 62, 0, 2, 3] [(69, (Value.bool true)), (62, (Value.bool true)), (0, (Value.int .i64 (channel))), (2, (sv p)), (3, (sv q))] (by kernel_rfl)
    refine p_run (d := 70) (v := (Value.bool true)) hF290 (by kernel_rfl) (fun _ => by kernel_rfl) (fun _ _ _ h => h) ?_
    intro a291 hF292
    refine p_run (d := 71) (v := (Value.bool true)) hF292 (by kernel_rfl) (fun _ => by kernel_rfl) (fun _ _ _ h => h) ?_
    intro a293 hF294
    refine p_run (d := 72) (v := (Value.int .i64 (channel))) hF294 (by kernel_rfl) (fun _ => by kernel_rfl) (fun _ _ _ h => h) ?_
    intro a295 hF296
    refine p_run (d := 75) (v := (Value.int .i64 (channel))) hF296 (by kernel_rfl) (fun _ => by kernel_rfl) (fun _ _ _ h => h) ?_
    intro a297 hF298
    refine p_do (r_call (d := (some 73)) (f := 16) (args := #[(Operand.tmp 72)]) (tys := #[3]) hF298 (by kernel_rfl) (by kernel_rfl) C16 [(Value.int .i64 (channel))] (by kernel_rfl) (got_calls s271 w272 (channel : Int)) ?_)
    intro a299 s300 w301 v302 st303 hP304 hF305
    have hz306 := hS278.size
    have hS307 := hS278.then st303
    refine ⟨s300, st303.mono (fun b _ e => (fun _ e => e.elim) b e), ?_⟩
    obtain ⟨A308, m311, c309, rfl, hl310⟩ := hP304.formL
    have hO312 : Own tU8 5 w.heap.size s300 w301 (Value.slice A308 m311 c309) (ofL 110 (channel : Int) []) := hP304.le (by omega)
    refine p_val (d := 74) (op := (Op.convert 27 9 (Operand.tmp 73))) (v := (sv (ofL 110 (channel : Int) []))) hF305 (by kernel_rfl) (by kernel_rfl) (fun w9 ⟨s9, hw9⟩ => (exec_b2s U27 U5 U9 (by kernel_rfl) (hO312.rd.step hw9))) (fun _ _ _ h => h) ?_
    intro a314 hF315
    refine p_do (r_call (d := (some 76)) (f := 19) (args := #[(Operand.const (Value.int IntKind.u8 110)), (Operand.tmp 75), (Operand.const (Value.slice none 0 0))]) (tys := #[5, 3, 26]) hF315 (by kernel_rfl) (by kernel_rfl) C19 [(bv 110), (Value.int .i64 (channel)), (Value.slice none 0 0)] (by kernel_rfl) (key_calls s300 w301 110 (channel : Int) (Rd.nil _ s300 w301 none 0) (Nat.le_of_ble_eq_true (by kernel_rfl))) ?_)
    intro a316 s317 w318 v319 st320 hP321 hF322
    have hz323 := hS307.size
    have hS324 := hS307.then st320
    refine ⟨s317, st320.mono (fun b _ e => (fun _ e => e.elim) b e), ?_⟩
    obtain ⟨A325, m328, c326, rfl, hl327⟩ := hP321.formL
    have hO329 : Own tU8 5 w.heap.size s317 w318 (Value.slice A325 m328 c326) (ofL 110 (channel : Int) []) := hP321.le (by omega)
    refine p_val (d := 77) (op := (Op.convert 27 9 (Operand.tmp 76))) (v := (sv (ofL 110 (channel : Int) []))) hF322 (by kernel_rfl) (by kernel_rfl) (fun w9 ⟨s9, hw9⟩ => (exec_b2s U27 U5 U9 (by kernel_rfl) (hO329.rd.step hw9))) (fun _ _ _ h => h) ?_
    intro a331 hF332
    refine p_run (d := 78) (v := (Value.bool ((⟨(ofL 110 (channel : Int) []).toArray⟩ : ByteArray).toList == (⟨(ofL 110 (channel : Int) []).toArray⟩ : ByteArray).toList))) hF332 (by kernel_rfl) (fun _ => by kernel_rfl) (fun _ _ _ h => h) ?_
    intro a333 hF334
    have hF335 := hF334.set 78 (Value.bool ((⟨(ofL 110 (channel : Int) []).toArray⟩ : ByteArray).toList == (⟨(ofL 110 (channel : Int) []).toArray⟩ : ByteArray).toList)) (Value.bool true) (by kernel_rfl) (Eq.trans (congrArg Value.bool (str_eql _ _)) (congrArg Value.bool ((decide_eq_true rfl) : decide (ofL 110 (channel : Int) [] = ofL 110 (channel : Int) []) = true)))
    have hF336 := hF335.keep [78, 71, 0, 2, 3] [(78, (Value.bool true)), (71, (Value.bool true)), (0, (Value.int .i64 (channel))), (2, (sv p)), (3, (sv q))] (by kernel_rfl)
    refine p_run (d := 79) (v := (Value.bool true)) hF336 (by kernel_rfl) (fun _ => by kernel_rfl) (fun _ _ _ h => h) ?_
    intro a337 hF338
    refine p_run (d := 80) (v := (Value.bool true)) hF338 (by kernel_rfl) (fun _ => by kernel_rfl) (fun _ _ _ h => h) ?_
    intro a339 hF340
    refine p_run (d := 81) (v := (Value.int .i64 (channel))) hF340 (by kernel_rfl) (fun _ => by kernel_rfl) (fun _ _ _ h => h) ?_
    intro a341 hF342
    refine p_run (d := 84) (v := (Value.int .i64 (channel))) hF342 (by kernel_rfl) (fun _ => by kernel_rfl) (fun _ _ _ h => h) ?_
    intro a343 hF344
    refine p_do (r_call (d := (some 82)) (f := 17) (args := #[(Operand.tmp 81)]) (tys := #[3]) hF344 (by kernel_rfl) (by kernel_rfl) C17 [(Value.int .i64 (channel))] (by kernel_rfl) (acked_calls s317 w318 (channel : Int)) ?_)
    intro a345 s346 w347 v348 st349 hP350 hF351
    have hz352 := hS324.size
    have hS353 := hS324.then st349
    refine ⟨s346, st349.mono (fun b _ e => (fun _ e => e.elim) b e), ?_⟩
    obtain ⟨A354, m357, c355, rfl, hl356⟩ := hP350.formL
    have hO358 : Own tU8 5 w.heap.size s346 w347 (Value.slice A354 m357 c355) (ofL 107 (channel : Int) []) := hP350.le (by omega)
    refine p_val (d := 83) (op := (Op.convert 27 9 (Operand.tmp 82))) (v := (sv (ofL 107 (channel : Int) []))) hF351 (by kernel_rfl) (by kernel_rfl) (fun w9 ⟨s9, hw9⟩ => (exec_b2s U27 U5 U9 (by kernel_rfl) (hO358.rd.step hw9))) (fun _ _ _ h => h) ?_
    intro a360 hF361
    refine p_do (r_call (d := (some 85)) (f := 19) (args := #[(Operand.const (Value.int IntKind.u8 107)), (Operand.tmp 84), (Operand.const (Value.slice none 0 0))]) (tys := #[5, 3, 26]) hF361 (by kernel_rfl) (by kernel_rfl) C19 [(bv 107), (Value.int .i64 (channel)), (Value.slice none 0 0)] (by kernel_rfl) (key_calls s346 w347 107 (channel : Int) (Rd.nil _ s346 w347 none 0) (Nat.le_of_ble_eq_true (by kernel_rfl))) ?_)
    intro a362 s363 w364 v365 st366 hP367 hF368
    have hz369 := hS353.size
    have hS370 := hS353.then st366
    refine ⟨s363, st366.mono (fun b _ e => (fun _ e => e.elim) b e), ?_⟩
    obtain ⟨A371, m374, c372, rfl, hl373⟩ := hP367.formL
    have hO375 : Own tU8 5 w.heap.size s363 w364 (Value.slice A371 m374 c372) (ofL 107 (channel : Int) []) := hP367.le (by omega)
    refine p_val (d := 86) (op := (Op.convert 27 9 (Operand.tmp 85))) (v := (sv (ofL 107 (channel : Int) []))) hF368 (by kernel_rfl) (by kernel_rfl) (fun w9 ⟨s9, hw9⟩ => (exec_b2s U27 U5 U9 (by kernel_rfl) (hO375.rd.step hw9))) (fun _ _ _ h => h) ?_
    intro a377 hF378
    refine p_run (d := 87) (v := (Value.bool ((⟨(ofL 107 (channel : Int) []).toArray⟩ : ByteArray).toList == (⟨(ofL 107 (channel : Int) []).toArray⟩ : ByteArray).toList))) hF378 (by kernel_rfl) (fun _ => by kernel_rfl) (fun _ _ _ h => h) ?_
    intro a379 hF380
    have hF381 := hF380.set 87 (Value.bool ((⟨(ofL 107 (channel : Int) []).toArray⟩ : ByteArray).toList == (⟨(ofL 107 (channel : Int) []).toArray⟩ : ByteArray).toList)) (Value.bool true) (by kernel_rfl) (Eq.trans (congrArg Value.bool (str_eql _ _)) (congrArg Value.bool ((decide_eq_true rfl) : decide (ofL 107 (channel : Int) [] = ofL 107 (channel : Int) []) = true)))
    have hF382 := hF381.keep [87, 80, 0, 2, 3] [(87, (Value.bool true)), (80, (Value.bool true)), (0, (Value.int .i64 (channel))), (2, (sv p)), (3, (sv q))] (by kernel_rfl)
    refine p_run (d := 88) (v := (Value.bool true)) hF382 (by kernel_rfl) (fun _ => by kernel_rfl) (fun _ _ _ h => h) ?_
    intro a383 hF384
    refine p_run (d := 89) (v := (Value.bool true)) hF384 (by kernel_rfl) (fun _ => by kernel_rfl) (fun _ _ _ h => h) ?_
    intro a385 hF386
    refine p_run (d := 90) (v := (Value.int .i64 (channel))) hF386 (by kernel_rfl) (fun _ => by kernel_rfl) (fun _ _ _ h => h) ?_
    intro a387 hF388
    refine p_run (d := 93) (v := (Value.int .i64 (channel))) hF388 (by kernel_rfl) (fun _ => by kernel_rfl) (fun _ _ _ h => h) ?_
    intro a389 hF390
    refine p_do (r_call (d := (some 91)) (f := 18) (args := #[(Operand.tmp 90)]) (tys := #[3]) hF390 (by kernel_rfl) (by kernel_rfl) C18 [(Value.int .i64 (channel))] (by kernel_rfl) (closed_calls s363 w364 (channel : Int)) ?_)
    intro a391 s392 w393 v394 st395 hP396 hF397
    have hz398 := hS370.size
    have hS399 := hS370.then st395
    refine ⟨s392, st395.mono (fun b _ e => (fun _ e => e.elim) b e), ?_⟩
    obtain ⟨A400, m403, c401, rfl, hl402⟩ := hP396.formL
    have hO404 : Own tU8 5 w.heap.size s392 w393 (Value.slice A400 m403 c401) (ofL 120 (channel : Int) []) := hP396.le (by omega)
    refine p_val (d := 92) (op := (Op.convert 27 9 (Operand.tmp 91))) (v := (sv (ofL 120 (channel : Int) []))) hF397 (by kernel_rfl) (by kernel_rfl) (fun w9 ⟨s9, hw9⟩ => (exec_b2s U27 U5 U9 (by kernel_rfl) (hO404.rd.step hw9))) (fun _ _ _ h => h) ?_
    intro a406 hF407
    refine p_do (r_call (d := (some 94)) (f := 19) (args := #[(Operand.const (Value.int IntKind.u8 120)), (Operand.tmp 93), (Operand.const (Value.slice none 0 0))]) (tys := #[5, 3, 26]) hF407 (by kernel_rfl) (by kernel_rfl) C19 [(bv 120), (Value.int .i64 (channel)), (Value.slice none 0 0)] (by kernel_rfl) (key_calls s392 w393 120 (channel : Int) (Rd.nil _ s392 w393 none 0) (Nat.le_of_ble_eq_true (by kernel_rfl))) ?_)
    intro a408 s409 w410 v411 st412 hP413 hF414
    have hz415 := hS399.size
    have hS416 := hS399.then st412
    refine ⟨s409, st412.mono (fun b _ e => (fun _ e => e.elim) b e), ?_⟩
    obtain ⟨A417, m420, c418, rfl, hl419⟩ := hP413.formL
    have hO421 : Own tU8 5 w.heap.size s409 w410 (Value.slice A417 m420 c418) (ofL 120 (channel : Int) []) := hP413.le (by omega)
    refine p_val (d := 95) (op := (Op.convert 27 9 (Operand.tmp 94))) (v := (sv (ofL 120 (channel : Int) []))) hF414 (by kernel_rfl) (by kernel_rfl) (fun w9 ⟨s9, hw9⟩ => (exec_b2s U27 U5 U9 (by kernel_rfl) (hO421.rd.step hw9))) (fun _ _ _ h => h) ?_
    intro a423 hF424
    refine p_run (d := 96) (v := (Value.bool ((⟨(ofL 120 (channel : Int) []).toArray⟩ : ByteArray).toList == (⟨(ofL 120 (channel : Int) []).toArray⟩ : ByteArray).toList))) hF424 (by kernel_rfl) (fun _ => by kernel_rfl) (fun _ _ _ h => h) ?_
    intro a425 hF426
    have hF427 := hF426.set 96 (Value.bool ((⟨(ofL 120 (channel : Int) []).toArray⟩ : ByteArray).toList == (⟨(ofL 120 (channel : Int) []).toArray⟩ : ByteArray).toList)) (Value.bool true) (by kernel_rfl) (Eq.trans (congrArg Value.bool (str_eql _ _)) (congrArg Value.bool ((decide_eq_true rfl) : decide (ofL 120 (channel : Int) [] = ofL 120 (channel : Int) []) = true)))
    have hF428 := hF427.keep [96, 89, 2, 3] [(96, (Value.bool true)), (89, (Value.bool true)), (2, (sv p)), (3, (sv q))] (by kernel_rfl)
    refine p_run (d := 97) (v := (Value.bool true)) hF428 (by kernel_rfl) (fun _ => by kernel_rfl) (fun _ _ _ h => h) ?_
    intro a429 hF430
    refine p_run (d := 98) (v := (Value.bool true)) hF430 (by kernel_rfl) (fun _ => by kernel_rfl) (fun _ _ _ h => h) ?_
    intro a431 hF432
    refine p_run (d := 99) (v := (sv p)) hF432 (by kernel_rfl) (fun _ => by kernel_rfl) (fun _ _ _ h => h) ?_
    intro a433 hF434
    refine p_run (d := 100) (v := (sv q)) hF434 (by kernel_rfl) (fun _ => by kernel_rfl) (fun _ _ _ h => h) ?_
    intro a435 hF436
    refine p_run (d := 103) (v := (sv p)) hF436 (by kernel_rfl) (fun _ => by kernel_rfl) (fun _ _ _ h => h) ?_
    intro a437 hF438
    refine p_run (d := 104) (v := (sv q)) hF438 (by kernel_rfl) (fun _ => by kernel_rfl) (fun _ _ _ h => h) ?_
    intro a439 hF440
    refine p_do (r_call (d := (some 101)) (f := 20) (args := #[(Operand.tmp 99), (Operand.tmp 100)]) (tys := #[9, 9]) hF440 (by kernel_rfl) (by kernel_rfl) C20 [(sv p), (sv q)] (by kernel_rfl) (balance_calls s409 w410 p q (by omega)) ?_)
    intro a441 s442 w443 v444 st445 hP446 hF447
    have hz448 := hS416.size
    have hS449 := hS416.then st445
    refine ⟨s442, st445.mono (fun b _ e => (fun _ e => e.elim) b e), ?_⟩
    obtain ⟨A450, m453, c451, rfl, hl452⟩ := hP446.formL
    refine p_val (d := 102) (op := (Op.convert 27 9 (Operand.tmp 101))) (v := (sv (purse p q))) hF447 (by kernel_rfl) (by kernel_rfl) (fun w9 ⟨s9, hw9⟩ => (exec_b2s U27 U5 U9 (by kernel_rfl) (hP446.step hw9))) (fun _ _ _ h => h) ?_
    intro a454 hF455
    refine p_do (r_call (d := (some 105)) (f := 21) (args := #[(Operand.tmp 103), (Operand.tmp 104)]) (tys := #[9, 9]) hF455 (by kernel_rfl) (by kernel_rfl) C21 [(sv p), (sv q)] (by kernel_rfl) (purse_calls s442 w443 p q (by omega)) ?_)
    intro a456 s457 w458 v459 st460 hP461 hF462
    have hz463 := hS449.size
    have hS464 := hS449.then st460
    refine ⟨s457, st460.mono (fun b _ e => (fun _ e => e.elim) b e), ?_⟩
    obtain ⟨A465, m468, c466, rfl, hl467⟩ := hP461.formL
    refine p_val (d := 106) (op := (Op.convert 27 9 (Operand.tmp 105))) (v := (sv (purse p q))) hF462 (by kernel_rfl) (by kernel_rfl) (fun w9 ⟨s9, hw9⟩ => (exec_b2s U27 U5 U9 (by kernel_rfl) (hP461.step hw9))) (fun _ _ _ h => h) ?_
    intro a469 hF470
    have hF471 := hF470.keep [106, 102, 98] [(106, (sv (purse p q))), (102, (sv (purse p q))), (98, (Value.bool true))] (by kernel_rfl)
    refine p_run (d := 107) (v := (Value.bool ((⟨(purse p q).toArray⟩ : ByteArray).toList == (⟨(purse p q).toArray⟩ : ByteArray).toList))) hF471 (by kernel_rfl) (fun _ => by kernel_rfl) (fun _ _ _ h => h) ?_
    intro a472 hF473
    have hF474 := hF473.set 107 (Value.bool ((⟨(purse p q).toArray⟩ : ByteArray).toList == (⟨(purse p q).toArray⟩ : ByteArray).toList)) (Value.bool true) (by kernel_rfl) (Eq.trans (congrArg Value.bool (str_eql _ _)) (congrArg Value.bool ((decide_eq_true rfl) : decide (purse p q = purse p q) = true)))
    refine p_run (d := 108) (v := (Value.bool true)) hF474 (by kernel_rfl) (fun _ => by kernel_rfl) (fun _ _ _ h => h) ?_
    intro a475 hF476
    refine p_run (d := 8) (v := (Value.bool true)) hF476 (by kernel_rfl) (fun _ => by kernel_rfl) (fun _ _ _ h => h) ?_
    intro a477 hF478
    refine p_end ?_
    have hF479 := hF478.keep [8] [(8, (Value.bool true))] (by kernel_rfl)
    refine c_ret (by kernel_rfl) ?_
    try dsimp only [Exit.then, Exit.inBlock]
    refine f_ret1 hF479 8 (by kernel_rfl) (Value.bool true) (by kernel_rfl) s457 hS464 ?_
    exact rfl
end Go.Proofs.Ytaoamokfbhlaaaa.E
