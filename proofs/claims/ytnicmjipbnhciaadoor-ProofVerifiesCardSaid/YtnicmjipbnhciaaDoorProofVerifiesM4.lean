/- What the law ProofVerifies needs: the engine, the walks of what it reaches, plain laws; part 4. -/
import Derived.Test.YtnicmjipbnhciaaDoorProofVerifiesM3
set_option linter.unnecessarySimpa false
set_option linter.deprecated false
set_option linter.unusedVariables false
set_option linter.unusedSimpArgs false
set_option maxRecDepth 100000
set_option maxHeartbeats 2000000
namespace Go.Proofs.YtnicmjipbnhciaaDoor.E
open Go Go.RowKit
open Go.Proofs
abbrev rQ (Mg : List UInt8) (g k m : Nat) := rndTo (schedTo (Mg.drop (64 * g)) k) (blocksTo Mg g) m
abbrev sQ (Mg : List UInt8) (g k : Nat) := schedTo (Mg.drop (64 * g)) k
theorem refSum_calls (σ : Nat → Nat) (w : World) {v0 : Value} {B : List UInt8} (h0 : Rd tU8 σ w v0 B) (hl : B.length ≤ 100000) (hg : Seg σ w 1 0 (kTab.map wv)) :
  Ctr Tryd.prog 78 [v0] noM σ w (fun σ' w' v => v = .agg ((sum256 B).map bv).toArray) := by
 obtain ⟨A0, c0, rfl, hl0⟩ := h0.form
 refine ctr_enter Tryd.func78 c78 (by kernel_rfl) 300 (by kernel_rfl) (Nat.le_of_ble_eq_true (by kernel_rfl)) [(0, (Value.slice A0 B.length c0))] (by kernel_rfl) ?_
 intro a hF1
 have hS2 := Stp.refl noM σ w
 refine q_seq ?_
 refine q_reg ?_
 refine r_at (q_new 2 (Op.alloc 52) hF1 σ ((List.replicate 32 (0 : UInt8)).map bv) 52 (exec_alloc ((List.replicate 32 (0 : UInt8)).map bv) (fun _ => .inl (by kernel_rfl))) ?_)
 intro a3 s4 w5 b6 hb7 st8 hB9 hF10
 have hz11 := hS2.size
 have hS12 := hS2.then st8
 refine q_end ?_
 refine q_seq ?_
 refine q_reg ?_
 refine r_at (q_lit tU8 29 22 5 0 (#[]) hF10 s4 [] [] rfl (fun o e => by simp only [execOp, e]; kernel_rfl) ?_)
 intro a13 s14 w15 g16 hg17 st18 hO19 hF20
 have hz21 := hS12.size
 have hS22 := hS12.then st18
 have hO23 : Own tU8 5 w.heap.size s14 w15 (Value.slice (some ⟨g16, 0, none⟩) 0 0) ([] : List UInt8) := (hO19.le (by omega : w.heap.size ≤ _))
 have ne25 := hO19.gb (by have := hB9.lt; omega : b6 < _)
 refine q_run 1 [(30, (Value.slice A0 B.length c0))] hF20 fun a26 hF27 => ?_
 have h28 := h0.step hS22
 have h29 := (hB9.step' st18)
 have hz39 := hS22.size
 have hb38 : (([] : List UInt8)).length + (B : List _).length ≤ 1000000 := (by have h8 := padN_lt B.length; simp only [List.length_append, List.length_cons, List.length_nil, List.length_replicate, eightTo_len] at *; omega)
 refine r_at (q_app tU8 S22 31 (Operand.tmp 29) (Operand.tmp 30) hF27 hO23 h28 (app_small hb38 (by decide)) (by omega) hz39 ?_)
 intro a30 s31 w32 v33 st34 hO35 hn36 hF37
 obtain ⟨A42, m45, c43, rfl, hl44⟩ := hO35.formL
 have hS46 := hS22.and st34 (fun b e => hO23.ge e)
 have ne48 : ¬ Value.ownBlock (Value.slice A42 m45 c43) = some b6 := fun e => ne25 (hn36 _ h29.lt e)
 refine q_run 1 [(3, (Value.slice A42 m45 c43))] hF37 fun a49 hF50 => ?_
 refine q_end ?_
 refine q_seq ?_
 refine q_reg ?_
 refine q_run 1 [(32, (Value.slice A42 m45 c43))] hF50 fun a51 hF52 => ?_
 have h53 := (h29.step st34 (fun e => ne25 e))
 refine r_at (q_lit tU8 33 22 5 1 (#[(0, (Operand.const (Value.int IntKind.u8 128)))]) hF52 s31 [128] [(bv 128)] ⟨_, _, rfl, rfl, rfl⟩ (fun o e => by simp only [execOp, e]; kernel_rfl) ?_)
 intro a54 s55 w56 g57 hg58 st59 hO60 hF61
 have hz62 := hS46.size
 have hS63 := hS46.then st59
 have hO64 : Own tU8 5 w.heap.size s55 w56 (Value.slice (some ⟨g57, 0, none⟩) 1 1) [128] := (hO60.le (by omega : w.heap.size ≤ _))
 have ne66 := hO60.gb (by have := h53.lt; omega : b6 < _)
 have h67 := (hO35.step' st59)
 have h68 := (h53.step' st59)
 have hz78 := hS63.size
 have hb77 : (([] : List UInt8) ++ B).length + ([128] : List _).length ≤ 1000000 := (by have h8 := padN_lt B.length; simp only [List.length_append, List.length_cons, List.length_nil, List.length_replicate, eightTo_len] at *; omega)
 refine r_at (q_app tU8 S22 34 (Operand.tmp 32) (Operand.tmp 33) hF61 h67 hO64.rd (app_small hb77 (by decide)) (by omega) hz78 ?_)
 intro a69 s70 w71 v72 st73 hO74 hn75 hF76
 obtain ⟨A81, m84, c82, rfl, hl83⟩ := hO74.formL
 have hS85 := hS63.and st73 (fun b e => h67.ge e)
 have ne87 : ¬ Value.ownBlock (Value.slice A81 m84 c82) = some b6 := fun e => ne48 (hn75 _ h68.lt e)
 refine q_run 1 [(3, (Value.slice A81 m84 c82))] hF76 fun a88 hF89 => ?_
 refine q_end ?_
 refine q_seq ?_
 refine q_block 0 ?_
 have h100 := (((h28.step st34).step st59).step st73)
 have h101 := (h68.step st73 (fun e => ne48 e))
 refine q_loop (fun (k2 : Nat) a90 w91 => ∃ (s92 : Nat → Nat) (A95 : Option Addr) (cp96 : Nat) (m97 : Nat), Fr a90 300 [(0, (Value.slice A0 B.length c0)), (2, (Value.pointer (some ⟨b6, 0, none⟩))), (3, (Value.slice A95 m97 cp96))] ∧ Stp noM σ w s92 w91 ∧ Rd tU8 s92 w91 (Value.slice A0 B.length c0) B ∧ Bx s92 w91 b6 ((List.replicate 32 (0 : UInt8)).map bv) 52 ∧ Own tU8 5 w.heap.size s92 w91 (Value.slice A95 m97 cp96) ((B ++ [128]) ++ List.replicate (k2) 0) ∧ k2 ≤ padN B.length ∧ ¬ Value.ownBlock (Value.slice A95 m97 cp96) = some b6) (fun k2 => padN B.length - k2) 0 ?_ ?_
 ·skip
  have hF102 := hF89.keep [0, 2, 3] [(0, (Value.slice A0 B.length c0)), (2, (Value.pointer (some ⟨b6, 0, none⟩))), (3, (Value.slice A81 m84 c82))] (by kernel_rfl)
  exact ⟨s70, A81, c82, m84, hF102, hS85, h100, h101, (hO74.cast (by first | rfl | omega | (simp only [List.length_append, List.length_cons, List.length_nil, List.length_map, outTo_len, schedTo_len, addTo_len, kTab_len, List.length_set, List.length_replicate, eight_len, eightTo_len] at *; omega)) (by simp)), (Nat.zero_le _), ne87⟩
 ·rintro k2 a90 w91 ⟨s92, A95, cp96, m97, hF93, hS94, h103, h104, hO105, hk2, ne99⟩
  have hln106 := hO105.ln
  have hlnX := hO105.ln
  refine q_seq ?_
  refine q_seq ?_
  refine q_reg ?_
  refine q_run 2 [(36, (Value.int .i64 ((m97 : Nat) : Int))), (35, (Value.slice A95 m97 cp96))] hF93 fun a107 hF108 => ?_
  refine q_one 37 (congrArg (Value.int .i64) (i64_remN m97 64)) hF108 fun a109 hF110 => ?_
  refine q_one 38 (congrArg Value.bool (cmp_nat_neq (m97 % 64) (56))) hF110 fun a111 hF112 => ?_
  refine q_end ?_
  refine q_cond 38 hF112 (!decide ((m97 % 64 : Nat) = 56)) (fun hc113 => ?_) (fun hc113 => ?_)
  ·skip
   have hc113 : ¬ ((m97 % 64 : Nat) = 56) := by simpa using hc113
   refine q_skip ?_
   refine q_block 1 ?_
   refine q_reg ?_
   refine q_run 1 [(39, (Value.slice A95 m97 cp96))] hF112 fun a114 hF115 => ?_
   refine r_at (q_lit tU8 40 22 5 1 (#[(0, (Operand.const (Value.int IntKind.u8 0)))]) hF115 s92 [0] [(bv 0)] ⟨_, _, rfl, rfl, rfl⟩ (fun o e => by simp only [execOp, e]; kernel_rfl) ?_)
   intro a116 s117 w118 g119 hg120 st121 hO122 hF123
   have hz124 := hS94.size
   have hS125 := hS94.then st121
   have hO126 : Own tU8 5 w.heap.size s117 w118 (Value.slice (some ⟨g119, 0, none⟩) 1 1) [0] := (hO122.le (by omega : w.heap.size ≤ _))
   have ne128 := hO122.gb (by have := h104.lt; omega : b6 < _)
   have ne129 := hO122.gg hO105 (by omega)
   have h130 := (hO105.step' st121)
   have h131 := (h104.step' st121)
   have hz141 := hS125.size
   have hb140 : ((B ++ [128]) ++ List.replicate (k2) 0).length + ([0] : List _).length ≤ 1000000 := (by have h8 := padN_lt B.length; simp only [List.length_append, List.length_cons, List.length_nil, List.length_replicate, eightTo_len] at *; omega)
   refine r_at (q_app tU8 S22 41 (Operand.tmp 39) (Operand.tmp 40) hF123 h130 hO126.rd (app_small hb140 (by decide)) (by omega) hz141 ?_)
   intro a132 s133 w134 v135 st136 hO137 hn138 hF139
   obtain ⟨A144, m147, c145, rfl, hl146⟩ := hO137.formL
   have hS148 := hS125.and st136 (fun b e => h130.ge e)
   have ne150 : ¬ Value.ownBlock (Value.slice A144 m147 c145) = some b6 := fun e => ne99 (hn138 _ h131.lt e)
   refine q_run 1 [(3, (Value.slice A144 m147 c145))] hF139 fun a151 hF152 => ?_
   refine q_end ?_
   have h153 := ((h103.step st121).step st136)
   have h154 := (h131.step st136 (fun e => ne99 e))
   have hF155 := hF152.keep [0, 2, 3] [(0, (Value.slice A0 B.length c0)), (2, (Value.pointer (some ⟨b6, 0, none⟩))), (3, (Value.slice A144 m147 c145))] (by kernel_rfl)
   exact ⟨k2 + 1, ⟨s133, A144, c145, m147, hF155, hS148, h153, h154, (hO137.cast (by first | rfl | omega | (simp only [List.length_append, List.length_cons, List.length_nil, List.length_map, outTo_len, schedTo_len, addTo_len, kTab_len, List.length_set, List.length_replicate, eight_len, eightTo_len] at *; omega)) (by exact (rep_step _ _))), (s2_lt hk2 hlnX hc113), ne150⟩, (by have := s2_lt hk2 hlnX hc113; omega)⟩
  ·skip
   have hc113 : ((m97 % 64 : Nat) = 56) := by simpa using hc113
   refine q_exit 0 ?_
   refine q_seq ?_
   refine q_reg ?_
   refine q_run 2 [(43, (Value.int .i64 ((B.length : Nat) : Int))), (42, (Value.slice A0 B.length c0))] hF112 fun a156 hF157 => ?_
   refine q_one 44 (congrArg (Value.int .u64) (i64_u64 ((B.length : Nat) : Int))) hF157 fun a158 hF159 => ?_
   refine q_one 45 (v0 := (Value.int .u64 (IntKind.u64.wrap ((((ofI ((B.length : Nat) : Int))).toNat : Int) * ((8 : UInt64).toNat : Int))))) (v := (uv ((ofI ((B.length : Nat) : Int)) * 8))) (congrArg (Value.int .u64) (u64_mul _ _)) hF159 fun a160 hF161 => ?_
   refine q_run 1 [(4, (uv ((ofI ((B.length : Nat) : Int)) * 8)))] hF161 fun a162 hF163 => ?_
   refine q_end ?_
   refine q_seq ?_
   refine q_seq ?_
   refine q_reg ?_
   refine q_run 1 [(5, (Value.int .i64 ((0 : Nat) : Int)))] hF163 fun a164 hF165 => ?_
   refine q_end ?_
   refine q_block 2 ?_
   refine q_loop (fun (k3 : Nat) a166 w167 => ∃ (s168 : Nat → Nat) (A171 : Option Addr) (cp172 : Nat) (m173 : Nat), Fr a166 300 [(2, (Value.pointer (some ⟨b6, 0, none⟩))), (3, (Value.slice A171 m173 cp172)), (4, (uv ((ofI ((B.length : Nat) : Int)) * 8))), (5, (Value.int .i64 ((k3 : Nat) : Int)))] ∧ Stp noM σ w s168 w167 ∧ Bx s168 w167 b6 ((List.replicate 32 (0 : UInt8)).map bv) 52 ∧ Own tU8 5 w.heap.size s168 w167 (Value.slice A171 m173 cp172) (((B ++ [128]) ++ List.replicate k2 0) ++ eightTo ((ofI ((B.length : Nat) : Int)) * 8) (k3)) ∧ k3 ≤ 8 ∧ ¬ Value.ownBlock (Value.slice A171 m173 cp172) = some b6) (fun k3 => 8 - k3) 0 ?_ ?_
   ·skip
    have hF176 := hF165.keep [2, 3, 4, 5] [(2, (Value.pointer (some ⟨b6, 0, none⟩))), (3, (Value.slice A95 m97 cp96)), (4, (uv ((ofI ((B.length : Nat) : Int)) * 8))), (5, (Value.int .i64 ((0 : Nat) : Int)))] (by kernel_rfl)
    exact ⟨s92, A95, cp96, m97, hF176, hS94, h104, (hO105.cast (by first | rfl | omega | (simp only [List.length_append, List.length_cons, List.length_nil, List.length_map, outTo_len, schedTo_len, addTo_len, kTab_len, List.length_set, List.length_replicate, eight_len, eightTo_len] at *; omega)) (by simp [eightTo])), (by omega), ne99⟩
   ·rintro k3 a166 w167 ⟨s168, A171, cp172, m173, hF169, hS170, h177, hO178, hk3, ne175⟩
    have hln179 := hO178.ln
    refine q_seq ?_
    refine q_seq ?_
    refine q_reg ?_
    refine q_run 1 [(46, (Value.int .i64 ((k3 : Nat) : Int)))] hF169 fun a180 hF181 => ?_
    refine q_one 47 (congrArg Value.bool (cmp_nat_lss (k3) (8))) hF181 fun a182 hF183 => ?_
    refine q_end ?_
    refine q_cond 47 hF183 (decide ((k3 : Nat) < 8)) (fun hc184 => ?_) (fun hc184 => ?_)
    ·skip
     have hc184 := of_decide_eq_true hc184
     refine q_skip ?_
     refine q_seq ?_
     refine q_block 3 ?_
     refine q_reg ?_
     refine q_run 3 [(52, (Value.int .i64 ((k3 : Nat) : Int))), (51, (uv ((ofI ((B.length : Nat) : Int)) * 8))), (50, (Value.slice A171 m173 cp172))] hF183 fun a185 hF186 => ?_
     refine q_one 53 (v0 := (Value.int .i64 (IntKind.i64.wrap (((8 : Nat) : Int) * ((k3 : Nat) : Int))))) (v := (Value.int .i64 ((8 * k3 : Nat) : Int))) (congrArg (Value.int .i64) (i64_eq (by omega) (by omega) (by omega))) hF186 fun a187 hF188 => ?_
     refine q_one 54 (v0 := (Value.int .i64 (IntKind.i64.wrap (((56 : Nat) : Int) - ((8 * k3 : Nat) : Int))))) (v := (Value.int .i64 ((56 - (8 * k3) : Nat) : Int))) (congrArg (Value.int .i64) (i64_eq (by omega) (by omega) (by omega))) hF188 fun a189 hF190 => ?_
     refine q_one 55 (v0 := (Value.int .u64 (Int.fdiv (((ofI ((B.length : Nat) : Int)) * 8).toNat : Int) (2 ^ (min (Int.toNat ((56 - (8 * k3) : Nat) : Int)) 64))))) (v := (uv (((ofI ((B.length : Nat) : Int)) * 8) >>> (56 - (8 * k3)).toUInt64))) (congrArg (Value.int .u64) (u64_shr _ _ (by omega))) hF190 fun a191 hF192 => ?_
     refine q_one 56 (congrArg (Value.int .u8) (u64_u8 (((ofI ((B.length : Nat) : Int)) * 8) >>> (56 - (8 * k3)).toUInt64))) hF192 fun a193 hF194 => ?_
     refine r_at (q_lit tU8 57 22 5 1 (#[(0, (Operand.tmp 56))]) hF194 s168 [(((ofI ((B.length : Nat) : Int)) * 8) >>> (56 - (8 * k3)).toUInt64).toUInt8] [(bv ((((ofI ((B.length : Nat) : Int)) * 8) >>> (56 - (8 * k3)).toUInt64).toUInt8))] ⟨_, _, rfl, rfl, rfl⟩ (fun o e => by simp only [execOp, e]; kernel_rfl) ?_)
     intro a195 s196 w197 g198 hg199 st200 hO201 hF202
     have hz203 := hS170.size
     have hS204 := hS170.then st200
     have hO205 : Own tU8 5 w.heap.size s196 w197 (Value.slice (some ⟨g198, 0, none⟩) 1 1) [(((ofI ((B.length : Nat) : Int)) * 8) >>> (56 - (8 * k3)).toUInt64).toUInt8] := (hO201.le (by omega : w.heap.size ≤ _))
     have ne207 := hO201.gb (by have := h177.lt; omega : b6 < _)
     have ne208 := hO201.gg hO178 (by omega)
     have h209 := (hO178.step' st200)
     have h210 := (h177.step' st200)
     have hz220 := hS204.size
     have hb219 : (((B ++ [128]) ++ List.replicate k2 0) ++ eightTo ((ofI ((B.length : Nat) : Int)) * 8) (k3)).length + ([(((ofI ((B.length : Nat) : Int)) * 8) >>> (56 - (8 * k3)).toUInt64).toUInt8] : List _).length ≤ 1000000 := (by have h8 := padN_lt B.length; simp only [List.length_append, List.length_cons, List.length_nil, List.length_replicate, eightTo_len] at *; omega)
     refine r_at (q_app tU8 S22 58 (Operand.tmp 50) (Operand.tmp 57) hF202 h209 hO205.rd (app_small hb219 (by decide)) (by omega) hz220 ?_)
     intro a211 s212 w213 v214 st215 hO216 hn217 hF218
     obtain ⟨A223, m226, c224, rfl, hl225⟩ := hO216.formL
     have hS227 := hS204.and st215 (fun b e => h209.ge e)
     have ne229 : ¬ Value.ownBlock (Value.slice A223 m226 c224) = some b6 := fun e => ne175 (hn217 _ h210.lt e)
     refine q_run 1 [(3, (Value.slice A223 m226 c224))] hF218 fun a230 hF231 => ?_
     refine q_end ?_
     refine q_reg ?_
     refine q_run 1 [(48, (Value.int .i64 ((k3 : Nat) : Int)))] hF231 fun a232 hF233 => ?_
     refine q_one 49 (v0 := (Value.int .i64 (IntKind.i64.wrap (((k3 : Nat) : Int) + ((1 : Nat) : Int))))) (v := (Value.int .i64 ((k3 + 1 : Nat) : Int))) (congrArg (Value.int .i64) (i64_eq (by omega) (by omega) (by omega))) hF233 fun a234 hF235 => ?_
     refine q_run 1 [(5, (Value.int .i64 ((k3 + 1 : Nat) : Int)))] hF235 fun a236 hF237 => ?_
     refine q_end ?_
     have h238 := (h210.step st215 (fun e => ne175 e))
     have hF239 := hF237.keep [2, 3, 4, 5] [(2, (Value.pointer (some ⟨b6, 0, none⟩))), (3, (Value.slice A223 m226 c224)), (4, (uv ((ofI ((B.length : Nat) : Int)) * 8))), (5, (Value.int .i64 ((k3 + 1 : Nat) : Int)))] (by kernel_rfl)
     exact ⟨k3 + 1, ⟨s212, A223, c224, m226, hF239, hS227, h238, (hO216.cast (by first | rfl | omega | (simp only [List.length_append, List.length_cons, List.length_nil, List.length_map, outTo_len, schedTo_len, addTo_len, kTab_len, List.length_set, List.length_replicate, eight_len, eightTo_len] at *; omega)) (by exact (e3_step ((B ++ [128]) ++ List.replicate k2 0) ((ofI ((B.length : Nat) : Int)) * 8) k3))), (by omega), ne229⟩, by omega⟩
    ·skip
     have hc184 := of_decide_eq_false hc184
     refine q_exit 2 ?_
     refine q_seq ?_
     refine q_reg ?_
     refine r_at (q_newSl 59 (Op.buildSlice 224 8 #[(0, (Operand.const (Value.int IntKind.u32 1779033703))), (1, (Operand.const (Value.int IntKind.u32 3144134277))), (2, (Operand.const (Value.int IntKind.u32 1013904242))), (3, (Operand.const (Value.int IntKind.u32 2773480762))), (4, (Operand.const (Value.int IntKind.u32 1359893119))), (5, (Operand.const (Value.int IntKind.u32 2600822924))), (6, (Operand.const (Value.int IntKind.u32 528734635))), (7, (Operand.const (Value.int IntKind.u32 1541459225)))]) 8 hF183 s168 (([1779033703, 3144134277, 1013904242, 2773480762, 1359893119, 2600822924, 528734635, 1541459225] : List UInt32).map wv) 223 (fun o e => by simp only [execOp, e]; kernel_rfl) ?_)
     intro a240 s241 w242 b243 hb244 st245 hB246 hF247
     have hz248 := hS170.size
     have ne249 := h177.nl hb244
     have ne250 := hO178.nb hb244
     have hS251 := hS170.then st245
     refine q_run 1 [(6, (Value.slice (some ⟨b243, 0, none⟩) 8 8))] hF247 fun a252 hF253 => ?_
     refine q_end ?_
     refine q_seq ?_
     refine q_seq ?_
     refine q_reg ?_
     refine q_run 1 [(7, (Value.int .i64 ((0 : Nat) : Int)))] hF253 fun a254 hF255 => ?_
     refine q_end ?_
     refine q_block 4 ?_
     have hk3e : k3 = 8 := by omega
     have hk2e := s2_eq hk2 hlnX (by simpa using hc113)
     have h256 := (hO178.step' st245)
     obtain ⟨Mg, hMg⟩ : ∃ Mg : List UInt8, Mg = ((B ++ [128]) ++ List.replicate k2 0) ++ eightTo ((ofI ((B.length : Nat) : Int)) * 8) k3 := ⟨_, rfl⟩
     have hoM := h256
     rw [← hMg] at hoM
     have hlnM := hoM.ln
     have hmod : Mg.length % 64 = 0 := by rw [hMg, List.length_append, s2_len, eightTo_len]; have := pad_end B.length; rw [← hk2e] at this; omega
     have hMl : Mg.length ≤ 200000 := by rw [hMg, List.length_append, s2_len, eightTo_len]; have := padN_lt B.length; omega
     have h262 := (h177.step' st245)
     refine q_loop (fun (g : Nat) a257 w258 => ∃ (s259 : Nat → Nat), Fr a257 300 [(2, (Value.pointer (some ⟨b6, 0, none⟩))), (3, (Value.slice A171 m173 cp172)), (6, (Value.slice (some ⟨b243, 0, none⟩) 8 8)), (7, (Value.int .i64 ((64 * (g) : Nat) : Int)))] ∧ Stp noM σ w s259 w258 ∧ Bx s259 w258 b6 ((List.replicate 32 (0 : UInt8)).map bv) 52 ∧ Rd tU8 s259 w258 (Value.slice A171 m173 cp172) Mg ∧ Bx s259 w258 b243 (([(blocksTo Mg (g)).a, (blocksTo Mg (g)).b, (blocksTo Mg (g)).c, (blocksTo Mg (g)).d, (blocksTo Mg (g)).e, (blocksTo Mg (g)).f, (blocksTo Mg (g)).g, (blocksTo Mg (g)).h] : List UInt32).map wv) 223 ∧ 64 * (g) ≤ Mg.length) (fun g => Mg.length - 64 * g) 0 ?_ ?_
     ·skip
      have hF263 := hF255.set 7 (Value.int .i64 ((0 : Nat) : Int)) (Value.int .i64 ((64 * (0) : Nat) : Int)) (by kernel_rfl) (congrArg (Value.int .i64) (by omega))
      have hF264 := hF263.keep [2, 3, 6, 7] [(2, (Value.pointer (some ⟨b6, 0, none⟩))), (3, (Value.slice A171 m173 cp172)), (6, (Value.slice (some ⟨b243, 0, none⟩) 8 8)), (7, (Value.int .i64 ((64 * (0) : Nat) : Int)))] (by kernel_rfl)
      exact ⟨s241, hF264, hS251, h262, hoM.rd, hB246, (by omega)⟩
     ·rintro g a257 w258 ⟨s259, hF260, hS261, h265, h266, h267, hgl⟩
      refine q_seq ?_
      refine q_seq ?_
      refine q_reg ?_
      refine q_run 3 [(62, (Value.int .i64 ((m173 : Nat) : Int))), (61, (Value.slice A171 m173 cp172)), (60, (Value.int .i64 ((64 * (g) : Nat) : Int)))] hF260 fun a268 hF269 => ?_
      refine q_one 63 (congrArg Value.bool (cmp_nat_lss (64 * (g)) (m173))) hF269 fun a270 hF271 => ?_
      refine q_end ?_
      refine q_cond 63 hF271 (decide ((64 * (g) : Nat) < m173)) (fun hc272 => ?_) (fun hc272 => ?_)
      ·skip
       have hc272 := of_decide_eq_true hc272
       refine q_skip ?_
       refine q_seq ?_
       refine q_block 5 ?_
       refine q_seq ?_
       refine q_reg ?_
       refine r_at (q_newSl 66 (Op.makeSlice 224 (Operand.const (Value.int IntKind.i64 64)) (Operand.const (Value.int IntKind.i64 64))) 64 hF271 s259 ((List.replicate 64 (0 : UInt32)).map wv) 223 (fun o e => by simp only [execOp, e]; kernel_rfl) ?_)
       intro a273 s274 w275 b276 hb277 st278 hB279 hF280
       have hz281 := hS261.size
       have ne282 := h265.nl hb277
       have ne283 := h267.nl hb277
       have hS284 := hS261.then st278
       refine q_run 1 [(8, (Value.slice (some ⟨b276, 0, none⟩) 64 64))] hF280 fun a285 hF286 => ?_
       refine q_end ?_
       refine q_seq ?_
       refine q_seq ?_
       refine q_reg ?_
       refine q_run 1 [(9, (Value.int .i64 ((0 : Nat) : Int)))] hF286 fun a287 hF288 => ?_
       refine q_end ?_
       refine q_block 6 ?_
       have h294 := (h265.step' st278)
       have h295 := (h266.step st278)
       have h296 := (h267.step' st278)
       refine q_loop (fun (k4 : Nat) a289 w290 => ∃ (s291 : Nat → Nat), Fr a289 300 [(2, (Value.pointer (some ⟨b6, 0, none⟩))), (3, (Value.slice A171 m173 cp172)), (6, (Value.slice (some ⟨b243, 0, none⟩) 8 8)), (7, (Value.int .i64 ((64 * (g) : Nat) : Int))), (8, (Value.slice (some ⟨b276, 0, none⟩) 64 64)), (9, (Value.int .i64 ((k4 : Nat) : Int)))] ∧ Stp noM σ w s291 w290 ∧ Bx s291 w290 b6 ((List.replicate 32 (0 : UInt8)).map bv) 52 ∧ Rd tU8 s291 w290 (Value.slice A171 m173 cp172) Mg ∧ Bx s291 w290 b243 (([(blocksTo Mg (g)).a, (blocksTo Mg (g)).b, (blocksTo Mg (g)).c, (blocksTo Mg (g)).d, (blocksTo Mg (g)).e, (blocksTo Mg (g)).f, (blocksTo Mg (g)).g, (blocksTo Mg (g)).h] : List UInt32).map wv) 223 ∧ Bx s291 w290 b276 ((schedTo (Mg.drop (64 * g)) (k4)).map wv) 223 ∧ k4 ≤ 16) (fun k4 => 16 - k4) 0 ?_ ?_
       ·skip
        have hF297 := hF288.keep [2, 3, 6, 7, 8, 9] [(2, (Value.pointer (some ⟨b6, 0, none⟩))), (3, (Value.slice A171 m173 cp172)), (6, (Value.slice (some ⟨b243, 0, none⟩) 8 8)), (7, (Value.int .i64 ((64 * (g) : Nat) : Int))), (8, (Value.slice (some ⟨b276, 0, none⟩) 64 64)), (9, (Value.int .i64 ((0 : Nat) : Int)))] (by kernel_rfl)
        exact ⟨s274, hF297, hS284, h294, h295, h296, hB279, (by omega)⟩
       ·rintro k4 a289 w290 ⟨s291, hF292, hS293, h298, h299, h300, h301, hk4⟩
        refine q_seq ?_
        refine q_seq ?_
        refine q_reg ?_
        refine q_run 1 [(67, (Value.int .i64 ((k4 : Nat) : Int)))] hF292 fun a302 hF303 => ?_
        refine q_one 68 (congrArg Value.bool (cmp_nat_lss (k4) (16))) hF303 fun a304 hF305 => ?_
        refine q_end ?_
        refine q_cond 68 hF305 (decide ((k4 : Nat) < 16)) (fun hc306 => ?_) (fun hc306 => ?_)
        ·skip
         have hc306 := of_decide_eq_true hc306
         refine q_skip ?_
         refine q_seq ?_
         refine q_block 7 ?_
         refine q_seq ?_
         refine q_reg ?_
         refine q_run 2 [(72, (Value.int .i64 ((k4 : Nat) : Int))), (71, (Value.int .i64 ((64 * (g) : Nat) : Int)))] hF305 fun a307 hF308 => ?_
         refine q_one 73 (v0 := (Value.int .i64 (IntKind.i64.wrap (((4 : Nat) : Int) * ((k4 : Nat) : Int))))) (v := (Value.int .i64 ((4 * k4 : Nat) : Int))) (congrArg (Value.int .i64) (i64_eq (by omega) (by omega) (by omega))) hF308 fun a309 hF310 => ?_
         refine q_one 74 (v0 := (Value.int .i64 (IntKind.i64.wrap (((64 * (g) : Nat) : Int) + ((4 * k4 : Nat) : Int))))) (v := (Value.int .i64 (((64 * (g)) + (4 * k4) : Nat) : Int))) (congrArg (Value.int .i64) (i64_eq (by omega) (by omega) (by omega))) hF310 fun a311 hF312 => ?_
         refine q_run 1 [(10, (Value.int .i64 (((64 * (g)) + (4 * k4) : Nat) : Int)))] hF312 fun a313 hF314 => ?_
         refine q_end ?_
         refine c_planL 19 32 1 (by kernel_rfl) (by kernel_rfl) s291 (fun b => b ≠ b6 ∧ b ≠ b243 ∧ b ≠ b276 ∧ True) [(0, true), (1, true), (2, true), (3, true), (4, true), (5, true), (6, true), (7, true), (8, true), (9, true), (10, true), (11, true), (12, true), (13, true), (14, true), (15, true), (16, true), (17, true), (18, true), (19, true), (20, true), (21, true), (22, true), (23, true), (24, true), (25, true), (26, true), (27, true), (28, true), (29, true), (30, true), (31, true)] [(0, 37778931862957161709568, 256), (0, 75557863725914323419136, 512), (0, 151115727451828646838272, 8), (0, 302231454903657293676544, 1024), (12, 604462909807314587353088, 453347182355485940514816), (16, 1208925819614629174706176, 604462909807314587353088), (32, 2417851639229258349412352, 1208925819614629174706176), (64, 4835703278458516698824704, 2417851639229258349412352), (0, 9671406556917033397649408, 8), (0, 19342813113834066795298816, 1024), (512, 38685626227668133590597632, 19342813113834066795298816), (1280, 77371252455336267181195264, 48357032784585166988247040), (2048, 154742504910672534362390528, 77371252455336267181195264), (4096, 309485009821345068724781056, 154742504910672534362390528), (8192, 618970019642690137449562112, 309485009821345068724781056), (16512, 1237940039285380274899124224, 623805722921148654148386816), (0, 2475880078570760549798248448, 8), (0, 4951760157141521099596496896, 1024), (131072, 9903520314283042199192993792, 4951760157141521099596496896), (327680, 19807040628566084398385987584, 12379400392853802748991242240), (524288, 39614081257132168796771975168, 19807040628566084398385987584), (1048576, 79228162514264337593543950336, 39614081257132168796771975168), (2097152, 158456325028528675187087900672, 79228162514264337593543950336), (4227072, 316912650057057350374175801344, 159694265067814055461987024896), (0, 633825300114114700748351602688, 8), (0, 1267650600228229401496703205376, 1024), (33554432, 2535301200456458802993406410752, 1267650600228229401496703205376), (83886080, 5070602400912917605986812821504, 3169126500570573503741758013440), (134217728, 10141204801825835211973625643008, 5070602400912917605986812821504), (268435456, 20282409603651670423947251286016, 10141204801825835211973625643008), (545259520, 40564819207303340847894502572032, 20599322253708727774321427087360), (2147483647, 81129638414606681695789005144064, 113336795588871485128704), (4294967295, 0, 121694457621910022543683507716096)] (by kernel_rfl) (by kernel_rfl) (by kernel_rfl) (by kernel_rfl) ?_
         intro w315 st316
         have hS317 := hS293.then st316
         refine q_lrun (d := 75) (Value.slice (some ⟨b276, 0, none⟩) 64 64) hF314 ?_
         intro a318 hF319
         refine q_lrun (d := 76) (Value.int .i64 ((k4 : Nat) : Int)) hF319 ?_
         intro a320 hF321
         refine q_lrun (d := 77) (Value.slice A171 m173 cp172) hF321 ?_
         intro a322 hF323
         refine q_lrun (d := 78) (Value.int .i64 (((64 * (g)) + (4 * k4) : Nat) : Int)) hF323 ?_
         intro a324 hF325
         have h326 := (h299.step st316)
         have hi333 : ((64 * (g)) + (4 * k4)) < (Mg).length := (by have hq := h326.ln; first | omega | (simp only [List.length_append, List.length_cons, List.length_nil, List.length_map, outTo_len, schedTo_len, addTo_len, kTab_len, List.length_set, List.length_replicate, eight_len, eightTo_len] at *; omega))
         obtain ⟨b327, o328, c329, he330, hs331, hr332⟩ := (h326).at ((64 * (g)) + (4 * k4)) hi333
         obtain ⟨o334, ho334⟩ : ∃ o, o = o328 + ((64 * (g)) + (4 * k4)) * 1 := ⟨_, rfl⟩
         obtain ⟨x335, hx336⟩ : ∃ x, x = (Mg[(64 * (g)) + (4 * k4)]'hi333) := ⟨_, rfl⟩
         rw [← hx336] at hr332
         have hr332 : c329 = [(bv x335)] := hr332
         subst hr332
         have hs331 : Seg s291 w315 b327 o334 [(bv x335)] := by rw [ho334]; exact hs331
         refine q_lval 79 (Op.indexAddr 22 (Operand.tmp 77) (Operand.tmp 78)) (Value.pointer (some ⟨b327, o334, none⟩)) hF325 (fun w9 ⟨s9, hw9⟩ => (by rw [ho334]; exact exec_index (len := m173) (cap := cp172) he330 (by kernel_rfl) (kd := .i64) ((64 * (g)) + (4 * k4)) (by kernel_rfl) (by have := h326.ln; omega) 1 U22 L5.s)) ?_
         intro a337 hF338
         refine q_lval 80 (Op.load 5 (Operand.tmp 79)) (bv x335) hF338 (fun w9 ⟨s9, hw9⟩ => (exec_load L5 (.inr rfl) (by kernel_rfl) (hs331.step hw9).cell)) ?_
         intro a339 hF340
         refine q_lrun (d := 81) (Value.int .u32 (IntKind.u32.wrap ((x335).toNat : Int))) hF340 ?_
         intro a341 hF342
         have hF343 := hF342.set 81 (Value.int .u32 (IntKind.u32.wrap ((x335).toNat : Int))) (wv ((x335).toUInt32)) (by kernel_rfl) (congrArg (Value.int .u32) (u8_u32 x335))
         refine q_lrun (d := 82) (Value.int .u32 (IntKind.u32.wrap ((((x335).toUInt32).toNat : Int) * (2 ^ (min (Int.toNat ((24 : Nat) : Int)) 32))))) hF343 ?_
         intro a344 hF345
         have hF346 := hF345.set 82 (Value.int .u32 (IntKind.u32.wrap ((((x335).toUInt32).toNat : Int) * (2 ^ (min (Int.toNat ((24 : Nat) : Int)) 32))))) (wv (((x335).toUInt32) <<< (24 : Nat).toUInt32)) (by kernel_rfl) (congrArg (Value.int .u32) (u32_shl ((x335).toUInt32) 24 (by decide)))
         refine q_lrun (d := 83) (Value.slice A171 m173 cp172) hF346 ?_
         intro a347 hF348
         refine q_lrun (d := 84) (Value.int .i64 (((64 * (g)) + (4 * k4) : Nat) : Int)) hF348 ?_
         intro a349 hF350
         refine q_lrun (d := 85) (Value.int .i64 (IntKind.i64.wrap ((((64 * (g)) + (4 * k4) : Nat) : Int) + ((1 : Nat) : Int)))) hF350 ?_
         intro a351 hF352
         have hF353 := hF352.set 85 (Value.int .i64 (IntKind.i64.wrap ((((64 * (g)) + (4 * k4) : Nat) : Int) + ((1 : Nat) : Int)))) (Value.int .i64 ((((64 * (g)) + (4 * k4)) + 1 : Nat) : Int)) (by kernel_rfl) (congrArg (Value.int .i64) (i64_eq (by omega) (by omega) (by omega)))
         have hi360 : (((64 * (g)) + (4 * k4)) + 1) < (Mg).length := (by have hq := h326.ln; first | omega | (simp only [List.length_append, List.length_cons, List.length_nil, List.length_map, outTo_len, schedTo_len, addTo_len, kTab_len, List.length_set, List.length_replicate, eight_len, eightTo_len] at *; omega))
         obtain ⟨b354, o355, c356, he357, hs358, hr359⟩ := (h326).at (((64 * (g)) + (4 * k4)) + 1) hi360
         obtain ⟨o361, ho361⟩ : ∃ o, o = o355 + (((64 * (g)) + (4 * k4)) + 1) * 1 := ⟨_, rfl⟩
         obtain ⟨x362, hx363⟩ : ∃ x, x = (Mg[((64 * (g)) + (4 * k4)) + 1]'hi360) := ⟨_, rfl⟩
         rw [← hx363] at hr359
         have hr359 : c356 = [(bv x362)] := hr359
         subst hr359
         have hs358 : Seg s291 w315 b354 o361 [(bv x362)] := by rw [ho361]; exact hs358
         refine q_lval 86 (Op.indexAddr 22 (Operand.tmp 83) (Operand.tmp 85)) (Value.pointer (some ⟨b354, o361, none⟩)) hF353 (fun w9 ⟨s9, hw9⟩ => (by rw [ho361]; exact exec_index (len := m173) (cap := cp172) he357 (by kernel_rfl) (kd := .i64) (((64 * (g)) + (4 * k4)) + 1) (by kernel_rfl) (by have := h326.ln; omega) 1 U22 L5.s)) ?_
         intro a364 hF365
         refine q_lval 87 (Op.load 5 (Operand.tmp 86)) (bv x362) hF365 (fun w9 ⟨s9, hw9⟩ => (exec_load L5 (.inr rfl) (by kernel_rfl) (hs358.step hw9).cell)) ?_
         intro a366 hF367
         refine q_lrun (d := 88) (Value.int .u32 (IntKind.u32.wrap ((x362).toNat : Int))) hF367 ?_
         intro a368 hF369
         have hF370 := hF369.set 88 (Value.int .u32 (IntKind.u32.wrap ((x362).toNat : Int))) (wv ((x362).toUInt32)) (by kernel_rfl) (congrArg (Value.int .u32) (u8_u32 x362))
         refine q_lrun (d := 89) (Value.int .u32 (IntKind.u32.wrap ((((x362).toUInt32).toNat : Int) * (2 ^ (min (Int.toNat ((16 : Nat) : Int)) 32))))) hF370 ?_
         intro a371 hF372
         have hF373 := hF372.set 89 (Value.int .u32 (IntKind.u32.wrap ((((x362).toUInt32).toNat : Int) * (2 ^ (min (Int.toNat ((16 : Nat) : Int)) 32))))) (wv (((x362).toUInt32) <<< (16 : Nat).toUInt32)) (by kernel_rfl) (congrArg (Value.int .u32) (u32_shl ((x362).toUInt32) 16 (by decide)))
         refine q_lrun (d := 90) (Value.int .u32 (IntKind.u32.wrap (((((x335).toUInt32) <<< (24 : Nat).toUInt32).toNat : Int) + ((((x362).toUInt32) <<< (16 : Nat).toUInt32).toNat : Int)))) hF373 ?_
         intro a374 hF375
         have hF376 := hF375.set 90 (Value.int .u32 (IntKind.u32.wrap (((((x335).toUInt32) <<< (24 : Nat).toUInt32).toNat : Int) + ((((x362).toUInt32) <<< (16 : Nat).toUInt32).toNat : Int)))) (wv ((((x335).toUInt32) <<< (24 : Nat).toUInt32) + (((x362).toUInt32) <<< (16 : Nat).toUInt32))) (by kernel_rfl) (congrArg (Value.int .u32) (u32_add _ _))
         refine q_lrun (d := 91) (Value.slice A171 m173 cp172) hF376 ?_
         intro a377 hF378
         refine q_lrun (d := 92) (Value.int .i64 (((64 * (g)) + (4 * k4) : Nat) : Int)) hF378 ?_
         intro a379 hF380
         refine q_lrun (d := 93) (Value.int .i64 (IntKind.i64.wrap ((((64 * (g)) + (4 * k4) : Nat) : Int) + ((2 : Nat) : Int)))) hF380 ?_
         intro a381 hF382
         have hF383 := hF382.set 93 (Value.int .i64 (IntKind.i64.wrap ((((64 * (g)) + (4 * k4) : Nat) : Int) + ((2 : Nat) : Int)))) (Value.int .i64 ((((64 * (g)) + (4 * k4)) + 2 : Nat) : Int)) (by kernel_rfl) (congrArg (Value.int .i64) (i64_eq (by omega) (by omega) (by omega)))
         have hi390 : (((64 * (g)) + (4 * k4)) + 2) < (Mg).length := (by have hq := h326.ln; first | omega | (simp only [List.length_append, List.length_cons, List.length_nil, List.length_map, outTo_len, schedTo_len, addTo_len, kTab_len, List.length_set, List.length_replicate, eight_len, eightTo_len] at *; omega))
         obtain ⟨b384, o385, c386, he387, hs388, hr389⟩ := (h326).at (((64 * (g)) + (4 * k4)) + 2) hi390
         obtain ⟨o391, ho391⟩ : ∃ o, o = o385 + (((64 * (g)) + (4 * k4)) + 2) * 1 := ⟨_, rfl⟩
         obtain ⟨x392, hx393⟩ : ∃ x, x = (Mg[((64 * (g)) + (4 * k4)) + 2]'hi390) := ⟨_, rfl⟩
         rw [← hx393] at hr389
         have hr389 : c386 = [(bv x392)] := hr389
         subst hr389
         have hs388 : Seg s291 w315 b384 o391 [(bv x392)] := by rw [ho391]; exact hs388
         refine q_lval 94 (Op.indexAddr 22 (Operand.tmp 91) (Operand.tmp 93)) (Value.pointer (some ⟨b384, o391, none⟩)) hF383 (fun w9 ⟨s9, hw9⟩ => (by rw [ho391]; exact exec_index (len := m173) (cap := cp172) he387 (by kernel_rfl) (kd := .i64) (((64 * (g)) + (4 * k4)) + 2) (by kernel_rfl) (by have := h326.ln; omega) 1 U22 L5.s)) ?_
         intro a394 hF395
         refine q_lval 95 (Op.load 5 (Operand.tmp 94)) (bv x392) hF395 (fun w9 ⟨s9, hw9⟩ => (exec_load L5 (.inr rfl) (by kernel_rfl) (hs388.step hw9).cell)) ?_
         intro a396 hF397
         refine q_lrun (d := 96) (Value.int .u32 (IntKind.u32.wrap ((x392).toNat : Int))) hF397 ?_
         intro a398 hF399
         have hF400 := hF399.set 96 (Value.int .u32 (IntKind.u32.wrap ((x392).toNat : Int))) (wv ((x392).toUInt32)) (by kernel_rfl) (congrArg (Value.int .u32) (u8_u32 x392))
         refine q_lrun (d := 97) (Value.int .u32 (IntKind.u32.wrap ((((x392).toUInt32).toNat : Int) * (2 ^ (min (Int.toNat ((8 : Nat) : Int)) 32))))) hF400 ?_
         intro a401 hF402
         have hF403 := hF402.set 97 (Value.int .u32 (IntKind.u32.wrap ((((x392).toUInt32).toNat : Int) * (2 ^ (min (Int.toNat ((8 : Nat) : Int)) 32))))) (wv (((x392).toUInt32) <<< (8 : Nat).toUInt32)) (by kernel_rfl) (congrArg (Value.int .u32) (u32_shl ((x392).toUInt32) 8 (by decide)))
         refine q_lrun (d := 98) (Value.int .u32 (IntKind.u32.wrap ((((((x335).toUInt32) <<< (24 : Nat).toUInt32) + (((x362).toUInt32) <<< (16 : Nat).toUInt32)).toNat : Int) + ((((x392).toUInt32) <<< (8 : Nat).toUInt32).toNat : Int)))) hF403 ?_
         intro a404 hF405
         have hF406 := hF405.set 98 (Value.int .u32 (IntKind.u32.wrap ((((((x335).toUInt32) <<< (24 : Nat).toUInt32) + (((x362).toUInt32) <<< (16 : Nat).toUInt32)).toNat : Int) + ((((x392).toUInt32) <<< (8 : Nat).toUInt32).toNat : Int)))) (wv (((((x335).toUInt32) <<< (24 : Nat).toUInt32) + (((x362).toUInt32) <<< (16 : Nat).toUInt32)) + (((x392).toUInt32) <<< (8 : Nat).toUInt32))) (by kernel_rfl) (congrArg (Value.int .u32) (u32_add _ _))
         refine q_lrun (d := 99) (Value.slice A171 m173 cp172) hF406 ?_
         intro a407 hF408
         refine q_lrun (d := 100) (Value.int .i64 (((64 * (g)) + (4 * k4) : Nat) : Int)) hF408 ?_
         intro a409 hF410
         refine q_lrun (d := 101) (Value.int .i64 (IntKind.i64.wrap ((((64 * (g)) + (4 * k4) : Nat) : Int) + ((3 : Nat) : Int)))) hF410 ?_
         intro a411 hF412
         have hF413 := hF412.set 101 (Value.int .i64 (IntKind.i64.wrap ((((64 * (g)) + (4 * k4) : Nat) : Int) + ((3 : Nat) : Int)))) (Value.int .i64 ((((64 * (g)) + (4 * k4)) + 3 : Nat) : Int)) (by kernel_rfl) (congrArg (Value.int .i64) (i64_eq (by omega) (by omega) (by omega)))
         have hi420 : (((64 * (g)) + (4 * k4)) + 3) < (Mg).length := (by have hq := h326.ln; first | omega | (simp only [List.length_append, List.length_cons, List.length_nil, List.length_map, outTo_len, schedTo_len, addTo_len, kTab_len, List.length_set, List.length_replicate, eight_len, eightTo_len] at *; omega))
         obtain ⟨b414, o415, c416, he417, hs418, hr419⟩ := (h326).at (((64 * (g)) + (4 * k4)) + 3) hi420
         obtain ⟨o421, ho421⟩ : ∃ o, o = o415 + (((64 * (g)) + (4 * k4)) + 3) * 1 := ⟨_, rfl⟩
         obtain ⟨x422, hx423⟩ : ∃ x, x = (Mg[((64 * (g)) + (4 * k4)) + 3]'hi420) := ⟨_, rfl⟩
         rw [← hx423] at hr419
         have hr419 : c416 = [(bv x422)] := hr419
         subst hr419
         have hs418 : Seg s291 w315 b414 o421 [(bv x422)] := by rw [ho421]; exact hs418
         refine q_lval 102 (Op.indexAddr 22 (Operand.tmp 99) (Operand.tmp 101)) (Value.pointer (some ⟨b414, o421, none⟩)) hF413 (fun w9 ⟨s9, hw9⟩ => (by rw [ho421]; exact exec_index (len := m173) (cap := cp172) he417 (by kernel_rfl) (kd := .i64) (((64 * (g)) + (4 * k4)) + 3) (by kernel_rfl) (by have := h326.ln; omega) 1 U22 L5.s)) ?_
         intro a424 hF425
         refine q_lval 103 (Op.load 5 (Operand.tmp 102)) (bv x422) hF425 (fun w9 ⟨s9, hw9⟩ => (exec_load L5 (.inr rfl) (by kernel_rfl) (hs418.step hw9).cell)) ?_
         intro a426 hF427
         refine q_lrun (d := 104) (Value.int .u32 (IntKind.u32.wrap ((x422).toNat : Int))) hF427 ?_
         intro a428 hF429
         have hF430 := hF429.set 104 (Value.int .u32 (IntKind.u32.wrap ((x422).toNat : Int))) (wv ((x422).toUInt32)) (by kernel_rfl) (congrArg (Value.int .u32) (u8_u32 x422))
         refine q_lrun (d := 105) (Value.int .u32 (IntKind.u32.wrap (((((((x335).toUInt32) <<< (24 : Nat).toUInt32) + (((x362).toUInt32) <<< (16 : Nat).toUInt32)) + (((x392).toUInt32) <<< (8 : Nat).toUInt32)).toNat : Int) + (((x422).toUInt32).toNat : Int)))) hF430 ?_
         intro a431 hF432
         have hF433 := hF432.set 105 (Value.int .u32 (IntKind.u32.wrap (((((((x335).toUInt32) <<< (24 : Nat).toUInt32) + (((x362).toUInt32) <<< (16 : Nat).toUInt32)) + (((x392).toUInt32) <<< (8 : Nat).toUInt32)).toNat : Int) + (((x422).toUInt32).toNat : Int)))) (wv ((((((x335).toUInt32) <<< (24 : Nat).toUInt32) + (((x362).toUInt32) <<< (16 : Nat).toUInt32)) + (((x392).toUInt32) <<< (8 : Nat).toUInt32)) + ((x422).toUInt32))) (by kernel_rfl) (congrArg (Value.int .u32) (u32_add _ _))
         refine q_lval 106 (Op.indexAddr 224 (Operand.tmp 75) (Operand.tmp 76)) (Value.pointer (some ⟨b276, k4, none⟩)) hF433 (fun w9 ⟨s9, hw9⟩ => (exec_index1 (len := 64) (cap := 64) (by kernel_rfl) (kd := .i64) k4 (by kernel_rfl) (by omega) U224 L223.s)) ?_
         intro a434 hF435
         have h436 := (h301.step' st316)
         have hj442 : k4 < (schedTo (Mg.drop (64 * g)) (k4)).length := (by first | omega | (simp only [List.length_append, List.length_cons, List.length_nil, List.length_map, outTo_len, schedTo_len, addTo_len, kTab_len, List.length_set, List.length_replicate, eight_len, eightTo_len]; omega) | simp)
         refine l_last (q_storeA wv (Operand.tmp 106) (Operand.tmp 105) hF435 h436 k4 hj442 ((((((x335).toUInt32) <<< (24 : Nat).toUInt32) + (((x362).toUInt32) <<< (16 : Nat).toUInt32)) + (((x392).toUInt32) <<< (8 : Nat).toUInt32)) + ((x422).toUInt32)) L223 ?_)
         intro a437 w438 st439 hB440 hF441
         have hS443 := hS317.and st439 (fun b e => by subst e; omega)
         refine q_reg ?_
         refine q_run 1 [(69, (Value.int .i64 ((k4 : Nat) : Int)))] hF441 fun a444 hF445 => ?_
         refine q_one 70 (v0 := (Value.int .i64 (IntKind.i64.wrap (((k4 : Nat) : Int) + ((1 : Nat) : Int))))) (v := (Value.int .i64 ((k4 + 1 : Nat) : Int))) (congrArg (Value.int .i64) (i64_eq (by omega) (by omega) (by omega))) hF445 fun a446 hF447 => ?_
         refine q_run 1 [(9, (Value.int .i64 ((k4 + 1 : Nat) : Int)))] hF447 fun a448 hF449 => ?_
         refine q_end ?_
         have h450 := ((h298.step' st316).step st439 (fun e => absurd e (by omega)))
         have h451 := (h326.step st439)
         have h452 := ((h300.step' st316).step st439 (fun e => absurd e (by omega)))
         have hF453 := hF449.keep [2, 3, 6, 7, 8, 9] [(2, (Value.pointer (some ⟨b6, 0, none⟩))), (3, (Value.slice A171 m173 cp172)), (6, (Value.slice (some ⟨b243, 0, none⟩) 8 8)), (7, (Value.int .i64 ((64 * (g) : Nat) : Int))), (8, (Value.slice (some ⟨b276, 0, none⟩) 64 64)), (9, (Value.int .i64 ((k4 + 1 : Nat) : Int)))] (by kernel_rfl)
         exact ⟨k4 + 1, ⟨s291, hF453, hS443, h450, h451, h452, (by subst hx336 hx363 hx393 hx423; rw [schedTo_lo2 (by omega) (by omega)]; exact hB440), (by omega)⟩, by omega⟩
        ·skip
         have hc306 := of_decide_eq_false hc306
         refine q_exit 6 ?_
         refine q_seq ?_
         refine q_seq ?_
         refine q_reg ?_
         refine q_run 1 [(11, (Value.int .i64 ((16 : Nat) : Int)))] hF305 fun a454 hF455 => ?_
         refine q_end ?_
         refine q_block 8 ?_
         refine q_loop (fun (k5 : Nat) a456 w457 => ∃ (s458 : Nat → Nat), Fr a456 300 [(2, (Value.pointer (some ⟨b6, 0, none⟩))), (3, (Value.slice A171 m173 cp172)), (6, (Value.slice (some ⟨b243, 0, none⟩) 8 8)), (7, (Value.int .i64 ((64 * (g) : Nat) : Int))), (8, (Value.slice (some ⟨b276, 0, none⟩) 64 64)), (11, (Value.int .i64 ((k5 : Nat) : Int)))] ∧ Stp noM σ w s458 w457 ∧ Bx s458 w457 b6 ((List.replicate 32 (0 : UInt8)).map bv) 52 ∧ Rd tU8 s458 w457 (Value.slice A171 m173 cp172) Mg ∧ Bx s458 w457 b243 (([(blocksTo Mg (g)).a, (blocksTo Mg (g)).b, (blocksTo Mg (g)).c, (blocksTo Mg (g)).d, (blocksTo Mg (g)).e, (blocksTo Mg (g)).f, (blocksTo Mg (g)).g, (blocksTo Mg (g)).h] : List UInt32).map wv) 223 ∧ Bx s458 w457 b276 ((schedTo (Mg.drop (64 * g)) (k5)).map wv) 223 ∧ k5 ≤ 64 ∧ 16 ≤ k5) (fun k5 => 64 - k5) 16 ?_ ?_
         ·skip
          have hF461 := hF455.keep [2, 3, 6, 7, 8, 11] [(2, (Value.pointer (some ⟨b6, 0, none⟩))), (3, (Value.slice A171 m173 cp172)), (6, (Value.slice (some ⟨b243, 0, none⟩) 8 8)), (7, (Value.int .i64 ((64 * (g) : Nat) : Int))), (8, (Value.slice (some ⟨b276, 0, none⟩) 64 64)), (11, (Value.int .i64 ((16 : Nat) : Int)))] (by kernel_rfl)
          exact ⟨s291, hF461, hS293, h298, h299, h300, (by have h9 := h301; have e : k4 = 16 := (by omega); rw [e] at h9; exact h9), (by omega), (by omega)⟩
         ·rintro k5 a456 w457 ⟨s458, hF459, hS460, h462, h463, h464, h465, hk5, hk5l⟩
          refine q_seq ?_
          refine q_seq ?_
          refine q_reg ?_
          refine q_run 1 [(107, (Value.int .i64 ((k5 : Nat) : Int)))] hF459 fun a466 hF467 => ?_
          refine q_one 108 (congrArg Value.bool (cmp_nat_lss (k5) (64))) hF467 fun a468 hF469 => ?_
          refine q_end ?_
          refine q_cond 108 hF469 (decide ((k5 : Nat) < 64)) (fun hc470 => ?_) (fun hc470 => ?_)
          ·skip
           have hc470 := of_decide_eq_true hc470
           refine q_skip ?_
           refine q_seq ?_
           refine q_block 9 ?_
           refine q_seq ?_
           refine c_plan 23 (by kernel_rfl) (by kernel_rfl) s458 (fun b => b ≠ b6 ∧ b ≠ b243 ∧ b ≠ b276 ∧ True) [(0, true), (1, true), (2, true), (3, true), (4, true), (6, true), (7, true), (8, true), (9, true), (10, true), (13, true), (14, true), (15, true), (16, true), (17, true), (18, true), (5, false), (11, false), (12, true), (19, true), (20, true)] [(0, 2596148429267413814265248164610048, 256), (0, 5192296858534827628530496329220096, 2048), (2, 10384593717069655257060992658440192, 5192296858534827628530496329220096), (5, 20769187434139310514121985316880384, 12980742146337069071326240823050240), (8, 41538374868278621028243970633760768, 20769187434139310514121985316880384), (16, 83076749736557242056487941267521536, 41538374868278621028243970633760768), (0, 166153499473114484112975882535043072, 256), (0, 332306998946228968225951765070086144, 2048), (128, 664613997892457936451903530140172288, 332306998946228968225951765070086144), (320, 1329227995784915872903807060280344576, 830767497365572420564879412675215360), (512, 2658455991569831745807614120560689152, 1329227995784915872903807060280344576), (1056, 5316911983139663491615228241121378304, 2658455991569831745807614120560689152), (2080, 10633823966279326983230456482242756608, 5399988732876220733671716182388899840), (0, 21267647932558653966460912964485513216, 256), (0, 42535295865117307932921825928971026432, 2048), (16384, 85070591730234615865843651857942052864, 42535295865117307932921825928971026432), (40960, 170141183460469231731687303715884105728, 106338239662793269832304564822427566080), (65536, 340282366920938463463374607431768211456, 170141183460469231731687303715884105728), (131072, 680564733841876926926749214863536422912, 340282366920938463463374607431768211456), (266240, 1361129467683753853853498429727072845824, 691198557808156253909979671345779179520), (1048575, 4096, 1361129467683753853853498429727072845824)] (by kernel_rfl) (by kernel_rfl) (by kernel_rfl) (by kernel_rfl) ?_
           intro w471 st472
           have hS473 := hS460.then st472
           refine q_prun (d := 111) (Value.slice (some ⟨b276, 0, none⟩) 64 64) hF469 ?_
           intro a474 hF475
           refine q_prun (d := 112) (Value.int .i64 ((k5 : Nat) : Int)) hF475 ?_
           intro a476 hF477
           refine q_prun (d := 113) (Value.int .i64 (IntKind.i64.wrap (((k5 : Nat) : Int) - ((15 : Nat) : Int)))) hF477 ?_
           intro a478 hF479
           have hF480 := hF479.set 113 (Value.int .i64 (IntKind.i64.wrap (((k5 : Nat) : Int) - ((15 : Nat) : Int)))) (Value.int .i64 ((k5 - 15 : Nat) : Int)) (by kernel_rfl) (congrArg (Value.int .i64) (i64_eq (by omega) (by omega) (by omega)))
           refine q_pval 114 (Op.indexAddr 224 (Operand.tmp 111) (Operand.tmp 113)) (Value.pointer (some ⟨b276, k5 - 15, none⟩)) hF480 (fun w9 ⟨s9, hw9⟩ => (exec_index1 (len := 64) (cap := 64) (by kernel_rfl) (kd := .i64) (k5 - 15) (by kernel_rfl) (by omega) U224 L223.s)) ?_
           intro a481 hF482
           have h483 := (h465.step' st472)
           have hj484 : k5 - 15 < (schedTo (Mg.drop (64 * g)) (k5)).length := (by first | omega | (simp only [List.length_append, List.length_cons, List.length_nil, List.length_map, outTo_len, schedTo_len, addTo_len, kTab_len, List.length_set, List.length_replicate, eight_len, eightTo_len]; omega) | simp)
           refine q_pval 115 (Op.load 223 (Operand.tmp 114)) (wv ((schedTo (Mg.drop (64 * g)) (k5)).getD (k5 - 15) 0)) hF482 (fun w9 ⟨s9, hw9⟩ => (exec_load (cs := [wv ((schedTo (Mg.drop (64 * g)) (k5)).getD (k5 - 15) 0)]) L223 (.inr rfl) (by kernel_rfl) (Bx.elemG (h483.step hw9 (fun h => h.2.2.1 rfl)) (0 : UInt32) (k5 - 15) hj484))) ?_
           intro a485 hF486
           refine q_prun (d := 117) (Value.slice (some ⟨b276, 0, none⟩) 64 64) hF486 ?_
           intro a487 hF488
           refine q_prun (d := 118) (Value.int .i64 ((k5 : Nat) : Int)) hF488 ?_
           intro a489 hF490
           refine q_prun (d := 119) (Value.int .i64 (IntKind.i64.wrap (((k5 : Nat) : Int) - ((15 : Nat) : Int)))) hF490 ?_
           intro a491 hF492
           have hF493 := hF492.set 119 (Value.int .i64 (IntKind.i64.wrap (((k5 : Nat) : Int) - ((15 : Nat) : Int)))) (Value.int .i64 ((k5 - 15 : Nat) : Int)) (by kernel_rfl) (congrArg (Value.int .i64) (i64_eq (by omega) (by omega) (by omega)))
           refine q_pval 120 (Op.indexAddr 224 (Operand.tmp 117) (Operand.tmp 119)) (Value.pointer (some ⟨b276, k5 - 15, none⟩)) hF493 (fun w9 ⟨s9, hw9⟩ => (exec_index1 (len := 64) (cap := 64) (by kernel_rfl) (kd := .i64) (k5 - 15) (by kernel_rfl) (by omega) U224 L223.s)) ?_
           intro a494 hF495
           have hj496 : k5 - 15 < (schedTo (Mg.drop (64 * g)) (k5)).length := (by first | omega | (simp only [List.length_append, List.length_cons, List.length_nil, List.length_map, outTo_len, schedTo_len, addTo_len, kTab_len, List.length_set, List.length_replicate, eight_len, eightTo_len]; omega) | simp)
           refine q_pval 121 (Op.load 223 (Operand.tmp 120)) (wv ((schedTo (Mg.drop (64 * g)) (k5)).getD (k5 - 15) 0)) hF495 (fun w9 ⟨s9, hw9⟩ => (exec_load (cs := [wv ((schedTo (Mg.drop (64 * g)) (k5)).getD (k5 - 15) 0)]) L223 (.inr rfl) (by kernel_rfl) (Bx.elemG (h483.step hw9 (fun h => h.2.2.1 rfl)) (0 : UInt32) (k5 - 15) hj496))) ?_
           intro a497 hF498
           refine q_prun (d := 124) (Value.slice (some ⟨b276, 0, none⟩) 64 64) hF498 ?_
           intro a499 hF500
           refine q_prun (d := 125) (Value.int .i64 ((k5 : Nat) : Int)) hF500 ?_
           intro a501 hF502
           refine q_prun (d := 126) (Value.int .i64 (IntKind.i64.wrap (((k5 : Nat) : Int) - ((15 : Nat) : Int)))) hF502 ?_
           intro a503 hF504
           have hF505 := hF504.set 126 (Value.int .i64 (IntKind.i64.wrap (((k5 : Nat) : Int) - ((15 : Nat) : Int)))) (Value.int .i64 ((k5 - 15 : Nat) : Int)) (by kernel_rfl) (congrArg (Value.int .i64) (i64_eq (by omega) (by omega) (by omega)))
           refine q_pval 127 (Op.indexAddr 224 (Operand.tmp 124) (Operand.tmp 126)) (Value.pointer (some ⟨b276, k5 - 15, none⟩)) hF505 (fun w9 ⟨s9, hw9⟩ => (exec_index1 (len := 64) (cap := 64) (by kernel_rfl) (kd := .i64) (k5 - 15) (by kernel_rfl) (by omega) U224 L223.s)) ?_
           intro a506 hF507
           have hj508 : k5 - 15 < (schedTo (Mg.drop (64 * g)) (k5)).length := (by first | omega | (simp only [List.length_append, List.length_cons, List.length_nil, List.length_map, outTo_len, schedTo_len, addTo_len, kTab_len, List.length_set, List.length_replicate, eight_len, eightTo_len]; omega) | simp)
           refine q_pval 128 (Op.load 223 (Operand.tmp 127)) (wv ((schedTo (Mg.drop (64 * g)) (k5)).getD (k5 - 15) 0)) hF507 (fun w9 ⟨s9, hw9⟩ => (exec_load (cs := [wv ((schedTo (Mg.drop (64 * g)) (k5)).getD (k5 - 15) 0)]) L223 (.inr rfl) (by kernel_rfl) (Bx.elemG (h483.step hw9 (fun h => h.2.2.1 rfl)) (0 : UInt32) (k5 - 15) hj508))) ?_
           intro a509 hF510
           refine q_prun (d := 129) (Value.int .u32 (Int.fdiv (((schedTo (Mg.drop (64 * g)) (k5)).getD (k5 - 15) 0).toNat : Int) (2 ^ (min (Int.toNat ((3 : Nat) : Int)) 32)))) hF510 ?_
           intro a511 hF512
           have hF513 := hF512.set 129 (Value.int .u32 (Int.fdiv (((schedTo (Mg.drop (64 * g)) (k5)).getD (k5 - 15) 0).toNat : Int) (2 ^ (min (Int.toNat ((3 : Nat) : Int)) 32)))) (wv (((schedTo (Mg.drop (64 * g)) (k5)).getD (k5 - 15) 0) >>> (3 : Nat).toUInt32)) (by kernel_rfl) (congrArg (Value.int .u32) (u32_shr ((schedTo (Mg.drop (64 * g)) (k5)).getD (k5 - 15) 0) 3 (by decide)))
           have h514 := (h462.step' st472)
           have h515 := (h464.step' st472)
           refine p_do (q_call (some 116) (#[(Operand.tmp 115), (Operand.const (Value.int IntKind.i64 7))]) (#[223, 3]) hF513 C115 [(wv ((schedTo (Mg.drop (64 * g)) (k5)).getD (k5 - 15) 0)), (Value.int .i64 ((7 : Nat) : Int))] (turn_calls s458 w471 ((schedTo (Mg.drop (64 * g)) (k5)).getD (k5 - 15) 0) 7 (by decide) (by decide)) ?_)
           intro a516 s517 w518 v519 st520 hP521 hF522
           have hz523 := hS473.size
           have hS524 := hS473.then st520
           refine ⟨s517, st520.mono (fun b _ e => (fun _ e => e.elim) b e), ?_⟩
           subst hP521
           have h525 := (h514.step' st520)
           have h526 := (h515.step' st520)
           have h527 := (h483.step' st520)
           refine p_do (q_call (some 122) (#[(Operand.tmp 121), (Operand.const (Value.int IntKind.i64 18))]) (#[223, 3]) hF522 C115 [(wv ((schedTo (Mg.drop (64 * g)) (k5)).getD (k5 - 15) 0)), (Value.int .i64 ((18 : Nat) : Int))] (turn_calls s517 w518 ((schedTo (Mg.drop (64 * g)) (k5)).getD (k5 - 15) 0) 18 (by decide) (by decide)) ?_)
           intro a528 s529 w530 v531 st532 hP533 hF534
           have hz535 := hS524.size
           have hS536 := hS524.then st532
           refine ⟨s529, st532.mono (fun b _ e => (fun _ e => e.elim) b e), ?_⟩
           subst hP533
           refine q_prun (d := 123) (Value.int .u32 (IntKind.u32.wrap ((BitVec.ofInt 32 ((rotrN ((schedTo (Mg.drop (64 * g)) (k5)).getD (k5 - 15) 0) 7).toNat : Int) ^^^ BitVec.ofInt 32 ((rotrN ((schedTo (Mg.drop (64 * g)) (k5)).getD (k5 - 15) 0) 18).toNat : Int)).toNat : Int))) hF534 ?_
           intro a537 hF538
           have hF539 := hF538.set 123 (Value.int .u32 (IntKind.u32.wrap ((BitVec.ofInt 32 ((rotrN ((schedTo (Mg.drop (64 * g)) (k5)).getD (k5 - 15) 0) 7).toNat : Int) ^^^ BitVec.ofInt 32 ((rotrN ((schedTo (Mg.drop (64 * g)) (k5)).getD (k5 - 15) 0) 18).toNat : Int)).toNat : Int))) (wv ((rotrN ((schedTo (Mg.drop (64 * g)) (k5)).getD (k5 - 15) 0) 7) ^^^ (rotrN ((schedTo (Mg.drop (64 * g)) (k5)).getD (k5 - 15) 0) 18))) (by kernel_rfl) (congrArg (Value.int .u32) (u32_xor (rotrN ((schedTo (Mg.drop (64 * g)) (k5)).getD (k5 - 15) 0) 7) (rotrN ((schedTo (Mg.drop (64 * g)) (k5)).getD (k5 - 15) 0) 18)))
           refine q_prun (d := 130) (Value.int .u32 (IntKind.u32.wrap ((BitVec.ofInt 32 (((rotrN ((schedTo (Mg.drop (64 * g)) (k5)).getD (k5 - 15) 0) 7) ^^^ (rotrN ((schedTo (Mg.drop (64 * g)) (k5)).getD (k5 - 15) 0) 18)).toNat : Int) ^^^ BitVec.ofInt 32 ((((schedTo (Mg.drop (64 * g)) (k5)).getD (k5 - 15) 0) >>> (3 : Nat).toUInt32).toNat : Int)).toNat : Int))) hF539 ?_
           intro a540 hF541
           have hF542 := hF541.set 130 (Value.int .u32 (IntKind.u32.wrap ((BitVec.ofInt 32 (((rotrN ((schedTo (Mg.drop (64 * g)) (k5)).getD (k5 - 15) 0) 7) ^^^ (rotrN ((schedTo (Mg.drop (64 * g)) (k5)).getD (k5 - 15) 0) 18)).toNat : Int) ^^^ BitVec.ofInt 32 ((((schedTo (Mg.drop (64 * g)) (k5)).getD (k5 - 15) 0) >>> (3 : Nat).toUInt32).toNat : Int)).toNat : Int))) (wv (((rotrN ((schedTo (Mg.drop (64 * g)) (k5)).getD (k5 - 15) 0) 7) ^^^ (rotrN ((schedTo (Mg.drop (64 * g)) (k5)).getD (k5 - 15) 0) 18)) ^^^ (((schedTo (Mg.drop (64 * g)) (k5)).getD (k5 - 15) 0) >>> (3 : Nat).toUInt32))) (by kernel_rfl) (congrArg (Value.int .u32) (u32_xor ((rotrN ((schedTo (Mg.drop (64 * g)) (k5)).getD (k5 - 15) 0) 7) ^^^ (rotrN ((schedTo (Mg.drop (64 * g)) (k5)).getD (k5 - 15) 0) 18)) (((schedTo (Mg.drop (64 * g)) (k5)).getD (k5 - 15) 0) >>> (3 : Nat).toUInt32)))
           refine q_prun (d := 12) (wv (((rotrN ((schedTo (Mg.drop (64 * g)) (k5)).getD (k5 - 15) 0) 7) ^^^ (rotrN ((schedTo (Mg.drop (64 * g)) (k5)).getD (k5 - 15) 0) 18)) ^^^ (((schedTo (Mg.drop (64 * g)) (k5)).getD (k5 - 15) 0) >>> (3 : Nat).toUInt32))) hF542 ?_
           intro a543 hF544
           refine p_end ?_
           refine q_seq ?_
           refine c_plan 24 (by kernel_rfl) (by kernel_rfl) s529 (fun b => b ≠ b6 ∧ b ≠ b243 ∧ b ≠ b276 ∧ True) [(0, true), (1, true), (2, true), (3, true), (4, true), (6, true), (7, true), (8, true), (9, true), (10, true), (13, true), (14, true), (15, true), (16, true), (17, true), (18, true), (5, false), (11, false), (12, true), (19, true), (20, true)] [(0, 2722258935367507707706996859454145691648, 256), (0, 5444517870735015415413993718908291383296, 2048), (2, 10889035741470030830827987437816582766592, 5444517870735015415413993718908291383296), (5, 21778071482940061661655974875633165533184, 13611294676837538538534984297270728458240), (8, 43556142965880123323311949751266331066368, 21778071482940061661655974875633165533184), (16, 87112285931760246646623899502532662132736, 43556142965880123323311949751266331066368), (0, 174224571863520493293247799005065324265472, 256), (0, 348449143727040986586495598010130648530944, 2048), (128, 696898287454081973172991196020261297061888, 348449143727040986586495598010130648530944), (320, 1393796574908163946345982392040522594123776, 871122859317602466466238995025326621327360), (512, 2787593149816327892691964784081045188247552, 1393796574908163946345982392040522594123776), (1056, 5575186299632655785383929568162090376495104, 2787593149816327892691964784081045188247552), (2080, 11150372599265311570767859136324180752990208, 5662298585564416032030553467664623038627840), (0, 22300745198530623141535718272648361505980416, 256), (0, 44601490397061246283071436545296723011960832, 2048), (16384, 89202980794122492566142873090593446023921664, 44601490397061246283071436545296723011960832), (40960, 178405961588244985132285746181186892047843328, 111503725992653115707678591363241807529902080), (65536, 356811923176489970264571492362373784095686656, 178405961588244985132285746181186892047843328), (131072, 713623846352979940529142984724747568191373312, 356811923176489970264571492362373784095686656), (266240, 1427247692705959881058285969449495136382746624, 724774218952245252099910843861071748944363520), (1048575, 8192, 1427247692705959881058285969449495136382746624)] (by kernel_rfl) (by kernel_rfl) (by kernel_rfl) (by kernel_rfl) ?_
           intro w545 st546
           have hS547 := hS536.then st546
           refine q_prun (d := 131) (Value.slice (some ⟨b276, 0, none⟩) 64 64) hF544 ?_
           intro a548 hF549
           refine q_prun (d := 132) (Value.int .i64 ((k5 : Nat) : Int)) hF549 ?_
           intro a550 hF551
           refine q_prun (d := 133) (Value.int .i64 (IntKind.i64.wrap (((k5 : Nat) : Int) - ((2 : Nat) : Int)))) hF551 ?_
           intro a552 hF553
           have hF554 := hF553.set 133 (Value.int .i64 (IntKind.i64.wrap (((k5 : Nat) : Int) - ((2 : Nat) : Int)))) (Value.int .i64 ((k5 - 2 : Nat) : Int)) (by kernel_rfl) (congrArg (Value.int .i64) (i64_eq (by omega) (by omega) (by omega)))
           refine q_pval 134 (Op.indexAddr 224 (Operand.tmp 131) (Operand.tmp 133)) (Value.pointer (some ⟨b276, k5 - 2, none⟩)) hF554 (fun w9 ⟨s9, hw9⟩ => (exec_index1 (len := 64) (cap := 64) (by kernel_rfl) (kd := .i64) (k5 - 2) (by kernel_rfl) (by omega) U224 L223.s)) ?_
           intro a555 hF556
           have h557 := ((h527.step' st532).step' st546)
           have hj558 : k5 - 2 < (schedTo (Mg.drop (64 * g)) (k5)).length := (by first | omega | (simp only [List.length_append, List.length_cons, List.length_nil, List.length_map, outTo_len, schedTo_len, addTo_len, kTab_len, List.length_set, List.length_replicate, eight_len, eightTo_len]; omega) | simp)
           refine q_pval 135 (Op.load 223 (Operand.tmp 134)) (wv ((schedTo (Mg.drop (64 * g)) (k5)).getD (k5 - 2) 0)) hF556 (fun w9 ⟨s9, hw9⟩ => (exec_load (cs := [wv ((schedTo (Mg.drop (64 * g)) (k5)).getD (k5 - 2) 0)]) L223 (.inr rfl) (by kernel_rfl) (Bx.elemG (h557.step hw9 (fun h => h.2.2.1 rfl)) (0 : UInt32) (k5 - 2) hj558))) ?_
           intro a559 hF560
           refine q_prun (d := 137) (Value.slice (some ⟨b276, 0, none⟩) 64 64) hF560 ?_
           intro a561 hF562
           refine q_prun (d := 138) (Value.int .i64 ((k5 : Nat) : Int)) hF562 ?_
           intro a563 hF564
           refine q_prun (d := 139) (Value.int .i64 (IntKind.i64.wrap (((k5 : Nat) : Int) - ((2 : Nat) : Int)))) hF564 ?_
           intro a565 hF566
           have hF567 := hF566.set 139 (Value.int .i64 (IntKind.i64.wrap (((k5 : Nat) : Int) - ((2 : Nat) : Int)))) (Value.int .i64 ((k5 - 2 : Nat) : Int)) (by kernel_rfl) (congrArg (Value.int .i64) (i64_eq (by omega) (by omega) (by omega)))
           refine q_pval 140 (Op.indexAddr 224 (Operand.tmp 137) (Operand.tmp 139)) (Value.pointer (some ⟨b276, k5 - 2, none⟩)) hF567 (fun w9 ⟨s9, hw9⟩ => (exec_index1 (len := 64) (cap := 64) (by kernel_rfl) (kd := .i64) (k5 - 2) (by kernel_rfl) (by omega) U224 L223.s)) ?_
           intro a568 hF569
           have hj570 : k5 - 2 < (schedTo (Mg.drop (64 * g)) (k5)).length := (by first | omega | (simp only [List.length_append, List.length_cons, List.length_nil, List.length_map, outTo_len, schedTo_len, addTo_len, kTab_len, List.length_set, List.length_replicate, eight_len, eightTo_len]; omega) | simp)
           refine q_pval 141 (Op.load 223 (Operand.tmp 140)) (wv ((schedTo (Mg.drop (64 * g)) (k5)).getD (k5 - 2) 0)) hF569 (fun w9 ⟨s9, hw9⟩ => (exec_load (cs := [wv ((schedTo (Mg.drop (64 * g)) (k5)).getD (k5 - 2) 0)]) L223 (.inr rfl) (by kernel_rfl) (Bx.elemG (h557.step hw9 (fun h => h.2.2.1 rfl)) (0 : UInt32) (k5 - 2) hj570))) ?_
           intro a571 hF572
           refine q_prun (d := 144) (Value.slice (some ⟨b276, 0, none⟩) 64 64) hF572 ?_
           intro a573 hF574
           refine q_prun (d := 145) (Value.int .i64 ((k5 : Nat) : Int)) hF574 ?_
           intro a575 hF576
           refine q_prun (d := 146) (Value.int .i64 (IntKind.i64.wrap (((k5 : Nat) : Int) - ((2 : Nat) : Int)))) hF576 ?_
           intro a577 hF578
           have hF579 := hF578.set 146 (Value.int .i64 (IntKind.i64.wrap (((k5 : Nat) : Int) - ((2 : Nat) : Int)))) (Value.int .i64 ((k5 - 2 : Nat) : Int)) (by kernel_rfl) (congrArg (Value.int .i64) (i64_eq (by omega) (by omega) (by omega)))
           refine q_pval 147 (Op.indexAddr 224 (Operand.tmp 144) (Operand.tmp 146)) (Value.pointer (some ⟨b276, k5 - 2, none⟩)) hF579 (fun w9 ⟨s9, hw9⟩ => (exec_index1 (len := 64) (cap := 64) (by kernel_rfl) (kd := .i64) (k5 - 2) (by kernel_rfl) (by omega) U224 L223.s)) ?_
           intro a580 hF581
           have hj582 : k5 - 2 < (schedTo (Mg.drop (64 * g)) (k5)).length := (by first | omega | (simp only [List.length_append, List.length_cons, List.length_nil, List.length_map, outTo_len, schedTo_len, addTo_len, kTab_len, List.length_set, List.length_replicate, eight_len, eightTo_len]; omega) | simp)
           refine q_pval 148 (Op.load 223 (Operand.tmp 147)) (wv ((schedTo (Mg.drop (64 * g)) (k5)).getD (k5 - 2) 0)) hF581 (fun w9 ⟨s9, hw9⟩ => (exec_load (cs := [wv ((schedTo (Mg.drop (64 * g)) (k5)).getD (k5 - 2) 0)]) L223 (.inr rfl) (by kernel_rfl) (Bx.elemG (h557.step hw9 (fun h => h.2.2.1 rfl)) (0 : UInt32) (k5 - 2) hj582))) ?_
           intro a583 hF584
           refine q_prun (d := 149) (Value.int .u32 (Int.fdiv (((schedTo (Mg.drop (64 * g)) (k5)).getD (k5 - 2) 0).toNat : Int) (2 ^ (min (Int.toNat ((10 : Nat) : Int)) 32)))) hF584 ?_
           intro a585 hF586
           have hF587 := hF586.set 149 (Value.int .u32 (Int.fdiv (((schedTo (Mg.drop (64 * g)) (k5)).getD (k5 - 2) 0).toNat : Int) (2 ^ (min (Int.toNat ((10 : Nat) : Int)) 32)))) (wv (((schedTo (Mg.drop (64 * g)) (k5)).getD (k5 - 2) 0) >>> (10 : Nat).toUInt32)) (by kernel_rfl) (congrArg (Value.int .u32) (u32_shr ((schedTo (Mg.drop (64 * g)) (k5)).getD (k5 - 2) 0) 10 (by decide)))
           have h588 := ((h525.step' st532).step' st546)
           have h589 := ((h526.step' st532).step' st546)
           refine p_do (q_call (some 136) (#[(Operand.tmp 135), (Operand.const (Value.int IntKind.i64 17))]) (#[223, 3]) hF587 C115 [(wv ((schedTo (Mg.drop (64 * g)) (k5)).getD (k5 - 2) 0)), (Value.int .i64 ((17 : Nat) : Int))] (turn_calls s529 w545 ((schedTo (Mg.drop (64 * g)) (k5)).getD (k5 - 2) 0) 17 (by decide) (by decide)) ?_)
           intro a590 s591 w592 v593 st594 hP595 hF596
           have hz597 := hS547.size
           have hS598 := hS547.then st594
           refine ⟨s591, st594.mono (fun b _ e => (fun _ e => e.elim) b e), ?_⟩
           subst hP595
           have h599 := (h588.step' st594)
           have h600 := (h589.step' st594)
           have h601 := (h557.step' st594)
           refine p_do (q_call (some 142) (#[(Operand.tmp 141), (Operand.const (Value.int IntKind.i64 19))]) (#[223, 3]) hF596 C115 [(wv ((schedTo (Mg.drop (64 * g)) (k5)).getD (k5 - 2) 0)), (Value.int .i64 ((19 : Nat) : Int))] (turn_calls s591 w592 ((schedTo (Mg.drop (64 * g)) (k5)).getD (k5 - 2) 0) 19 (by decide) (by decide)) ?_)
           intro a602 s603 w604 v605 st606 hP607 hF608
           have hz609 := hS598.size
           have hS610 := hS598.then st606
           refine ⟨s603, st606.mono (fun b _ e => (fun _ e => e.elim) b e), ?_⟩
           subst hP607
           refine q_prun (d := 143) (Value.int .u32 (IntKind.u32.wrap ((BitVec.ofInt 32 ((rotrN ((schedTo (Mg.drop (64 * g)) (k5)).getD (k5 - 2) 0) 17).toNat : Int) ^^^ BitVec.ofInt 32 ((rotrN ((schedTo (Mg.drop (64 * g)) (k5)).getD (k5 - 2) 0) 19).toNat : Int)).toNat : Int))) hF608 ?_
           intro a611 hF612
           have hF613 := hF612.set 143 (Value.int .u32 (IntKind.u32.wrap ((BitVec.ofInt 32 ((rotrN ((schedTo (Mg.drop (64 * g)) (k5)).getD (k5 - 2) 0) 17).toNat : Int) ^^^ BitVec.ofInt 32 ((rotrN ((schedTo (Mg.drop (64 * g)) (k5)).getD (k5 - 2) 0) 19).toNat : Int)).toNat : Int))) (wv ((rotrN ((schedTo (Mg.drop (64 * g)) (k5)).getD (k5 - 2) 0) 17) ^^^ (rotrN ((schedTo (Mg.drop (64 * g)) (k5)).getD (k5 - 2) 0) 19))) (by kernel_rfl) (congrArg (Value.int .u32) (u32_xor (rotrN ((schedTo (Mg.drop (64 * g)) (k5)).getD (k5 - 2) 0) 17) (rotrN ((schedTo (Mg.drop (64 * g)) (k5)).getD (k5 - 2) 0) 19)))
           refine q_prun (d := 150) (Value.int .u32 (IntKind.u32.wrap ((BitVec.ofInt 32 (((rotrN ((schedTo (Mg.drop (64 * g)) (k5)).getD (k5 - 2) 0) 17) ^^^ (rotrN ((schedTo (Mg.drop (64 * g)) (k5)).getD (k5 - 2) 0) 19)).toNat : Int) ^^^ BitVec.ofInt 32 ((((schedTo (Mg.drop (64 * g)) (k5)).getD (k5 - 2) 0) >>> (10 : Nat).toUInt32).toNat : Int)).toNat : Int))) hF613 ?_
           intro a614 hF615
           have hF616 := hF615.set 150 (Value.int .u32 (IntKind.u32.wrap ((BitVec.ofInt 32 (((rotrN ((schedTo (Mg.drop (64 * g)) (k5)).getD (k5 - 2) 0) 17) ^^^ (rotrN ((schedTo (Mg.drop (64 * g)) (k5)).getD (k5 - 2) 0) 19)).toNat : Int) ^^^ BitVec.ofInt 32 ((((schedTo (Mg.drop (64 * g)) (k5)).getD (k5 - 2) 0) >>> (10 : Nat).toUInt32).toNat : Int)).toNat : Int))) (wv (((rotrN ((schedTo (Mg.drop (64 * g)) (k5)).getD (k5 - 2) 0) 17) ^^^ (rotrN ((schedTo (Mg.drop (64 * g)) (k5)).getD (k5 - 2) 0) 19)) ^^^ (((schedTo (Mg.drop (64 * g)) (k5)).getD (k5 - 2) 0) >>> (10 : Nat).toUInt32))) (by kernel_rfl) (congrArg (Value.int .u32) (u32_xor ((rotrN ((schedTo (Mg.drop (64 * g)) (k5)).getD (k5 - 2) 0) 17) ^^^ (rotrN ((schedTo (Mg.drop (64 * g)) (k5)).getD (k5 - 2) 0) 19)) (((schedTo (Mg.drop (64 * g)) (k5)).getD (k5 - 2) 0) >>> (10 : Nat).toUInt32)))
           refine q_prun (d := 13) (wv (((rotrN ((schedTo (Mg.drop (64 * g)) (k5)).getD (k5 - 2) 0) 17) ^^^ (rotrN ((schedTo (Mg.drop (64 * g)) (k5)).getD (k5 - 2) 0) 19)) ^^^ (((schedTo (Mg.drop (64 * g)) (k5)).getD (k5 - 2) 0) >>> (10 : Nat).toUInt32))) hF616 ?_
           intro a617 hF618
           refine p_end ?_
           refine c_planL 25 18 1 (by kernel_rfl) (by kernel_rfl) s603 (fun b => b ≠ b6 ∧ b ≠ b243 ∧ b ≠ b276 ∧ True) [(0, true), (1, true), (2, true), (3, true), (4, true), (5, true), (6, true), (7, true), (8, true), (9, true), (10, true), (11, true), (12, true), (13, true), (14, true), (15, true), (16, true), (17, true)] [(0, 2854495385411919762116571938898990272765493248, 256), (0, 5708990770823839524233143877797980545530986496, 2048), (0, 11417981541647679048466287755595961091061972992, 256), (0, 22835963083295358096932575511191922182123945984, 2048), (8, 45671926166590716193865151022383844364247891968, 22835963083295358096932575511191922182123945984), (20, 91343852333181432387730302044767688728495783936, 57089907708238395242331438777979805455309864960), (32, 182687704666362864775460604089535377456991567872, 91343852333181432387730302044767688728495783936), (0, 365375409332725729550921208179070754913983135744, 4096), (192, 730750818665451459101842416358141509827966271488, 548063113999088594326381812268606132370974703616), (0, 1461501637330902918203684832716283019655932542976, 256), (0, 2923003274661805836407369665432566039311865085952, 2048), (1024, 5846006549323611672814739330865132078623730171904, 2923003274661805836407369665432566039311865085952), (2560, 11692013098647223345629478661730264157247460343808, 7307508186654514591018424163581415098279662714880), (4096, 23384026197294446691258957323460528314494920687616, 11692013098647223345629478661730264157247460343808), (8448, 46768052394588893382517914646921056628989841375232, 24114777015959898150360799739818669824322886959104), (0, 93536104789177786765035829293842113257979682750464, 8192), (49152, 187072209578355573530071658587684226515959365500928, 140304157183766680147553743940763169886969524125696), (131071, 374144419156711147060143317175368453031918731001856, 8563486156235759286349715816696970818296479744), (262143, 0, 561216628735066720590214975763052679547878096502784)] (by kernel_rfl) (by kernel_rfl) (by kernel_rfl) (by kernel_rfl) ?_
           intro w619 st620
           have hS621 := hS610.then st620
           refine q_lrun (d := 151) (Value.slice (some ⟨b276, 0, none⟩) 64 64) hF618 ?_
           intro a622 hF623
           refine q_lrun (d := 152) (Value.int .i64 ((k5 : Nat) : Int)) hF623 ?_
           intro a624 hF625
           refine q_lrun (d := 153) (Value.slice (some ⟨b276, 0, none⟩) 64 64) hF625 ?_
           intro a626 hF627
           refine q_lrun (d := 154) (Value.int .i64 ((k5 : Nat) : Int)) hF627 ?_
           intro a628 hF629
           refine q_lrun (d := 155) (Value.int .i64 (IntKind.i64.wrap (((k5 : Nat) : Int) - ((16 : Nat) : Int)))) hF629 ?_
           intro a630 hF631
           have hF632 := hF631.set 155 (Value.int .i64 (IntKind.i64.wrap (((k5 : Nat) : Int) - ((16 : Nat) : Int)))) (Value.int .i64 ((k5 - 16 : Nat) : Int)) (by kernel_rfl) (congrArg (Value.int .i64) (i64_eq (by omega) (by omega) (by omega)))
           refine q_lval 156 (Op.indexAddr 224 (Operand.tmp 153) (Operand.tmp 155)) (Value.pointer (some ⟨b276, k5 - 16, none⟩)) hF632 (fun w9 ⟨s9, hw9⟩ => (exec_index1 (len := 64) (cap := 64) (by kernel_rfl) (kd := .i64) (k5 - 16) (by kernel_rfl) (by omega) U224 L223.s)) ?_
           intro a633 hF634
           have h635 := ((h601.step' st606).step' st620)
           have hj636 : k5 - 16 < (schedTo (Mg.drop (64 * g)) (k5)).length := (by first | omega | (simp only [List.length_append, List.length_cons, List.length_nil, List.length_map, outTo_len, schedTo_len, addTo_len, kTab_len, List.length_set, List.length_replicate, eight_len, eightTo_len]; omega) | simp)
           refine q_lval 157 (Op.load 223 (Operand.tmp 156)) (wv ((schedTo (Mg.drop (64 * g)) (k5)).getD (k5 - 16) 0)) hF634 (fun w9 ⟨s9, hw9⟩ => (exec_load (cs := [wv ((schedTo (Mg.drop (64 * g)) (k5)).getD (k5 - 16) 0)]) L223 (.inr rfl) (by kernel_rfl) (Bx.elemG (h635.step hw9 (fun h => h.2.2.1 rfl)) (0 : UInt32) (k5 - 16) hj636))) ?_
           intro a637 hF638
           refine q_lrun (d := 158) (wv (((rotrN ((schedTo (Mg.drop (64 * g)) (k5)).getD (k5 - 15) 0) 7) ^^^ (rotrN ((schedTo (Mg.drop (64 * g)) (k5)).getD (k5 - 15) 0) 18)) ^^^ (((schedTo (Mg.drop (64 * g)) (k5)).getD (k5 - 15) 0) >>> (3 : Nat).toUInt32))) hF638 ?_
           intro a639 hF640
           refine q_lrun (d := 159) (Value.int .u32 (IntKind.u32.wrap ((((schedTo (Mg.drop (64 * g)) (k5)).getD (k5 - 16) 0).toNat : Int) + ((((rotrN ((schedTo (Mg.drop (64 * g)) (k5)).getD (k5 - 15) 0) 7) ^^^ (rotrN ((schedTo (Mg.drop (64 * g)) (k5)).getD (k5 - 15) 0) 18)) ^^^ (((schedTo (Mg.drop (64 * g)) (k5)).getD (k5 - 15) 0) >>> (3 : Nat).toUInt32)).toNat : Int)))) hF640 ?_
           intro a641 hF642
           have hF643 := hF642.set 159 (Value.int .u32 (IntKind.u32.wrap ((((schedTo (Mg.drop (64 * g)) (k5)).getD (k5 - 16) 0).toNat : Int) + ((((rotrN ((schedTo (Mg.drop (64 * g)) (k5)).getD (k5 - 15) 0) 7) ^^^ (rotrN ((schedTo (Mg.drop (64 * g)) (k5)).getD (k5 - 15) 0) 18)) ^^^ (((schedTo (Mg.drop (64 * g)) (k5)).getD (k5 - 15) 0) >>> (3 : Nat).toUInt32)).toNat : Int)))) (wv (((schedTo (Mg.drop (64 * g)) (k5)).getD (k5 - 16) 0) + (((rotrN ((schedTo (Mg.drop (64 * g)) (k5)).getD (k5 - 15) 0) 7) ^^^ (rotrN ((schedTo (Mg.drop (64 * g)) (k5)).getD (k5 - 15) 0) 18)) ^^^ (((schedTo (Mg.drop (64 * g)) (k5)).getD (k5 - 15) 0) >>> (3 : Nat).toUInt32)))) (by kernel_rfl) (congrArg (Value.int .u32) (u32_add _ _))
           refine q_lrun (d := 160) (Value.slice (some ⟨b276, 0, none⟩) 64 64) hF643 ?_
           intro a644 hF645
           refine q_lrun (d := 161) (Value.int .i64 ((k5 : Nat) : Int)) hF645 ?_
           intro a646 hF647
           refine q_lrun (d := 162) (Value.int .i64 (IntKind.i64.wrap (((k5 : Nat) : Int) - ((7 : Nat) : Int)))) hF647 ?_
           intro a648 hF649
           have hF650 := hF649.set 162 (Value.int .i64 (IntKind.i64.wrap (((k5 : Nat) : Int) - ((7 : Nat) : Int)))) (Value.int .i64 ((k5 - 7 : Nat) : Int)) (by kernel_rfl) (congrArg (Value.int .i64) (i64_eq (by omega) (by omega) (by omega)))
           refine q_lval 163 (Op.indexAddr 224 (Operand.tmp 160) (Operand.tmp 162)) (Value.pointer (some ⟨b276, k5 - 7, none⟩)) hF650 (fun w9 ⟨s9, hw9⟩ => (exec_index1 (len := 64) (cap := 64) (by kernel_rfl) (kd := .i64) (k5 - 7) (by kernel_rfl) (by omega) U224 L223.s)) ?_
           intro a651 hF652
           have hj653 : k5 - 7 < (schedTo (Mg.drop (64 * g)) (k5)).length := (by first | omega | (simp only [List.length_append, List.length_cons, List.length_nil, List.length_map, outTo_len, schedTo_len, addTo_len, kTab_len, List.length_set, List.length_replicate, eight_len, eightTo_len]; omega) | simp)
           refine q_lval 164 (Op.load 223 (Operand.tmp 163)) (wv ((schedTo (Mg.drop (64 * g)) (k5)).getD (k5 - 7) 0)) hF652 (fun w9 ⟨s9, hw9⟩ => (exec_load (cs := [wv ((schedTo (Mg.drop (64 * g)) (k5)).getD (k5 - 7) 0)]) L223 (.inr rfl) (by kernel_rfl) (Bx.elemG (h635.step hw9 (fun h => h.2.2.1 rfl)) (0 : UInt32) (k5 - 7) hj653))) ?_
           intro a654 hF655
           refine q_lrun (d := 165) (Value.int .u32 (IntKind.u32.wrap (((((schedTo (Mg.drop (64 * g)) (k5)).getD (k5 - 16) 0) + (((rotrN ((schedTo (Mg.drop (64 * g)) (k5)).getD (k5 - 15) 0) 7) ^^^ (rotrN ((schedTo (Mg.drop (64 * g)) (k5)).getD (k5 - 15) 0) 18)) ^^^ (((schedTo (Mg.drop (64 * g)) (k5)).getD (k5 - 15) 0) >>> (3 : Nat).toUInt32))).toNat : Int) + (((schedTo (Mg.drop (64 * g)) (k5)).getD (k5 - 7) 0).toNat : Int)))) hF655 ?_
           intro a656 hF657
           have hF658 := hF657.set 165 (Value.int .u32 (IntKind.u32.wrap (((((schedTo (Mg.drop (64 * g)) (k5)).getD (k5 - 16) 0) + (((rotrN ((schedTo (Mg.drop (64 * g)) (k5)).getD (k5 - 15) 0) 7) ^^^ (rotrN ((schedTo (Mg.drop (64 * g)) (k5)).getD (k5 - 15) 0) 18)) ^^^ (((schedTo (Mg.drop (64 * g)) (k5)).getD (k5 - 15) 0) >>> (3 : Nat).toUInt32))).toNat : Int) + (((schedTo (Mg.drop (64 * g)) (k5)).getD (k5 - 7) 0).toNat : Int)))) (wv ((((schedTo (Mg.drop (64 * g)) (k5)).getD (k5 - 16) 0) + (((rotrN ((schedTo (Mg.drop (64 * g)) (k5)).getD (k5 - 15) 0) 7) ^^^ (rotrN ((schedTo (Mg.drop (64 * g)) (k5)).getD (k5 - 15) 0) 18)) ^^^ (((schedTo (Mg.drop (64 * g)) (k5)).getD (k5 - 15) 0) >>> (3 : Nat).toUInt32))) + ((schedTo (Mg.drop (64 * g)) (k5)).getD (k5 - 7) 0))) (by kernel_rfl) (congrArg (Value.int .u32) (u32_add _ _))
           refine q_lrun (d := 166) (wv (((rotrN ((schedTo (Mg.drop (64 * g)) (k5)).getD (k5 - 2) 0) 17) ^^^ (rotrN ((schedTo (Mg.drop (64 * g)) (k5)).getD (k5 - 2) 0) 19)) ^^^ (((schedTo (Mg.drop (64 * g)) (k5)).getD (k5 - 2) 0) >>> (10 : Nat).toUInt32))) hF658 ?_
           intro a659 hF660
           refine q_lrun (d := 167) (Value.int .u32 (IntKind.u32.wrap ((((((schedTo (Mg.drop (64 * g)) (k5)).getD (k5 - 16) 0) + (((rotrN ((schedTo (Mg.drop (64 * g)) (k5)).getD (k5 - 15) 0) 7) ^^^ (rotrN ((schedTo (Mg.drop (64 * g)) (k5)).getD (k5 - 15) 0) 18)) ^^^ (((schedTo (Mg.drop (64 * g)) (k5)).getD (k5 - 15) 0) >>> (3 : Nat).toUInt32))) + ((schedTo (Mg.drop (64 * g)) (k5)).getD (k5 - 7) 0)).toNat : Int) + ((((rotrN ((schedTo (Mg.drop (64 * g)) (k5)).getD (k5 - 2) 0) 17) ^^^ (rotrN ((schedTo (Mg.drop (64 * g)) (k5)).getD (k5 - 2) 0) 19)) ^^^ (((schedTo (Mg.drop (64 * g)) (k5)).getD (k5 - 2) 0) >>> (10 : Nat).toUInt32)).toNat : Int)))) hF660 ?_
           intro a661 hF662
           have hF663 := hF662.set 167 (Value.int .u32 (IntKind.u32.wrap ((((((schedTo (Mg.drop (64 * g)) (k5)).getD (k5 - 16) 0) + (((rotrN ((schedTo (Mg.drop (64 * g)) (k5)).getD (k5 - 15) 0) 7) ^^^ (rotrN ((schedTo (Mg.drop (64 * g)) (k5)).getD (k5 - 15) 0) 18)) ^^^ (((schedTo (Mg.drop (64 * g)) (k5)).getD (k5 - 15) 0) >>> (3 : Nat).toUInt32))) + ((schedTo (Mg.drop (64 * g)) (k5)).getD (k5 - 7) 0)).toNat : Int) + ((((rotrN ((schedTo (Mg.drop (64 * g)) (k5)).getD (k5 - 2) 0) 17) ^^^ (rotrN ((schedTo (Mg.drop (64 * g)) (k5)).getD (k5 - 2) 0) 19)) ^^^ (((schedTo (Mg.drop (64 * g)) (k5)).getD (k5 - 2) 0) >>> (10 : Nat).toUInt32)).toNat : Int)))) (wv (((((schedTo (Mg.drop (64 * g)) (k5)).getD (k5 - 16) 0) + (((rotrN ((schedTo (Mg.drop (64 * g)) (k5)).getD (k5 - 15) 0) 7) ^^^ (rotrN ((schedTo (Mg.drop (64 * g)) (k5)).getD (k5 - 15) 0) 18)) ^^^ (((schedTo (Mg.drop (64 * g)) (k5)).getD (k5 - 15) 0) >>> (3 : Nat).toUInt32))) + ((schedTo (Mg.drop (64 * g)) (k5)).getD (k5 - 7) 0)) + (((rotrN ((schedTo (Mg.drop (64 * g)) (k5)).getD (k5 - 2) 0) 17) ^^^ (rotrN ((schedTo (Mg.drop (64 * g)) (k5)).getD (k5 - 2) 0) 19)) ^^^ (((schedTo (Mg.drop (64 * g)) (k5)).getD (k5 - 2) 0) >>> (10 : Nat).toUInt32)))) (by kernel_rfl) (congrArg (Value.int .u32) (u32_add _ _))
           refine q_lval 168 (Op.indexAddr 224 (Operand.tmp 151) (Operand.tmp 152)) (Value.pointer (some ⟨b276, k5, none⟩)) hF663 (fun w9 ⟨s9, hw9⟩ => (exec_index1 (len := 64) (cap := 64) (by kernel_rfl) (kd := .i64) k5 (by kernel_rfl) (by omega) U224 L223.s)) ?_
           intro a664 hF665
           have hj671 : k5 < (schedTo (Mg.drop (64 * g)) (k5)).length := (by first | omega | (simp only [List.length_append, List.length_cons, List.length_nil, List.length_map, outTo_len, schedTo_len, addTo_len, kTab_len, List.length_set, List.length_replicate, eight_len, eightTo_len]; omega) | simp)
           refine l_last (q_storeA wv (Operand.tmp 168) (Operand.tmp 167) hF665 h635 k5 hj671 (((((schedTo (Mg.drop (64 * g)) (k5)).getD (k5 - 16) 0) + (((rotrN ((schedTo (Mg.drop (64 * g)) (k5)).getD (k5 - 15) 0) 7) ^^^ (rotrN ((schedTo (Mg.drop (64 * g)) (k5)).getD (k5 - 15) 0) 18)) ^^^ (((schedTo (Mg.drop (64 * g)) (k5)).getD (k5 - 15) 0) >>> (3 : Nat).toUInt32))) + ((schedTo (Mg.drop (64 * g)) (k5)).getD (k5 - 7) 0)) + (((rotrN ((schedTo (Mg.drop (64 * g)) (k5)).getD (k5 - 2) 0) 17) ^^^ (rotrN ((schedTo (Mg.drop (64 * g)) (k5)).getD (k5 - 2) 0) 19)) ^^^ (((schedTo (Mg.drop (64 * g)) (k5)).getD (k5 - 2) 0) >>> (10 : Nat).toUInt32))) L223 ?_)
           intro a666 w667 st668 hB669 hF670
           have hS672 := hS621.and st668 (fun b e => by subst e; omega)
           refine q_reg ?_
           refine q_run 1 [(109, (Value.int .i64 ((k5 : Nat) : Int)))] hF670 fun a673 hF674 => ?_
           refine q_one 110 (v0 := (Value.int .i64 (IntKind.i64.wrap (((k5 : Nat) : Int) + ((1 : Nat) : Int))))) (v := (Value.int .i64 ((k5 + 1 : Nat) : Int))) (congrArg (Value.int .i64) (i64_eq (by omega) (by omega) (by omega))) hF674 fun a675 hF676 => ?_
           refine q_run 1 [(11, (Value.int .i64 ((k5 + 1 : Nat) : Int)))] hF676 fun a677 hF678 => ?_
           refine q_end ?_
           have h679 := (((h599.step' st606).step' st620).step st668 (fun e => absurd e (by omega)))
           have h680 := ((((((((h463.step st472).step st520).step st532).step st546).step st594).step st606).step st620).step st668)
           have h681 := (((h600.step' st606).step' st620).step st668 (fun e => absurd e (by omega)))
           have hF682 := hF678.keep [2, 3, 6, 7, 8, 11] [(2, (Value.pointer (some ⟨b6, 0, none⟩))), (3, (Value.slice A171 m173 cp172)), (6, (Value.slice (some ⟨b243, 0, none⟩) 8 8)), (7, (Value.int .i64 ((64 * (g) : Nat) : Int))), (8, (Value.slice (some ⟨b276, 0, none⟩) 64 64)), (11, (Value.int .i64 ((k5 + 1 : Nat) : Int)))] (by kernel_rfl)
           exact ⟨k5 + 1, ⟨s603, hF682, hS672, h679, h680, h681, (by have h9 := hB669; simp only [rn7, rn18, rn17, rn19] at h9; rw [schedTo_hi (by omega)]; exact h9), (by omega), (by omega)⟩, by omega⟩
          ·skip
           have hc470 := of_decide_eq_false hc470
           refine q_exit 8 ?_
           refine q_seq ?_
           refine c_plan 26 (by kernel_rfl) (by kernel_rfl) s458 (fun b => b ≠ b6 ∧ b ≠ b243 ∧ b ≠ b276 ∧ True) [(0, true), (1, true), (2, true), (3, true), (4, true), (5, true), (6, true), (7, true), (8, true), (9, true), (10, true), (11, true), (12, true), (13, true), (14, true), (15, true), (16, true), (17, true), (18, true), (19, true), (20, true), (21, true), (22, true), (23, true), (24, true), (25, true), (26, true), (27, true), (28, true), (29, true), (30, true), (31, true)] [(0, 748288838313422294120286634350736906063837462003712, 64), (1, 1496577676626844588240573268701473812127674924007424, 748288838313422294120286634350736906063837462003712), (2, 2993155353253689176481146537402947624255349848014848, 1496577676626844588240573268701473812127674924007424), (0, 5986310706507378352962293074805895248510699696029696, 64), (8, 11972621413014756705924586149611790497021399392059392, 5986310706507378352962293074805895248510699696029696), (16, 23945242826029513411849172299223580994042798784118784, 11972621413014756705924586149611790497021399392059392), (0, 47890485652059026823698344598447161988085597568237568, 64), (64, 95780971304118053647396689196894323976171195136475136, 47890485652059026823698344598447161988085597568237568), (128, 191561942608236107294793378393788647952342390272950272, 95780971304118053647396689196894323976171195136475136), (0, 383123885216472214589586756787577295904684780545900544, 64), (512, 766247770432944429179173513575154591809369561091801088, 383123885216472214589586756787577295904684780545900544), (1024, 1532495540865888858358347027150309183618739122183602176, 766247770432944429179173513575154591809369561091801088), (0, 3064991081731777716716694054300618367237478244367204352, 64), (4096, 6129982163463555433433388108601236734474956488734408704, 3064991081731777716716694054300618367237478244367204352), (8192, 12259964326927110866866776217202473468949912977468817408, 6129982163463555433433388108601236734474956488734408704), (0, 24519928653854221733733552434404946937899825954937634816, 64), (32768, 49039857307708443467467104868809893875799651909875269632, 24519928653854221733733552434404946937899825954937634816), (65536, 98079714615416886934934209737619787751599303819750539264, 49039857307708443467467104868809893875799651909875269632), (0, 196159429230833773869868419475239575503198607639501078528, 64), (262144, 392318858461667547739736838950479151006397215279002157056, 196159429230833773869868419475239575503198607639501078528), (524288, 784637716923335095479473677900958302012794430558004314112, 392318858461667547739736838950479151006397215279002157056), (0, 1569275433846670190958947355801916604025588861116008628224, 64), (2097152, 3138550867693340381917894711603833208051177722232017256448, 1569275433846670190958947355801916604025588861116008628224), (4194304, 6277101735386680763835789423207666416102355444464034512896, 3138550867693340381917894711603833208051177722232017256448), (7, 16384, 2993155353253689176481146537402947624255349848014848), (16777279, 32768, 23945242826029513411849172299223580994042798784118784), (50332159, 65536, 191561942608236107294793378393788647952342390272950272), (117444607, 131072, 1532495540865888858358347027150309183618739122183602176), (251691007, 262144, 12259964326927110866866776217202473468949912977468817408), (520355839, 524288, 98079714615416886934934209737619787751599303819750539264), (1059061759, 1048576, 784637716923335095479473677900958302012794430558004314112), (2147483647, 2097152, 6277101735386680763835789423207666416102355444464034512896)] (by kernel_rfl) (by kernel_rfl) (by kernel_rfl) (by kernel_rfl) ?_
           intro w683 st684
           have hS685 := hS460.then st684
           refine q_prun (d := 169) (Value.slice (some ⟨b243, 0, none⟩) 8 8) hF469 ?_
           intro a686 hF687
           refine q_pval 170 (Op.indexAddr 224 (Operand.tmp 169) (Operand.const (Value.int IntKind.i64 0))) (Value.pointer (some ⟨b243, 0, none⟩)) hF687 (fun w9 ⟨s9, hw9⟩ => (exec_index1 (len := 8) (cap := 8) (by kernel_rfl) (kd := .i64) 0 (by kernel_rfl) (by omega) U224 L223.s)) ?_
           intro a688 hF689
           have h690 := (h464.step' st684)
           have hj691 : 0 < (([(blocksTo Mg (g)).a, (blocksTo Mg (g)).b, (blocksTo Mg (g)).c, (blocksTo Mg (g)).d, (blocksTo Mg (g)).e, (blocksTo Mg (g)).f, (blocksTo Mg (g)).g, (blocksTo Mg (g)).h] : List UInt32)).length := (by first | omega | (simp only [List.length_append, List.length_cons, List.length_nil, List.length_map, outTo_len, schedTo_len, addTo_len, kTab_len, List.length_set, List.length_replicate, eight_len, eightTo_len]; omega) | simp)
           refine q_pval 171 (Op.load 223 (Operand.tmp 170)) (wv ((blocksTo Mg (g)).a)) hF689 (fun w9 ⟨s9, hw9⟩ => (exec_load (cs := [wv (([(blocksTo Mg (g)).a, (blocksTo Mg (g)).b, (blocksTo Mg (g)).c, (blocksTo Mg (g)).d, (blocksTo Mg (g)).e, (blocksTo Mg (g)).f, (blocksTo Mg (g)).g, (blocksTo Mg (g)).h] : List UInt32).getD 0 0)]) L223 (.inr rfl) (by kernel_rfl) (Bx.elemG (h690.step hw9 (fun h => h.2.1 rfl)) (0 : UInt32) 0 hj691))) ?_
           intro a692 hF693
           refine q_prun (d := 172) (Value.slice (some ⟨b243, 0, none⟩) 8 8) hF693 ?_
           intro a694 hF695
           refine q_pval 173 (Op.indexAddr 224 (Operand.tmp 172) (Operand.const (Value.int IntKind.i64 1))) (Value.pointer (some ⟨b243, 1, none⟩)) hF695 (fun w9 ⟨s9, hw9⟩ => (exec_index1 (len := 8) (cap := 8) (by kernel_rfl) (kd := .i64) 1 (by kernel_rfl) (by omega) U224 L223.s)) ?_
           intro a696 hF697
           have hj698 : 1 < (([(blocksTo Mg (g)).a, (blocksTo Mg (g)).b, (blocksTo Mg (g)).c, (blocksTo Mg (g)).d, (blocksTo Mg (g)).e, (blocksTo Mg (g)).f, (blocksTo Mg (g)).g, (blocksTo Mg (g)).h] : List UInt32)).length := (by first | omega | (simp only [List.length_append, List.length_cons, List.length_nil, List.length_map, outTo_len, schedTo_len, addTo_len, kTab_len, List.length_set, List.length_replicate, eight_len, eightTo_len]; omega) | simp)
           refine q_pval 174 (Op.load 223 (Operand.tmp 173)) (wv ((blocksTo Mg (g)).b)) hF697 (fun w9 ⟨s9, hw9⟩ => (exec_load (cs := [wv (([(blocksTo Mg (g)).a, (blocksTo Mg (g)).b, (blocksTo Mg (g)).c, (blocksTo Mg (g)).d, (blocksTo Mg (g)).e, (blocksTo Mg (g)).f, (blocksTo Mg (g)).g, (blocksTo Mg (g)).h] : List UInt32).getD 1 0)]) L223 (.inr rfl) (by kernel_rfl) (Bx.elemG (h690.step hw9 (fun h => h.2.1 rfl)) (0 : UInt32) 1 hj698))) ?_
           intro a699 hF700
           refine q_prun (d := 175) (Value.slice (some ⟨b243, 0, none⟩) 8 8) hF700 ?_
           intro a701 hF702
           refine q_pval 176 (Op.indexAddr 224 (Operand.tmp 175) (Operand.const (Value.int IntKind.i64 2))) (Value.pointer (some ⟨b243, 2, none⟩)) hF702 (fun w9 ⟨s9, hw9⟩ => (exec_index1 (len := 8) (cap := 8) (by kernel_rfl) (kd := .i64) 2 (by kernel_rfl) (by omega) U224 L223.s)) ?_
           intro a703 hF704
           have hj705 : 2 < (([(blocksTo Mg (g)).a, (blocksTo Mg (g)).b, (blocksTo Mg (g)).c, (blocksTo Mg (g)).d, (blocksTo Mg (g)).e, (blocksTo Mg (g)).f, (blocksTo Mg (g)).g, (blocksTo Mg (g)).h] : List UInt32)).length := (by first | omega | (simp only [List.length_append, List.length_cons, List.length_nil, List.length_map, outTo_len, schedTo_len, addTo_len, kTab_len, List.length_set, List.length_replicate, eight_len, eightTo_len]; omega) | simp)
           refine q_pval 177 (Op.load 223 (Operand.tmp 176)) (wv ((blocksTo Mg (g)).c)) hF704 (fun w9 ⟨s9, hw9⟩ => (exec_load (cs := [wv (([(blocksTo Mg (g)).a, (blocksTo Mg (g)).b, (blocksTo Mg (g)).c, (blocksTo Mg (g)).d, (blocksTo Mg (g)).e, (blocksTo Mg (g)).f, (blocksTo Mg (g)).g, (blocksTo Mg (g)).h] : List UInt32).getD 2 0)]) L223 (.inr rfl) (by kernel_rfl) (Bx.elemG (h690.step hw9 (fun h => h.2.1 rfl)) (0 : UInt32) 2 hj705))) ?_
           intro a706 hF707
           refine q_prun (d := 178) (Value.slice (some ⟨b243, 0, none⟩) 8 8) hF707 ?_
           intro a708 hF709
           refine q_pval 179 (Op.indexAddr 224 (Operand.tmp 178) (Operand.const (Value.int IntKind.i64 3))) (Value.pointer (some ⟨b243, 3, none⟩)) hF709 (fun w9 ⟨s9, hw9⟩ => (exec_index1 (len := 8) (cap := 8) (by kernel_rfl) (kd := .i64) 3 (by kernel_rfl) (by omega) U224 L223.s)) ?_
           intro a710 hF711
           have hj712 : 3 < (([(blocksTo Mg (g)).a, (blocksTo Mg (g)).b, (blocksTo Mg (g)).c, (blocksTo Mg (g)).d, (blocksTo Mg (g)).e, (blocksTo Mg (g)).f, (blocksTo Mg (g)).g, (blocksTo Mg (g)).h] : List UInt32)).length := (by first | omega | (simp only [List.length_append, List.length_cons, List.length_nil, List.length_map, outTo_len, schedTo_len, addTo_len, kTab_len, List.length_set, List.length_replicate, eight_len, eightTo_len]; omega) | simp)
           refine q_pval 180 (Op.load 223 (Operand.tmp 179)) (wv ((blocksTo Mg (g)).d)) hF711 (fun w9 ⟨s9, hw9⟩ => (exec_load (cs := [wv (([(blocksTo Mg (g)).a, (blocksTo Mg (g)).b, (blocksTo Mg (g)).c, (blocksTo Mg (g)).d, (blocksTo Mg (g)).e, (blocksTo Mg (g)).f, (blocksTo Mg (g)).g, (blocksTo Mg (g)).h] : List UInt32).getD 3 0)]) L223 (.inr rfl) (by kernel_rfl) (Bx.elemG (h690.step hw9 (fun h => h.2.1 rfl)) (0 : UInt32) 3 hj712))) ?_
           intro a713 hF714
           refine q_prun (d := 181) (Value.slice (some ⟨b243, 0, none⟩) 8 8) hF714 ?_
           intro a715 hF716
           refine q_pval 182 (Op.indexAddr 224 (Operand.tmp 181) (Operand.const (Value.int IntKind.i64 4))) (Value.pointer (some ⟨b243, 4, none⟩)) hF716 (fun w9 ⟨s9, hw9⟩ => (exec_index1 (len := 8) (cap := 8) (by kernel_rfl) (kd := .i64) 4 (by kernel_rfl) (by omega) U224 L223.s)) ?_
           intro a717 hF718
           have hj719 : 4 < (([(blocksTo Mg (g)).a, (blocksTo Mg (g)).b, (blocksTo Mg (g)).c, (blocksTo Mg (g)).d, (blocksTo Mg (g)).e, (blocksTo Mg (g)).f, (blocksTo Mg (g)).g, (blocksTo Mg (g)).h] : List UInt32)).length := (by first | omega | (simp only [List.length_append, List.length_cons, List.length_nil, List.length_map, outTo_len, schedTo_len, addTo_len, kTab_len, List.length_set, List.length_replicate, eight_len, eightTo_len]; omega) | simp)
           refine q_pval 183 (Op.load 223 (Operand.tmp 182)) (wv ((blocksTo Mg (g)).e)) hF718 (fun w9 ⟨s9, hw9⟩ => (exec_load (cs := [wv (([(blocksTo Mg (g)).a, (blocksTo Mg (g)).b, (blocksTo Mg (g)).c, (blocksTo Mg (g)).d, (blocksTo Mg (g)).e, (blocksTo Mg (g)).f, (blocksTo Mg (g)).g, (blocksTo Mg (g)).h] : List UInt32).getD 4 0)]) L223 (.inr rfl) (by kernel_rfl) (Bx.elemG (h690.step hw9 (fun h => h.2.1 rfl)) (0 : UInt32) 4 hj719))) ?_
           intro a720 hF721
           refine q_prun (d := 184) (Value.slice (some ⟨b243, 0, none⟩) 8 8) hF721 ?_
           intro a722 hF723
           refine q_pval 185 (Op.indexAddr 224 (Operand.tmp 184) (Operand.const (Value.int IntKind.i64 5))) (Value.pointer (some ⟨b243, 5, none⟩)) hF723 (fun w9 ⟨s9, hw9⟩ => (exec_index1 (len := 8) (cap := 8) (by kernel_rfl) (kd := .i64) 5 (by kernel_rfl) (by omega) U224 L223.s)) ?_
           intro a724 hF725
           have hj726 : 5 < (([(blocksTo Mg (g)).a, (blocksTo Mg (g)).b, (blocksTo Mg (g)).c, (blocksTo Mg (g)).d, (blocksTo Mg (g)).e, (blocksTo Mg (g)).f, (blocksTo Mg (g)).g, (blocksTo Mg (g)).h] : List UInt32)).length := (by first | omega | (simp only [List.length_append, List.length_cons, List.length_nil, List.length_map, outTo_len, schedTo_len, addTo_len, kTab_len, List.length_set, List.length_replicate, eight_len, eightTo_len]; omega) | simp)
           refine q_pval 186 (Op.load 223 (Operand.tmp 185)) (wv ((blocksTo Mg (g)).f)) hF725 (fun w9 ⟨s9, hw9⟩ => (exec_load (cs := [wv (([(blocksTo Mg (g)).a, (blocksTo Mg (g)).b, (blocksTo Mg (g)).c, (blocksTo Mg (g)).d, (blocksTo Mg (g)).e, (blocksTo Mg (g)).f, (blocksTo Mg (g)).g, (blocksTo Mg (g)).h] : List UInt32).getD 5 0)]) L223 (.inr rfl) (by kernel_rfl) (Bx.elemG (h690.step hw9 (fun h => h.2.1 rfl)) (0 : UInt32) 5 hj726))) ?_
           intro a727 hF728
           refine q_prun (d := 187) (Value.slice (some ⟨b243, 0, none⟩) 8 8) hF728 ?_
           intro a729 hF730
           refine q_pval 188 (Op.indexAddr 224 (Operand.tmp 187) (Operand.const (Value.int IntKind.i64 6))) (Value.pointer (some ⟨b243, 6, none⟩)) hF730 (fun w9 ⟨s9, hw9⟩ => (exec_index1 (len := 8) (cap := 8) (by kernel_rfl) (kd := .i64) 6 (by kernel_rfl) (by omega) U224 L223.s)) ?_
           intro a731 hF732
           have hj733 : 6 < (([(blocksTo Mg (g)).a, (blocksTo Mg (g)).b, (blocksTo Mg (g)).c, (blocksTo Mg (g)).d, (blocksTo Mg (g)).e, (blocksTo Mg (g)).f, (blocksTo Mg (g)).g, (blocksTo Mg (g)).h] : List UInt32)).length := (by first | omega | (simp only [List.length_append, List.length_cons, List.length_nil, List.length_map, outTo_len, schedTo_len, addTo_len, kTab_len, List.length_set, List.length_replicate, eight_len, eightTo_len]; omega) | simp)
           refine q_pval 189 (Op.load 223 (Operand.tmp 188)) (wv ((blocksTo Mg (g)).g)) hF732 (fun w9 ⟨s9, hw9⟩ => (exec_load (cs := [wv (([(blocksTo Mg (g)).a, (blocksTo Mg (g)).b, (blocksTo Mg (g)).c, (blocksTo Mg (g)).d, (blocksTo Mg (g)).e, (blocksTo Mg (g)).f, (blocksTo Mg (g)).g, (blocksTo Mg (g)).h] : List UInt32).getD 6 0)]) L223 (.inr rfl) (by kernel_rfl) (Bx.elemG (h690.step hw9 (fun h => h.2.1 rfl)) (0 : UInt32) 6 hj733))) ?_
           intro a734 hF735
           refine q_prun (d := 190) (Value.slice (some ⟨b243, 0, none⟩) 8 8) hF735 ?_
           intro a736 hF737
           refine q_pval 191 (Op.indexAddr 224 (Operand.tmp 190) (Operand.const (Value.int IntKind.i64 7))) (Value.pointer (some ⟨b243, 7, none⟩)) hF737 (fun w9 ⟨s9, hw9⟩ => (exec_index1 (len := 8) (cap := 8) (by kernel_rfl) (kd := .i64) 7 (by kernel_rfl) (by omega) U224 L223.s)) ?_
           intro a738 hF739
           have hj740 : 7 < (([(blocksTo Mg (g)).a, (blocksTo Mg (g)).b, (blocksTo Mg (g)).c, (blocksTo Mg (g)).d, (blocksTo Mg (g)).e, (blocksTo Mg (g)).f, (blocksTo Mg (g)).g, (blocksTo Mg (g)).h] : List UInt32)).length := (by first | omega | (simp only [List.length_append, List.length_cons, List.length_nil, List.length_map, outTo_len, schedTo_len, addTo_len, kTab_len, List.length_set, List.length_replicate, eight_len, eightTo_len]; omega) | simp)
           refine q_pval 192 (Op.load 223 (Operand.tmp 191)) (wv ((blocksTo Mg (g)).h)) hF739 (fun w9 ⟨s9, hw9⟩ => (exec_load (cs := [wv (([(blocksTo Mg (g)).a, (blocksTo Mg (g)).b, (blocksTo Mg (g)).c, (blocksTo Mg (g)).d, (blocksTo Mg (g)).e, (blocksTo Mg (g)).f, (blocksTo Mg (g)).g, (blocksTo Mg (g)).h] : List UInt32).getD 7 0)]) L223 (.inr rfl) (by kernel_rfl) (Bx.elemG (h690.step hw9 (fun h => h.2.1 rfl)) (0 : UInt32) 7 hj740))) ?_
           intro a741 hF742
           refine q_prun (d := 14) (wv ((blocksTo Mg (g)).a)) hF742 ?_
           intro a743 hF744
           refine q_prun (d := 15) (wv ((blocksTo Mg (g)).b)) hF744 ?_
           intro a745 hF746
           refine q_prun (d := 16) (wv ((blocksTo Mg (g)).c)) hF746 ?_
           intro a747 hF748
           refine q_prun (d := 17) (wv ((blocksTo Mg (g)).d)) hF748 ?_
           intro a749 hF750
           refine q_prun (d := 18) (wv ((blocksTo Mg (g)).e)) hF750 ?_
           intro a751 hF752
           refine q_prun (d := 19) (wv ((blocksTo Mg (g)).f)) hF752 ?_
           intro a753 hF754
           refine q_prun (d := 20) (wv ((blocksTo Mg (g)).g)) hF754 ?_
           intro a755 hF756
           refine q_prun (d := 21) (wv ((blocksTo Mg (g)).h)) hF756 ?_
           intro a757 hF758
           refine p_end ?_
           refine q_seq ?_
           refine q_seq ?_
           refine q_reg ?_
           refine q_run 1 [(22, (Value.int .i64 ((0 : Nat) : Int)))] hF758 fun a759 hF760 => ?_
           refine q_end ?_
           refine q_block 10 ?_
           have h766 := (h462.step' st684)
           have h767 := (h463.step st684)
           have h768 := (h465.step' st684)
           refine q_loop (fun (k6 : Nat) a761 w762 => ∃ (s763 : Nat → Nat), Fr a761 300 [(2, (Value.pointer (some ⟨b6, 0, none⟩))), (3, (Value.slice A171 m173 cp172)), (6, (Value.slice (some ⟨b243, 0, none⟩) 8 8)), (7, (Value.int .i64 ((64 * (g) : Nat) : Int))), (8, (Value.slice (some ⟨b276, 0, none⟩) 64 64)), (14, (wv ((rQ Mg g k5 k6).a))), (15, (wv ((rQ Mg g k5 k6).b))), (16, (wv ((rQ Mg g k5 k6).c))), (17, (wv ((rQ Mg g k5 k6).d))), (18, (wv ((rQ Mg g k5 k6).e))), (19, (wv ((rQ Mg g k5 k6).f))), (20, (wv ((rQ Mg g k5 k6).g))), (21, (wv ((rQ Mg g k5 k6).h))), (22, (Value.int .i64 ((k6 : Nat) : Int)))] ∧ Stp noM σ w s763 w762 ∧ Bx s763 w762 b6 ((List.replicate 32 (0 : UInt8)).map bv) 52 ∧ Rd tU8 s763 w762 (Value.slice A171 m173 cp172) Mg ∧ Bx s763 w762 b243 (([(blocksTo Mg (g)).a, (blocksTo Mg (g)).b, (blocksTo Mg (g)).c, (blocksTo Mg (g)).d, (blocksTo Mg (g)).e, (blocksTo Mg (g)).f, (blocksTo Mg (g)).g, (blocksTo Mg (g)).h] : List UInt32).map wv) 223 ∧ Bx s763 w762 b276 ((schedTo (Mg.drop (64 * g)) (k5)).map wv) 223 ∧ k6 ≤ 64) (fun k6 => 64 - k6) 0 ?_ ?_
           ·skip
            have hF769 := hF760.set 14 (wv ((blocksTo Mg (g)).a)) (wv ((rndTo (sQ Mg g k5) (blocksTo Mg g) (0)).a)) (by kernel_rfl) rfl
            have hF770 := hF769.set 15 (wv ((blocksTo Mg (g)).b)) (wv ((rndTo (sQ Mg g k5) (blocksTo Mg g) (0)).b)) (by kernel_rfl) rfl
            have hF771 := hF770.set 16 (wv ((blocksTo Mg (g)).c)) (wv ((rndTo (sQ Mg g k5) (blocksTo Mg g) (0)).c)) (by kernel_rfl) rfl
            have hF772 := hF771.set 17 (wv ((blocksTo Mg (g)).d)) (wv ((rndTo (sQ Mg g k5) (blocksTo Mg g) (0)).d)) (by kernel_rfl) rfl
            have hF773 := hF772.set 18 (wv ((blocksTo Mg (g)).e)) (wv ((rndTo (sQ Mg g k5) (blocksTo Mg g) (0)).e)) (by kernel_rfl) rfl
            have hF774 := hF773.set 19 (wv ((blocksTo Mg (g)).f)) (wv ((rndTo (sQ Mg g k5) (blocksTo Mg g) (0)).f)) (by kernel_rfl) rfl
            have hF775 := hF774.set 20 (wv ((blocksTo Mg (g)).g)) (wv ((rndTo (sQ Mg g k5) (blocksTo Mg g) (0)).g)) (by kernel_rfl) rfl
            have hF776 := hF775.set 21 (wv ((blocksTo Mg (g)).h)) (wv ((rndTo (sQ Mg g k5) (blocksTo Mg g) (0)).h)) (by kernel_rfl) rfl
            have hF777 := hF776.keep [2, 3, 6, 7, 8, 14, 15, 16, 17, 18, 19, 20, 21, 22] [(2, (Value.pointer (some ⟨b6, 0, none⟩))), (3, (Value.slice A171 m173 cp172)), (6, (Value.slice (some ⟨b243, 0, none⟩) 8 8)), (7, (Value.int .i64 ((64 * (g) : Nat) : Int))), (8, (Value.slice (some ⟨b276, 0, none⟩) 64 64)), (14, (wv ((rndTo (sQ Mg g k5) (blocksTo Mg g) (0)).a))), (15, (wv ((rndTo (sQ Mg g k5) (blocksTo Mg g) (0)).b))), (16, (wv ((rndTo (sQ Mg g k5) (blocksTo Mg g) (0)).c))), (17, (wv ((rndTo (sQ Mg g k5) (blocksTo Mg g) (0)).d))), (18, (wv ((rndTo (sQ Mg g k5) (blocksTo Mg g) (0)).e))), (19, (wv ((rndTo (sQ Mg g k5) (blocksTo Mg g) (0)).f))), (20, (wv ((rndTo (sQ Mg g k5) (blocksTo Mg g) (0)).g))), (21, (wv ((rndTo (sQ Mg g k5) (blocksTo Mg g) (0)).h))), (22, (Value.int .i64 ((0 : Nat) : Int)))] (by kernel_rfl)
            exact ⟨s458, hF777, hS685, h766, h767, h690, h768, (by omega)⟩
           ·rintro k6 a761 w762 ⟨s763, hF764, hS765, h778, h779, h780, h781, hk6⟩
            refine q_seq ?_
            refine q_seq ?_
            refine q_reg ?_
            refine q_run 1 [(193, (Value.int .i64 ((k6 : Nat) : Int)))] hF764 fun a782 hF783 => ?_
            refine q_one 194 (congrArg Value.bool (cmp_nat_lss (k6) (64))) hF783 fun a784 hF785 => ?_
            refine q_end ?_
            refine q_cond 194 hF785 (decide ((k6 : Nat) < 64)) (fun hc786 => ?_) (fun hc786 => ?_)
            ·skip
             have hc786 := of_decide_eq_true hc786
             refine q_skip ?_
             refine q_seq ?_
             refine q_block 11 ?_
             refine q_seq ?_
             refine c_plan 30 (by kernel_rfl) (by kernel_rfl) s763 (fun b => b ≠ b6 ∧ b ≠ b243 ∧ b ≠ b276 ∧ True) [(0, true), (1, true), (3, true), (6, true), (10, true), (11, true), (12, true), (13, true), (14, true), (15, true), (16, true), (17, true), (19, true), (20, true), (21, true), (23, true), (24, true), (25, true), (26, true), (2, false), (4, false), (5, true), (7, false), (8, true), (9, true), (18, true), (22, true), (27, true), (28, true)] [(0, 200867255532373784442745261542645325315275374222849104412672, 2097152), (0, 401734511064747568885490523085290650630550748445698208825344, 262144), (2, 803469022129495137770981046170581301261101496891396417650688, 401734511064747568885490523085290650630550748445698208825344), (0, 1606938044258990275541962092341162602522202993782792835301376, 262144), (12, 3213876088517980551083924184682325205044405987565585670602752, 1606938044258990275541962092341162602522202993782792835301376), (20, 6427752177035961102167848369364650410088811975131171341205504, 4017345110647475688854905230852906506305507484456982088253440), (0, 12855504354071922204335696738729300820177623950262342682411008, 262144), (80, 25711008708143844408671393477458601640355247900524685364822016, 12855504354071922204335696738729300820177623950262342682411008), (160, 51422017416287688817342786954917203280710495801049370729644032, 32138760885179805510839241846823252050444059875655856706027520), (257, 102844034832575377634685573909834406561420991602098741459288064, 51622884671820062601785532216459848606025771175272219834056704), (0, 205688069665150755269371147819668813122841983204197482918576128, 262144), (0, 411376139330301510538742295639337626245683966408394965837152256, 524288), (3072, 822752278660603021077484591278675252491367932816789931674304512, 617064208995452265808113443459006439368525949612592448755728384), (0, 1645504557321206042154969182557350504982735865633579863348609024, 262144), (8192, 3291009114642412084309938365114701009965471731267159726697218048, 1645504557321206042154969182557350504982735865633579863348609024), (0, 6582018229284824168619876730229402019930943462534319453394436096, 1048576), (49152, 13164036458569648337239753460458804039861886925068638906788872192, 9873027343927236252929815095344103029896415193801479180091654144), (69632, 26328072917139296674479506920917608079723773850137277813577744384, 13986788737230251358317238051737479292353254857885428838463176704), (131584, 52656145834278593348959013841835216159447547700274555627155488768, 26430916951971872052114192494827442486285194841739376555037032448), (0, 105312291668557186697918027683670432318895095400549111254310977536, 4194304), (524288, 210624583337114373395836055367340864637790190801098222508621955072, 105312291668557186697918027683670432318895095400549111254310977536), (1048576, 421249166674228746791672110734681729275580381602196445017243910144, 210624583337114373395836055367340864637790190801098222508621955072), (2359296, 842498333348457493583344221469363458551160763204392890034487820288, 473905312508507340140631124576516945435027929302471000644399398912), (0, 1684996666696914987166688442938726917102321526408785780068975640576, 256), (0, 3369993333393829974333376885877453834204643052817571560137951281152, 4194304), (25165824, 6739986666787659948666753771754907668409286105635143120275902562304, 5054990000090744961500065328816180751306964579226357340206926921728), (33554432, 13479973333575319897333507543509815336818572211270286240551805124608, 6739986666787659948666753771754907668409286105635143120275902562304), (71303168, 26959946667150639794667015087019630673637144422540572481103610249216, 14322471666923777390916851764979178795369732974474679130586292944896), (268435455, 8388608, 26959946667150639794667015087019630673637144422540572481103610249216)] (by kernel_rfl) (by kernel_rfl) (by kernel_rfl) (by kernel_rfl) ?_
             intro w787 st788
             have hS789 := hS765.then st788
             refine q_prun (d := 197) (wv ((rQ Mg g k5 k6).h)) hF785 ?_
             intro a790 hF791
             refine q_prun (d := 198) (wv ((rQ Mg g k5 k6).e)) hF791 ?_
             intro a792 hF793
             refine q_prun (d := 200) (wv ((rQ Mg g k5 k6).e)) hF793 ?_
             intro a794 hF795
             refine q_prun (d := 203) (wv ((rQ Mg g k5 k6).e)) hF795 ?_
             intro a796 hF797
             refine q_prun (d := 207) (wv ((rQ Mg g k5 k6).e)) hF797 ?_
             intro a798 hF799
             refine q_prun (d := 208) (wv ((rQ Mg g k5 k6).f)) hF799 ?_
             intro a800 hF801
             refine q_prun (d := 209) (Value.int .u32 (IntKind.u32.wrap ((BitVec.ofInt 32 (((rQ Mg g k5 k6).e).toNat : Int) &&& BitVec.ofInt 32 (((rQ Mg g k5 k6).f).toNat : Int)).toNat : Int))) hF801 ?_
             intro a802 hF803
             have hF804 := hF803.set 209 (Value.int .u32 (IntKind.u32.wrap ((BitVec.ofInt 32 (((rQ Mg g k5 k6).e).toNat : Int) &&& BitVec.ofInt 32 (((rQ Mg g k5 k6).f).toNat : Int)).toNat : Int))) (wv (((rQ Mg g k5 k6).e) &&& ((rQ Mg g k5 k6).f))) (by kernel_rfl) (congrArg (Value.int .u32) (u32_and ((rQ Mg g k5 k6).e) ((rQ Mg g k5 k6).f)))
             refine q_prun (d := 210) (wv ((rQ Mg g k5 k6).e)) hF804 ?_
             intro a805 hF806
             refine q_prun (d := 211) (Value.int .u32 (IntKind.u32.wrap ((BitVec.ofInt 32 IntKind.u32.max ^^^ BitVec.ofInt 32 (((rQ Mg g k5 k6).e).toNat : Int)).toNat : Int))) hF806 ?_
             intro a807 hF808
             have hF809 := hF808.set 211 (Value.int .u32 (IntKind.u32.wrap ((BitVec.ofInt 32 IntKind.u32.max ^^^ BitVec.ofInt 32 (((rQ Mg g k5 k6).e).toNat : Int)).toNat : Int))) (wv (~~~((rQ Mg g k5 k6).e))) (by kernel_rfl) (congrArg (Value.int .u32) (u32_not ((rQ Mg g k5 k6).e)))
             refine q_prun (d := 212) (wv ((rQ Mg g k5 k6).g)) hF809 ?_
             intro a810 hF811
             refine q_prun (d := 213) (Value.int .u32 (IntKind.u32.wrap ((BitVec.ofInt 32 ((~~~((rQ Mg g k5 k6).e)).toNat : Int) &&& BitVec.ofInt 32 (((rQ Mg g k5 k6).g).toNat : Int)).toNat : Int))) hF811 ?_
             intro a812 hF813
             have hF814 := hF813.set 213 (Value.int .u32 (IntKind.u32.wrap ((BitVec.ofInt 32 ((~~~((rQ Mg g k5 k6).e)).toNat : Int) &&& BitVec.ofInt 32 (((rQ Mg g k5 k6).g).toNat : Int)).toNat : Int))) (wv ((~~~((rQ Mg g k5 k6).e)) &&& ((rQ Mg g k5 k6).g))) (by kernel_rfl) (congrArg (Value.int .u32) (u32_and (~~~((rQ Mg g k5 k6).e)) ((rQ Mg g k5 k6).g)))
             refine q_prun (d := 214) (Value.int .u32 (IntKind.u32.wrap ((BitVec.ofInt 32 ((((rQ Mg g k5 k6).e) &&& ((rQ Mg g k5 k6).f)).toNat : Int) ||| BitVec.ofInt 32 (((~~~((rQ Mg g k5 k6).e)) &&& ((rQ Mg g k5 k6).g)).toNat : Int)).toNat : Int))) hF814 ?_
             intro a815 hF816
             have hF817 := hF816.set 214 (Value.int .u32 (IntKind.u32.wrap ((BitVec.ofInt 32 ((((rQ Mg g k5 k6).e) &&& ((rQ Mg g k5 k6).f)).toNat : Int) ||| BitVec.ofInt 32 (((~~~((rQ Mg g k5 k6).e)) &&& ((rQ Mg g k5 k6).g)).toNat : Int)).toNat : Int))) (wv ((((rQ Mg g k5 k6).e) &&& ((rQ Mg g k5 k6).f)) ||| ((~~~((rQ Mg g k5 k6).e)) &&& ((rQ Mg g k5 k6).g)))) (by kernel_rfl) (congrArg (Value.int .u32) (u32_or (((rQ Mg g k5 k6).e) &&& ((rQ Mg g k5 k6).f)) ((~~~((rQ Mg g k5 k6).e)) &&& ((rQ Mg g k5 k6).g))))
             refine q_prun (d := 216) (Value.int .i64 ((k6 : Nat) : Int)) hF817 ?_
             intro a818 hF819
             refine q_pval 217 (Op.indexAddr 226 (Operand.global 1) (Operand.tmp 216)) (Value.pointer (some ⟨1, k6, none⟩)) hF819 (fun w9 ⟨s9, hw9⟩ => (exec_indexP1 (N := 64) (by kernel_rfl) (kd := .i64) k6 (by kernel_rfl) (by omega) U226 L223.s)) ?_
             intro a820 hF821
             have h822 := hg.step hS789
             have hj823 : k6 < (kTab).length := (by first | omega | (simp only [List.length_append, List.length_cons, List.length_nil, List.length_map, outTo_len, schedTo_len, addTo_len, kTab_len, List.length_set, List.length_replicate, eight_len, eightTo_len]; omega) | simp)
             refine q_pval 218 (Op.load 223 (Operand.tmp 217)) (wv (kTab.getD k6 0)) hF821 (fun w9 ⟨s9, hw9⟩ => (exec_load (cs := [wv (kTab.getD k6 0)]) L223 (.inr rfl) (by kernel_rfl) (Seg.elemG (h822.step hw9) (0 : UInt32) k6 hj823))) ?_
             intro a824 hF825
             refine q_prun (d := 220) (Value.slice (some ⟨b276, 0, none⟩) 64 64) hF825 ?_
             intro a826 hF827
             refine q_prun (d := 221) (Value.int .i64 ((k6 : Nat) : Int)) hF827 ?_
             intro a828 hF829
             refine q_pval 222 (Op.indexAddr 224 (Operand.tmp 220) (Operand.tmp 221)) (Value.pointer (some ⟨b276, k6, none⟩)) hF829 (fun w9 ⟨s9, hw9⟩ => (exec_index1 (len := 64) (cap := 64) (by kernel_rfl) (kd := .i64) k6 (by kernel_rfl) (by omega) U224 L223.s)) ?_
             intro a830 hF831
             have h832 := (h781.step' st788)
             have hj833 : k6 < (schedTo (Mg.drop (64 * g)) (k5)).length := (by first | omega | (simp only [List.length_append, List.length_cons, List.length_nil, List.length_map, outTo_len, schedTo_len, addTo_len, kTab_len, List.length_set, List.length_replicate, eight_len, eightTo_len]; omega) | simp)
             refine q_pval 223 (Op.load 223 (Operand.tmp 222)) (wv ((schedTo (Mg.drop (64 * g)) (k5)).getD k6 0)) hF831 (fun w9 ⟨s9, hw9⟩ => (exec_load (cs := [wv ((schedTo (Mg.drop (64 * g)) (k5)).getD k6 0)]) L223 (.inr rfl) (by kernel_rfl) (Bx.elemG (h832.step hw9 (fun h => h.2.2.1 rfl)) (0 : UInt32) k6 hj833))) ?_
             intro a834 hF835
             have h836 := (h778.step' st788)
             have h837 := (h780.step' st788)
             refine p_do (q_call (some 199) (#[(Operand.tmp 198), (Operand.const (Value.int IntKind.i64 6))]) (#[223, 3]) hF835 C115 [(wv ((rQ Mg g k5 k6).e)), (Value.int .i64 ((6 : Nat) : Int))] (turn_calls s763 w787 ((rQ Mg g k5 k6).e) 6 (by decide) (by decide)) ?_)
             intro a838 s839 w840 v841 st842 hP843 hF844
             have hz845 := hS789.size
             have hS846 := hS789.then st842
             refine ⟨s839, st842.mono (fun b _ e => (fun _ e => e.elim) b e), ?_⟩
             subst hP843
             have h847 := (h836.step' st842)
             have h848 := (h837.step' st842)
             have h849 := (h832.step' st842)
             refine p_do (q_call (some 201) (#[(Operand.tmp 200), (Operand.const (Value.int IntKind.i64 11))]) (#[223, 3]) hF844 C115 [(wv ((rQ Mg g k5 k6).e)), (Value.int .i64 ((11 : Nat) : Int))] (turn_calls s839 w840 ((rQ Mg g k5 k6).e) 11 (by decide) (by decide)) ?_)
             intro a850 s851 w852 v853 st854 hP855 hF856
             have hz857 := hS846.size
             have hS858 := hS846.then st854
             refine ⟨s851, st854.mono (fun b _ e => (fun _ e => e.elim) b e), ?_⟩
             subst hP855
             refine q_prun (d := 202) (Value.int .u32 (IntKind.u32.wrap ((BitVec.ofInt 32 ((rotrN ((rQ Mg g k5 k6).e) 6).toNat : Int) ^^^ BitVec.ofInt 32 ((rotrN ((rQ Mg g k5 k6).e) 11).toNat : Int)).toNat : Int))) hF856 ?_
             intro a859 hF860
             have hF861 := hF860.set 202 (Value.int .u32 (IntKind.u32.wrap ((BitVec.ofInt 32 ((rotrN ((rQ Mg g k5 k6).e) 6).toNat : Int) ^^^ BitVec.ofInt 32 ((rotrN ((rQ Mg g k5 k6).e) 11).toNat : Int)).toNat : Int))) (wv ((rotrN ((rQ Mg g k5 k6).e) 6) ^^^ (rotrN ((rQ Mg g k5 k6).e) 11))) (by kernel_rfl) (congrArg (Value.int .u32) (u32_xor (rotrN ((rQ Mg g k5 k6).e) 6) (rotrN ((rQ Mg g k5 k6).e) 11)))
             have h862 := (h847.step' st854)
             have h863 := (h848.step' st854)
             have h864 := (h849.step' st854)
             refine p_do (q_call (some 204) (#[(Operand.tmp 203), (Operand.const (Value.int IntKind.i64 25))]) (#[223, 3]) hF861 C115 [(wv ((rQ Mg g k5 k6).e)), (Value.int .i64 ((25 : Nat) : Int))] (turn_calls s851 w852 ((rQ Mg g k5 k6).e) 25 (by decide) (by decide)) ?_)
             intro a865 s866 w867 v868 st869 hP870 hF871
             have hz872 := hS858.size
             have hS873 := hS858.then st869
             refine ⟨s866, st869.mono (fun b _ e => (fun _ e => e.elim) b e), ?_⟩
             subst hP870
             refine q_prun (d := 205) (Value.int .u32 (IntKind.u32.wrap ((BitVec.ofInt 32 (((rotrN ((rQ Mg g k5 k6).e) 6) ^^^ (rotrN ((rQ Mg g k5 k6).e) 11)).toNat : Int) ^^^ BitVec.ofInt 32 ((rotrN ((rQ Mg g k5 k6).e) 25).toNat : Int)).toNat : Int))) hF871 ?_
             intro a874 hF875
             have hF876 := hF875.set 205 (Value.int .u32 (IntKind.u32.wrap ((BitVec.ofInt 32 (((rotrN ((rQ Mg g k5 k6).e) 6) ^^^ (rotrN ((rQ Mg g k5 k6).e) 11)).toNat : Int) ^^^ BitVec.ofInt 32 ((rotrN ((rQ Mg g k5 k6).e) 25).toNat : Int)).toNat : Int))) (wv (((rotrN ((rQ Mg g k5 k6).e) 6) ^^^ (rotrN ((rQ Mg g k5 k6).e) 11)) ^^^ (rotrN ((rQ Mg g k5 k6).e) 25))) (by kernel_rfl) (congrArg (Value.int .u32) (u32_xor ((rotrN ((rQ Mg g k5 k6).e) 6) ^^^ (rotrN ((rQ Mg g k5 k6).e) 11)) (rotrN ((rQ Mg g k5 k6).e) 25)))
             refine q_prun (d := 206) (Value.int .u32 (IntKind.u32.wrap ((((rQ Mg g k5 k6).h).toNat : Int) + ((((rotrN ((rQ Mg g k5 k6).e) 6) ^^^ (rotrN ((rQ Mg g k5 k6).e) 11)) ^^^ (rotrN ((rQ Mg g k5 k6).e) 25)).toNat : Int)))) hF876 ?_
             intro a877 hF878
             have hF879 := hF878.set 206 (Value.int .u32 (IntKind.u32.wrap ((((rQ Mg g k5 k6).h).toNat : Int) + ((((rotrN ((rQ Mg g k5 k6).e) 6) ^^^ (rotrN ((rQ Mg g k5 k6).e) 11)) ^^^ (rotrN ((rQ Mg g k5 k6).e) 25)).toNat : Int)))) (wv (((rQ Mg g k5 k6).h) + (((rotrN ((rQ Mg g k5 k6).e) 6) ^^^ (rotrN ((rQ Mg g k5 k6).e) 11)) ^^^ (rotrN ((rQ Mg g k5 k6).e) 25)))) (by kernel_rfl) (congrArg (Value.int .u32) (u32_add _ _))
             refine q_prun (d := 215) (Value.int .u32 (IntKind.u32.wrap (((((rQ Mg g k5 k6).h) + (((rotrN ((rQ Mg g k5 k6).e) 6) ^^^ (rotrN ((rQ Mg g k5 k6).e) 11)) ^^^ (rotrN ((rQ Mg g k5 k6).e) 25))).toNat : Int) + (((((rQ Mg g k5 k6).e) &&& ((rQ Mg g k5 k6).f)) ||| ((~~~((rQ Mg g k5 k6).e)) &&& ((rQ Mg g k5 k6).g))).toNat : Int)))) hF879 ?_
             intro a880 hF881
             have hF882 := hF881.set 215 (Value.int .u32 (IntKind.u32.wrap (((((rQ Mg g k5 k6).h) + (((rotrN ((rQ Mg g k5 k6).e) 6) ^^^ (rotrN ((rQ Mg g k5 k6).e) 11)) ^^^ (rotrN ((rQ Mg g k5 k6).e) 25))).toNat : Int) + (((((rQ Mg g k5 k6).e) &&& ((rQ Mg g k5 k6).f)) ||| ((~~~((rQ Mg g k5 k6).e)) &&& ((rQ Mg g k5 k6).g))).toNat : Int)))) (wv ((((rQ Mg g k5 k6).h) + (((rotrN ((rQ Mg g k5 k6).e) 6) ^^^ (rotrN ((rQ Mg g k5 k6).e) 11)) ^^^ (rotrN ((rQ Mg g k5 k6).e) 25))) + ((((rQ Mg g k5 k6).e) &&& ((rQ Mg g k5 k6).f)) ||| ((~~~((rQ Mg g k5 k6).e)) &&& ((rQ Mg g k5 k6).g))))) (by kernel_rfl) (congrArg (Value.int .u32) (u32_add _ _))
             refine q_prun (d := 219) (Value.int .u32 (IntKind.u32.wrap ((((((rQ Mg g k5 k6).h) + (((rotrN ((rQ Mg g k5 k6).e) 6) ^^^ (rotrN ((rQ Mg g k5 k6).e) 11)) ^^^ (rotrN ((rQ Mg g k5 k6).e) 25))) + ((((rQ Mg g k5 k6).e) &&& ((rQ Mg g k5 k6).f)) ||| ((~~~((rQ Mg g k5 k6).e)) &&& ((rQ Mg g k5 k6).g)))).toNat : Int) + ((kTab.getD k6 0).toNat : Int)))) hF882 ?_
             intro a883 hF884
             have hF885 := hF884.set 219 (Value.int .u32 (IntKind.u32.wrap ((((((rQ Mg g k5 k6).h) + (((rotrN ((rQ Mg g k5 k6).e) 6) ^^^ (rotrN ((rQ Mg g k5 k6).e) 11)) ^^^ (rotrN ((rQ Mg g k5 k6).e) 25))) + ((((rQ Mg g k5 k6).e) &&& ((rQ Mg g k5 k6).f)) ||| ((~~~((rQ Mg g k5 k6).e)) &&& ((rQ Mg g k5 k6).g)))).toNat : Int) + ((kTab.getD k6 0).toNat : Int)))) (wv (((((rQ Mg g k5 k6).h) + (((rotrN ((rQ Mg g k5 k6).e) 6) ^^^ (rotrN ((rQ Mg g k5 k6).e) 11)) ^^^ (rotrN ((rQ Mg g k5 k6).e) 25))) + ((((rQ Mg g k5 k6).e) &&& ((rQ Mg g k5 k6).f)) ||| ((~~~((rQ Mg g k5 k6).e)) &&& ((rQ Mg g k5 k6).g)))) + (kTab.getD k6 0))) (by kernel_rfl) (congrArg (Value.int .u32) (u32_add _ _))
             refine q_prun (d := 224) (Value.int .u32 (IntKind.u32.wrap (((((((rQ Mg g k5 k6).h) + (((rotrN ((rQ Mg g k5 k6).e) 6) ^^^ (rotrN ((rQ Mg g k5 k6).e) 11)) ^^^ (rotrN ((rQ Mg g k5 k6).e) 25))) + ((((rQ Mg g k5 k6).e) &&& ((rQ Mg g k5 k6).f)) ||| ((~~~((rQ Mg g k5 k6).e)) &&& ((rQ Mg g k5 k6).g)))) + (kTab.getD k6 0)).toNat : Int) + (((schedTo (Mg.drop (64 * g)) (k5)).getD k6 0).toNat : Int)))) hF885 ?_
             intro a886 hF887
             have hF888 := hF887.set 224 (Value.int .u32 (IntKind.u32.wrap (((((((rQ Mg g k5 k6).h) + (((rotrN ((rQ Mg g k5 k6).e) 6) ^^^ (rotrN ((rQ Mg g k5 k6).e) 11)) ^^^ (rotrN ((rQ Mg g k5 k6).e) 25))) + ((((rQ Mg g k5 k6).e) &&& ((rQ Mg g k5 k6).f)) ||| ((~~~((rQ Mg g k5 k6).e)) &&& ((rQ Mg g k5 k6).g)))) + (kTab.getD k6 0)).toNat : Int) + (((schedTo (Mg.drop (64 * g)) (k5)).getD k6 0).toNat : Int)))) (wv ((((((rQ Mg g k5 k6).h) + (((rotrN ((rQ Mg g k5 k6).e) 6) ^^^ (rotrN ((rQ Mg g k5 k6).e) 11)) ^^^ (rotrN ((rQ Mg g k5 k6).e) 25))) + ((((rQ Mg g k5 k6).e) &&& ((rQ Mg g k5 k6).f)) ||| ((~~~((rQ Mg g k5 k6).e)) &&& ((rQ Mg g k5 k6).g)))) + (kTab.getD k6 0)) + ((schedTo (Mg.drop (64 * g)) (k5)).getD k6 0))) (by kernel_rfl) (congrArg (Value.int .u32) (u32_add _ _))
             refine q_prun (d := 23) (wv ((((((rQ Mg g k5 k6).h) + (((rotrN ((rQ Mg g k5 k6).e) 6) ^^^ (rotrN ((rQ Mg g k5 k6).e) 11)) ^^^ (rotrN ((rQ Mg g k5 k6).e) 25))) + ((((rQ Mg g k5 k6).e) &&& ((rQ Mg g k5 k6).f)) ||| ((~~~((rQ Mg g k5 k6).e)) &&& ((rQ Mg g k5 k6).g)))) + (kTab.getD k6 0)) + ((schedTo (Mg.drop (64 * g)) (k5)).getD k6 0))) hF888 ?_
             intro a889 hF890
             refine p_end ?_
             refine q_seq ?_
             refine q_reg ?_
             refine q_run 1 [(225, (wv ((rQ Mg g k5 k6).a)))] hF890 fun a891 hF892 => ?_
             have h893 := (h862.step' st869)
             have h894 := (h863.step' st869)
             have h895 := (h864.step' st869)
             refine r_at (q_call (some 226) (#[(Operand.tmp 225), (Operand.const (Value.int IntKind.i64 2))]) (#[223, 3]) hF892 C115 [(wv ((rQ Mg g k5 k6).a)), (Value.int .i64 ((2 : Nat) : Int))] (turn_calls s866 w867 ((rQ Mg g k5 k6).a) 2 (by decide) (by decide)) ?_)
             intro a896 s897 w898 v899 st900 hP901 hF902
             have hz903 := hS873.size
             have hS904 := hS873.then st900
             subst hP901
             refine q_run 1 [(227, (wv ((rQ Mg g k5 k6).a)))] hF902 fun a905 hF906 => ?_
             have h907 := (h893.step' st900)
             have h908 := (h894.step' st900)
             have h909 := (h895.step' st900)
             refine r_at (q_call (some 228) (#[(Operand.tmp 227), (Operand.const (Value.int IntKind.i64 13))]) (#[223, 3]) hF906 C115 [(wv ((rQ Mg g k5 k6).a)), (Value.int .i64 ((13 : Nat) : Int))] (turn_calls s897 w898 ((rQ Mg g k5 k6).a) 13 (by decide) (by decide)) ?_)
             intro a910 s911 w912 v913 st914 hP915 hF916
             have hz917 := hS904.size
             have hS918 := hS904.then st914
             subst hP915
             refine q_one 229 (congrArg (Value.int .u32) (u32_xor (rotrN ((rQ Mg g k5 k6).a) 2) (rotrN ((rQ Mg g k5 k6).a) 13))) hF916 fun a919 hF920 => ?_
             refine q_run 1 [(230, (wv ((rQ Mg g k5 k6).a)))] hF920 fun a921 hF922 => ?_
             have h923 := (h907.step' st914)
             have h924 := (h908.step' st914)
             have h925 := (h909.step' st914)
             refine r_at (q_call (some 231) (#[(Operand.tmp 230), (Operand.const (Value.int IntKind.i64 22))]) (#[223, 3]) hF922 C115 [(wv ((rQ Mg g k5 k6).a)), (Value.int .i64 ((22 : Nat) : Int))] (turn_calls s911 w912 ((rQ Mg g k5 k6).a) 22 (by decide) (by decide)) ?_)
             intro a926 s927 w928 v929 st930 hP931 hF932
             have hz933 := hS918.size
             have hS934 := hS918.then st930
             subst hP931
             refine q_one 232 (congrArg (Value.int .u32) (u32_xor ((rotrN ((rQ Mg g k5 k6).a) 2) ^^^ (rotrN ((rQ Mg g k5 k6).a) 13)) (rotrN ((rQ Mg g k5 k6).a) 22))) hF932 fun a935 hF936 => ?_
             refine q_run 2 [(234, (wv ((rQ Mg g k5 k6).b))), (233, (wv ((rQ Mg g k5 k6).a)))] hF936 fun a937 hF938 => ?_
             refine q_one 235 (congrArg (Value.int .u32) (u32_and ((rQ Mg g k5 k6).a) ((rQ Mg g k5 k6).b))) hF938 fun a939 hF940 => ?_
             refine q_run 2 [(237, (wv ((rQ Mg g k5 k6).c))), (236, (wv ((rQ Mg g k5 k6).a)))] hF940 fun a941 hF942 => ?_
             refine q_one 238 (congrArg (Value.int .u32) (u32_and ((rQ Mg g k5 k6).a) ((rQ Mg g k5 k6).c))) hF942 fun a943 hF944 => ?_
             refine q_one 239 (congrArg (Value.int .u32) (u32_or (((rQ Mg g k5 k6).a) &&& ((rQ Mg g k5 k6).b)) (((rQ Mg g k5 k6).a) &&& ((rQ Mg g k5 k6).c)))) hF944 fun a945 hF946 => ?_
             refine q_run 2 [(241, (wv ((rQ Mg g k5 k6).c))), (240, (wv ((rQ Mg g k5 k6).b)))] hF946 fun a947 hF948 => ?_
             refine q_one 242 (congrArg (Value.int .u32) (u32_and ((rQ Mg g k5 k6).b) ((rQ Mg g k5 k6).c))) hF948 fun a949 hF950 => ?_
             refine q_one 243 (congrArg (Value.int .u32) (u32_or ((((rQ Mg g k5 k6).a) &&& ((rQ Mg g k5 k6).b)) ||| (((rQ Mg g k5 k6).a) &&& ((rQ Mg g k5 k6).c))) (((rQ Mg g k5 k6).b) &&& ((rQ Mg g k5 k6).c)))) hF950 fun a951 hF952 => ?_
             refine q_one 244 (v0 := (Value.int .u32 (IntKind.u32.wrap (((((rotrN ((rQ Mg g k5 k6).a) 2) ^^^ (rotrN ((rQ Mg g k5 k6).a) 13)) ^^^ (rotrN ((rQ Mg g k5 k6).a) 22)).toNat : Int) + ((((((rQ Mg g k5 k6).a) &&& ((rQ Mg g k5 k6).b)) ||| (((rQ Mg g k5 k6).a) &&& ((rQ Mg g k5 k6).c))) ||| (((rQ Mg g k5 k6).b) &&& ((rQ Mg g k5 k6).c))).toNat : Int))))) (v := (wv ((((rotrN ((rQ Mg g k5 k6).a) 2) ^^^ (rotrN ((rQ Mg g k5 k6).a) 13)) ^^^ (rotrN ((rQ Mg g k5 k6).a) 22)) + (((((rQ Mg g k5 k6).a) &&& ((rQ Mg g k5 k6).b)) ||| (((rQ Mg g k5 k6).a) &&& ((rQ Mg g k5 k6).c))) ||| (((rQ Mg g k5 k6).b) &&& ((rQ Mg g k5 k6).c)))))) (congrArg (Value.int .u32) (u32_add _ _)) hF952 fun a953 hF954 => ?_
             refine q_run 1 [(24, (wv ((((rotrN ((rQ Mg g k5 k6).a) 2) ^^^ (rotrN ((rQ Mg g k5 k6).a) 13)) ^^^ (rotrN ((rQ Mg g k5 k6).a) 22)) + (((((rQ Mg g k5 k6).a) &&& ((rQ Mg g k5 k6).b)) ||| (((rQ Mg g k5 k6).a) &&& ((rQ Mg g k5 k6).c))) ||| (((rQ Mg g k5 k6).b) &&& ((rQ Mg g k5 k6).c))))))] hF954 fun a955 hF956 => ?_
             refine q_end ?_
             refine q_reg ?_
             refine q_run 5 [(249, (wv ((((((rQ Mg g k5 k6).h) + (((rotrN ((rQ Mg g k5 k6).e) 6) ^^^ (rotrN ((rQ Mg g k5 k6).e) 11)) ^^^ (rotrN ((rQ Mg g k5 k6).e) 25))) + ((((rQ Mg g k5 k6).e) &&& ((rQ Mg g k5 k6).f)) ||| ((~~~((rQ Mg g k5 k6).e)) &&& ((rQ Mg g k5 k6).g)))) + (kTab.getD k6 0)) + ((schedTo (Mg.drop (64 * g)) (k5)).getD k6 0)))), (248, (wv ((rQ Mg g k5 k6).d))), (247, (wv ((rQ Mg g k5 k6).e))), (246, (wv ((rQ Mg g k5 k6).f))), (245, (wv ((rQ Mg g k5 k6).g)))] hF956 fun a957 hF958 => ?_
             refine q_one 250 (v0 := (Value.int .u32 (IntKind.u32.wrap ((((rQ Mg g k5 k6).d).toNat : Int) + (((((((rQ Mg g k5 k6).h) + (((rotrN ((rQ Mg g k5 k6).e) 6) ^^^ (rotrN ((rQ Mg g k5 k6).e) 11)) ^^^ (rotrN ((rQ Mg g k5 k6).e) 25))) + ((((rQ Mg g k5 k6).e) &&& ((rQ Mg g k5 k6).f)) ||| ((~~~((rQ Mg g k5 k6).e)) &&& ((rQ Mg g k5 k6).g)))) + (kTab.getD k6 0)) + ((schedTo (Mg.drop (64 * g)) (k5)).getD k6 0)).toNat : Int))))) (v := (wv (((rQ Mg g k5 k6).d) + ((((((rQ Mg g k5 k6).h) + (((rotrN ((rQ Mg g k5 k6).e) 6) ^^^ (rotrN ((rQ Mg g k5 k6).e) 11)) ^^^ (rotrN ((rQ Mg g k5 k6).e) 25))) + ((((rQ Mg g k5 k6).e) &&& ((rQ Mg g k5 k6).f)) ||| ((~~~((rQ Mg g k5 k6).e)) &&& ((rQ Mg g k5 k6).g)))) + (kTab.getD k6 0)) + ((schedTo (Mg.drop (64 * g)) (k5)).getD k6 0))))) (congrArg (Value.int .u32) (u32_add _ _)) hF958 fun a959 hF960 => ?_
             refine q_run 5 [(255, (wv ((((rotrN ((rQ Mg g k5 k6).a) 2) ^^^ (rotrN ((rQ Mg g k5 k6).a) 13)) ^^^ (rotrN ((rQ Mg g k5 k6).a) 22)) + (((((rQ Mg g k5 k6).a) &&& ((rQ Mg g k5 k6).b)) ||| (((rQ Mg g k5 k6).a) &&& ((rQ Mg g k5 k6).c))) ||| (((rQ Mg g k5 k6).b) &&& ((rQ Mg g k5 k6).c)))))), (254, (wv ((((((rQ Mg g k5 k6).h) + (((rotrN ((rQ Mg g k5 k6).e) 6) ^^^ (rotrN ((rQ Mg g k5 k6).e) 11)) ^^^ (rotrN ((rQ Mg g k5 k6).e) 25))) + ((((rQ Mg g k5 k6).e) &&& ((rQ Mg g k5 k6).f)) ||| ((~~~((rQ Mg g k5 k6).e)) &&& ((rQ Mg g k5 k6).g)))) + (kTab.getD k6 0)) + ((schedTo (Mg.drop (64 * g)) (k5)).getD k6 0)))), (253, (wv ((rQ Mg g k5 k6).a))), (252, (wv ((rQ Mg g k5 k6).b))), (251, (wv ((rQ Mg g k5 k6).c)))] hF960 fun a961 hF962 => ?_
             refine q_one 256 (v0 := (Value.int .u32 (IntKind.u32.wrap ((((((((rQ Mg g k5 k6).h) + (((rotrN ((rQ Mg g k5 k6).e) 6) ^^^ (rotrN ((rQ Mg g k5 k6).e) 11)) ^^^ (rotrN ((rQ Mg g k5 k6).e) 25))) + ((((rQ Mg g k5 k6).e) &&& ((rQ Mg g k5 k6).f)) ||| ((~~~((rQ Mg g k5 k6).e)) &&& ((rQ Mg g k5 k6).g)))) + (kTab.getD k6 0)) + ((schedTo (Mg.drop (64 * g)) (k5)).getD k6 0)).toNat : Int) + (((((rotrN ((rQ Mg g k5 k6).a) 2) ^^^ (rotrN ((rQ Mg g k5 k6).a) 13)) ^^^ (rotrN ((rQ Mg g k5 k6).a) 22)) + (((((rQ Mg g k5 k6).a) &&& ((rQ Mg g k5 k6).b)) ||| (((rQ Mg g k5 k6).a) &&& ((rQ Mg g k5 k6).c))) ||| (((rQ Mg g k5 k6).b) &&& ((rQ Mg g k5 k6).c)))).toNat : Int))))) (v := (wv (((((((rQ Mg g k5 k6).h) + (((rotrN ((rQ Mg g k5 k6).e) 6) ^^^ (rotrN ((rQ Mg g k5 k6).e) 11)) ^^^ (rotrN ((rQ Mg g k5 k6).e) 25))) + ((((rQ Mg g k5 k6).e) &&& ((rQ Mg g k5 k6).f)) ||| ((~~~((rQ Mg g k5 k6).e)) &&& ((rQ Mg g k5 k6).g)))) + (kTab.getD k6 0)) + ((schedTo (Mg.drop (64 * g)) (k5)).getD k6 0)) + ((((rotrN ((rQ Mg g k5 k6).a) 2) ^^^ (rotrN ((rQ Mg g k5 k6).a) 13)) ^^^ (rotrN ((rQ Mg g k5 k6).a) 22)) + (((((rQ Mg g k5 k6).a) &&& ((rQ Mg g k5 k6).b)) ||| (((rQ Mg g k5 k6).a) &&& ((rQ Mg g k5 k6).c))) ||| (((rQ Mg g k5 k6).b) &&& ((rQ Mg g k5 k6).c))))))) (congrArg (Value.int .u32) (u32_add _ _)) hF962 fun a963 hF964 => ?_
             refine q_run 8 [(14, (wv (((((((rQ Mg g k5 k6).h) + (((rotrN ((rQ Mg g k5 k6).e) 6) ^^^ (rotrN ((rQ Mg g k5 k6).e) 11)) ^^^ (rotrN ((rQ Mg g k5 k6).e) 25))) + ((((rQ Mg g k5 k6).e) &&& ((rQ Mg g k5 k6).f)) ||| ((~~~((rQ Mg g k5 k6).e)) &&& ((rQ Mg g k5 k6).g)))) + (kTab.getD k6 0)) + ((schedTo (Mg.drop (64 * g)) (k5)).getD k6 0)) + ((((rotrN ((rQ Mg g k5 k6).a) 2) ^^^ (rotrN ((rQ Mg g k5 k6).a) 13)) ^^^ (rotrN ((rQ Mg g k5 k6).a) 22)) + (((((rQ Mg g k5 k6).a) &&& ((rQ Mg g k5 k6).b)) ||| (((rQ Mg g k5 k6).a) &&& ((rQ Mg g k5 k6).c))) ||| (((rQ Mg g k5 k6).b) &&& ((rQ Mg g k5 k6).c))))))), (15, (wv ((rQ Mg g k5 k6).a))), (16, (wv ((rQ Mg g k5 k6).b))), (17, (wv ((rQ Mg g k5 k6).c))), (18, (wv (((rQ Mg g k5 k6).d) + ((((((rQ Mg g k5 k6).h) + (((rotrN ((rQ Mg g k5 k6).e) 6) ^^^ (rotrN ((rQ Mg g k5 k6).e) 11)) ^^^ (rotrN ((rQ Mg g k5 k6).e) 25))) + ((((rQ Mg g k5 k6).e) &&& ((rQ Mg g k5 k6).f)) ||| ((~~~((rQ Mg g k5 k6).e)) &&& ((rQ Mg g k5 k6).g)))) + (kTab.getD k6 0)) + ((schedTo (Mg.drop (64 * g)) (k5)).getD k6 0))))), (19, (wv ((rQ Mg g k5 k6).e))), (20, (wv ((rQ Mg g k5 k6).f))), (21, (wv ((rQ Mg g k5 k6).g)))] hF964 fun a965 hF966 => ?_
             refine q_end ?_
             refine q_reg ?_
             refine q_run 1 [(195, (Value.int .i64 ((k6 : Nat) : Int)))] hF966 fun a967 hF968 => ?_
             refine q_one 196 (v0 := (Value.int .i64 (IntKind.i64.wrap (((k6 : Nat) : Int) + ((1 : Nat) : Int))))) (v := (Value.int .i64 ((k6 + 1 : Nat) : Int))) (congrArg (Value.int .i64) (i64_eq (by omega) (by omega) (by omega))) hF968 fun a969 hF970 => ?_
             refine q_run 1 [(22, (Value.int .i64 ((k6 + 1 : Nat) : Int)))] hF970 fun a971 hF972 => ?_
             refine q_end ?_
             have h973 := (h923.step' st930)
             have h974 := (((((((h779.step st788).step st842).step st854).step st869).step st900).step st914).step st930)
             have h975 := (h924.step' st930)
             have h976 := (h925.step' st930)
             have hF977 := hF972.set 14 (wv (((((((rQ Mg g k5 k6).h) + (((rotrN ((rQ Mg g k5 k6).e) 6) ^^^ (rotrN ((rQ Mg g k5 k6).e) 11)) ^^^ (rotrN ((rQ Mg g k5 k6).e) 25))) + ((((rQ Mg g k5 k6).e) &&& ((rQ Mg g k5 k6).f)) ||| ((~~~((rQ Mg g k5 k6).e)) &&& ((rQ Mg g k5 k6).g)))) + (kTab.getD k6 0)) + ((schedTo (Mg.drop (64 * g)) (k5)).getD k6 0)) + ((((rotrN ((rQ Mg g k5 k6).a) 2) ^^^ (rotrN ((rQ Mg g k5 k6).a) 13)) ^^^ (rotrN ((rQ Mg g k5 k6).a) 22)) + (((((rQ Mg g k5 k6).a) &&& ((rQ Mg g k5 k6).b)) ||| (((rQ Mg g k5 k6).a) &&& ((rQ Mg g k5 k6).c))) ||| (((rQ Mg g k5 k6).b) &&& ((rQ Mg g k5 k6).c)))))) (wv ((rndTo (sQ Mg g k5) (blocksTo Mg g) (k6 + 1)).a)) (by kernel_rfl) (by first | rfl | (simp only [rn6, rn11, rn25, rn2, rn13, rn22, ch_or, maj_or]; rfl))
             have hF978 := hF977.set 15 (wv ((rQ Mg g k5 k6).a)) (wv ((rndTo (sQ Mg g k5) (blocksTo Mg g) (k6 + 1)).b)) (by kernel_rfl) (by first | rfl | (simp only [rn6, rn11, rn25, rn2, rn13, rn22, ch_or, maj_or]; rfl))
             have hF979 := hF978.set 16 (wv ((rQ Mg g k5 k6).b)) (wv ((rndTo (sQ Mg g k5) (blocksTo Mg g) (k6 + 1)).c)) (by kernel_rfl) (by first | rfl | (simp only [rn6, rn11, rn25, rn2, rn13, rn22, ch_or, maj_or]; rfl))
             have hF980 := hF979.set 17 (wv ((rQ Mg g k5 k6).c)) (wv ((rndTo (sQ Mg g k5) (blocksTo Mg g) (k6 + 1)).d)) (by kernel_rfl) (by first | rfl | (simp only [rn6, rn11, rn25, rn2, rn13, rn22, ch_or, maj_or]; rfl))
             have hF981 := hF980.set 18 (wv (((rQ Mg g k5 k6).d) + ((((((rQ Mg g k5 k6).h) + (((rotrN ((rQ Mg g k5 k6).e) 6) ^^^ (rotrN ((rQ Mg g k5 k6).e) 11)) ^^^ (rotrN ((rQ Mg g k5 k6).e) 25))) + ((((rQ Mg g k5 k6).e) &&& ((rQ Mg g k5 k6).f)) ||| ((~~~((rQ Mg g k5 k6).e)) &&& ((rQ Mg g k5 k6).g)))) + (kTab.getD k6 0)) + ((schedTo (Mg.drop (64 * g)) (k5)).getD k6 0)))) (wv ((rndTo (sQ Mg g k5) (blocksTo Mg g) (k6 + 1)).e)) (by kernel_rfl) (by first | rfl | (simp only [rn6, rn11, rn25, rn2, rn13, rn22, ch_or, maj_or]; rfl))
             have hF982 := hF981.set 19 (wv ((rQ Mg g k5 k6).e)) (wv ((rndTo (sQ Mg g k5) (blocksTo Mg g) (k6 + 1)).f)) (by kernel_rfl) (by first | rfl | (simp only [rn6, rn11, rn25, rn2, rn13, rn22, ch_or, maj_or]; rfl))
             have hF983 := hF982.set 20 (wv ((rQ Mg g k5 k6).f)) (wv ((rndTo (sQ Mg g k5) (blocksTo Mg g) (k6 + 1)).g)) (by kernel_rfl) (by first | rfl | (simp only [rn6, rn11, rn25, rn2, rn13, rn22, ch_or, maj_or]; rfl))
             have hF984 := hF983.set 21 (wv ((rQ Mg g k5 k6).g)) (wv ((rndTo (sQ Mg g k5) (blocksTo Mg g) (k6 + 1)).h)) (by kernel_rfl) (by first | rfl | (simp only [rn6, rn11, rn25, rn2, rn13, rn22, ch_or, maj_or]; rfl))
             have hF985 := hF984.keep [2, 3, 6, 7, 8, 14, 15, 16, 17, 18, 19, 20, 21, 22] [(2, (Value.pointer (some ⟨b6, 0, none⟩))), (3, (Value.slice A171 m173 cp172)), (6, (Value.slice (some ⟨b243, 0, none⟩) 8 8)), (7, (Value.int .i64 ((64 * (g) : Nat) : Int))), (8, (Value.slice (some ⟨b276, 0, none⟩) 64 64)), (14, (wv ((rndTo (sQ Mg g k5) (blocksTo Mg g) (k6 + 1)).a))), (15, (wv ((rndTo (sQ Mg g k5) (blocksTo Mg g) (k6 + 1)).b))), (16, (wv ((rndTo (sQ Mg g k5) (blocksTo Mg g) (k6 + 1)).c))), (17, (wv ((rndTo (sQ Mg g k5) (blocksTo Mg g) (k6 + 1)).d))), (18, (wv ((rndTo (sQ Mg g k5) (blocksTo Mg g) (k6 + 1)).e))), (19, (wv ((rndTo (sQ Mg g k5) (blocksTo Mg g) (k6 + 1)).f))), (20, (wv ((rndTo (sQ Mg g k5) (blocksTo Mg g) (k6 + 1)).g))), (21, (wv ((rndTo (sQ Mg g k5) (blocksTo Mg g) (k6 + 1)).h))), (22, (Value.int .i64 ((k6 + 1 : Nat) : Int)))] (by kernel_rfl)
             exact ⟨k6 + 1, ⟨s927, hF985, hS934, h973, h974, h975, h976, (by omega)⟩, by omega⟩
            ·skip
             have hc786 := of_decide_eq_false hc786
             refine q_exit 10 ?_
             refine q_seq ?_
             refine q_reg ?_
             refine q_run 8 [(264, (wv ((rQ Mg g k5 k6).h))), (263, (wv ((rQ Mg g k5 k6).g))), (262, (wv ((rQ Mg g k5 k6).f))), (261, (wv ((rQ Mg g k5 k6).e))), (260, (wv ((rQ Mg g k5 k6).d))), (259, (wv ((rQ Mg g k5 k6).c))), (258, (wv ((rQ Mg g k5 k6).b))), (257, (wv ((rQ Mg g k5 k6).a)))] hF785 fun a986 hF987 => ?_
             refine r_at (q_newSl 265 (Op.buildSlice 224 8 #[(0, (Operand.tmp 257)), (1, (Operand.tmp 258)), (2, (Operand.tmp 259)), (3, (Operand.tmp 260)), (4, (Operand.tmp 261)), (5, (Operand.tmp 262)), (6, (Operand.tmp 263)), (7, (Operand.tmp 264))]) 8 hF987 s763 (([(rQ Mg g k5 k6).a, (rQ Mg g k5 k6).b, (rQ Mg g k5 k6).c, (rQ Mg g k5 k6).d, (rQ Mg g k5 k6).e, (rQ Mg g k5 k6).f, (rQ Mg g k5 k6).g, (rQ Mg g k5 k6).h] : List UInt32).map wv) 223 (fun o e => by simp only [execOp, e]; kernel_rfl) ?_)
             intro a988 s989 w990 b991 hb992 st993 hB994 hF995
             have hz996 := hS765.size
             have ne997 := h778.nl hb992
             have ne998 := h780.nl hb992
             have ne999 := h781.nl hb992
             have hS1000 := hS765.then st993
             refine q_run 1 [(25, (Value.slice (some ⟨b991, 0, none⟩) 8 8))] hF995 fun a1001 hF1002 => ?_
             refine q_end ?_
             refine q_seq ?_
             refine q_reg ?_
             refine q_run 1 [(26, (Value.int .i64 ((0 : Nat) : Int)))] hF1002 fun a1003 hF1004 => ?_
             refine q_end ?_
             refine q_block 12 ?_
             have h1010 := (h778.step' st993)
             have h1011 := (h779.step st993)
             have h1012 := (h780.step' st993)
             refine q_loop (fun (k7 : Nat) a1005 w1006 => ∃ (s1007 : Nat → Nat), Fr a1005 300 [(2, (Value.pointer (some ⟨b6, 0, none⟩))), (3, (Value.slice A171 m173 cp172)), (6, (Value.slice (some ⟨b243, 0, none⟩) 8 8)), (7, (Value.int .i64 ((64 * (g) : Nat) : Int))), (25, (Value.slice (some ⟨b991, 0, none⟩) 8 8)), (26, (Value.int .i64 ((k7 : Nat) : Int)))] ∧ Stp noM σ w s1007 w1006 ∧ Bx s1007 w1006 b6 ((List.replicate 32 (0 : UInt8)).map bv) 52 ∧ Rd tU8 s1007 w1006 (Value.slice A171 m173 cp172) Mg ∧ Bx s1007 w1006 b991 (([(rQ Mg g k5 k6).a, (rQ Mg g k5 k6).b, (rQ Mg g k5 k6).c, (rQ Mg g k5 k6).d, (rQ Mg g k5 k6).e, (rQ Mg g k5 k6).f, (rQ Mg g k5 k6).g, (rQ Mg g k5 k6).h] : List UInt32).map wv) 223 ∧ Bx s1007 w1006 b243 ((addTo ([(blocksTo Mg g).a, (blocksTo Mg g).b, (blocksTo Mg g).c, (blocksTo Mg g).d, (blocksTo Mg g).e, (blocksTo Mg g).f, (blocksTo Mg g).g, (blocksTo Mg g).h] : List UInt32) ([(rQ Mg g k5 k6).a, (rQ Mg g k5 k6).b, (rQ Mg g k5 k6).c, (rQ Mg g k5 k6).d, (rQ Mg g k5 k6).e, (rQ Mg g k5 k6).f, (rQ Mg g k5 k6).g, (rQ Mg g k5 k6).h] : List UInt32) (k7)).map wv) 223 ∧ k7 ≤ 8) (fun k7 => 8 - k7) 0 ?_ ?_
             ·skip
              have hF1013 := hF1004.keep [2, 3, 6, 7, 25, 26] [(2, (Value.pointer (some ⟨b6, 0, none⟩))), (3, (Value.slice A171 m173 cp172)), (6, (Value.slice (some ⟨b243, 0, none⟩) 8 8)), (7, (Value.int .i64 ((64 * (g) : Nat) : Int))), (25, (Value.slice (some ⟨b991, 0, none⟩) 8 8)), (26, (Value.int .i64 ((0 : Nat) : Int)))] (by kernel_rfl)
              exact ⟨s989, hF1013, hS1000, h1010, h1011, hB994, h1012, (by omega)⟩
             ·rintro k7 a1005 w1006 ⟨s1007, hF1008, hS1009, h1014, h1015, h1016, h1017, hk7⟩
              refine q_seq ?_
              refine q_seq ?_
              refine q_reg ?_
              refine q_run 1 [(266, (Value.int .i64 ((k7 : Nat) : Int)))] hF1008 fun a1018 hF1019 => ?_
              refine q_one 267 (congrArg Value.bool (cmp_nat_lss (k7) (8))) hF1019 fun a1020 hF1021 => ?_
              refine q_end ?_
              refine q_cond 267 hF1021 (decide ((k7 : Nat) < 8)) (fun hc1022 => ?_) (fun hc1022 => ?_)
              ·skip
               have hc1022 := of_decide_eq_true hc1022
               refine q_skip ?_
               refine q_seq ?_
               refine q_block 13 ?_
               refine c_planL 37 12 1 (by kernel_rfl) (by kernel_rfl) s1007 (fun b => b ≠ b6 ∧ b ≠ b991 ∧ b ≠ b243 ∧ True) [(0, true), (1, true), (2, true), (3, true), (4, true), (5, true), (6, true), (7, true), (8, true), (9, true), (10, true), (11, true)] [(0, 1897137590064188545819787018382342682267975428761855001222473056385648716020711424, 64), (0, 3794275180128377091639574036764685364535950857523710002444946112771297432041422848, 67108864), (0, 7588550360256754183279148073529370729071901715047420004889892225542594864082845696, 64), (0, 15177100720513508366558296147058741458143803430094840009779784451085189728165691392, 67108864), (12, 30354201441027016733116592294117482916287606860189680019559568902170379456331382784, 22765651080770262549837444220588112187215705145142260014669676676627784592248537088), (16, 60708402882054033466233184588234965832575213720379360039119137804340758912662765568, 30354201441027016733116592294117482916287606860189680019559568902170379456331382784), (0, 121416805764108066932466369176469931665150427440758720078238275608681517825325531136, 33554432), (0, 242833611528216133864932738352939863330300854881517440156476551217363035650651062272, 67108864), (192, 485667223056432267729865476705879726660601709763034880312953102434726071301302124544, 364250417292324200797399107529409794995451282322276160234714826826044553475976593408), (256, 971334446112864535459730953411759453321203419526069760625906204869452142602604249088, 485667223056432267729865476705879726660601709763034880312953102434726071301302124544), (544, 1942668892225729070919461906823518906642406839052139521251812409738904285205208498176, 1032042848994918568925964137999994419153778633246449120665025342673792901515267014656), (2047, 3885337784451458141838923813647037813284813678104279042503624819477808570410416996352, 5691412770192565637459361055147028046803926286285565003667419169156946148062134272), (4095, 0, 5828006676677187212758385720470556719927220517156418563755437229216712855615625494528)] (by kernel_rfl) (by kernel_rfl) (by kernel_rfl) (by kernel_rfl) ?_
               intro w1023 st1024
               have hS1025 := hS1009.then st1024
               refine q_lrun (d := 270) (Value.slice (some ⟨b243, 0, none⟩) 8 8) hF1021 ?_
               intro a1026 hF1027
               refine q_lrun (d := 271) (Value.int .i64 ((k7 : Nat) : Int)) hF1027 ?_
               intro a1028 hF1029
               refine q_lrun (d := 272) (Value.slice (some ⟨b243, 0, none⟩) 8 8) hF1029 ?_
               intro a1030 hF1031
               refine q_lrun (d := 273) (Value.int .i64 ((k7 : Nat) : Int)) hF1031 ?_
               intro a1032 hF1033
               refine q_lval 274 (Op.indexAddr 224 (Operand.tmp 272) (Operand.tmp 273)) (Value.pointer (some ⟨b243, k7, none⟩)) hF1033 (fun w9 ⟨s9, hw9⟩ => (exec_index1 (len := 8) (cap := 8) (by kernel_rfl) (kd := .i64) k7 (by kernel_rfl) (by omega) U224 L223.s)) ?_
               intro a1034 hF1035
               have h1036 := (h1017.step' st1024)
               have hj1037 : k7 < (addTo ([(blocksTo Mg g).a, (blocksTo Mg g).b, (blocksTo Mg g).c, (blocksTo Mg g).d, (blocksTo Mg g).e, (blocksTo Mg g).f, (blocksTo Mg g).g, (blocksTo Mg g).h] : List UInt32) ([(rQ Mg g k5 k6).a, (rQ Mg g k5 k6).b, (rQ Mg g k5 k6).c, (rQ Mg g k5 k6).d, (rQ Mg g k5 k6).e, (rQ Mg g k5 k6).f, (rQ Mg g k5 k6).g, (rQ Mg g k5 k6).h] : List UInt32) (k7)).length := (by first | omega | (simp only [List.length_append, List.length_cons, List.length_nil, List.length_map, outTo_len, schedTo_len, addTo_len, kTab_len, List.length_set, List.length_replicate, eight_len, eightTo_len]; omega) | simp)
               refine q_lval 275 (Op.load 223 (Operand.tmp 274)) (wv ((addTo ([(blocksTo Mg g).a, (blocksTo Mg g).b, (blocksTo Mg g).c, (blocksTo Mg g).d, (blocksTo Mg g).e, (blocksTo Mg g).f, (blocksTo Mg g).g, (blocksTo Mg g).h] : List UInt32) ([(rQ Mg g k5 k6).a, (rQ Mg g k5 k6).b, (rQ Mg g k5 k6).c, (rQ Mg g k5 k6).d, (rQ Mg g k5 k6).e, (rQ Mg g k5 k6).f, (rQ Mg g k5 k6).g, (rQ Mg g k5 k6).h] : List UInt32) (k7)).getD k7 0)) hF1035 (fun w9 ⟨s9, hw9⟩ => (exec_load (cs := [wv ((addTo ([(blocksTo Mg g).a, (blocksTo Mg g).b, (blocksTo Mg g).c, (blocksTo Mg g).d, (blocksTo Mg g).e, (blocksTo Mg g).f, (blocksTo Mg g).g, (blocksTo Mg g).h] : List UInt32) ([(rQ Mg g k5 k6).a, (rQ Mg g k5 k6).b, (rQ Mg g k5 k6).c, (rQ Mg g k5 k6).d, (rQ Mg g k5 k6).e, (rQ Mg g k5 k6).f, (rQ Mg g k5 k6).g, (rQ Mg g k5 k6).h] : List UInt32) (k7)).getD k7 0)]) L223 (.inr rfl) (by kernel_rfl) (Bx.elemG (h1036.step hw9 (fun h => h.2.2.1 rfl)) (0 : UInt32) k7 hj1037))) ?_
               intro a1038 hF1039
               refine q_lrun (d := 276) (Value.slice (some ⟨b991, 0, none⟩) 8 8) hF1039 ?_
               intro a1040 hF1041
               refine q_lrun (d := 277) (Value.int .i64 ((k7 : Nat) : Int)) hF1041 ?_
               intro a1042 hF1043
               refine q_lval 278 (Op.indexAddr 224 (Operand.tmp 276) (Operand.tmp 277)) (Value.pointer (some ⟨b991, k7, none⟩)) hF1043 (fun w9 ⟨s9, hw9⟩ => (exec_index1 (len := 8) (cap := 8) (by kernel_rfl) (kd := .i64) k7 (by kernel_rfl) (by omega) U224 L223.s)) ?_
               intro a1044 hF1045
               have h1046 := (h1016.step' st1024)
               have hj1047 : k7 < (([(rQ Mg g k5 k6).a, (rQ Mg g k5 k6).b, (rQ Mg g k5 k6).c, (rQ Mg g k5 k6).d, (rQ Mg g k5 k6).e, (rQ Mg g k5 k6).f, (rQ Mg g k5 k6).g, (rQ Mg g k5 k6).h] : List UInt32)).length := (by first | omega | (simp only [List.length_append, List.length_cons, List.length_nil, List.length_map, outTo_len, schedTo_len, addTo_len, kTab_len, List.length_set, List.length_replicate, eight_len, eightTo_len]; omega) | simp)
               refine q_lval 279 (Op.load 223 (Operand.tmp 278)) (wv (([(rQ Mg g k5 k6).a, (rQ Mg g k5 k6).b, (rQ Mg g k5 k6).c, (rQ Mg g k5 k6).d, (rQ Mg g k5 k6).e, (rQ Mg g k5 k6).f, (rQ Mg g k5 k6).g, (rQ Mg g k5 k6).h] : List UInt32).getD k7 0)) hF1045 (fun w9 ⟨s9, hw9⟩ => (exec_load (cs := [wv (([(rQ Mg g k5 k6).a, (rQ Mg g k5 k6).b, (rQ Mg g k5 k6).c, (rQ Mg g k5 k6).d, (rQ Mg g k5 k6).e, (rQ Mg g k5 k6).f, (rQ Mg g k5 k6).g, (rQ Mg g k5 k6).h] : List UInt32).getD k7 0)]) L223 (.inr rfl) (by kernel_rfl) (Bx.elemG (h1046.step hw9 (fun h => h.2.1 rfl)) (0 : UInt32) k7 hj1047))) ?_
               intro a1048 hF1049
               refine q_lrun (d := 280) (Value.int .u32 (IntKind.u32.wrap ((((addTo ([(blocksTo Mg g).a, (blocksTo Mg g).b, (blocksTo Mg g).c, (blocksTo Mg g).d, (blocksTo Mg g).e, (blocksTo Mg g).f, (blocksTo Mg g).g, (blocksTo Mg g).h] : List UInt32) ([(rQ Mg g k5 k6).a, (rQ Mg g k5 k6).b, (rQ Mg g k5 k6).c, (rQ Mg g k5 k6).d, (rQ Mg g k5 k6).e, (rQ Mg g k5 k6).f, (rQ Mg g k5 k6).g, (rQ Mg g k5 k6).h] : List UInt32) (k7)).getD k7 0).toNat : Int) + ((([(rQ Mg g k5 k6).a, (rQ Mg g k5 k6).b, (rQ Mg g k5 k6).c, (rQ Mg g k5 k6).d, (rQ Mg g k5 k6).e, (rQ Mg g k5 k6).f, (rQ Mg g k5 k6).g, (rQ Mg g k5 k6).h] : List UInt32).getD k7 0).toNat : Int)))) hF1049 ?_
               intro a1050 hF1051
               have hF1052 := hF1051.set 280 (Value.int .u32 (IntKind.u32.wrap ((((addTo ([(blocksTo Mg g).a, (blocksTo Mg g).b, (blocksTo Mg g).c, (blocksTo Mg g).d, (blocksTo Mg g).e, (blocksTo Mg g).f, (blocksTo Mg g).g, (blocksTo Mg g).h] : List UInt32) ([(rQ Mg g k5 k6).a, (rQ Mg g k5 k6).b, (rQ Mg g k5 k6).c, (rQ Mg g k5 k6).d, (rQ Mg g k5 k6).e, (rQ Mg g k5 k6).f, (rQ Mg g k5 k6).g, (rQ Mg g k5 k6).h] : List UInt32) (k7)).getD k7 0).toNat : Int) + ((([(rQ Mg g k5 k6).a, (rQ Mg g k5 k6).b, (rQ Mg g k5 k6).c, (rQ Mg g k5 k6).d, (rQ Mg g k5 k6).e, (rQ Mg g k5 k6).f, (rQ Mg g k5 k6).g, (rQ Mg g k5 k6).h] : List UInt32).getD k7 0).toNat : Int)))) (wv (((addTo ([(blocksTo Mg g).a, (blocksTo Mg g).b, (blocksTo Mg g).c, (blocksTo Mg g).d, (blocksTo Mg g).e, (blocksTo Mg g).f, (blocksTo Mg g).g, (blocksTo Mg g).h] : List UInt32) ([(rQ Mg g k5 k6).a, (rQ Mg g k5 k6).b, (rQ Mg g k5 k6).c, (rQ Mg g k5 k6).d, (rQ Mg g k5 k6).e, (rQ Mg g k5 k6).f, (rQ Mg g k5 k6).g, (rQ Mg g k5 k6).h] : List UInt32) (k7)).getD k7 0) + (([(rQ Mg g k5 k6).a, (rQ Mg g k5 k6).b, (rQ Mg g k5 k6).c, (rQ Mg g k5 k6).d, (rQ Mg g k5 k6).e, (rQ Mg g k5 k6).f, (rQ Mg g k5 k6).g, (rQ Mg g k5 k6).h] : List UInt32).getD k7 0))) (by kernel_rfl) (congrArg (Value.int .u32) (u32_add _ _))
               refine q_lval 281 (Op.indexAddr 224 (Operand.tmp 270) (Operand.tmp 271)) (Value.pointer (some ⟨b243, k7, none⟩)) hF1052 (fun w9 ⟨s9, hw9⟩ => (exec_index1 (len := 8) (cap := 8) (by kernel_rfl) (kd := .i64) k7 (by kernel_rfl) (by omega) U224 L223.s)) ?_
               intro a1053 hF1054
               have hj1060 : k7 < (addTo ([(blocksTo Mg g).a, (blocksTo Mg g).b, (blocksTo Mg g).c, (blocksTo Mg g).d, (blocksTo Mg g).e, (blocksTo Mg g).f, (blocksTo Mg g).g, (blocksTo Mg g).h] : List UInt32) ([(rQ Mg g k5 k6).a, (rQ Mg g k5 k6).b, (rQ Mg g k5 k6).c, (rQ Mg g k5 k6).d, (rQ Mg g k5 k6).e, (rQ Mg g k5 k6).f, (rQ Mg g k5 k6).g, (rQ Mg g k5 k6).h] : List UInt32) (k7)).length := (by first | omega | (simp only [List.length_append, List.length_cons, List.length_nil, List.length_map, outTo_len, schedTo_len, addTo_len, kTab_len, List.length_set, List.length_replicate, eight_len, eightTo_len]; omega) | simp)
               refine l_last (q_storeA wv (Operand.tmp 281) (Operand.tmp 280) hF1054 h1036 k7 hj1060 (((addTo ([(blocksTo Mg g).a, (blocksTo Mg g).b, (blocksTo Mg g).c, (blocksTo Mg g).d, (blocksTo Mg g).e, (blocksTo Mg g).f, (blocksTo Mg g).g, (blocksTo Mg g).h] : List UInt32) ([(rQ Mg g k5 k6).a, (rQ Mg g k5 k6).b, (rQ Mg g k5 k6).c, (rQ Mg g k5 k6).d, (rQ Mg g k5 k6).e, (rQ Mg g k5 k6).f, (rQ Mg g k5 k6).g, (rQ Mg g k5 k6).h] : List UInt32) (k7)).getD k7 0) + (([(rQ Mg g k5 k6).a, (rQ Mg g k5 k6).b, (rQ Mg g k5 k6).c, (rQ Mg g k5 k6).d, (rQ Mg g k5 k6).e, (rQ Mg g k5 k6).f, (rQ Mg g k5 k6).g, (rQ Mg g k5 k6).h] : List UInt32).getD k7 0)) L223 ?_)
               intro a1055 w1056 st1057 hB1058 hF1059
               have hS1061 := hS1025.and st1057 (fun b e => by subst e; omega)
               refine q_reg ?_
               refine q_run 1 [(268, (Value.int .i64 ((k7 : Nat) : Int)))] hF1059 fun a1062 hF1063 => ?_
               refine q_one 269 (v0 := (Value.int .i64 (IntKind.i64.wrap (((k7 : Nat) : Int) + ((1 : Nat) : Int))))) (v := (Value.int .i64 ((k7 + 1 : Nat) : Int))) (congrArg (Value.int .i64) (i64_eq (by omega) (by omega) (by omega))) hF1063 fun a1064 hF1065 => ?_
               refine q_run 1 [(26, (Value.int .i64 ((k7 + 1 : Nat) : Int)))] hF1065 fun a1066 hF1067 => ?_
               refine q_end ?_
               have h1068 := ((h1014.step' st1024).step st1057 (fun e => absurd e (by omega)))
               have h1069 := ((h1015.step st1024).step st1057)
               have h1070 := (h1046.step st1057 (fun e => absurd e (by omega)))
               have hF1071 := hF1067.keep [2, 3, 6, 7, 25, 26] [(2, (Value.pointer (some ⟨b6, 0, none⟩))), (3, (Value.slice A171 m173 cp172)), (6, (Value.slice (some ⟨b243, 0, none⟩) 8 8)), (7, (Value.int .i64 ((64 * (g) : Nat) : Int))), (25, (Value.slice (some ⟨b991, 0, none⟩) 8 8)), (26, (Value.int .i64 ((k7 + 1 : Nat) : Int)))] (by kernel_rfl)
               exact ⟨k7 + 1, ⟨s1007, hF1071, hS1061, h1068, h1069, h1070, hB1058, (by omega)⟩, by omega⟩
              ·skip
               have hc1022 := of_decide_eq_false hc1022
               refine q_exit 12 ?_
               refine q_reg ?_
               refine q_run 1 [(64, (Value.int .i64 ((64 * (g) : Nat) : Int)))] hF1021 fun a1072 hF1073 => ?_
               refine q_one 65 (v0 := (Value.int .i64 (IntKind.i64.wrap (((64 * (g) : Nat) : Int) + ((64 : Nat) : Int))))) (v := (Value.int .i64 (((64 * (g)) + 64 : Nat) : Int))) (congrArg (Value.int .i64) (i64_eq (by omega) (by omega) (by omega))) hF1073 fun a1074 hF1075 => ?_
               refine q_run 1 [(7, (Value.int .i64 (((64 * (g)) + 64 : Nat) : Int)))] hF1075 fun a1076 hF1077 => ?_
               refine q_end ?_
               have hF1078 := hF1077.set 7 (Value.int .i64 (((64 * (g)) + 64 : Nat) : Int)) (Value.int .i64 ((64 * (g + 1) : Nat) : Int)) (by kernel_rfl) (congrArg (Value.int .i64) (by omega))
               have hF1079 := hF1078.keep [2, 3, 6, 7] [(2, (Value.pointer (some ⟨b6, 0, none⟩))), (3, (Value.slice A171 m173 cp172)), (6, (Value.slice (some ⟨b243, 0, none⟩) 8 8)), (7, (Value.int .i64 ((64 * (g + 1) : Nat) : Int)))] (by kernel_rfl)
               exact ⟨g + 1, ⟨s1007, hF1079, hS1009, h1014, h1015, (by have e7 : k7 = 8 := (by omega); have e6 : k6 = 64 := (by omega); have e5 : k5 = 64 := (by omega); subst e7 e6 e5; exact h1017), (by omega)⟩, (by omega)⟩
      ·skip
       have hc272 := of_decide_eq_false hc272
       refine q_exit 4 ?_
       refine q_seq ?_
       refine q_reg ?_
       refine r_at (q_new 27 (Op.alloc 52) hF271 s259 ((List.replicate 32 (0 : UInt8)).map bv) 52 (exec_alloc ((List.replicate 32 (0 : UInt8)).map bv) (fun _ => .inl (by kernel_rfl))) ?_)
       intro a1080 s1081 w1082 b1083 hb1084 st1085 hB1086 hF1087
       have hz1088 := hS261.size
       have ne1089 := h265.nl hb1084
       have ne1090 := h267.nl hb1084
       have hS1091 := hS261.then st1085
       refine q_end ?_
       refine q_seq ?_
       refine q_seq ?_
       refine q_reg ?_
       refine q_run 1 [(28, (Value.int .i64 ((0 : Nat) : Int)))] hF1087 fun a1092 hF1093 => ?_
       refine q_end ?_
       refine q_block 14 ?_
       have h1099 := (h265.step' st1085)
       have h1100 := (h267.step' st1085)
       refine q_loop (fun (k8 : Nat) a1094 w1095 => ∃ (s1096 : Nat → Nat), Fr a1094 300 [(2, (Value.pointer (some ⟨b6, 0, none⟩))), (6, (Value.slice (some ⟨b243, 0, none⟩) 8 8)), (27, (Value.pointer (some ⟨b1083, 0, none⟩))), (28, (Value.int .i64 ((k8 : Nat) : Int)))] ∧ Stp noM σ w s1096 w1095 ∧ Bx s1096 w1095 b6 ((List.replicate 32 (0 : UInt8)).map bv) 52 ∧ Bx s1096 w1095 b243 (([(blocksTo Mg (g)).a, (blocksTo Mg (g)).b, (blocksTo Mg (g)).c, (blocksTo Mg (g)).d, (blocksTo Mg (g)).e, (blocksTo Mg (g)).f, (blocksTo Mg (g)).g, (blocksTo Mg (g)).h] : List UInt32).map wv) 223 ∧ Bx s1096 w1095 b1083 ((outTo ([(blocksTo Mg g).a, (blocksTo Mg g).b, (blocksTo Mg g).c, (blocksTo Mg g).d, (blocksTo Mg g).e, (blocksTo Mg g).f, (blocksTo Mg g).g, (blocksTo Mg g).h] : List UInt32) (k8)).map bv) 52 ∧ k8 ≤ 32) (fun k8 => 32 - k8) 0 ?_ ?_
       ·skip
        have hF1101 := hF1093.keep [2, 6, 27, 28] [(2, (Value.pointer (some ⟨b6, 0, none⟩))), (6, (Value.slice (some ⟨b243, 0, none⟩) 8 8)), (27, (Value.pointer (some ⟨b1083, 0, none⟩))), (28, (Value.int .i64 ((0 : Nat) : Int)))] (by kernel_rfl)
        exact ⟨s1081, hF1101, hS1091, h1099, h1100, hB1086, (by omega)⟩
       ·rintro k8 a1094 w1095 ⟨s1096, hF1097, hS1098, h1102, h1103, h1104, hk8⟩
        refine q_seq ?_
        refine q_seq ?_
        refine q_reg ?_
        refine q_run 1 [(282, (Value.int .i64 ((k8 : Nat) : Int)))] hF1097 fun a1105 hF1106 => ?_
        refine q_one 283 (congrArg Value.bool (cmp_nat_lss (k8) (32))) hF1106 fun a1107 hF1108 => ?_
        refine q_end ?_
        refine q_cond 283 hF1108 (decide ((k8 : Nat) < 32)) (fun hc1109 => ?_) (fun hc1109 => ?_)
        ·skip
         have hc1109 := of_decide_eq_true hc1109
         refine q_skip ?_
         refine q_seq ?_
         refine q_block 15 ?_
         refine q_reg ?_
         refine q_run 3 [(288, (Value.int .i64 ((k8 : Nat) : Int))), (287, (Value.slice (some ⟨b243, 0, none⟩) 8 8)), (286, (Value.int .i64 ((k8 : Nat) : Int)))] hF1108 fun a1110 hF1111 => ?_
         refine q_one 289 (congrArg (Value.int .i64) (i64_quoN k8 4 (by omega))) hF1111 fun a1112 hF1113 => ?_
         refine r_at (q_val 290 (Op.indexAddr 224 (Operand.tmp 287) (Operand.tmp 289)) hF1113 (Value.pointer (some ⟨b243, k8 / 4, none⟩)) (exec_index1 (len := 8) (cap := 8) (by kernel_rfl) (kd := .i64) (k8 / 4) (by kernel_rfl) (by omega) U224 L223.s) ?_)
         intro a1114 hF1115
         have hj1116 : k8 / 4 < (([(blocksTo Mg (g)).a, (blocksTo Mg (g)).b, (blocksTo Mg (g)).c, (blocksTo Mg (g)).d, (blocksTo Mg (g)).e, (blocksTo Mg (g)).f, (blocksTo Mg (g)).g, (blocksTo Mg (g)).h] : List UInt32)).length := (by first | omega | (simp only [List.length_append, List.length_cons, List.length_nil, List.length_map, outTo_len, schedTo_len, addTo_len, kTab_len, List.length_set, List.length_replicate, eight_len, eightTo_len]; omega) | simp)
         refine r_at (q_val 291 (Op.load 223 (Operand.tmp 290)) hF1115 (wv (([(blocksTo Mg (g)).a, (blocksTo Mg (g)).b, (blocksTo Mg (g)).c, (blocksTo Mg (g)).d, (blocksTo Mg (g)).e, (blocksTo Mg (g)).f, (blocksTo Mg (g)).g, (blocksTo Mg (g)).h] : List UInt32).getD (k8 / 4) 0)) (exec_load (cs := [wv (([(blocksTo Mg (g)).a, (blocksTo Mg (g)).b, (blocksTo Mg (g)).c, (blocksTo Mg (g)).d, (blocksTo Mg (g)).e, (blocksTo Mg (g)).f, (blocksTo Mg (g)).g, (blocksTo Mg (g)).h] : List UInt32).getD (k8 / 4) 0)]) L223 (.inr rfl) (by kernel_rfl) (Bx.elemG h1103 (0 : UInt32) (k8 / 4) hj1116)) ?_)
         intro a1117 hF1118
         refine q_run 1 [(292, (Value.int .i64 ((k8 : Nat) : Int)))] hF1118 fun a1119 hF1120 => ?_
         refine q_one 293 (congrArg (Value.int .i64) (i64_remN k8 4)) hF1120 fun a1121 hF1122 => ?_
         refine q_one 294 (v0 := (Value.int .i64 (IntKind.i64.wrap (((8 : Nat) : Int) * ((k8 % 4 : Nat) : Int))))) (v := (Value.int .i64 ((8 * (k8 % 4) : Nat) : Int))) (congrArg (Value.int .i64) (i64_eq (by omega) (by omega) (by omega))) hF1122 fun a1123 hF1124 => ?_
         refine q_one 295 (v0 := (Value.int .i64 (IntKind.i64.wrap (((24 : Nat) : Int) - ((8 * (k8 % 4) : Nat) : Int))))) (v := (Value.int .i64 ((24 - (8 * (k8 % 4)) : Nat) : Int))) (congrArg (Value.int .i64) (i64_eq (by omega) (by omega) (by omega))) hF1124 fun a1125 hF1126 => ?_
         refine r_at (q_val 296 (Op.binOp BinOp.shr 223 (Operand.tmp 291) (Operand.tmp 295) 3) hF1126 (wv ((([(blocksTo Mg (g)).a, (blocksTo Mg (g)).b, (blocksTo Mg (g)).c, (blocksTo Mg (g)).d, (blocksTo Mg (g)).e, (blocksTo Mg (g)).f, (blocksTo Mg (g)).g, (blocksTo Mg (g)).h] : List UInt32).getD (k8 / 4) 0) >>> (24 - (8 * (k8 % 4))).toUInt32)) (exec_shr32 (n := ([(blocksTo Mg (g)).a, (blocksTo Mg (g)).b, (blocksTo Mg (g)).c, (blocksTo Mg (g)).d, (blocksTo Mg (g)).e, (blocksTo Mg (g)).f, (blocksTo Mg (g)).g, (blocksTo Mg (g)).h] : List UInt32).getD (k8 / 4) 0) (k := .i64) (s := ((24 - (8 * (k8 % 4)) : Nat) : Int)) (by kernel_rfl) (by kernel_rfl) (by omega) (by omega) (24 - (8 * (k8 % 4))) rfl) ?_)
         intro a1127 hF1128
         refine q_one 297 (congrArg (Value.int .u8) (u32_u8 ((([(blocksTo Mg (g)).a, (blocksTo Mg (g)).b, (blocksTo Mg (g)).c, (blocksTo Mg (g)).d, (blocksTo Mg (g)).e, (blocksTo Mg (g)).f, (blocksTo Mg (g)).g, (blocksTo Mg (g)).h] : List UInt32).getD (k8 / 4) 0) >>> (24 - (8 * (k8 % 4))).toUInt32))) hF1128 fun a1129 hF1130 => ?_
         refine r_at (q_val 298 (Op.indexAddr 52 (Operand.tmp 27) (Operand.tmp 286)) hF1130 (Value.pointer (some ⟨b1083, k8, none⟩)) (exec_indexP1 (N := 32) (by kernel_rfl) (kd := .i64) k8 (by kernel_rfl) (by omega) U52 L5.s) ?_)
         intro a1131 hF1132
         have hj1138 : k8 < (outTo ([(blocksTo Mg g).a, (blocksTo Mg g).b, (blocksTo Mg g).c, (blocksTo Mg g).d, (blocksTo Mg g).e, (blocksTo Mg g).f, (blocksTo Mg g).g, (blocksTo Mg g).h] : List UInt32) (k8)).length := (by first | omega | (simp only [List.length_append, List.length_cons, List.length_nil, List.length_map, outTo_len, schedTo_len, addTo_len, kTab_len, List.length_set, List.length_replicate, eight_len, eightTo_len]; omega) | simp)
         refine r_at (q_storeA bv (Operand.tmp 298) (Operand.tmp 297) hF1132 h1104 k8 hj1138 (((([(blocksTo Mg (g)).a, (blocksTo Mg (g)).b, (blocksTo Mg (g)).c, (blocksTo Mg (g)).d, (blocksTo Mg (g)).e, (blocksTo Mg (g)).f, (blocksTo Mg (g)).g, (blocksTo Mg (g)).h] : List UInt32).getD (k8 / 4) 0) >>> (24 - (8 * (k8 % 4))).toUInt32).toUInt8) L5 ?_)
         intro a1133 w1134 st1135 hB1136 hF1137
         have hS1139 := hS1098.and st1135 (fun b e => by subst e; omega)
         refine q_end ?_
         refine q_reg ?_
         refine q_run 1 [(284, (Value.int .i64 ((k8 : Nat) : Int)))] hF1137 fun a1140 hF1141 => ?_
         refine q_one 285 (v0 := (Value.int .i64 (IntKind.i64.wrap (((k8 : Nat) : Int) + ((1 : Nat) : Int))))) (v := (Value.int .i64 ((k8 + 1 : Nat) : Int))) (congrArg (Value.int .i64) (i64_eq (by omega) (by omega) (by omega))) hF1141 fun a1142 hF1143 => ?_
         refine q_run 1 [(28, (Value.int .i64 ((k8 + 1 : Nat) : Int)))] hF1143 fun a1144 hF1145 => ?_
         refine q_end ?_
         have h1146 := (h1102.step st1135 (fun e => absurd e (by omega)))
         have h1147 := (h1103.step st1135 (fun e => absurd e (by omega)))
         have hF1148 := hF1145.keep [2, 6, 27, 28] [(2, (Value.pointer (some ⟨b6, 0, none⟩))), (6, (Value.slice (some ⟨b243, 0, none⟩) 8 8)), (27, (Value.pointer (some ⟨b1083, 0, none⟩))), (28, (Value.int .i64 ((k8 + 1 : Nat) : Int)))] (by kernel_rfl)
         exact ⟨k8 + 1, ⟨s1096, hF1148, hS1139, h1146, h1147, (by rw [outTo_comm]; exact hB1136), (by omega)⟩, by omega⟩
        ·skip
         have hc1109 := of_decide_eq_false hc1109
         refine q_exit 14 ?_
         refine q_seq ?_
         refine q_reg ?_
         refine r_at (q_val 299 (Op.load 52 (Operand.tmp 27)) hF1108 (Value.agg ((outTo ([(blocksTo Mg g).a, (blocksTo Mg g).b, (blocksTo Mg g).c, (blocksTo Mg g).d, (blocksTo Mg g).e, (blocksTo Mg g).f, (blocksTo Mg g).g, (blocksTo Mg g).h] : List UInt32) (k8)).map bv).toArray) (exec_loadAll bv L52 h1104 (by first | rfl | simp only [List.length_append, List.length_cons, List.length_nil, List.length_map, outTo_len, schedTo_len, addTo_len, kTab_len, List.length_set, List.length_replicate, eight_len, eightTo_len]) (by kernel_rfl)) ?_)
         intro a1149 hF1150
         refine r_at (q_storeAll bv (Operand.tmp 2) (Operand.tmp 299) hF1150 h1102 (outTo ([(blocksTo Mg g).a, (blocksTo Mg g).b, (blocksTo Mg g).c, (blocksTo Mg g).d, (blocksTo Mg g).e, (blocksTo Mg g).f, (blocksTo Mg g).g, (blocksTo Mg g).h] : List UInt32) (k8)) 32 L52 (by simp only [List.length_append, List.length_cons, List.length_nil, List.length_map, outTo_len, schedTo_len, addTo_len, kTab_len, List.length_set, List.length_replicate, eight_len, eightTo_len]) (by simp) (fun _ => rfl) ?_)
         intro a1151 w1152 st1153 hB1154 hF1155
         have hS1156 := hS1098.and st1153 (fun b e => by subst e; omega)
         refine q_end ?_
         refine q_ret ?_
         try dsimp only [Exit.then, Exit.inBlock]
         refine f_ret hF1155 [.cell 2 52] (by kernel_rfl) [.agg ((outTo ([(blocksTo Mg g).a, (blocksTo Mg g).b, (blocksTo Mg g).c, (blocksTo Mg g).d, (blocksTo Mg g).e, (blocksTo Mg g).f, (blocksTo Mg g).g, (blocksTo Mg g).h] : List UInt32) (k8)).map bv).toArray] (.cell (hF1155.h 2 _ (by kernel_rfl)) (run_loadVar_cs (cs := (outTo ([(blocksTo Mg g).a, (blocksTo Mg g).b, (blocksTo Mg g).c, (blocksTo Mg g).d, (blocksTo Mg g).e, (blocksTo Mg g).f, (blocksTo Mg g).g, (blocksTo Mg g).h] : List UInt32) (k8)).map bv) (by rw [List.length_map, outTo_len]; exact L52) (.inl rfl) (fun j v hv => by rw [Nat.zero_add, hB1154.cell]; exact hv)) .nil) _ rfl s1096 hS1156 ?_
         subst hMg
         have hN : (ofI ((B.length : Nat) : Int)) * 8 = UInt64.ofNat B.length * 8 := by rw [ofI_nat _ (by omega)]
         have e9 := sum_end hk2e hk3e hN (k4 := g) (k5 := k8) (by omega) (by omega) (by omega) _ rfl
         rw [e9]
         rfl
end Go.Proofs.YtnicmjipbnhciaaDoor.E
set_option linter.unusedVariables false
set_option linter.unusedSimpArgs false
set_option maxRecDepth 100000
set_option maxHeartbeats 2000000
namespace Go.Proofs.YtnicmjipbnhciaaDoor.E
open Go Go.RowKit
open Go.Proofs
theorem bytesEq_calls (σ : Nat → Nat) (w : World) {v0 v1 : Value} {la lb : List UInt8} (h0 : Rd tU8 σ w v0 la) (h1 : Rd tU8 σ w v1 lb) :
  Ctr Tryd.prog 61 [v0, v1] noM σ w (fun σ' w' v => v = .bool (decide (la = lb))) := by
 obtain ⟨A0, c0, rfl, hl0⟩ := h0.form
 obtain ⟨A1, c1, rfl, hl1⟩ := h1.form
 refine ctr_enter Tryd.func61 c61 (by kernel_rfl) 10 (by kernel_rfl) (Nat.le_of_ble_eq_true (by kernel_rfl)) [(0, (Value.slice A0 la.length c0)), (1, (Value.slice A1 lb.length c1))] (by kernel_rfl) ?_
 intro a hF1
 have hS2 := Stp.refl noM σ w
 refine q_seq ?_
 refine q_reg ?_
 refine q_run 1 [(4, (Value.bool false))] hF1 fun a3 hF4 => ?_
 refine q_end ?_
 refine q_seq ?_
 refine q_reg ?_
 refine q_run 1 [(5, (Value.slice A0 la.length c0))] hF4 fun a5 hF6 => ?_
 refine r_at (q_val 6 (Op.convert 22 9 (Operand.tmp 5)) hF6 (sv la) (exec_b2s U22 U5 U9 (by kernel_rfl) h0) ?_)
 intro a7 hF8
 refine q_run 1 [(7, (Value.slice A1 lb.length c1))] hF8 fun a9 hF10 => ?_
 refine r_at (q_val 8 (Op.convert 22 9 (Operand.tmp 7)) hF10 (sv lb) (exec_b2s U22 U5 U9 (by kernel_rfl) h1) ?_)
 intro a11 hF12
 refine q_one 9 (v0 := (Value.bool ((⟨(la).toArray⟩ : ByteArray).toList == (⟨(lb).toArray⟩ : ByteArray).toList))) (v := (Value.bool (decide (la = lb)))) (congrArg Value.bool (str_eql _ _)) hF12 fun a13 hF14 => ?_
 refine q_run 1 [(4, (Value.bool (decide (la = lb))))] hF14 fun a15 hF16 => ?_
 refine q_end ?_
 refine q_ret ?_
 try dsimp only [Exit.then, Exit.inBlock]
 refine f_ret1 hF16 4 (by kernel_rfl) (Value.bool (decide (la = lb))) (by kernel_rfl) σ hS2 ?_
 rfl
theorem rd_none {α : Type} {T : Ty α} {σ : Nat → Nat} {w : World} {xs : List α} {n c : Nat} (h : Rd T σ w (.slice none n c) xs) : xs = [] := by
  obtain ⟨a, cap, e, _, _, h⟩ := h
  injection e with e1 _ _
  subst e1
  rcases h with h | ⟨b, o, cs, e2, _⟩
  · exact h
  · cases e2
theorem cloneN_calls (σ : Nat → Nat) (w : World) {la : List UInt8} {c0 : Nat} (h0 : Rd tU8 σ w (Value.slice none la.length c0) la) (hl : la.length ≤ 1000000) :
  Ctr Tryd.prog 97 [(Value.slice none la.length c0)] noM σ w (fun σ' w' v => Own tU8 5 w.heap.size σ' w' v la) := by
 refine ctr_enter Tryd.func97 c97 (by kernel_rfl) 8 (by kernel_rfl) (Nat.le_of_ble_eq_true (by kernel_rfl)) [(0, (Value.slice none la.length c0))] (by kernel_rfl) ?_
 intro a hF1
 have hS2 := Stp.refl noM σ w
 refine q_seq ?_
 refine q_reg ?_
 refine q_run 1 [(2, (Value.slice none 0 0))] hF1 fun a3 hF4 => ?_
 refine q_end ?_
 refine q_seq ?_
 refine q_seq ?_
 refine q_reg ?_
 refine q_run 2 [(4, (Value.bool true)), (3, (Value.slice none la.length c0))] hF4 fun a5 hF6 => ?_
 refine q_end ?_
 refine q_true 4 hF6 ?_
 refine q_seq ?_
 refine q_reg ?_
 refine q_run 1 [(2, (Value.slice none 0 0))] hF6 fun a7 hF8 => ?_
 refine q_end ?_
 refine q_ret ?_
 try dsimp only [Exit.then, Exit.inBlock]
 refine f_ret1 hF8 2 (by kernel_rfl) (Value.slice none 0 0) (by kernel_rfl) σ hS2 ?_
 rw [rd_none h0]
 exact Own.nil _ _ _ _ _
theorem cloneS_calls (σ : Nat → Nat) (w : World) {ad : Addr} {la : List UInt8} {c0 : Nat} (h0 : Rd tU8 σ w (Value.slice (some ad) la.length c0) la) (hl : la.length ≤ 1000000) :
  Ctr Tryd.prog 97 [(Value.slice (some ad) la.length c0)] noM σ w (fun σ' w' v => Own tU8 5 w.heap.size σ' w' v la) := by
 refine ctr_enter Tryd.func97 c97 (by kernel_rfl) 8 (by kernel_rfl) (Nat.le_of_ble_eq_true (by kernel_rfl)) [(0, (Value.slice (some ad) la.length c0))] (by kernel_rfl) ?_
 intro a hF1
 have hS2 := Stp.refl noM σ w
 refine q_seq ?_
 refine q_reg ?_
 refine q_run 1 [(2, (Value.slice none 0 0))] hF1 fun a3 hF4 => ?_
 refine q_end ?_
 refine q_seq ?_
 refine q_seq ?_
 refine q_reg ?_
 refine q_run 2 [(4, (Value.bool false)), (3, (Value.slice (some ad) la.length c0))] hF4 fun a5 hF6 => ?_
 refine q_end ?_
 refine q_false 4 hF6 ?_
 refine q_skip ?_
 refine q_seq ?_
 refine q_reg ?_
 refine r_at (q_lit tU8 5 22 5 0 (#[]) hF6 σ [] [] rfl (fun o e => by simp only [execOp, e]; kernel_rfl) ?_)
 intro a7 s8 w9 g10 hg11 st12 hO13 hF14
 have hz15 := hS2.size
 have hS16 := hS2.then st12
 have hO17 : Own tU8 5 w.heap.size s8 w9 (Value.slice (some ⟨g10, 0, none⟩) 0 0) ([] : List UInt8) := (hO13.le (by omega : w.heap.size ≤ _))
 refine q_run 1 [(6, (Value.slice (some ad) la.length c0))] hF14 fun a19 hF20 => ?_
 have h21 := h0.step hS16
 have hz31 := hS16.size
 have hb30 : (([] : List UInt8)).length + (la : List _).length ≤ 1000000 := (by simpa using hl)
 refine r_at (q_app tU8 S22 7 (Operand.tmp 5) (Operand.tmp 6) hF20 hO17 h21 (app_small hb30 (by decide)) (by omega) hz31 ?_)
 intro a22 s23 w24 v25 st26 hO27 hn28 hF29
 obtain ⟨A34, m37, c35, rfl, hl36⟩ := hO27.formL
 have hS38 := hS16.and st26 (fun b e => hO17.ge e)
 refine q_run 1 [(2, (Value.slice A34 m37 c35))] hF29 fun a40 hF41 => ?_
 refine q_end ?_
 refine q_ret ?_
 try dsimp only [Exit.then, Exit.inBlock]
 refine f_ret1 hF41 2 (by kernel_rfl) (Value.slice A34 m37 c35) (by kernel_rfl) s23 hS38 ?_
 have h9 := hO27
 simpa using h9
theorem clone_calls (σ : Nat → Nat) (w : World) {v0 : Value} {la : List UInt8} (h0 : Rd tU8 σ w v0 la) (hl : la.length ≤ 1000000) : Ctr Tryd.prog 97 [v0] noM σ w (fun σ' w' v => Own tU8 5 w.heap.size σ' w' v la) := by
  obtain ⟨A0, c0, rfl, _⟩ := h0.form
  cases A0 with
  | none => exact cloneN_calls σ w h0 hl
  | some ad => exact cloneS_calls σ w h0 hl
theorem bytesCmp_calls (σ : Nat → Nat) (w : World) {v0 v1 : Value} {la lb : List UInt8} (h0 : Rd tU8 σ w v0 la) (h1 : Rd tU8 σ w v1 lb) :
  Ctr Tryd.prog 60 [v0, v1] noM σ w (fun σ' w' v => v = iv (Lib.compareBytes la lb)) := by
 obtain ⟨A0, c0, rfl, hl0⟩ := h0.form
 obtain ⟨A1, c1, rfl, hl1⟩ := h1.form
 refine ctr_enter Tryd.func60 c60 (by kernel_rfl) 8 (by kernel_rfl) (Nat.le_of_ble_eq_true (by kernel_rfl)) [(0, (Value.slice A0 la.length c0)), (1, (Value.slice A1 lb.length c1))] (by kernel_rfl) ?_
 intro a hF1
 have hS2 := Stp.refl noM σ w
 refine q_seq ?_
 refine q_reg ?_
 refine q_run 1 [(4, (Value.int .i64 ((0 : Nat) : Int)))] hF1 fun a3 hF4 => ?_
 refine q_end ?_
 refine q_seq ?_
 refine q_reg ?_
 refine q_run 2 [(6, (Value.slice A1 lb.length c1)), (5, (Value.slice A0 la.length c0))] hF4 fun a5 hF6 => ?_
 refine r_at (q_val 7 (Op.call (Call.mk (Callee.value (Operand.func 103)) #[(Operand.tmp 5), (Operand.tmp 6)] #[22, 22])) hF6 (Value.int .i64 (Lib.compareBytes la lb)) (exec_ext [(Value.slice A0 la.length c0), (Value.slice A1 lb.length c1)] (by kernel_rfl) (run_ext (e := Extern.BytealgCompare.compare) Tryd.func103 (by kernel_rfl) (by kernel_rfl) (by kernel_rfl) (by kernel_rfl) (run_compareB h0 h1))) ?_)
 intro a7 hF8
 refine q_run 1 [(4, (Value.int .i64 (Lib.compareBytes la lb)))] hF8 fun a9 hF10 => ?_
 refine q_end ?_
 refine q_ret ?_
 try dsimp only [Exit.then, Exit.inBlock]
 refine f_ret1 hF10 4 (by kernel_rfl) (Value.int .i64 (Lib.compareBytes la lb)) (by kernel_rfl) σ hS2 ?_
 rfl
end Go.Proofs.YtnicmjipbnhciaaDoor.E
set_option linter.unusedVariables false
set_option linter.unusedSimpArgs false
set_option maxRecDepth 100000
namespace Go.Proofs.YtnicmjipbnhciaaDoor.X
open Go Go.RowKit Go.Proofs Go.Proofs.YtnicmjipbnhciaaDoor.E
def tabP (g : Nat) : PP := ⟨fun σ w _ => Seg σ w g 0 (kTab.map wv), fun st h => h.step st⟩
def wordsP : PP := tabP 3
def rootsP : PP := tabP 1
theorem hk_of {l : List UInt8} (h : l.length = 32) : hk 32 l = l.map bv := by
  unfold hk
  refine List.ext_getElem (by simp [h]) fun i h1 h2 => ?_
  simp at h1 h2
  simp [List.getD_eq_getElem?_getD, h2]
theorem sum_ok (ps : List (List UInt8)) (hl : ps.flatten.length ≤ 100000) : FOk EN 98 ⟨[.pr wordsP, .rd 22 ps], [.n 1], Unit, fun _ => ([.pr wordsP, .rd 22 ps], .a [.h 32 (sum256 ps.flatten)]), fun _ => True⟩ := by
  refine fok_val (by kernel_rfl) rfl fun ν F σ w S => ?_
  refine (sum_calls σ w (S.ent 1 _ rfl) hl (S.ent 0 _ rfl)).mono (fun _ _ h => h) fun σ' w' v _ h => ?_
  rw [h]
  simp only [den, denC, List.append_nil, hk_of (sum256_len _)]
theorem rsum_ok (B : List UInt8) (hl : B.length ≤ 100000) : FOk EN 78 ⟨[.pr rootsP, .rd 5 B], [.n 1], Unit, fun _ => ([.pr rootsP, .rd 5 B], .a [.h 32 (sum256 B)]), fun _ => True⟩ := by
  refine fok_val (by kernel_rfl) rfl fun ν F σ w S => ?_
  refine (refSum_calls σ w (S.ent 1 _ rfl) hl (S.ent 0 _ rfl)).mono (fun _ _ h => h) fun σ' w' v _ h => ?_
  rw [h]
  simp only [den, denC, List.append_nil, hk_of (sum256_len _)]
theorem beq_ok (a b : List UInt8) : FOk EN 61 ⟨[.rd 5 a, .rd 5 b], [.n 0, .n 1], Unit, fun _ => ([.rd 5 a, .rd 5 b], .b (decide (a = b))), fun _ => True⟩ := by
  refine fok_val (by kernel_rfl) rfl fun ν F σ w S => ?_
  exact (bytesEq_calls σ w (S.ent 0 _ rfl) (S.ent 1 _ rfl))
theorem bcmp_ok (a b : List UInt8) : FOk EN 60 ⟨[.rd 5 a, .rd 5 b], [.n 0, .n 1], Unit, fun _ => ([.rd 5 a, .rd 5 b], .i (Lib.compareBytes a b)), fun _ => True⟩ := by
  refine fok_val (by kernel_rfl) rfl fun ν F σ w S => ?_
  exact (bytesCmp_calls σ w (S.ent 0 _ rfl) (S.ent 1 _ rfl))
theorem clone_ok (a : List UInt8) (hl : a.length ≤ 1000000) : FOk EN 97 ⟨[.rd 5 a], [.n 0], Unit, fun _ => ([.rd 5 a, .ow 5 a], .n 1), fun _ => True⟩ :=
  fok_own (by kernel_rfl) fun ν F σ w S => clone_calls σ w (S.ent 0 _ rfl) hl
end Go.Proofs.YtnicmjipbnhciaaDoor.X
set_option linter.unusedVariables false
set_option linter.unusedSimpArgs false
set_option maxRecDepth 100000
namespace Go.Proofs.YtnicmjipbnhciaaDoor.X
open Go Go.RowKit Go.Proofs Go.Proofs.YtnicmjipbnhciaaDoor.E
noncomputable def c82 : Code := (Tryd.f82.body).getD .skip
end Go.Proofs.YtnicmjipbnhciaaDoor.X
set_option linter.unusedVariables false
set_option linter.unusedSimpArgs false
set_option maxRecDepth 100000
namespace Go.Proofs.YtnicmjipbnhciaaDoor.X
open Go Go.RowKit Go.Proofs Go.Proofs.YtnicmjipbnhciaaDoor.E
def hi (n : Nat) : UInt8 := ofI8 ((n : Int) / 256)
def lo (n : Nat) : UInt8 := ofI8 (n : Int)
end Go.Proofs.YtnicmjipbnhciaaDoor.X
set_option linter.unusedVariables false
set_option linter.unusedSimpArgs false
set_option maxRecDepth 100000
namespace Go.Proofs.YtnicmjipbnhciaaDoor.X
open Go Go.RowKit Go.Proofs Go.Proofs.YtnicmjipbnhciaaDoor.E
noncomputable def c114 : Code := (Tryd.f114.body).getD .skip
def eightTo (n : UInt64) : Nat → List UInt8
  | 0 => []
  | k + 1 => eightTo n k ++ [(n >>> (56 - 8 * (k : Int)).toNat.toUInt64).toUInt8]
theorem eightTo_len (n : UInt64) : ∀ k, (eightTo n k).length = k
  | 0 => rfl
  | k + 1 => by unfold eightTo; have := eightTo_len n k; simp; omega
theorem eight_ok (n : UInt64) : FOk EN 114 ⟨[], [.u n], Unit, fun _ => ([.ow 5 (eightTo n 8)], .n 0), fun _ => True⟩ := by
 refine v_fun Tryd.f114 c114 MX (fun ν F σ w => ?_) Tryd.func114
 refine v_nl ?_
 refine v_loop (fun k : Nat => ([(3, .n 1), (4, .i k)], [.ow 5 (eightTo n k)])) (fun k => k ≤ 8) (fun k => 8 - k) 0 [0] (((0 : Int) = (↑(0 : Nat) : Int)) ∧ ([] = eightTo n 0)) ⟨rfl, rfl⟩ (by decide) (fun k hk1 => ?_)
 have hl := eightTo_len n k
 refine v_if (decide ((↑k : Int) < 8)) True trivial (fun h2 => ?_) (fun h2 => ?_)
 ·have h2 := of_decide_eq_true h2
  exact v_back (k + 1) [3] ((I64 (8 * ↑k)) ∧ (I64 (56 - 8 * ↑k)) ∧ (0 ≤ 56 - 8 * (↑k : Int) ∧ 56 - 8 * (↑k : Int) < 64) ∧ ((eightTo n k).length + 1 ≤ 1000000) ∧ (I64 (↑k + 1)) ∧ ((↑k : Int) + 1 = (↑(k + 1) : Int)) ∧ (eightTo n k ++ [(n >>> (56 - 8 * (↑k : Int)).toNat.toUInt64).toUInt8] = eightTo n (k + 1))) ⟨(by (unfold I64; omega)), (by (unfold I64; omega)), (by omega), (by omega), (by (unfold I64; omega)), rfl, rfl⟩ (show k + 1 ≤ 8 ∧ 8 - (k + 1) < 8 - k from (by omega))
 ·have h2 := of_decide_eq_false h2
  refine v_leave (.ex 0) True trivial ?_
  exact v_ret () [1] ((eightTo n k = eightTo n 8)) (by (congr 1; omega)) trivial
end Go.Proofs.YtnicmjipbnhciaaDoor.X
set_option linter.unusedVariables false
set_option linter.unusedSimpArgs false
set_option maxRecDepth 100000
namespace Go.Proofs.YtnicmjipbnhciaaDoor.X
open Go Go.RowKit Go.Proofs Go.Proofs.YtnicmjipbnhciaaDoor.E
inductive Tr where
  | leaf (k v : List UInt8)
  | node (l r : Tr)
def z32 : List UInt8 := List.replicate 32 0
def nsum (h : Int) (s : UInt64) (k v l r : List UInt8) : List UInt8 :=
  if h = 0 then sum256 ([0, ofI8 (k.length : Int)] ++ k ++ sum256 v) else sum256 ([1, ofI8 h] ++ eightTo s 8 ++ l ++ r)
namespace Tr
def height : Tr → Int
  | leaf _ _ => 0
  | node l r => 1 + max l.height r.height
def size : Tr → UInt64
  | leaf _ _ => 1
  | node l r => l.size + r.size
def least : Tr → List UInt8
  | leaf k _ => k
  | node l _ => l.least
def key : Tr → List UInt8
  | leaf k _ => k
  | node _ r => r.least
def hash : Tr → List UInt8
  | leaf k v => nsum 0 1 k v z32 z32
  | node l r => nsum (1 + max l.height r.height) (l.size + r.size) r.least [] l.hash r.hash
end Tr
def lfC (k v : List UInt8) (b : Nat) : List SV := [.n b, .n (b + 1), .i 0, .u 1, .h 32 z32, .h 32 z32, .h 32 (Tr.leaf k v).hash, .v (.pointer none), .v (.pointer none)]
def ndC (l r : Tr) (b : Nat) : List SV := [.n b, .v (.slice none 0 0), .i (Tr.node l r).height, .u (Tr.node l r).size, .h 32 l.hash, .h 32 r.hash, .h 32 (Tr.node l r).hash, .p (b + 1) 0, .p (b + 2) 0]
def ns3 (x y z : Value) : NV := fun n => match n with | 0 => x | 1 => y | 2 => z | _ => .bool false
def At (σ : Nat → Nat) (w : World) : Tr → Value → Prop
  | .leaf k v, x => ∃ b o kv vv, x = .pointer (some ⟨b, o, none⟩) ∧ Rd tU8 σ w kv k ∧ Rd tU8 σ w vv v ∧ Seg σ w b o (denC (ns3 kv vv (.bool false)) (lfC k v 0))
  | .node l r, x => ∃ b o kv lv rv, x = .pointer (some ⟨b, o, none⟩) ∧ Rd tU8 σ w kv (Tr.node l r).key ∧ At σ w l lv ∧ At σ w r rv ∧ Seg σ w b o (denC (ns3 kv lv rv) (ndC l r 0))
theorem At.ptr {σ : Nat → Nat} {w : World} {t : Tr} {x : Value} (h : At σ w t x) : ∃ b o, x = .pointer (some ⟨b, o, none⟩) := by
  cases t with
  | leaf k v => obtain ⟨b, o, _, _, e, _⟩ := h; exact ⟨b, o, e⟩
  | node l r => obtain ⟨b, o, _, _, _, e, _⟩ := h; exact ⟨b, o, e⟩
theorem At.step {M : Nat → Prop} {σ σ' : Nat → Nat} {w w' : World} (st : Stp M σ w σ' w') : ∀ {t : Tr} {x : Value}, At σ w t x → At σ' w' t x
  | .leaf _ _, _, ⟨b, o, kv, vv, e, h1, h2, h3⟩ => ⟨b, o, kv, vv, e, h1.step st, h2.step st, h3.step st⟩
  | .node l r, _, ⟨b, o, kv, lv, rv, e, h1, h2, h3, h4⟩ => ⟨b, o, kv, lv, rv, e, h1.step st, At.step st h2, At.step st h3, h4.step st⟩
def PT (t : Tr) : PP := ⟨fun σ w v => At σ w t v, fun st h => h.step st⟩
theorem rd_one {σ : Nat → Nat} {w : World} {v : Value} {xs : List UInt8} (h : Rd tU8 σ w v xs) : v.oneCell' = true := by obtain ⟨a, c, e, _⟩ := h.form; subst e; rfl
theorem ns3_one {x y z : Value} (hx : x.oneCell' = true) (hy : y.oneCell' = true) (hz : z.oneCell' = true) : ∀ n, (ns3 x y z n).oneCell' = true
  | 0 => hx
  | 1 => hy
  | 2 => hz
  | _ + 3 => rfl
theorem open_leaf (k v : List UInt8) : Opens (G := GT) (PT (.leaf k v)) (fun _ => [.rd 5 k, .rd 5 v]) (lfC k v) := by
  rintro base σ w x ⟨b, o, kv, vv, e, h1, h2, h3⟩
  refine ⟨ns3 kv vv (.bool false), ns3_one (rd_one h1) (rd_one h2) rfl, fun ν hν => ⟨fun i en hi => ?_, b, o, e, ?_⟩⟩
  · match i, hi with
    | 0, hi => simp only [List.getElem?_cons_zero, Option.some.injEq] at hi; subst hi; exact h1
    | 1, hi => simp only [List.getElem?_cons_succ, List.getElem?_cons_zero, Option.some.injEq] at hi; subst hi; exact h2
    | i + 2, hi => simp at hi
  · have e0 := hν 0 (by simp)
    have e1 := hν 1 (by simp)
    simp only [Nat.add_zero] at e0
    simpa [lfC, denC, den, e0, e1] using h3
theorem open_node (l r : Tr) : Opens (G := GT) (PT (.node l r)) (fun _ => [.rd 5 (Tr.node l r).key, .pn (PT l) false false, .pn (PT r) false false]) (ndC l r) := by
  rintro base σ w x ⟨b, o, kv, lv, rv, e, h1, h2, h3, h4⟩
  obtain ⟨lb, lo, le⟩ := h2.ptr
  obtain ⟨rb, ro, re⟩ := h3.ptr
  refine ⟨ns3 kv lv rv, ns3_one (rd_one h1) (by rw [le]; rfl) (by rw [re]; rfl), fun ν hν => ⟨fun i en hi => ?_, b, o, e, ?_⟩⟩
  · match i, hi with
    | 0, hi => simp only [List.getElem?_cons_zero, Option.some.injEq] at hi; subst hi; exact h1
    | 1, hi => simp only [List.getElem?_cons_succ, List.getElem?_cons_zero, Option.some.injEq] at hi; subst hi; exact ⟨h2, by simp, fun _ => ⟨lb, lo, le⟩⟩
    | 2, hi => simp only [List.getElem?_cons_succ, List.getElem?_cons_zero, Option.some.injEq] at hi; subst hi; exact ⟨h3, by simp, fun _ => ⟨rb, ro, re⟩⟩
    | i + 3, hi => simp at hi
  · have e0 := hν 0 (by simp)
    have e1 := hν 1 (by simp)
    have e2 := hν 2 (by simp)
    simp only [Nat.add_zero] at e0
    simpa [ndC, denC, den, e0, e1, e2, Tr.key] using h4
theorem close_leaf (k v : List UInt8) : Closes (G := GT) (PT (.leaf k v)) [.rd 5 k, .rd 5 v] (lfC k v 0) := by
  intro ν σ w x b hE e hS
  refine ⟨b, 0, ν 0, ν 1, e, hE 0 _ rfl, hE 1 _ rfl, ?_⟩
  simpa [lfC, denC, den, ns3] using hS
theorem close_node (l r : Tr) : Closes (G := GT) (PT (.node l r)) [.rd 5 (Tr.node l r).key, .pn (PT l) false false, .pn (PT r) false false] (ndC l r 0) := by
  intro ν σ w x b hE e hS
  refine ⟨b, 0, ν 0, ν 1, ν 2, e, hE 0 _ rfl, (hE 1 _ rfl).1, (hE 2 _ rfl).1, ?_⟩
  simpa [ndC, denC, den, ns3] using hS
end Go.Proofs.YtnicmjipbnhciaaDoor.X
set_option linter.unusedVariables false
set_option linter.unusedSimpArgs false
set_option maxRecDepth 100000
namespace Go.Proofs.YtnicmjipbnhciaaDoor.X
open Go Go.RowKit Go.Proofs Go.Proofs.YtnicmjipbnhciaaDoor.E
noncomputable def c133 : Code := (Tryd.f133.body).getD .skip
theorem eightTo_set (n : UInt64) (k : Nat) (h : k < 8) : ((eightTo n k ++ List.replicate (8 - k) 0).set k (n >>> (56 - 8 * (k : Int)).toNat.toUInt64).toUInt8) = eightTo n (k + 1) ++ List.replicate (8 - (k + 1)) 0 := by
  have hl := eightTo_len n k
  rw [List.set_append_right _ _ (by omega), hl, Nat.sub_self, show 8 - k = (8 - (k + 1)) + 1 by omega, List.replicate_succ, List.set_cons_zero, eightTo, List.append_assoc]
  rfl
theorem size_ok (n : UInt64) : FOk EN 133 ⟨[], [.u n], Unit, fun _ => ([.rd 5 (eightTo n 8)], .n 0), fun _ => True⟩ := by
 refine v_fun Tryd.f133 c133 MX (fun ν F σ w => ?_) Tryd.func133
 refine v_nl ?_
 refine v_loop (fun k : Nat => ([(3, .p 2 0), (5, .i k)], [.bx 266 [.h 8 (eightTo n k ++ List.replicate (8 - k) 0)]])) (fun k => k ≤ 8) (fun k => 8 - k) 0 [1] (((0 : Int) = (↑(0 : Nat) : Int)) ∧ (List.replicate 8 0 = eightTo n 0 ++ List.replicate (8 - 0) 0)) ⟨rfl, rfl⟩ (by decide) (fun k hk1 => ?_)
 have hl := eightTo_len n k
 refine v_if (decide ((↑k : Int) < 8)) True trivial (fun h2 => ?_) (fun h2 => ?_)
 ·have h2 := of_decide_eq_true h2
  exact v_back (k + 1) [2] ((I64 (8 * ↑k)) ∧ (I64 (56 - 8 * ↑k)) ∧ (0 ≤ 56 - 8 * (↑k : Int) ∧ 56 - 8 * (↑k : Int) < 64) ∧ ((0 : Int) ≤ (↑k : Int) ∧ (↑k : Int) < (↑(8 : Nat) : Int)) ∧ (0 + (↑k : Int).toNat < 8) ∧ (0 + (↑k : Int).toNat < (eightTo n k ++ List.replicate (8 - k) 0).length) ∧ (I64 (↑k + 1)) ∧ ((↑k : Int) + 1 = (↑(k + 1) : Int)) ∧ ((eightTo n k ++ List.replicate (8 - k) 0).set (0 + (↑k : Int).toNat) (n >>> (56 - 8 * (↑k : Int)).toNat.toUInt64).toUInt8 = eightTo n (k + 1) ++ List.replicate (8 - (k + 1)) 0)) ⟨(by (unfold I64; omega)), (by (unfold I64; omega)), (by omega), (by omega), (by omega), (by (simp; omega)), (by (unfold I64; omega)), rfl, (by (simpa using eightTo_set n k (by omega)))⟩ (show k + 1 ≤ 8 ∧ 8 - (k + 1) < 8 - k from (by omega))
 ·have h2 := of_decide_eq_false h2
  refine v_leave (.ex 0) True trivial ?_
  exact v_ret () [3] (((eightTo n k ++ List.replicate (8 - k) 0).length = 8 ∧ 8 ≤ 1000000) ∧ (eightTo n k ++ List.replicate (8 - k) 0 = eightTo n 8)) ⟨(by (simp; omega)), (by (obtain rfl : k = 8 := (by omega); simp))⟩ trivial
noncomputable def c109 : Code := (Tryd.f109.body).getD .skip
theorem thash_ok (h : Int) (s : UInt64) (k v l r : List UInt8) (h0 : 0 ≤ h ∧ h < 1000) (hk : k.length ≤ 1000) (hv : v.length ≤ 1000) (hl : l.length = 32) (hr : r.length = 32) :
  FOk EN 109 ⟨[.pr wordsP, .rd 5 k, .rd 5 v], [.a [.n 1, .n 2, .i h, .u s, .h 32 l, .h 32 r]], Unit, fun _ => ([.pr wordsP, .rd 5 k, .rd 5 v], .a [.h 32 (nsum h s k v l r)]), fun _ => True⟩ := by
 refine v_fun Tryd.f109 c109 MX (fun ν F σ w => ?_) Tryd.func109
 refine v_nl ?_
 refine v_if (decide (h = 0)) True trivial (fun h1 => ?_) (fun h1 => ?_)
 ·have h1 := of_decide_eq_true h1
  refine v_call _ [0, 6] (sum_ok ([v]) (by (simp; omega))) ((wordsP = wordsP) ∧ ([v] = [v])) ⟨rfl, rfl⟩ (fun g2 p3 => ?_)
  have p3 : True := p3
  refine v_close 7 [] (close_top [] ([SV.h 32 (sum256 [v].flatten)])) ((sum256 [v].flatten = sum256 [v].flatten)) rfl ?_
  refine v_plan (.fs [0, 1, 2, 3, 5, 6, 7] (.o 4 (.o 8 (.o 9 (.o 10 .e))))) [4, 6] True trivial ?_
  refine v_call _ [0, 10] (sum_ok ([[0, ofI8 ↑k.length], k, sum256 [v].flatten]) (by (simp [sum256_len, eightTo_len]; omega))) (((sum256 [v].flatten).length = 32 ∧ 32 ≤ 1000000) ∧ (wordsP = wordsP) ∧ ([[0, ofI8 ↑k.length], k, sum256 [v].flatten] = [[0, ofI8 ↑k.length], k, sum256 [v].flatten])) ⟨(by (simp [sum256_len, eightTo_len]; done)), rfl, rfl⟩ (fun g4 p5 => ?_)
  have p5 : True := p5
  exact v_ret () [] ((sum256 [[0, ofI8 ↑k.length], k, sum256 [v].flatten].flatten = nsum h s k v l r) ∧ (wordsP = wordsP) ∧ (k = k) ∧ (v = v)) ⟨(by (simp only [nsum]; (repeat first | rw [if_pos (by omega)] | rw [if_neg (by omega)]); first | rfl | omega | (simp; done) | (simp; omega))), rfl, rfl, rfl⟩ trivial
 ·have h1 := of_decide_eq_false h1
  refine v_close 4 [1, 2] (close_top [.no, .no] ([SV.n 0, SV.n 1, SV.i h, SV.u s, SV.h 32 l, SV.h 32 r])) ((h = h) ∧ (s = s) ∧ (l = l) ∧ (r = r)) ⟨rfl, rfl, rfl, rfl⟩ ?_
  refine v_join [21, 22, 23, 24, 25, 26, 27, 28, 29, 30, 31, 32, 33, 2] [5] (fun _ : Unit => ([(2, SV.p 6 0)], [Ent.bx 52 [SV.h 32 (sum256 [[1, ofI8 h], eightTo s 8, l, r].flatten)]])) (fun _ => True) ?_ (fun _ _ => ?_) True trivial
  ·skip
   refine v_plan (.fs [0, 1, 2, 4, 5, 7, 8, 9, 10] (.c 3 (.o 6 (.o 11 (.o 12 (.o 13 .e)))) (.o 6 (.o 3 (.o 11 (.o 12 (.o 13 .e))))))) [] True trivial ?_
   refine v_pick ((l.length = 32 ∧ 32 ≤ 1000000) ∧ (r.length = 32 ∧ 32 ≤ 1000000)) ⟨(by omega), (by omega)⟩ ?_ ?_
   ·skip
    refine v_call _ [] (size_ok (s)) ((s = s)) rfl (fun g6 p7 => ?_)
    have p7 : True := p7
    refine v_call _ [0, 10] (sum_ok ([[1, ofI8 h], eightTo s 8, l, r]) (by (simp [sum256_len, eightTo_len]; omega))) ((wordsP = wordsP) ∧ ([[1, ofI8 h], eightTo s 8, l, r] = [[1, ofI8 h], eightTo s 8, l, r])) ⟨rfl, rfl⟩ (fun g8 p9 => ?_)
    have p9 : True := p9
    exact v_back (()) [5] ((sum256 [[1, ofI8 h], eightTo s 8, l, r].flatten = sum256 [[1, ofI8 h], eightTo s 8, l, r].flatten)) rfl (show True from trivial)
   ·skip
    refine v_call _ [] (size_ok (s)) ((s = s)) rfl (fun g10 p11 => ?_)
    have p11 : True := p11
    refine v_call _ [0, 10] (sum_ok ([[1, ofI8 h], eightTo s 8, l, r]) (by (simp [sum256_len, eightTo_len]; omega))) ((wordsP = wordsP) ∧ ([[1, ofI8 h], eightTo s 8, l, r] = [[1, ofI8 h], eightTo s 8, l, r])) ⟨rfl, rfl⟩ (fun g12 p13 => ?_)
    have p13 : True := p13
    exact v_back (()) [5] ((sum256 [[1, ofI8 h], eightTo s 8, l, r].flatten = sum256 [[1, ofI8 h], eightTo s 8, l, r].flatten)) rfl (show True from trivial)
  ·skip
   exact v_ret () [] ((sum256 [[1, ofI8 h], eightTo s 8, l, r].flatten = nsum h s k v l r) ∧ (wordsP = wordsP) ∧ (k = k) ∧ (v = v)) ⟨(by (simp [nsum, *])), rfl, rfl, rfl⟩ trivial
end Go.Proofs.YtnicmjipbnhciaaDoor.X
set_option linter.unusedVariables false
set_option linter.unusedSimpArgs false
set_option maxRecDepth 100000
namespace Go.Proofs.YtnicmjipbnhciaaDoor.X
open Go Go.RowKit Go.Proofs Go.Proofs.YtnicmjipbnhciaaDoor.E
noncomputable def c128 : Code := (Tryd.f128.body).getD .skip
theorem leaf_ok (k v : List UInt8) (hk : k.length ≤ 1000) (hv : v.length ≤ 1000) : FOk EN 128 ⟨[.pr wordsP, .rd 5 k, .rd 5 v], [.n 1, .n 2], Unit, fun _ => ([.pr wordsP, .rd 5 k, .rd 5 v, .pn (PT (.leaf k v)) false false], .p 3 0), fun _ => True⟩ := by
 refine v_fun Tryd.f128 c128 MX (fun ν F σ w => ?_) Tryd.func128
 refine v_nl ?_
 refine v_call _ [1] (clone_ok (k) (by omega)) ((k = k)) rfl (fun g1 p2 => ?_)
 have p2 : True := p2
 refine v_call _ [2] (clone_ok (v) (by omega)) ((v = v)) rfl (fun g3 p4 => ?_)
 have p4 : True := p4
 refine v_call _ [0, 4, 5] (thash_ok (0) (1) (k) (v) (List.replicate 32 0) (List.replicate 32 0) (by decide) (by assumption) (by assumption) rfl rfl) (((0 : Int) = (0 : Int)) ∧ ((1 : UInt64) = (1 : UInt64)) ∧ (List.replicate (32 : Nat) (0 : UInt8) = List.replicate (32 : Nat) (0 : UInt8)) ∧ (List.replicate (32 : Nat) (0 : UInt8) = List.replicate (32 : Nat) (0 : UInt8)) ∧ (wordsP = wordsP) ∧ (k = k) ∧ (v = v)) ⟨rfl, rfl, rfl, rfl, rfl, rfl, rfl⟩ (fun g5 p6 => ?_)
 have p6 : True := p6
 refine v_close 6 [4, 5] (close_leaf (k) (v)) (((0 : Int) = (0 : Int)) ∧ ((1 : UInt64) = (1 : UInt64)) ∧ (List.replicate 32 0 = z32) ∧ (List.replicate 32 0 = z32) ∧ (nsum 0 1 k v (List.replicate 32 0) (List.replicate 32 0) = (Tr.leaf k v).hash) ∧ (Value.pointer none = Value.pointer none) ∧ (Value.pointer none = Value.pointer none) ∧ (k = k) ∧ (v = v)) ⟨rfl, rfl, rfl, rfl, rfl, rfl, rfl, rfl, rfl⟩ ?_
 exact v_ret () [6] ((wordsP = wordsP) ∧ (k = k) ∧ (v = v) ∧ (PLe (PT (Tr.leaf k v)) (PT (Tr.leaf k v))) ∧ (false = false)) ⟨rfl, rfl, rfl, fun _ _ _ h => h, rfl⟩ trivial
def Tr.next : Tr → Tr
  | .leaf a b => .leaf a b
  | .node l _ => l
def Tr.depth : Tr → Nat
  | .leaf _ _ => 0
  | .node l r => l.depth + r.depth + 1
noncomputable def c140 : Code := (Tryd.f140.body).getD .skip
theorem least_ok (t : Tr) : FOk EN 140 ⟨[.pn (PT t) false false], [.p 0 0], Unit, fun _ => ([.pn (PT t) false false, .rd 5 t.least], .n 1), fun _ => True⟩ := by
 refine v_fun Tryd.f140 c140 MX (fun ν F σ w => ?_) Tryd.func140
 refine v_nl ?_
 refine v_loop (fun k : Tr => ([(0, .p 2 0)], [.pn (PT k) false false])) (fun k => t.least = k.least) (fun k => k.depth) t [0] ((PT t = PT t) ∧ (false = false)) ⟨rfl, rfl⟩ rfl (fun k hk1 => ?_)
 cases k with
 | leaf a b =>
  refine v_open 2 (open_leaf (a) (b)) ((false = false) ∧ (PT (Tr.leaf a b) = PT (Tr.leaf a b))) ⟨rfl, rfl⟩ ?_
  refine v_leave (.ex 0) True trivial ?_
  exact v_ret () [3] ((PT t = PT t) ∧ (false = false) ∧ (a = t.least)) ⟨rfl, rfl, (by exact hk1.symm)⟩ trivial
 | node l r =>
  refine v_open 2 (open_node (l) (r)) ((false = false) ∧ (PT (l.node r) = PT (l.node r))) ⟨rfl, rfl⟩ ?_
  refine v_if (!false) True trivial (fun h2 => ?_) (fun h2 => ?_)
  ·have h2 := (nt h2)
   exact v_back ((l.node r).next) [4] ((PT l = PT (l.node r).next) ∧ (false = false)) ⟨rfl, rfl⟩ (show t.least = (l.node r).next.least ∧ (l.node r).next.depth < (l.node r).depth from (by exact ⟨hk1, by simp only [Tr.next, Tr.depth]; omega⟩))
  ·have h2 := (nf h2)
   contradiction
namespace Tr
def value : Tr → List UInt8
  | leaf _ v => v
  | node _ _ => []
def lh : Tr → List UInt8
  | leaf _ _ => z32
  | node l _ => l.hash
def rh : Tr → List UInt8
  | leaf _ _ => z32
  | node _ r => r.hash
end Tr
def anyC (t : Tr) (b : Nat) : List SV := [.n b, .n (b + 1), .i t.height, .u t.size, .h 32 t.lh, .h 32 t.rh, .h 32 t.hash, .p (b + 2) 0, .p (b + 3) 0]
def ns4 (x y z u : Value) : NV := fun n => match n with | 0 => x | 1 => y | 2 => z | 3 => u | _ => .bool false
theorem ns4_one {x y z u : Value} (hx : x.oneCell' = true) (hy : y.oneCell' = true) (hz : z.oneCell' = true) (hu : u.oneCell' = true) : ∀ n, (ns4 x y z u n).oneCell' = true
  | 0 => hx
  | 1 => hy
  | 2 => hz
  | 3 => hu
  | _ + 4 => rfl
theorem open_any (t : Tr) : Opens (G := GT) (PT t) (fun _ => [.rd 5 t.key, .rd 5 t.value, .no, .no]) (anyC t) := by
  rintro base σ w x h
  have main : ∀ (kv vv lv rv : Value) (b o : Nat), x = .pointer (some ⟨b, o, none⟩) → Rd tU8 σ w kv t.key → Rd tU8 σ w vv t.value → lv.oneCell' = true → rv.oneCell' = true → Seg σ w b o (denC (ns4 kv vv lv rv) (anyC t 0)) →
      ∃ f : NV, (∀ n, (f n).oneCell' = true) ∧ ∀ ν : NV, (∀ i, i < 4 → ν (base + i) = f i) → (∀ (i : Nat) (en : Ent GT), [Ent.rd 5 t.key, .rd 5 t.value, .no, .no][i]? = some en → en.holds ν (fun _ => False) σ w (f i)) ∧ ∃ b o, x = .pointer (some ⟨b, o, none⟩) ∧ Seg σ w b o (denC ν (anyC t base)) := by
    intro kv vv lv rv b o e h1 h2 h3 h4 h5
    refine ⟨ns4 kv vv lv rv, ns4_one (rd_one h1) (rd_one h2) h3 h4, fun ν hν => ⟨fun i en hi => ?_, b, o, e, ?_⟩⟩
    · match i, hi with
      | 0, hi => simp only [List.getElem?_cons_zero, Option.some.injEq] at hi; subst hi; exact h1
      | 1, hi => simp only [List.getElem?_cons_succ, List.getElem?_cons_zero, Option.some.injEq] at hi; subst hi; exact h2
      | 2, hi => simp only [List.getElem?_cons_succ, List.getElem?_cons_zero, Option.some.injEq] at hi; subst hi; trivial
      | 3, hi => simp only [List.getElem?_cons_succ, List.getElem?_cons_zero, Option.some.injEq] at hi; subst hi; trivial
      | i + 4, hi => simp at hi
    · have e0 := hν 0 (by simp)
      have e1 := hν 1 (by simp)
      have e2 := hν 2 (by simp)
      have e3 := hν 3 (by simp)
      simp only [Nat.add_zero] at e0
      simpa [anyC, denC, den, e0, e1, e2, e3] using h5
  cases t with
  | leaf k v =>
    obtain ⟨b, o, kv, vv, e, h1, h2, h3⟩ := h
    refine main kv vv (.pointer none) (.pointer none) b o e h1 h2 rfl rfl ?_
    simpa [lfC, anyC, denC, den, ns3, ns4, Tr.height, Tr.size, Tr.lh, Tr.rh, padd] using h3
  | node l r =>
    obtain ⟨b, o, kv, lv, rv, e, h1, h2, h3, h4⟩ := h
    obtain ⟨lb, lo, le⟩ := h2.ptr
    obtain ⟨rb, ro, re⟩ := h3.ptr
    refine main kv (.slice none 0 0) lv rv b o e h1 ⟨none, 0, rfl, Nat.le_refl _, Nat.zero_le _, .inl rfl⟩ (by rw [le]; rfl) (by rw [re]; rfl) ?_
    simpa [ndC, anyC, denC, den, ns3, ns4, Tr.lh, Tr.rh] using h4
/-- What the trees here keep to. -/
def Tr.Ok (t : Tr) : Prop := 0 ≤ t.height ∧ t.height < 900 ∧ t.least.length ≤ 1000 ∧ t.hash.length = 32
noncomputable def c130 : Code := (Tryd.f130.body).getD .skip
theorem inner_ok (l r : Tr) (hl : l.Ok) (hr : r.Ok) : FOk EN 130 ⟨[.pr wordsP, .pn (PT l) false false, .pn (PT r) false false], [.p 1 0, .p 2 0], Unit, fun _ => ([.pr wordsP, .pn (PT l) false false, .pn (PT r) false false, .pn (PT (.node l r)) false false], .p 3 0), fun _ => True⟩ := by
 refine v_fun Tryd.f130 c130 MX (fun ν F σ w => ?_) Tryd.func130
 refine v_nl ?_
 refine v_open 1 (open_any (l)) ((PT l = PT l)) rfl ?_
 refine v_open 2 (open_any (r)) ((PT r = PT r)) rfl ?_
 refine v_plan (.fs [0, 1, 3, 4, 5, 6, 7, 8, 9, 10, 11, 12, 13, 14, 15, 16, 17, 18, 19, 20, 21, 22, 23, 24, 25, 26, 27, 28, 29, 30, 31, 32, 33] (.o 2 (.fs [34, 35, 36] (.o 37 .e)))) [] True trivial ?_
 refine v_call _ [2] (least_ok (r)) ((I64 (1 + if l.height < r.height then r.height else l.height)) ∧ (PLe (PT r) (PT r)) ∧ (false = false)) ⟨(by (have h1 := hl; have h2 := hr; unfold Tr.Ok at h1 h2; unfold I64; omega)), fun _ _ _ h => h, rfl⟩ (fun g1 p2 => ?_)
 have p2 : True := p2
 refine v_call _ [0, 13, 3] (thash_ok (1 + if l.height < r.height then r.height else l.height) (l.size + r.size) (r.least) ([]) (l.hash) (r.hash) (by (have h1 := hl; have h2 := hr; unfold Tr.Ok at h1 h2; omega)) (by (have h1 := hl; have h2 := hr; unfold Tr.Ok at h1 h2; omega)) (by decide) (by (have h1 := hl; have h2 := hr; unfold Tr.Ok at h1 h2; omega)) (by (have h1 := hl; have h2 := hr; unfold Tr.Ok at h1 h2; omega))) (((1 + if l.height < r.height then r.height else l.height) = 1 + if l.height < r.height then r.height else l.height) ∧ (l.size + r.size = l.size + r.size) ∧ (l.hash = l.hash) ∧ (r.hash = r.hash) ∧ (wordsP = wordsP) ∧ (r.least = r.least) ∧ (Eq (α := List UInt8) [] [])) ⟨rfl, rfl, rfl, rfl, rfl, rfl, rfl⟩ (fun g3 p4 => ?_)
 have p4 : True := p4
 refine v_close 4 [13, 1, 2] (close_node (l) (r)) ((Value.slice none 0 0 = Value.slice none 0 0) ∧ ((1 + if l.height < r.height then r.height else l.height) = (l.node r).height) ∧ (l.size + r.size = (l.node r).size) ∧ (l.hash = l.hash) ∧ (r.hash = r.hash) ∧ (nsum (1 + if l.height < r.height then r.height else l.height) (l.size + r.size) r.least [] l.hash r.hash = (l.node r).hash) ∧ (r.least = (l.node r).key) ∧ (PLe (PT l) (PT l)) ∧ (false = false) ∧ (PLe (PT r) (PT r)) ∧ (false = false)) ⟨rfl, (by (congr 1; omega)), rfl, rfl, rfl, (by (congr 1; omega)), rfl, fun _ _ _ h => h, rfl, fun _ _ _ h => h, rfl⟩ ?_
 exact v_ret () [4] ((wordsP = wordsP) ∧ (PLe (PT l) (PT l)) ∧ (false = false) ∧ (PLe (PT r) (PT r)) ∧ (false = false) ∧ (PLe (PT (l.node r)) (PT (l.node r))) ∧ (false = false)) ⟨rfl, fun _ _ _ h => h, rfl, fun _ _ _ h => h, rfl, fun _ _ _ h => h, rfl⟩ trivial
end Go.Proofs.YtnicmjipbnhciaaDoor.X
set_option linter.unusedVariables false
set_option linter.unusedSimpArgs false
set_option maxRecDepth 100000
namespace Go.Proofs.YtnicmjipbnhciaaDoor.X
open Go Go.RowKit Go.Proofs Go.Proofs.YtnicmjipbnhciaaDoor.E
namespace Tr
/-- Keys and values are short. -/
def Ks : Tr → Prop
  | leaf k v => k.length ≤ 1000 ∧ v.length ≤ 1000
  | node l r => l.Ks ∧ r.Ks
theorem height_nn : ∀ t : Tr, 0 ≤ t.height
  | leaf _ _ => Int.le_refl _
  | node l r => by have := height_nn l; simp only [height]; omega
theorem nsum_len (h : Int) (s : UInt64) (k v l r : List UInt8) : (nsum h s k v l r).length = 32 := by unfold nsum; split <;> exact sum256_len _
theorem hash_len : ∀ t : Tr, t.hash.length = 32
  | leaf _ _ => nsum_len ..
  | node _ _ => nsum_len ..
theorem least_le : ∀ {t : Tr}, t.Ks → t.least.length ≤ 1000
  | leaf _ _, h => h.1
  | node l _, h => least_le (t := l) h.1
theorem ok {t : Tr} (h : t.Ks) (hh : t.height < 900) : t.Ok := ⟨t.height_nn, hh, least_le h, t.hash_len⟩
theorem node_lt {l r : Tr} {n : Int} (h1 : l.height < n) (h2 : r.height < n) : (node l r).height < n + 1 := by simp only [height]; omega
end Tr
noncomputable def c129 : Code := (Tryd.f129.body).getD .skip
theorem bal0_aux (l r : Tr) (hl : l.Ok) (hr : r.Ok) (h1 : ¬ l.height > r.height + 1) (h2 : ¬ r.height > l.height + 1) : FOk EN 129 ⟨[.pr wordsP, .pn (PT l) false false, .pn (PT r) false false], [.p 1 0, .p 2 0], Unit, fun _ => ([.pr wordsP, .pn (PT l) false false, .pn (PT r) false false, .pn (PT (.node l r)) false false], .p 3 0), fun _ => True⟩ := by
 refine v_fun Tryd.f129 c129 MX (fun ν F σ w => ?_) Tryd.func129
 refine v_nl ?_
 refine v_open 1 (open_any (l)) ((PT l = PT l)) rfl ?_
 refine v_open 2 (open_any (r)) ((PT r = PT r)) rfl ?_
 refine v_plan (.fs [0, 1, 2, 3, 4, 5, 6, 7, 8, 9, 10, 11, 12] .e) [] True trivial ?_
 refine v_if (decide (r.height + 1 < l.height)) ((I64 (r.height + 1))) (by (have h1 := hl; have h2 := hr; unfold Tr.Ok at h1 h2; unfold I64; omega)) (fun h1 => ?_) (fun h1 => ?_)
 ·have h1 := of_decide_eq_true h1
  omega
 ·have h1 := of_decide_eq_false h1
  refine v_plan (.fs [0, 1, 2, 3, 4, 5, 6, 7, 8, 9, 10, 11, 12] .e) [] True trivial ?_
  refine v_if (decide (l.height + 1 < r.height)) ((I64 (l.height + 1))) (by (have h1 := hl; have h2 := hr; unfold Tr.Ok at h1 h2; unfold I64; omega)) (fun h2 => ?_) (fun h2 => ?_)
  ·have h2 := of_decide_eq_true h2
   omega
  ·have h2 := of_decide_eq_false h2
   refine v_call _ [0, 1, 2] (inner_ok (l) (r) (by assumption) (by assumption)) ((wordsP = wordsP) ∧ (PLe (PT l) (PT l)) ∧ (false = false) ∧ (PLe (PT r) (PT r)) ∧ (false = false)) ⟨rfl, fun _ _ _ h => h, rfl, fun _ _ _ h => h, rfl⟩ (fun g3 p4 => ?_)
   have p4 : True := p4
   exact v_ret () [12] ((wordsP = wordsP) ∧ (PLe (PT l) (PT l)) ∧ (false = false) ∧ (PLe (PT r) (PT r)) ∧ (false = false) ∧ (PT (l.node r) = PT (l.node r)) ∧ (false = false)) ⟨rfl, fun _ _ _ h => h, rfl, fun _ _ _ h => h, rfl, rfl, rfl⟩ trivial
theorem bal1_aux (a b r : Tr) (hl : (Tr.node a b).Ok) (ha : a.Ok) (hb : b.Ok) (hbr : (Tr.node b r).Ok) (hr : r.Ok) (h1 : (Tr.node a b).height > r.height + 1) (h2 : ¬ a.height < b.height) : FOk EN 129 ⟨[.pr wordsP, .pn (PT (.node a b)) false false, .pn (PT r) false false], [.p 1 0, .p 2 0], Unit, fun _ => ([.pr wordsP, .pn (PT (.node a b)) false false, .pn (PT r) false false, .pn (PT (.node a (.node b r))) false false], .p 3 0), fun _ => True⟩ := by
 refine v_fun Tryd.f129 c129 MX (fun ν F σ w => ?_) Tryd.func129
 refine v_nl ?_
 refine v_open 1 (open_node (a) (b)) ((PT (a.node b) = PT (a.node b))) rfl ?_
 refine v_open 2 (open_any (r)) ((PT r = PT r)) rfl ?_
 refine v_plan (.fs [0, 1, 2, 3, 4, 5, 6, 7, 8, 9, 10, 11, 12] .e) [] True trivial ?_
 refine v_if (decide (r.height + 1 < (a.node b).height)) ((I64 (r.height + 1))) (by (have h1 := hl; have h2 := hr; unfold Tr.Ok at h1 h2; unfold I64; omega)) (fun h1 => ?_) (fun h1 => ?_)
 ·have h1 := of_decide_eq_true h1
  refine v_open 5 (open_any (a)) ((PT a = PT a)) rfl ?_
  refine v_open 6 (open_any (b)) ((PT b = PT b)) rfl ?_
  refine v_plan (.fs [0, 1, 2, 3, 4, 5, 6, 7, 8, 9, 10, 11, 12, 13, 14, 15, 16] .e) [] True trivial ?_
  refine v_if (decide (a.height < b.height)) True trivial (fun h2 => ?_) (fun h2 => ?_)
  ·have h2 := of_decide_eq_true h2
   omega
  ·have h2 := of_decide_eq_false h2
   refine v_plan (.fs [0, 1, 2, 3, 4, 5, 6, 7, 8] (.o 9 (.o 10 (.fs [11] .e)))) [] True trivial ?_
   refine v_call _ [0, 6, 2] (inner_ok (b) (r) (by assumption) (by assumption)) ((wordsP = wordsP) ∧ (PLe (PT b) (PT b)) ∧ (false = false) ∧ (PLe (PT r) (PT r)) ∧ (false = false)) ⟨rfl, fun _ _ _ h => h, rfl, fun _ _ _ h => h, rfl⟩ (fun g3 p4 => ?_)
   have p4 : True := p4
   refine v_call _ [0, 5, 19] (inner_ok (a) (b.node r) (by assumption) (by assumption)) ((wordsP = wordsP) ∧ (PLe (PT a) (PT a)) ∧ (false = false) ∧ (PT (b.node r) = PT (b.node r)) ∧ (false = false)) ⟨rfl, fun _ _ _ h => h, rfl, rfl, rfl⟩ (fun g5 p6 => ?_)
   have p6 : True := p6
   exact v_ret () [20] ((wordsP = wordsP) ∧ (PLe (PT (a.node b)) (PT (a.node b))) ∧ (false = false) ∧ (PLe (PT r) (PT r)) ∧ (false = false) ∧ (PT (a.node (b.node r)) = PT (a.node (b.node r))) ∧ (false = false)) ⟨rfl, fun _ _ _ h => h, rfl, fun _ _ _ h => h, rfl, rfl, rfl⟩ trivial
 ·have h1 := of_decide_eq_false h1
  omega
theorem bal2_aux (a c d r : Tr) (hl : (Tr.node a (.node c d)).Ok) (ha : a.Ok) (hb : (Tr.node c d).Ok) (hc : c.Ok) (hd : d.Ok) (hac : (Tr.node a c).Ok) (hdr : (Tr.node d r).Ok) (hr : r.Ok) (h1 : (Tr.node a (.node c d)).height > r.height + 1) (h2 : a.height < (Tr.node c d).height) : FOk EN 129 ⟨[.pr wordsP, .pn (PT (.node a (.node c d))) false false, .pn (PT r) false false], [.p 1 0, .p 2 0], Unit, fun _ => ([.pr wordsP, .pn (PT (.node a (.node c d))) false false, .pn (PT r) false false, .pn (PT (.node (.node a c) (.node d r))) false false], .p 3 0), fun _ => True⟩ := by
 refine v_fun Tryd.f129 c129 MX (fun ν F σ w => ?_) Tryd.func129
 refine v_nl ?_
 refine v_open 1 (open_node (a) (c.node d)) ((PT (a.node (c.node d)) = PT (a.node (c.node d)))) rfl ?_
 refine v_open 2 (open_any (r)) ((PT r = PT r)) rfl ?_
 refine v_plan (.fs [0, 1, 2, 3, 4, 5, 6, 7, 8, 9, 10, 11, 12] .e) [] True trivial ?_
 refine v_if (decide (r.height + 1 < (a.node (c.node d)).height)) ((I64 (r.height + 1))) (by (have h1 := hl; have h2 := hr; unfold Tr.Ok at h1 h2; unfold I64; omega)) (fun h1 => ?_) (fun h1 => ?_)
 ·have h1 := of_decide_eq_true h1
  refine v_open 5 (open_any (a)) ((PT a = PT a)) rfl ?_
  refine v_open 6 (open_node (c) (d)) ((PT (c.node d) = PT (c.node d))) rfl ?_
  refine v_plan (.fs [0, 1, 2, 3, 4, 5, 6, 7, 8, 9, 10, 11, 12, 13, 14, 15, 16] .e) [] True trivial ?_
  refine v_if (decide (a.height < (c.node d).height)) True trivial (fun h2 => ?_) (fun h2 => ?_)
  ·have h2 := of_decide_eq_true h2
   refine v_plan (.fs [0, 1, 2, 3, 4, 5, 6, 7, 8, 9, 10, 12, 13, 14, 15, 16, 17, 18, 19] (.o 11 (.o 20 (.o 21 (.fs [22] .e))))) [] True trivial ?_
   refine v_call _ [0, 5, 16] (inner_ok (a) (c) (by assumption) (by assumption)) ((wordsP = wordsP) ∧ (PLe (PT a) (PT a)) ∧ (false = false) ∧ (PT c = PT c) ∧ (false = false)) ⟨rfl, fun _ _ _ h => h, rfl, rfl, rfl⟩ (fun g3 p4 => ?_)
   have p4 : True := p4
   refine v_call _ [0, 17, 2] (inner_ok (d) (r) (by assumption) (by assumption)) ((wordsP = wordsP) ∧ (PT d = PT d) ∧ (false = false) ∧ (PLe (PT r) (PT r)) ∧ (false = false)) ⟨rfl, rfl, rfl, fun _ _ _ h => h, rfl⟩ (fun g5 p6 => ?_)
   have p6 : True := p6
   refine v_call _ [0, 18, 19] (inner_ok (a.node c) (d.node r) (by assumption) (by assumption)) ((wordsP = wordsP) ∧ (PT (a.node c) = PT (a.node c)) ∧ (false = false) ∧ (PT (d.node r) = PT (d.node r)) ∧ (false = false)) ⟨rfl, rfl, rfl, rfl, rfl⟩ (fun g7 p8 => ?_)
   have p8 : True := p8
   exact v_ret () [20] ((wordsP = wordsP) ∧ (PLe (PT (a.node (c.node d))) (PT (a.node (c.node d)))) ∧ (false = false) ∧ (PLe (PT r) (PT r)) ∧ (false = false) ∧ (PT ((a.node c).node (d.node r)) = PT ((a.node c).node (d.node r))) ∧ (false = false)) ⟨rfl, fun _ _ _ h => h, rfl, fun _ _ _ h => h, rfl, rfl, rfl⟩ trivial
  ·have h2 := of_decide_eq_false h2
   omega
 ·have h1 := of_decide_eq_false h1
  omega
theorem bal3_aux (l a b : Tr) (hr : (Tr.node a b).Ok) (ha : a.Ok) (hb : b.Ok) (hla : (Tr.node l a).Ok) (hl : l.Ok) (h0 : ¬ l.height > (Tr.node a b).height + 1) (h1 : (Tr.node a b).height > l.height + 1) (h2 : ¬ b.height < a.height) : FOk EN 129 ⟨[.pr wordsP, .pn (PT l) false false, .pn (PT (.node a b)) false false], [.p 1 0, .p 2 0], Unit, fun _ => ([.pr wordsP, .pn (PT l) false false, .pn (PT (.node a b)) false false, .pn (PT (.node (.node l a) b)) false false], .p 3 0), fun _ => True⟩ := by
 refine v_fun Tryd.f129 c129 MX (fun ν F σ w => ?_) Tryd.func129
 refine v_nl ?_
 refine v_open 1 (open_any (l)) ((PT l = PT l)) rfl ?_
 refine v_open 2 (open_node (a) (b)) ((PT (a.node b) = PT (a.node b))) rfl ?_
 refine v_plan (.fs [0, 1, 2, 3, 4, 5, 6, 7, 8, 9, 10, 11, 12] .e) [] True trivial ?_
 refine v_if (decide ((a.node b).height + 1 < l.height)) ((I64 ((a.node b).height + 1))) (by (have h1 := hl; have h2 := hr; unfold Tr.Ok at h1 h2; unfold I64; omega)) (fun h1 => ?_) (fun h1 => ?_)
 ·have h1 := of_decide_eq_true h1
  omega
 ·have h1 := of_decide_eq_false h1
  refine v_plan (.fs [0, 1, 2, 3, 4, 5, 6, 7, 8, 9, 10, 11, 12] .e) [] True trivial ?_
  refine v_if (decide (l.height + 1 < (a.node b).height)) ((I64 (l.height + 1))) (by (have h1 := hl; have h2 := hr; unfold Tr.Ok at h1 h2; unfold I64; omega)) (fun h2 => ?_) (fun h2 => ?_)
  ·have h2 := of_decide_eq_true h2
   refine v_open 10 (open_any (b)) ((PT b = PT b)) rfl ?_
   refine v_open 9 (open_any (a)) ((PT a = PT a)) rfl ?_
   refine v_plan (.fs [0, 1, 2, 3, 4, 5, 6, 7, 8, 9, 10, 11, 12, 13, 14, 15, 16] .e) [] True trivial ?_
   refine v_if (decide (b.height < a.height)) True trivial (fun h3 => ?_) (fun h3 => ?_)
   ·have h3 := of_decide_eq_true h3
    omega
   ·have h3 := of_decide_eq_false h3
    refine v_plan (.fs [0, 1, 2, 3, 4, 6, 7, 8, 9] (.o 5 (.o 10 (.fs [11] .e)))) [] True trivial ?_
    refine v_call _ [0, 1, 9] (inner_ok (l) (a) (by assumption) (by assumption)) ((wordsP = wordsP) ∧ (PLe (PT l) (PT l)) ∧ (false = false) ∧ (PLe (PT a) (PT a)) ∧ (false = false)) ⟨rfl, fun _ _ _ h => h, rfl, fun _ _ _ h => h, rfl⟩ (fun g4 p5 => ?_)
    have p5 : True := p5
    refine v_call _ [0, 19, 10] (inner_ok (l.node a) (b) (by assumption) (by assumption)) ((wordsP = wordsP) ∧ (PT (l.node a) = PT (l.node a)) ∧ (false = false) ∧ (PLe (PT b) (PT b)) ∧ (false = false)) ⟨rfl, rfl, rfl, fun _ _ _ h => h, rfl⟩ (fun g6 p7 => ?_)
    have p7 : True := p7
    exact v_ret () [20] ((wordsP = wordsP) ∧ (PLe (PT l) (PT l)) ∧ (false = false) ∧ (PLe (PT (a.node b)) (PT (a.node b))) ∧ (false = false) ∧ (PT ((l.node a).node b) = PT ((l.node a).node b)) ∧ (false = false)) ⟨rfl, fun _ _ _ h => h, rfl, fun _ _ _ h => h, rfl, rfl, rfl⟩ trivial
  ·have h2 := of_decide_eq_false h2
   omega
theorem bal4_aux (l c d b : Tr) (hr : (Tr.node (.node c d) b).Ok) (ha : (Tr.node c d).Ok) (hb : b.Ok) (hc : c.Ok) (hd : d.Ok) (hlc : (Tr.node l c).Ok) (hdb : (Tr.node d b).Ok) (hl : l.Ok) (h0 : ¬ l.height > (Tr.node (.node c d) b).height + 1) (h1 : (Tr.node (.node c d) b).height > l.height + 1) (h2 : b.height < (Tr.node c d).height) : FOk EN 129 ⟨[.pr wordsP, .pn (PT l) false false, .pn (PT (.node (.node c d) b)) false false], [.p 1 0, .p 2 0], Unit, fun _ => ([.pr wordsP, .pn (PT l) false false, .pn (PT (.node (.node c d) b)) false false, .pn (PT (.node (.node l c) (.node d b))) false false], .p 3 0), fun _ => True⟩ := by
 refine v_fun Tryd.f129 c129 MX (fun ν F σ w => ?_) Tryd.func129
 refine v_nl ?_
 refine v_open 1 (open_any (l)) ((PT l = PT l)) rfl ?_
 refine v_open 2 (open_node (c.node d) (b)) ((PT ((c.node d).node b) = PT ((c.node d).node b))) rfl ?_
 refine v_plan (.fs [0, 1, 2, 3, 4, 5, 6, 7, 8, 9, 10, 11, 12] .e) [] True trivial ?_
 refine v_if (decide (((c.node d).node b).height + 1 < l.height)) ((I64 (((c.node d).node b).height + 1))) (by (have h1 := hl; have h2 := hr; unfold Tr.Ok at h1 h2; unfold I64; omega)) (fun h1 => ?_) (fun h1 => ?_)
 ·have h1 := of_decide_eq_true h1
  omega
 ·have h1 := of_decide_eq_false h1
  refine v_plan (.fs [0, 1, 2, 3, 4, 5, 6, 7, 8, 9, 10, 11, 12] .e) [] True trivial ?_
  refine v_if (decide (l.height + 1 < ((c.node d).node b).height)) ((I64 (l.height + 1))) (by (have h1 := hl; have h2 := hr; unfold Tr.Ok at h1 h2; unfold I64; omega)) (fun h2 => ?_) (fun h2 => ?_)
  ·have h2 := of_decide_eq_true h2
   refine v_open 10 (open_any (b)) ((PT b = PT b)) rfl ?_
   refine v_open 9 (open_node (c) (d)) ((PT (c.node d) = PT (c.node d))) rfl ?_
   refine v_plan (.fs [0, 1, 2, 3, 4, 5, 6, 7, 8, 9, 10, 11, 12, 13, 14, 15, 16] .e) [] True trivial ?_
   refine v_if (decide (b.height < (c.node d).height)) True trivial (fun h3 => ?_) (fun h3 => ?_)
   ·have h3 := of_decide_eq_true h3
    refine v_plan (.fs [0, 1, 2, 3, 4, 5, 6, 7, 9, 10, 11, 12, 13, 14, 15, 16, 17, 18, 19] (.o 8 (.o 20 (.o 21 (.fs [22] .e))))) [] True trivial ?_
    refine v_call _ [0, 1, 16] (inner_ok (l) (c) (by assumption) (by assumption)) ((wordsP = wordsP) ∧ (PLe (PT l) (PT l)) ∧ (false = false) ∧ (PT c = PT c) ∧ (false = false)) ⟨rfl, fun _ _ _ h => h, rfl, rfl, rfl⟩ (fun g4 p5 => ?_)
    have p5 : True := p5
    refine v_call _ [0, 17, 10] (inner_ok (d) (b) (by assumption) (by assumption)) ((wordsP = wordsP) ∧ (PT d = PT d) ∧ (false = false) ∧ (PLe (PT b) (PT b)) ∧ (false = false)) ⟨rfl, rfl, rfl, fun _ _ _ h => h, rfl⟩ (fun g6 p7 => ?_)
    have p7 : True := p7
    refine v_call _ [0, 18, 19] (inner_ok (l.node c) (d.node b) (by assumption) (by assumption)) ((wordsP = wordsP) ∧ (PT (l.node c) = PT (l.node c)) ∧ (false = false) ∧ (PT (d.node b) = PT (d.node b)) ∧ (false = false)) ⟨rfl, rfl, rfl, rfl, rfl⟩ (fun g8 p9 => ?_)
    have p9 : True := p9
    exact v_ret () [20] ((wordsP = wordsP) ∧ (PLe (PT l) (PT l)) ∧ (false = false) ∧ (PLe (PT ((c.node d).node b)) (PT ((c.node d).node b))) ∧ (false = false) ∧ (PT ((l.node c).node (d.node b)) = PT ((l.node c).node (d.node b))) ∧ (false = false)) ⟨rfl, fun _ _ _ h => h, rfl, fun _ _ _ h => h, rfl, rfl, rfl⟩ trivial
   ·have h3 := of_decide_eq_false h3
    omega
  ·have h2 := of_decide_eq_false h2
   omega
namespace Tr
def bal (l r : Tr) : Tr :=
  if l.height > r.height + 1 then match l with
    | leaf _ _ => node l r
    | node a b => if a.height < b.height then match b with
      | leaf _ _ => node l r
      | node c d => node (node a c) (node d r)
      else node a (node b r)
  else if r.height > l.height + 1 then match r with
    | leaf _ _ => node l r
    | node a b => if b.height < a.height then match a with
      | leaf _ _ => node l r
      | node c d => node (node l c) (node d b)
      else node (node l a) b
  else node l r
end Tr
theorem bal_ok (l r : Tr) (hl : l.Ks) (hr : r.Ks) (hl9 : l.height < 800) (hr9 : r.height < 800) : FOk EN 129 ⟨[.pr wordsP, .pn (PT l) false false, .pn (PT r) false false], [.p 1 0, .p 2 0], Unit, fun _ => ([.pr wordsP, .pn (PT l) false false, .pn (PT r) false false, .pn (PT (l.bal r)) false false], .p 3 0), fun _ => True⟩ := by
  have nn := Tr.height_nn
  unfold Tr.bal
  by_cases h1 : l.height > r.height + 1
  · rw [if_pos h1]
    cases l with
    | leaf k v => have := nn r; simp only [Tr.height] at h1; omega
    | node a b =>
      have ea : a.height < 800 := by simp only [Tr.height] at hl9; omega
      have eb : b.height < 800 := by simp only [Tr.height] at hl9; omega
      have oa := Tr.ok hl.1 (by omega)
      have ob := Tr.ok hl.2 (by omega)
      have ol := Tr.ok hl (by omega)
      have orr := Tr.ok hr (by omega)
      by_cases h2 : a.height < b.height
      · simp only [if_pos h2]
        cases b with
        | leaf k v => have := nn a; simp only [Tr.height] at h2; omega
        | node c d =>
          have ec : c.height < 800 := by simp only [Tr.height] at eb; omega
          have ed : d.height < 800 := by simp only [Tr.height] at eb; omega
          have hb := hl.2
          exact bal2_aux a c d r ol oa ob (Tr.ok hb.1 (by omega)) (Tr.ok hb.2 (by omega)) (Tr.ok ⟨hl.1, hb.1⟩ (Int.lt_trans (Tr.node_lt ea ec) (by decide))) (Tr.ok ⟨hb.2, hr⟩ (Int.lt_trans (Tr.node_lt ed hr9) (by decide))) orr h1 h2
      · simp only [if_neg h2]
        exact bal1_aux a b r ol oa ob (Tr.ok ⟨hl.2, hr⟩ (Int.lt_trans (Tr.node_lt eb hr9) (by decide))) orr h1 h2
  · rw [if_neg h1]
    by_cases h3 : r.height > l.height + 1
    · rw [if_pos h3]
      cases r with
      | leaf k v => have := nn l; simp only [Tr.height] at h3; omega
      | node a b =>
        have ea : a.height < 800 := by simp only [Tr.height] at hr9; omega
        have eb : b.height < 800 := by simp only [Tr.height] at hr9; omega
        have oa := Tr.ok hr.1 (by omega)
        have ob := Tr.ok hr.2 (by omega)
        have ol := Tr.ok hl (by omega)
        have orr := Tr.ok hr (by omega)
        by_cases h2 : b.height < a.height
        · simp only [if_pos h2]
          cases a with
          | leaf k v => have := nn b; simp only [Tr.height] at h2; omega
          | node c d =>
            have ec : c.height < 800 := by simp only [Tr.height] at ea; omega
            have ed : d.height < 800 := by simp only [Tr.height] at ea; omega
            have hb := hr.1
            exact bal4_aux l c d b orr oa ob (Tr.ok hb.1 (by omega)) (Tr.ok hb.2 (by omega)) (Tr.ok ⟨hl, hb.1⟩ (Int.lt_trans (Tr.node_lt hl9 ec) (by decide))) (Tr.ok ⟨hb.2, hr.2⟩ (Int.lt_trans (Tr.node_lt ed eb) (by decide))) ol h1 h3 h2
        · simp only [if_neg h2]
          exact bal3_aux l a b orr oa ob (Tr.ok ⟨hl, hr.1⟩ (Int.lt_trans (Tr.node_lt hl9 ea) (by decide))) ol h1 h3 h2
    · rw [if_neg h3]
      exact bal0_aux l r (Tr.ok hl (by omega)) (Tr.ok hr (by omega)) h1 h3
end Go.Proofs.YtnicmjipbnhciaaDoor.X
set_option linter.unusedVariables false
set_option linter.unusedSimpArgs false
set_option maxRecDepth 100000
namespace Go.Proofs.YtnicmjipbnhciaaDoor.X
open Go Go.RowKit Go.Proofs Go.Proofs.YtnicmjipbnhciaaDoor.E
namespace Tr
def put (k v : List UInt8) : Tr → Tr
  | leaf a b => if Lib.compareBytes k a < 0 then node (leaf k v) (leaf a b) else if 0 < Lib.compareBytes k a then node (leaf a b) (leaf k v) else leaf k v
  | node l r => if Lib.compareBytes k r.least < 0 then (l.put k v).bal r else l.bal (r.put k v)
theorem bal_Ks {l r : Tr} (h1 : l.Ks) (h2 : r.Ks) : (l.bal r).Ks := by
  unfold bal
  split
  · cases l with
    | leaf a b => exact ⟨h1, h2⟩
    | node a b =>
      dsimp only
      split
      · cases b with
        | leaf c d => exact ⟨h1, h2⟩
        | node c d => exact ⟨⟨h1.1, h1.2.1⟩, h1.2.2, h2⟩
      · exact ⟨h1.1, h1.2, h2⟩
  · split
    · cases r with
      | leaf a b => exact ⟨h1, h2⟩
      | node a b =>
        dsimp only
        split
        · cases a with
          | leaf c d => exact ⟨h1, h2⟩
          | node c d => exact ⟨⟨h1, h2.1.1⟩, h2.1.2, h2.2⟩
        · exact ⟨⟨h1, h2.1⟩, h2.2⟩
    · exact ⟨h1, h2⟩
theorem bal_height (l r : Tr) : (l.bal r).height ≤ 1 + max l.height r.height := by
  unfold bal
  split
  · cases l with
    | leaf a b => exact Int.le_refl _
    | node a b =>
      dsimp only
      split
      · cases b with
        | leaf c d => exact Int.le_refl _
        | node c d => simp only [height] at *; omega
      · simp only [height] at *; omega
  · split
    · cases r with
      | leaf a b => exact Int.le_refl _
      | node a b =>
        dsimp only
        split
        · cases a with
          | leaf c d => exact Int.le_refl _
          | node c d => simp only [height] at *; omega
        · simp only [height] at *; omega
    · exact Int.le_refl _
theorem put_Ks {k v : List UInt8} (hk : k.length ≤ 1000 ∧ v.length ≤ 1000) : ∀ {t : Tr}, t.Ks → (t.put k v).Ks
  | leaf a b, h => by unfold put; split; exact ⟨hk, h⟩; split; exact ⟨h, hk⟩; exact hk
  | node l r, h => by unfold put; split; exact bal_Ks (put_Ks hk h.1) h.2; exact bal_Ks h.1 (put_Ks hk h.2)
theorem put_height (k v : List UInt8) : ∀ t : Tr, (t.put k v).height ≤ t.height + 1
  | leaf a b => by unfold put; split; simp [height]; split; simp [height]; simp [height]
  | node l r => by
    have h1 := put_height k v l; have h2 := put_height k v r
    unfold put; split
    · have := bal_height (l.put k v) r; simp only [height]; omega
    · have := bal_height l (r.put k v); simp only [height]; omega
end Tr
noncomputable def c101 : Code := (Tryd.f101.body).getD .skip
theorem putnil_ok (k v : List UInt8) (hk : k.length ≤ 1000) (hv : v.length ≤ 1000) : FOk EN 101 ⟨[.pr wordsP, .rd 5 k, .rd 5 v], [.v (.pointer none), .n 1, .n 2], Unit, fun _ => ([.pr wordsP, .rd 5 k, .rd 5 v, .pn (PT (.leaf k v)) false false], .p 3 0), fun _ => True⟩ := by
 refine v_fun Tryd.f101 c101 MX (fun ν F σ w => ?_) Tryd.func101
 refine v_nl ?_
 refine v_call _ [0, 1, 2] (leaf_ok (k) (v) (by assumption) (by assumption)) ((wordsP = wordsP) ∧ (k = k) ∧ (v = v)) ⟨rfl, rfl, rfl⟩ (fun g1 p2 => ?_)
 have p2 : True := p2
 exact v_ret () [4] ((wordsP = wordsP) ∧ (k = k) ∧ (v = v) ∧ (PT (Tr.leaf k v) = PT (Tr.leaf k v)) ∧ (false = false)) ⟨rfl, rfl, rfl, rfl, rfl⟩ trivial
theorem put_leaf_aux (k v a b : List UInt8) (hk : k.length ≤ 1000) (hv : v.length ≤ 1000) (hab : (Tr.leaf a b).Ks) : FOk EN 101 ⟨[.pr wordsP, .rd 5 k, .rd 5 v, .pn (PT (.leaf a b)) false false], [.p 3 0, .n 1, .n 2], Unit, fun _ => ([.pr wordsP, .rd 5 k, .rd 5 v, .pn (PT (.leaf a b)) false false, .pn (PT ((Tr.leaf a b).put k v)) false false], .p 4 0), fun _ => True⟩ := by
 refine v_fun Tryd.f101 c101 MX (fun ν F σ w => ?_) Tryd.func101
 refine v_nl ?_
 refine v_if (false) True trivial (fun h1 => ?_) (fun h1 => ?_)
 ·skip
  contradiction
 ·skip
  refine v_open 3 (open_leaf (a) (b)) ((false = false) ∧ (PT (Tr.leaf a b) = PT (Tr.leaf a b))) ⟨rfl, rfl⟩ ?_
  refine v_call _ [1, 5] (bcmp_ok (k) (a)) ((k = k) ∧ (a = a)) ⟨rfl, rfl⟩ (fun g2 p3 => ?_)
  have p3 : True := p3
  refine v_guard 27 (decide ((0 : Int) < (0 : Int))) True trivial (fun h4 => ?_) (fun h4 => ?_)
  ·have h4 := of_decide_eq_true h4
   omega
  ·have h4 := of_decide_eq_false h4
   refine v_if (decide ((0 : Int) < (0 : Int))) True trivial (fun h5 => ?_) (fun h5 => ?_)
   ·have h5 := of_decide_eq_true h5
    omega
   ·have h5 := of_decide_eq_false h5
    refine v_if (decide (Lib.compareBytes k a < 0)) True trivial (fun h6 => ?_) (fun h6 => ?_)
    ·have h6 := of_decide_eq_true h6
     refine v_call _ [0, 1, 2] (leaf_ok (k) (v) (by assumption) (by assumption)) ((wordsP = wordsP) ∧ (k = k) ∧ (v = v)) ⟨rfl, rfl, rfl⟩ (fun g7 p8 => ?_)
     have p8 : True := p8
     refine v_call _ [0, 7, 3] (inner_ok (Tr.leaf k v) (Tr.leaf a b) (by exact Tr.ok (by first | exact hab | exact ⟨hk, hv⟩) (by simp only [Tr.height]; decide)) (by exact Tr.ok (by first | exact hab | exact ⟨hk, hv⟩) (by simp only [Tr.height]; decide))) ((wordsP = wordsP) ∧ (PT (Tr.leaf k v) = PT (Tr.leaf k v)) ∧ (false = false) ∧ (PLe (PT (Tr.leaf a b)) (PT (Tr.leaf a b))) ∧ (false = false)) ⟨rfl, rfl, rfl, fun _ _ _ h => h, rfl⟩ (fun g9 p10 => ?_)
     have p10 : True := p10
     exact v_ret () [8] ((wordsP = wordsP) ∧ (k = k) ∧ (v = v) ∧ (PLe (PT (Tr.leaf a b)) (PT (Tr.leaf a b))) ∧ (false = false) ∧ (PT ((Tr.leaf k v).node (Tr.leaf a b)) = PT (Tr.put k v (Tr.leaf a b))) ∧ (false = false)) ⟨rfl, rfl, rfl, fun _ _ _ h => h, rfl, (by (simp only [Tr.put]; (repeat first | rw [if_pos (by omega)] | rw [if_neg (by omega)]); done)), rfl⟩ trivial
    ·have h6 := of_decide_eq_false h6
     refine v_if (decide (0 < Lib.compareBytes k a)) True trivial (fun h11 => ?_) (fun h11 => ?_)
     ·have h11 := of_decide_eq_true h11
      refine v_call _ [0, 1, 2] (leaf_ok (k) (v) (by assumption) (by assumption)) ((wordsP = wordsP) ∧ (k = k) ∧ (v = v)) ⟨rfl, rfl, rfl⟩ (fun g12 p13 => ?_)
      have p13 : True := p13
      refine v_call _ [0, 3, 7] (inner_ok (Tr.leaf a b) (Tr.leaf k v) (by exact Tr.ok (by first | exact hab | exact ⟨hk, hv⟩) (by simp only [Tr.height]; decide)) (by exact Tr.ok (by first | exact hab | exact ⟨hk, hv⟩) (by simp only [Tr.height]; decide))) ((wordsP = wordsP) ∧ (PLe (PT (Tr.leaf a b)) (PT (Tr.leaf a b))) ∧ (false = false) ∧ (PT (Tr.leaf k v) = PT (Tr.leaf k v)) ∧ (false = false)) ⟨rfl, fun _ _ _ h => h, rfl, rfl, rfl⟩ (fun g14 p15 => ?_)
      have p15 : True := p15
      exact v_ret () [8] ((wordsP = wordsP) ∧ (k = k) ∧ (v = v) ∧ (PLe (PT (Tr.leaf a b)) (PT (Tr.leaf a b))) ∧ (false = false) ∧ (PT ((Tr.leaf a b).node (Tr.leaf k v)) = PT (Tr.put k v (Tr.leaf a b))) ∧ (false = false)) ⟨rfl, rfl, rfl, fun _ _ _ h => h, rfl, (by (simp only [Tr.put]; (repeat first | rw [if_pos (by omega)] | rw [if_neg (by omega)]); done)), rfl⟩ trivial
     ·have h11 := of_decide_eq_false h11
      refine v_call _ [0, 1, 2] (leaf_ok (k) (v) (by assumption) (by assumption)) ((wordsP = wordsP) ∧ (k = k) ∧ (v = v)) ⟨rfl, rfl, rfl⟩ (fun g16 p17 => ?_)
      have p17 : True := p17
      exact v_ret () [7] ((wordsP = wordsP) ∧ (k = k) ∧ (v = v) ∧ (PLe (PT (Tr.leaf a b)) (PT (Tr.leaf a b))) ∧ (false = false) ∧ (PT (Tr.leaf k v) = PT (Tr.put k v (Tr.leaf a b))) ∧ (false = false)) ⟨rfl, rfl, rfl, fun _ _ _ h => h, rfl, (by (simp only [Tr.put]; (repeat first | rw [if_pos (by omega)] | rw [if_neg (by omega)]); done)), rfl⟩ trivial
theorem put_node_aux (k v : List UInt8) (l r : Tr) (hk : k.length ≤ 1000) (hv : v.length ≤ 1000) (hlr : (Tr.node l r).Ks) (hh : (Tr.node l r).height < 700) (hpos : 0 < (Tr.node l r).height)
  (ihl : FOk EN 101 ⟨[.pr wordsP, .rd 5 k, .rd 5 v, .pn (PT l) false false], [.p 3 0, .n 1, .n 2], Unit, fun _ => ([.pr wordsP, .rd 5 k, .rd 5 v, .pn (PT l) false false, .pn (PT (l.put k v)) false false], .p 4 0), fun _ => True⟩)
  (ihr : FOk EN 101 ⟨[.pr wordsP, .rd 5 k, .rd 5 v, .pn (PT r) false false], [.p 3 0, .n 1, .n 2], Unit, fun _ => ([.pr wordsP, .rd 5 k, .rd 5 v, .pn (PT r) false false, .pn (PT (r.put k v)) false false], .p 4 0), fun _ => True⟩) :
  FOk EN 101 ⟨[.pr wordsP, .rd 5 k, .rd 5 v, .pn (PT (.node l r)) false false], [.p 3 0, .n 1, .n 2], Unit, fun _ => ([.pr wordsP, .rd 5 k, .rd 5 v, .pn (PT (.node l r)) false false, .pn (PT ((Tr.node l r).put k v)) false false], .p 4 0), fun _ => True⟩ := by
 refine v_fun Tryd.f101 c101 MX (fun ν F σ w => ?_) Tryd.func101
 refine v_nl ?_
 refine v_if (false) True trivial (fun h1 => ?_) (fun h1 => ?_)
 ·skip
  contradiction
 ·skip
  refine v_open 3 (open_node (l) (r)) ((false = false) ∧ (PT (l.node r) = PT (l.node r))) ⟨rfl, rfl⟩ ?_
  refine v_call _ [1, 5] (bcmp_ok (k) ((l.node r).key)) ((k = k) ∧ ((l.node r).key = (l.node r).key)) ⟨rfl, rfl⟩ (fun g2 p3 => ?_)
  have p3 : True := p3
  refine v_guard 27 (decide (0 < (l.node r).height)) True trivial (fun h4 => ?_) (fun h4 => ?_)
  ·have h4 := of_decide_eq_true h4
   refine v_if (decide (Lib.compareBytes k (l.node r).key < 0)) True trivial (fun h5 => ?_) (fun h5 => ?_)
   ·have h5 := of_decide_eq_true h5
    refine v_plan (.fs [0, 1, 2, 3, 4, 5, 7, 8, 9, 10] (.o 6 (.o 11 (.fs [12] .e)))) [] True trivial ?_
    refine v_call _ [0, 1, 2, 6] (ihl) ((wordsP = wordsP) ∧ (k = k) ∧ (v = v) ∧ (PT l = PT l) ∧ (false = false)) ⟨rfl, rfl, rfl, rfl, rfl⟩ (fun g6 p7 => ?_)
    have p7 : True := p7
    refine v_call _ [0, 8, 7] (bal_ok (Tr.put k v l) (r) (by exact Tr.put_Ks ⟨hk, hv⟩ hlr.1) (by exact hlr.2) (by (have h1 := Tr.put_height k v l; have h2 := Tr.put_height k v r; simp only [Tr.height] at hh; omega)) (by (have h1 := Tr.put_height k v l; have h2 := Tr.put_height k v r; simp only [Tr.height] at hh; omega))) ((wordsP = wordsP) ∧ (PT (Tr.put k v l) = PT (Tr.put k v l)) ∧ (false = false) ∧ (PT r = PT r) ∧ (false = false)) ⟨rfl, rfl, rfl, rfl, rfl⟩ (fun g8 p9 => ?_)
    have p9 : True := p9
    exact v_ret () [9] ((wordsP = wordsP) ∧ (k = k) ∧ (v = v) ∧ (PLe (PT (l.node r)) (PT (l.node r))) ∧ (false = false) ∧ (PT ((Tr.put k v l).bal r) = PT (Tr.put k v (l.node r))) ∧ (false = false)) ⟨rfl, rfl, rfl, fun _ _ _ h => h, rfl, (by exact congrArg PT (Eq.symm (by rw [Tr.put]; first | exact if_pos (by assumption) | exact if_neg (by assumption)))), rfl⟩ trivial
   ·have h5 := of_decide_eq_false h5
    refine v_if (decide (0 < (l.node r).height)) True trivial (fun h10 => ?_) (fun h10 => ?_)
    ·have h10 := of_decide_eq_true h10
     refine v_plan (.fs [0, 1, 2, 3, 4, 5, 6, 7, 8, 9] (.o 10 (.o 11 (.fs [12] .e)))) [] True trivial ?_
     refine v_call _ [0, 1, 2, 7] (ihr) ((wordsP = wordsP) ∧ (k = k) ∧ (v = v) ∧ (PT r = PT r) ∧ (false = false)) ⟨rfl, rfl, rfl, rfl, rfl⟩ (fun g11 p12 => ?_)
     have p12 : True := p12
     refine v_call _ [0, 6, 8] (bal_ok (l) (Tr.put k v r) (by exact hlr.1) (by exact Tr.put_Ks ⟨hk, hv⟩ hlr.2) (by (have h1 := Tr.put_height k v l; have h2 := Tr.put_height k v r; simp only [Tr.height] at hh; omega)) (by (have h1 := Tr.put_height k v l; have h2 := Tr.put_height k v r; simp only [Tr.height] at hh; omega))) ((wordsP = wordsP) ∧ (PT l = PT l) ∧ (false = false) ∧ (PT (Tr.put k v r) = PT (Tr.put k v r)) ∧ (false = false)) ⟨rfl, rfl, rfl, rfl, rfl⟩ (fun g13 p14 => ?_)
     have p14 : True := p14
     exact v_ret () [9] ((wordsP = wordsP) ∧ (k = k) ∧ (v = v) ∧ (PLe (PT (l.node r)) (PT (l.node r))) ∧ (false = false) ∧ (PT (l.bal (Tr.put k v r)) = PT (Tr.put k v (l.node r))) ∧ (false = false)) ⟨rfl, rfl, rfl, fun _ _ _ h => h, rfl, (by exact congrArg PT (Eq.symm (by rw [Tr.put]; first | exact if_pos (by assumption) | exact if_neg (by assumption)))), rfl⟩ trivial
    ·have h10 := of_decide_eq_false h10
     omega
  ·have h4 := of_decide_eq_false h4
   omega
theorem tput_ok (k v : List UInt8) (hk : k.length ≤ 1000) (hv : v.length ≤ 1000) : ∀ (t : Tr), t.Ks → t.height < 700 → FOk EN 101 ⟨[.pr wordsP, .rd 5 k, .rd 5 v, .pn (PT t) false false], [.p 3 0, .n 1, .n 2], Unit, fun _ => ([.pr wordsP, .rd 5 k, .rd 5 v, .pn (PT t) false false, .pn (PT (t.put k v)) false false], .p 4 0), fun _ => True⟩
  | .leaf a b, h, _ => put_leaf_aux k v a b hk hv h
  | .node l r, h, hh => put_node_aux k v l r hk hv h hh (by have h1 := l.height_nn; have h2 := r.height_nn; simp only [Tr.height]; omega) (tput_ok k v hk hv l h.1 (by simp only [Tr.height] at hh; omega)) (tput_ok k v hk hv r h.2 (by simp only [Tr.height] at hh; omega))
end Go.Proofs.YtnicmjipbnhciaaDoor.X
set_option linter.unusedVariables false
set_option linter.unusedSimpArgs false
set_option maxRecDepth 100000
namespace Go.Proofs.YtnicmjipbnhciaaDoor.X
open Go Go.RowKit Go.Proofs Go.Proofs.YtnicmjipbnhciaaDoor.E
namespace Tr
def leaves : Tr → List Pair
  | leaf k v => [⟨k, v⟩]
  | node l r => l.leaves ++ r.leaves
end Tr
noncomputable def c104 : Code := (Tryd.f104.body).getD .skip
theorem walk_leaf_aux (a b : List UInt8) (xs : List Pair) (hab : (Tr.leaf a b).Ks) (hx : xs.length ≤ 900000) : FOk EN 104 ⟨[.pn (PT (.leaf a b)) false false, .ow 46 xs], [.p 0 0, .n 1], Unit, fun _ => ([.pn (PT (.leaf a b)) false false, .no, .ow 46 (xs ++ (Tr.leaf a b).leaves)], .n 2), fun _ => True⟩ := by
 refine v_fun Tryd.f104 c104 MX (fun ν F σ w => ?_) Tryd.func104
 refine v_nl ?_
 refine v_if (false) True trivial (fun h1 => ?_) (fun h1 => ?_)
 ·skip
  contradiction
 ·skip
  refine v_open 0 (open_leaf (a) (b)) ((false = false) ∧ (PT (Tr.leaf a b) = PT (Tr.leaf a b))) ⟨rfl, rfl⟩ ?_
  refine v_if (decide ((0 : Int) = (0 : Int))) True trivial (fun h2 => ?_) (fun h2 => ?_)
  ·have h2 := of_decide_eq_true h2
   refine v_plan (.fs [0, 1, 2, 3, 4, 5, 7, 8, 9, 10, 11] (.o 6 (.o 12 (.fs [13] (.o 14 (.o 15 (.fs [16] .e))))))) [] True trivial ?_
   refine v_call _ [3] (clone_ok (a) (by (have h1 := hab; simp only [Tr.Ks] at h1; omega))) ((a = a)) rfl (fun g3 p4 => ?_)
   have p4 : True := p4
   refine v_call _ [4] (clone_ok (b) (by (have h1 := hab; simp only [Tr.Ks] at h1; omega))) ((b = b)) rfl (fun g5 p6 => ?_)
   have p6 : True := p6
   exact v_ret () [8] ((xs.length + 1 ≤ 1000000) ∧ (PLe (PT (Tr.leaf a b)) (PT (Tr.leaf a b))) ∧ (false = false) ∧ (xs ++ [Pair.mk a b] = xs ++ (Tr.leaf a b).leaves)) ⟨(by omega), fun _ _ _ h => h, rfl, rfl⟩ trivial
  ·have h2 := of_decide_eq_false h2
   omega
theorem walk_node_aux (l r : Tr) (xs : List Pair) (hpos : 0 < (Tr.node l r).height)
  (ihl : FOk EN 104 ⟨[.pn (PT l) false false, .ow 46 xs], [.p 0 0, .n 1], Unit, fun _ => ([.pn (PT l) false false, .no, .ow 46 (xs ++ l.leaves)], .n 2), fun _ => True⟩)
  (ihr : FOk EN 104 ⟨[.pn (PT r) false false, .ow 46 (xs ++ l.leaves)], [.p 0 0, .n 1], Unit, fun _ => ([.pn (PT r) false false, .no, .ow 46 (xs ++ l.leaves ++ r.leaves)], .n 2), fun _ => True⟩) :
  FOk EN 104 ⟨[.pn (PT (.node l r)) false false, .ow 46 xs], [.p 0 0, .n 1], Unit, fun _ => ([.pn (PT (.node l r)) false false, .no, .ow 46 (xs ++ (Tr.node l r).leaves)], .n 2), fun _ => True⟩ := by
 refine v_fun Tryd.f104 c104 MX (fun ν F σ w => ?_) Tryd.func104
 refine v_nl ?_
 refine v_if (false) True trivial (fun h1 => ?_) (fun h1 => ?_)
 ·skip
  contradiction
 ·skip
  refine v_open 0 (open_node (l) (r)) ((false = false) ∧ (PT (l.node r) = PT (l.node r))) ⟨rfl, rfl⟩ ?_
  refine v_if (decide ((l.node r).height = 0)) True trivial (fun h2 => ?_) (fun h2 => ?_)
  ·have h2 := of_decide_eq_true h2
   omega
  ·have h2 := of_decide_eq_false h2
   refine v_plan (.fs [0, 1, 2, 3, 4, 5, 6, 7, 8] (.o 9 (.o 10 (.fs [11] .e)))) [] True trivial ?_
   refine v_call _ [4, 1] (ihl) ((PT l = PT l) ∧ (false = false) ∧ (xs = xs)) ⟨rfl, rfl, rfl⟩ (fun g3 p4 => ?_)
   have p4 : True := p4
   refine v_call _ [5, 6] (ihr) ((PT r = PT r) ∧ (false = false) ∧ (xs ++ l.leaves = xs ++ l.leaves)) ⟨rfl, rfl, rfl⟩ (fun g5 p6 => ?_)
   have p6 : True := p6
   exact v_ret () [7] ((PLe (PT (l.node r)) (PT (l.node r))) ∧ (false = false) ∧ (xs ++ l.leaves ++ r.leaves = xs ++ (l.node r).leaves)) ⟨fun _ _ _ h => h, rfl, (by exact (List.append_assoc ..))⟩ trivial
theorem walk_ok : ∀ (t : Tr) (xs : List Pair), t.Ks → xs.length + t.leaves.length ≤ 900000 → FOk EN 104 ⟨[.pn (PT t) false false, .ow 46 xs], [.p 0 0, .n 1], Unit, fun _ => ([.pn (PT t) false false, .no, .ow 46 (xs ++ t.leaves)], .n 2), fun _ => True⟩
  | .leaf a b, xs, h, hx => walk_leaf_aux a b xs h (by omega)
  | .node l r, xs, h, hx => by
    have e : (Tr.node l r).leaves.length = l.leaves.length + r.leaves.length := by simp [Tr.leaves]
    exact walk_node_aux l r xs (by have h1 := l.height_nn; have h2 := r.height_nn; simp only [Tr.height]; omega) (walk_ok l xs h.1 (by omega)) (walk_ok r _ h.2 (by simp only [List.length_append]; omega))
end Go.Proofs.YtnicmjipbnhciaaDoor.X
set_option linter.unusedVariables false
set_option linter.unusedSimpArgs false
set_option maxRecDepth 100000
namespace Go.Proofs.YtnicmjipbnhciaaDoor.X
open Go Go.RowKit Go.Proofs Go.Proofs.YtnicmjipbnhciaaDoor.E
namespace Tr
/-- Without a key: none: it isn't there. -/
def cut (k : List UInt8) : Tr → Option (Option Tr)
  | leaf a b => if a = k then some none else none
  | node l r => if Lib.compareBytes k r.least < 0 then match l.cut k with
      | none => none
      | some none => some (some r)
      | some (some l') => some (some (l'.bal r))
    else match r.cut k with
      | none => none
      | some none => some (some l)
      | some (some r') => some (some (l.bal r'))
end Tr
noncomputable def c105 : Code := (Tryd.f105.body).getD .skip
theorem cut1_aux (k : List UInt8) (a b : List UInt8) (h : ¬ a = k) : FOk EN 105 ⟨[.pr wordsP, .rd 5 k, .pn (PT (.leaf a b)) false false], [.p 2 0, .n 1], Unit, fun _ => ([.pr wordsP, .rd 5 k, .pn (PT (.leaf a b)) false false], .t [.p 2 0, .b false]), fun _ => True⟩ := by
 refine v_fun Tryd.f105 c105 MX (fun ν F σ w => ?_) Tryd.func105
 refine v_nl ?_
 refine v_guard 11 (false) True trivial (fun h1 => ?_) (fun h1 => ?_)
 ·skip
  contradiction
 ·skip
  refine v_open 2 (open_leaf (a) (b)) ((false = false) ∧ (PT (Tr.leaf a b) = PT (Tr.leaf a b))) ⟨rfl, rfl⟩ ?_
  refine v_guard 18 (decide ((0 : Int) = (0 : Int))) True trivial (fun h2 => ?_) (fun h2 => ?_)
  ·have h2 := of_decide_eq_true h2
   refine v_call _ [4, 1] (beq_ok (a) (k)) ((a = a) ∧ (k = k)) ⟨rfl, rfl⟩ (fun g3 p4 => ?_)
   have p4 : True := p4
   refine v_if (!decide (a = k)) True trivial (fun h5 => ?_) (fun h5 => ?_)
   ·have h5 := of_decide_eq_false (nt h5)
    exact v_ret () [] ((false = false) ∧ (wordsP = wordsP) ∧ (k = k) ∧ (PLe (PT (Tr.leaf a b)) (PT (Tr.leaf a b))) ∧ (false = false)) ⟨rfl, rfl, rfl, fun _ _ _ h => h, rfl⟩ trivial
   ·have h5 := of_decide_eq_true (nf h5)
    contradiction
  ·have h2 := of_decide_eq_false h2
   omega
theorem cut2_aux (k : List UInt8) (a b : List UInt8) (h : a = k) : FOk EN 105 ⟨[.pr wordsP, .rd 5 k, .pn (PT (.leaf a b)) false false], [.p 2 0, .n 1], Unit, fun _ => ([.pr wordsP, .rd 5 k, .pn (PT (.leaf a b)) false false], .t [.v (.pointer none), .b true]), fun _ => True⟩ := by
 refine v_fun Tryd.f105 c105 MX (fun ν F σ w => ?_) Tryd.func105
 refine v_nl ?_
 refine v_guard 11 (false) True trivial (fun h1 => ?_) (fun h1 => ?_)
 ·skip
  contradiction
 ·skip
  refine v_open 2 (open_leaf (a) (b)) ((false = false) ∧ (PT (Tr.leaf a b) = PT (Tr.leaf a b))) ⟨rfl, rfl⟩ ?_
  refine v_guard 18 (decide ((0 : Int) = (0 : Int))) True trivial (fun h2 => ?_) (fun h2 => ?_)
  ·have h2 := of_decide_eq_true h2
   refine v_call _ [4, 1] (beq_ok (a) (k)) ((a = a) ∧ (k = k)) ⟨rfl, rfl⟩ (fun g3 p4 => ?_)
   have p4 : True := p4
   refine v_if (!decide (a = k)) True trivial (fun h5 => ?_) (fun h5 => ?_)
   ·have h5 := of_decide_eq_false (nt h5)
    contradiction
   ·have h5 := of_decide_eq_true (nf h5)
    refine v_if (decide ((0 : Int) = (0 : Int))) True trivial (fun h6 => ?_) (fun h6 => ?_)
    ·have h6 := of_decide_eq_true h6
     exact v_ret () [] ((Value.pointer none = Value.pointer none) ∧ (true = true) ∧ (wordsP = wordsP) ∧ (k = k) ∧ (PLe (PT (Tr.leaf a b)) (PT (Tr.leaf a b))) ∧ (false = false)) ⟨rfl, rfl, rfl, rfl, fun _ _ _ h => h, rfl⟩ trivial
    ·have h6 := of_decide_eq_false h6
     omega
  ·have h2 := of_decide_eq_false h2
   omega
theorem cut3_aux (k : List UInt8) (l r : Tr) (hpos : 0 < (Tr.node l r).height) (hc : Lib.compareBytes k (Tr.node l r).key < 0) (ih : FOk EN 105 ⟨[.pr wordsP, .rd 5 k, .pn (PT l) false false], [.p 2 0, .n 1], Unit, fun _ => ([.pr wordsP, .rd 5 k, .pn (PT l) false false], .t [.p 2 0, .b false]), fun _ => True⟩) : FOk EN 105 ⟨[.pr wordsP, .rd 5 k, .pn (PT (.node l r)) false false], [.p 2 0, .n 1], Unit, fun _ => ([.pr wordsP, .rd 5 k, .pn (PT (.node l r)) false false], .t [.p 2 0, .b false]), fun _ => True⟩ := by
 refine v_fun Tryd.f105 c105 MX (fun ν F σ w => ?_) Tryd.func105
 refine v_nl ?_
 refine v_guard 11 (false) True trivial (fun h1 => ?_) (fun h1 => ?_)
 ·skip
  contradiction
 ·skip
  refine v_open 2 (open_node (l) (r)) ((false = false) ∧ (PT (l.node r) = PT (l.node r))) ⟨rfl, rfl⟩ ?_
  refine v_guard 18 (decide ((l.node r).height = 0)) True trivial (fun h2 => ?_) (fun h2 => ?_)
  ·have h2 := of_decide_eq_true h2
   omega
  ·have h2 := of_decide_eq_false h2
   refine v_if (decide ((l.node r).height = 0)) True trivial (fun h3 => ?_) (fun h3 => ?_)
   ·have h3 := of_decide_eq_true h3
    omega
   ·have h3 := of_decide_eq_false h3
    refine v_plan (.fs [0, 1, 2, 3, 4, 5, 6, 7, 8, 9, 10] .e) [] True trivial ?_
    refine v_call _ [1, 4] (bcmp_ok (k) ((l.node r).key)) ((k = k) ∧ ((l.node r).key = (l.node r).key)) ⟨rfl, rfl⟩ (fun g4 p5 => ?_)
    have p5 : True := p5
    refine v_if (decide (Lib.compareBytes k (l.node r).key < 0)) True trivial (fun h6 => ?_) (fun h6 => ?_)
    ·have h6 := of_decide_eq_true h6
     refine v_call _ [0, 1, 5] (ih) ((wordsP = wordsP) ∧ (k = k) ∧ (PT l = PT l) ∧ (false = false)) ⟨rfl, rfl, rfl, rfl⟩ (fun g7 p8 => ?_)
     have p8 : True := p8
     refine v_if (!false) True trivial (fun h9 => ?_) (fun h9 => ?_)
     ·have h9 := (nt h9)
      exact v_ret () [] ((false = false) ∧ (wordsP = wordsP) ∧ (k = k) ∧ (PLe (PT (l.node r)) (PT (l.node r))) ∧ (false = false)) ⟨rfl, rfl, rfl, fun _ _ _ h => h, rfl⟩ trivial
     ·have h9 := (nf h9)
      contradiction
    ·have h6 := of_decide_eq_false h6
     omega
theorem cut4_aux (k : List UInt8) (l r : Tr) (hpos : 0 < (Tr.node l r).height) (hc : Lib.compareBytes k (Tr.node l r).key < 0) (ih : FOk EN 105 ⟨[.pr wordsP, .rd 5 k, .pn (PT l) false false], [.p 2 0, .n 1], Unit, fun _ => ([.pr wordsP, .rd 5 k, .pn (PT l) false false], .t [.v (.pointer none), .b true]), fun _ => True⟩) : FOk EN 105 ⟨[.pr wordsP, .rd 5 k, .pn (PT (.node l r)) false false], [.p 2 0, .n 1], Unit, fun _ => ([.pr wordsP, .rd 5 k, .pn (PT (.node l r)) false false, .pn (PT r) false false], .t [.p 3 0, .b true]), fun _ => True⟩ := by
 refine v_fun Tryd.f105 c105 MX (fun ν F σ w => ?_) Tryd.func105
 refine v_nl ?_
 refine v_guard 11 (false) True trivial (fun h1 => ?_) (fun h1 => ?_)
 ·skip
  contradiction
 ·skip
  refine v_open 2 (open_node (l) (r)) ((false = false) ∧ (PT (l.node r) = PT (l.node r))) ⟨rfl, rfl⟩ ?_
  refine v_guard 18 (decide ((l.node r).height = 0)) True trivial (fun h2 => ?_) (fun h2 => ?_)
  ·have h2 := of_decide_eq_true h2
   omega
  ·have h2 := of_decide_eq_false h2
   refine v_if (decide ((l.node r).height = 0)) True trivial (fun h3 => ?_) (fun h3 => ?_)
   ·have h3 := of_decide_eq_true h3
    omega
   ·have h3 := of_decide_eq_false h3
    refine v_plan (.fs [0, 1, 2, 3, 4, 5, 6, 7, 8, 9, 10] .e) [] True trivial ?_
    refine v_call _ [1, 4] (bcmp_ok (k) ((l.node r).key)) ((k = k) ∧ ((l.node r).key = (l.node r).key)) ⟨rfl, rfl⟩ (fun g4 p5 => ?_)
    have p5 : True := p5
    refine v_if (decide (Lib.compareBytes k (l.node r).key < 0)) True trivial (fun h6 => ?_) (fun h6 => ?_)
    ·have h6 := of_decide_eq_true h6
     refine v_call _ [0, 1, 5] (ih) ((wordsP = wordsP) ∧ (k = k) ∧ (PT l = PT l) ∧ (false = false)) ⟨rfl, rfl, rfl, rfl⟩ (fun g7 p8 => ?_)
     have p8 : True := p8
     refine v_if (!true) True trivial (fun h9 => ?_) (fun h9 => ?_)
     ·have h9 := (nt h9)
      contradiction
     ·have h9 := (nf h9)
      exact v_ret () [6] ((true = true) ∧ (wordsP = wordsP) ∧ (k = k) ∧ (PLe (PT (l.node r)) (PT (l.node r))) ∧ (false = false) ∧ (PT r = PT r) ∧ (false = false)) ⟨rfl, rfl, rfl, fun _ _ _ h => h, rfl, rfl, rfl⟩ trivial
    ·have h6 := of_decide_eq_false h6
     omega
theorem cut5_aux (k : List UInt8) (l r l2 : Tr) (hpos : 0 < (Tr.node l r).height) (hc : Lib.compareBytes k (Tr.node l r).key < 0) (h1 : l2.Ks) (h2 : r.Ks) (h3 : l2.height < 800) (h4 : r.height < 800) (ih : FOk EN 105 ⟨[.pr wordsP, .rd 5 k, .pn (PT l) false false], [.p 2 0, .n 1], Unit, fun _ => ([.pr wordsP, .rd 5 k, .pn (PT l) false false, .pn (PT l2) false false], .t [.p 3 0, .b true]), fun _ => True⟩) : FOk EN 105 ⟨[.pr wordsP, .rd 5 k, .pn (PT (.node l r)) false false], [.p 2 0, .n 1], Unit, fun _ => ([.pr wordsP, .rd 5 k, .pn (PT (.node l r)) false false, .pn (PT (l2.bal r)) false false], .t [.p 3 0, .b true]), fun _ => True⟩ := by
 refine v_fun Tryd.f105 c105 MX (fun ν F σ w => ?_) Tryd.func105
 refine v_nl ?_
 refine v_guard 11 (false) True trivial (fun h1 => ?_) (fun h1 => ?_)
 ·skip
  contradiction
 ·skip
  refine v_open 2 (open_node (l) (r)) ((false = false) ∧ (PT (l.node r) = PT (l.node r))) ⟨rfl, rfl⟩ ?_
  refine v_guard 18 (decide ((l.node r).height = 0)) True trivial (fun h2 => ?_) (fun h2 => ?_)
  ·have h2 := of_decide_eq_true h2
   omega
  ·have h2 := of_decide_eq_false h2
   refine v_if (decide ((l.node r).height = 0)) True trivial (fun h3 => ?_) (fun h3 => ?_)
   ·have h3 := of_decide_eq_true h3
    omega
   ·have h3 := of_decide_eq_false h3
    refine v_plan (.fs [0, 1, 2, 3, 4, 5, 6, 7, 8, 9, 10] .e) [] True trivial ?_
    refine v_call _ [1, 4] (bcmp_ok (k) ((l.node r).key)) ((k = k) ∧ ((l.node r).key = (l.node r).key)) ⟨rfl, rfl⟩ (fun g4 p5 => ?_)
    have p5 : True := p5
    refine v_if (decide (Lib.compareBytes k (l.node r).key < 0)) True trivial (fun h6 => ?_) (fun h6 => ?_)
    ·have h6 := of_decide_eq_true h6
     refine v_call _ [0, 1, 5] (ih) ((wordsP = wordsP) ∧ (k = k) ∧ (PT l = PT l) ∧ (false = false)) ⟨rfl, rfl, rfl, rfl⟩ (fun g7 p8 => ?_)
     have p8 : True := p8
     refine v_if (!true) True trivial (fun h9 => ?_) (fun h9 => ?_)
     ·have h9 := (nt h9)
      contradiction
     ·have h9 := (nf h9)
      refine v_if (false) True trivial (fun h10 => ?_) (fun h10 => ?_)
      ·skip
       contradiction
      ·skip
       refine v_if (false) True trivial (fun h11 => ?_) (fun h11 => ?_)
       ·skip
        contradiction
       ·skip
        refine v_call _ [0, 7, 6] (bal_ok (l2) (r) (by assumption) (by assumption) (by assumption) (by assumption)) ((wordsP = wordsP) ∧ (PT l2 = PT l2) ∧ (false = false) ∧ (PT r = PT r) ∧ (false = false)) ⟨rfl, rfl, rfl, rfl, rfl⟩ (fun g12 p13 => ?_)
        have p13 : True := p13
        exact v_ret () [8] ((true = true) ∧ (wordsP = wordsP) ∧ (k = k) ∧ (PLe (PT (l.node r)) (PT (l.node r))) ∧ (false = false) ∧ (PT (l2.bal r) = PT (l2.bal r)) ∧ (false = false)) ⟨rfl, rfl, rfl, fun _ _ _ h => h, rfl, rfl, rfl⟩ trivial
    ·have h6 := of_decide_eq_false h6
     omega
theorem cut6_aux (k : List UInt8) (l r : Tr) (hpos : 0 < (Tr.node l r).height) (hc : ¬ Lib.compareBytes k (Tr.node l r).key < 0) (ih : FOk EN 105 ⟨[.pr wordsP, .rd 5 k, .pn (PT r) false false], [.p 2 0, .n 1], Unit, fun _ => ([.pr wordsP, .rd 5 k, .pn (PT r) false false], .t [.p 2 0, .b false]), fun _ => True⟩) : FOk EN 105 ⟨[.pr wordsP, .rd 5 k, .pn (PT (.node l r)) false false], [.p 2 0, .n 1], Unit, fun _ => ([.pr wordsP, .rd 5 k, .pn (PT (.node l r)) false false], .t [.p 2 0, .b false]), fun _ => True⟩ := by
 refine v_fun Tryd.f105 c105 MX (fun ν F σ w => ?_) Tryd.func105
 refine v_nl ?_
 refine v_guard 11 (false) True trivial (fun h1 => ?_) (fun h1 => ?_)
 ·skip
  contradiction
 ·skip
  refine v_open 2 (open_node (l) (r)) ((false = false) ∧ (PT (l.node r) = PT (l.node r))) ⟨rfl, rfl⟩ ?_
  refine v_guard 18 (decide ((l.node r).height = 0)) True trivial (fun h2 => ?_) (fun h2 => ?_)
  ·have h2 := of_decide_eq_true h2
   omega
  ·have h2 := of_decide_eq_false h2
   refine v_if (decide ((l.node r).height = 0)) True trivial (fun h3 => ?_) (fun h3 => ?_)
   ·have h3 := of_decide_eq_true h3
    omega
   ·have h3 := of_decide_eq_false h3
    refine v_plan (.fs [0, 1, 2, 3, 4, 5, 6, 7, 8, 9, 10] .e) [] True trivial ?_
    refine v_call _ [1, 4] (bcmp_ok (k) ((l.node r).key)) ((k = k) ∧ ((l.node r).key = (l.node r).key)) ⟨rfl, rfl⟩ (fun g4 p5 => ?_)
    have p5 : True := p5
    refine v_if (decide (Lib.compareBytes k (l.node r).key < 0)) True trivial (fun h6 => ?_) (fun h6 => ?_)
    ·have h6 := of_decide_eq_true h6
     omega
    ·have h6 := of_decide_eq_false h6
     refine v_call _ [0, 1, 6] (ih) ((wordsP = wordsP) ∧ (k = k) ∧ (PT r = PT r) ∧ (false = false)) ⟨rfl, rfl, rfl, rfl⟩ (fun g7 p8 => ?_)
     have p8 : True := p8
     refine v_if (!false) True trivial (fun h9 => ?_) (fun h9 => ?_)
     ·have h9 := (nt h9)
      exact v_ret () [] ((false = false) ∧ (wordsP = wordsP) ∧ (k = k) ∧ (PLe (PT (l.node r)) (PT (l.node r))) ∧ (false = false)) ⟨rfl, rfl, rfl, fun _ _ _ h => h, rfl⟩ trivial
     ·have h9 := (nf h9)
      contradiction
theorem cut7_aux (k : List UInt8) (l r : Tr) (hpos : 0 < (Tr.node l r).height) (hc : ¬ Lib.compareBytes k (Tr.node l r).key < 0) (ih : FOk EN 105 ⟨[.pr wordsP, .rd 5 k, .pn (PT r) false false], [.p 2 0, .n 1], Unit, fun _ => ([.pr wordsP, .rd 5 k, .pn (PT r) false false], .t [.v (.pointer none), .b true]), fun _ => True⟩) : FOk EN 105 ⟨[.pr wordsP, .rd 5 k, .pn (PT (.node l r)) false false], [.p 2 0, .n 1], Unit, fun _ => ([.pr wordsP, .rd 5 k, .pn (PT (.node l r)) false false, .pn (PT l) false false], .t [.p 3 0, .b true]), fun _ => True⟩ := by
 refine v_fun Tryd.f105 c105 MX (fun ν F σ w => ?_) Tryd.func105
 refine v_nl ?_
 refine v_guard 11 (false) True trivial (fun h1 => ?_) (fun h1 => ?_)
 ·skip
  contradiction
 ·skip
  refine v_open 2 (open_node (l) (r)) ((false = false) ∧ (PT (l.node r) = PT (l.node r))) ⟨rfl, rfl⟩ ?_
  refine v_guard 18 (decide ((l.node r).height = 0)) True trivial (fun h2 => ?_) (fun h2 => ?_)
  ·have h2 := of_decide_eq_true h2
   omega
  ·have h2 := of_decide_eq_false h2
   refine v_if (decide ((l.node r).height = 0)) True trivial (fun h3 => ?_) (fun h3 => ?_)
   ·have h3 := of_decide_eq_true h3
    omega
   ·have h3 := of_decide_eq_false h3
    refine v_plan (.fs [0, 1, 2, 3, 4, 5, 6, 7, 8, 9, 10] .e) [] True trivial ?_
    refine v_call _ [1, 4] (bcmp_ok (k) ((l.node r).key)) ((k = k) ∧ ((l.node r).key = (l.node r).key)) ⟨rfl, rfl⟩ (fun g4 p5 => ?_)
    have p5 : True := p5
    refine v_if (decide (Lib.compareBytes k (l.node r).key < 0)) True trivial (fun h6 => ?_) (fun h6 => ?_)
    ·have h6 := of_decide_eq_true h6
     omega
    ·have h6 := of_decide_eq_false h6
     refine v_call _ [0, 1, 6] (ih) ((wordsP = wordsP) ∧ (k = k) ∧ (PT r = PT r) ∧ (false = false)) ⟨rfl, rfl, rfl, rfl⟩ (fun g7 p8 => ?_)
     have p8 : True := p8
     refine v_if (!true) True trivial (fun h9 => ?_) (fun h9 => ?_)
     ·have h9 := (nt h9)
      contradiction
     ·have h9 := (nf h9)
      refine v_if (false) True trivial (fun h10 => ?_) (fun h10 => ?_)
      ·skip
       contradiction
      ·skip
       exact v_ret () [5] ((true = true) ∧ (wordsP = wordsP) ∧ (k = k) ∧ (PLe (PT (l.node r)) (PT (l.node r))) ∧ (false = false) ∧ (PT l = PT l) ∧ (false = false)) ⟨rfl, rfl, rfl, fun _ _ _ h => h, rfl, rfl, rfl⟩ trivial
theorem cut8_aux (k : List UInt8) (l r r2 : Tr) (hpos : 0 < (Tr.node l r).height) (hc : ¬ Lib.compareBytes k (Tr.node l r).key < 0) (h1 : l.Ks) (h2 : r2.Ks) (h3 : l.height < 800) (h4 : r2.height < 800) (ih : FOk EN 105 ⟨[.pr wordsP, .rd 5 k, .pn (PT r) false false], [.p 2 0, .n 1], Unit, fun _ => ([.pr wordsP, .rd 5 k, .pn (PT r) false false, .pn (PT r2) false false], .t [.p 3 0, .b true]), fun _ => True⟩) : FOk EN 105 ⟨[.pr wordsP, .rd 5 k, .pn (PT (.node l r)) false false], [.p 2 0, .n 1], Unit, fun _ => ([.pr wordsP, .rd 5 k, .pn (PT (.node l r)) false false, .pn (PT (l.bal r2)) false false], .t [.p 3 0, .b true]), fun _ => True⟩ := by
 refine v_fun Tryd.f105 c105 MX (fun ν F σ w => ?_) Tryd.func105
 refine v_nl ?_
 refine v_guard 11 (false) True trivial (fun h1 => ?_) (fun h1 => ?_)
 ·skip
  contradiction
 ·skip
  refine v_open 2 (open_node (l) (r)) ((false = false) ∧ (PT (l.node r) = PT (l.node r))) ⟨rfl, rfl⟩ ?_
  refine v_guard 18 (decide ((l.node r).height = 0)) True trivial (fun h2 => ?_) (fun h2 => ?_)
  ·have h2 := of_decide_eq_true h2
   omega
  ·have h2 := of_decide_eq_false h2
   refine v_if (decide ((l.node r).height = 0)) True trivial (fun h3 => ?_) (fun h3 => ?_)
   ·have h3 := of_decide_eq_true h3
    omega
   ·have h3 := of_decide_eq_false h3
    refine v_plan (.fs [0, 1, 2, 3, 4, 5, 6, 7, 8, 9, 10] .e) [] True trivial ?_
    refine v_call _ [1, 4] (bcmp_ok (k) ((l.node r).key)) ((k = k) ∧ ((l.node r).key = (l.node r).key)) ⟨rfl, rfl⟩ (fun g4 p5 => ?_)
    have p5 : True := p5
    refine v_if (decide (Lib.compareBytes k (l.node r).key < 0)) True trivial (fun h6 => ?_) (fun h6 => ?_)
    ·have h6 := of_decide_eq_true h6
     omega
    ·have h6 := of_decide_eq_false h6
     refine v_call _ [0, 1, 6] (ih) ((wordsP = wordsP) ∧ (k = k) ∧ (PT r = PT r) ∧ (false = false)) ⟨rfl, rfl, rfl, rfl⟩ (fun g7 p8 => ?_)
     have p8 : True := p8
     refine v_if (!true) True trivial (fun h9 => ?_) (fun h9 => ?_)
     ·have h9 := (nt h9)
      contradiction
     ·have h9 := (nf h9)
      refine v_if (false) True trivial (fun h10 => ?_) (fun h10 => ?_)
      ·skip
       contradiction
      ·skip
       refine v_if (false) True trivial (fun h11 => ?_) (fun h11 => ?_)
       ·skip
        contradiction
       ·skip
        refine v_call _ [0, 5, 7] (bal_ok (l) (r2) (by assumption) (by assumption) (by assumption) (by assumption)) ((wordsP = wordsP) ∧ (PT l = PT l) ∧ (false = false) ∧ (PT r2 = PT r2) ∧ (false = false)) ⟨rfl, rfl, rfl, rfl, rfl⟩ (fun g12 p13 => ?_)
        have p13 : True := p13
        exact v_ret () [8] ((true = true) ∧ (wordsP = wordsP) ∧ (k = k) ∧ (PLe (PT (l.node r)) (PT (l.node r))) ∧ (false = false) ∧ (PT (l.bal r2) = PT (l.bal r2)) ∧ (false = false)) ⟨rfl, rfl, rfl, fun _ _ _ h => h, rfl, rfl, rfl⟩ trivial
end Go.Proofs.YtnicmjipbnhciaaDoor.X
set_option linter.unusedVariables false
set_option linter.unusedSimpArgs false
set_option maxRecDepth 100000
namespace Go.Proofs.YtnicmjipbnhciaaDoor.X
open Go Go.RowKit Go.Proofs Go.Proofs.YtnicmjipbnhciaaDoor.E
namespace Tr
theorem cut_Ks {k : List UInt8} : ∀ {t t' : Tr}, t.Ks → t.cut k = some (some t') → t'.Ks
  | leaf a b, t', h, e => by unfold cut at e; split at e <;> simp at e
  | node l r, t', h, e => by
    unfold cut at e
    split at e
    · split at e
      · simp at e
      · simp at e; subst e; exact h.2
      · rename_i l' hl; simp at e; subst e; exact bal_Ks (cut_Ks h.1 hl) h.2
    · split at e
      · simp at e
      · simp at e; subst e; exact h.1
      · rename_i r' hr; simp at e; subst e; exact bal_Ks h.1 (cut_Ks h.2 hr)
theorem cut_height {k : List UInt8} : ∀ {t t' : Tr}, t.cut k = some (some t') → t'.height ≤ t.height
  | leaf a b, t', e => by unfold cut at e; split at e <;> simp at e
  | node l r, t', e => by
    unfold cut at e
    have h1 := l.height_nn; have h2 := r.height_nn
    split at e
    · split at e
      · simp at e
      · simp at e; subst e; simp only [height]; omega
      · rename_i l' hl; simp at e; subst e; have := bal_height l' r; have := cut_height hl; simp only [height]; omega
    · split at e
      · simp at e
      · simp at e; subst e; simp only [height]; omega
      · rename_i r' hr; simp at e; subst e; have := bal_height l r'; have := cut_height hr; simp only [height]; omega
end Tr
theorem tcut (k : List UInt8) : ∀ (t : Tr), t.Ks → t.height < 700 →
    (t.cut k = none → FOk EN 105 ⟨[.pr wordsP, .rd 5 (k), .pn (PT (t)) false false], [.p 2 0, .n 1], Unit, fun _ => ([.pr wordsP, .rd 5 (k), .pn (PT (t)) false false], .t [.p 2 0, .b false]), fun _ => True⟩) ∧
    (t.cut k = some none → FOk EN 105 ⟨[.pr wordsP, .rd 5 (k), .pn (PT (t)) false false], [.p 2 0, .n 1], Unit, fun _ => ([.pr wordsP, .rd 5 (k), .pn (PT (t)) false false], .t [.v (.pointer none), .b true]), fun _ => True⟩) ∧
    (∀ t', t.cut k = some (some t') → FOk EN 105 ⟨[.pr wordsP, .rd 5 (k), .pn (PT (t)) false false], [.p 2 0, .n 1], Unit, fun _ => ([.pr wordsP, .rd 5 (k), .pn (PT (t)) false false, .pn (PT (t')) false false], .t [.p 3 0, .b true]), fun _ => True⟩)
  | .leaf a b, _, _ => by
    unfold Tr.cut
    refine ⟨fun h => cut1_aux k a b ?_, fun h => cut2_aux k a b ?_, fun t' h => ?_⟩
    · split at h <;> simp_all
    · split at h <;> simp_all
    · split at h <;> simp at h
  | .node l r, hk, hh => by
    have h1 := l.height_nn; have h2 := r.height_nn
    have hpos : 0 < (Tr.node l r).height := by simp only [Tr.height]; omega
    have hl : l.height < 700 := by simp only [Tr.height] at hh; omega
    have hr : r.height < 700 := by simp only [Tr.height] at hh; omega
    obtain ⟨l1, l2, l3⟩ := tcut k l hk.1 hl
    obtain ⟨r1, r2, r3⟩ := tcut k r hk.2 hr
    unfold Tr.cut
    by_cases hc : Lib.compareBytes k r.least < 0
    · rw [if_pos hc]
      cases e : l.cut k with
      | none => exact ⟨fun _ => cut3_aux k l r hpos hc (l1 e), fun h => by simp at h, fun t' h => by simp at h⟩
      | some o => cases o with
        | none => refine ⟨fun h => by simp at h, fun h => by simp at h, fun t' h => ?_⟩; simp at h; subst h; exact cut4_aux k l r hpos hc (l2 e)
        | some x =>
          refine ⟨fun h => by simp at h, fun h => by simp at h, fun t' h => ?_⟩; simp at h; subst h
          exact cut5_aux k l r x hpos hc (Tr.cut_Ks hk.1 e) hk.2 (by have := Tr.cut_height e; omega) (by omega) (l3 x e)
    · rw [if_neg hc]
      cases e : r.cut k with
      | none => exact ⟨fun _ => cut6_aux k l r hpos hc (r1 e), fun h => by simp at h, fun t' h => by simp at h⟩
      | some o => cases o with
        | none => refine ⟨fun h => by simp at h, fun h => by simp at h, fun t' h => ?_⟩; simp at h; subst h; exact cut7_aux k l r hpos hc (r2 e)
        | some x =>
          refine ⟨fun h => by simp at h, fun h => by simp at h, fun t' h => ?_⟩; simp at h; subst h
          exact cut8_aux k l r x hpos hc hk.1 (Tr.cut_Ks hk.2 e) (by omega) (by have := Tr.cut_height e; omega) (r3 x e)
def PTOh (σ : Nat → Nat) (w : World) : Option Tr → Value → Prop
  | none, v => ∃ b o, v = .pointer (some ⟨b, o, none⟩) ∧ Seg σ w b o [.pointer none]
  | some t, v => ∃ b o x, v = .pointer (some ⟨b, o, none⟩) ∧ Seg σ w b o [x] ∧ At σ w t x
def PTO (t : Option Tr) : PP := ⟨fun σ w v => PTOh σ w t v, fun {M σ w σ' w' v} st h => by
  cases t with
  | none => obtain ⟨b, o, e, hs⟩ := h; exact ⟨b, o, e, hs.step st⟩
  | some t => obtain ⟨b, o, x, e, hs, ha⟩ := h; exact ⟨b, o, x, e, hs.step st, ha.step st⟩⟩
theorem open_tn : Opens (G := GT) (PTO none) (fun _ => []) (fun _ => [.v (.pointer none)]) := by
  rintro base σ w x ⟨b, o, e, h⟩
  refine ⟨fun _ => .bool false, fun _ => rfl, fun ν hν => ⟨fun i en hi => by simp at hi, b, o, e, ?_⟩⟩
  simpa [denC, den] using h
theorem open_ts (t : Tr) : Opens (G := GT) (PTO (some t)) (fun _ => [.pn (PT (t)) false false]) (fun b => [.p b 0]) := by
  rintro base σ w x ⟨b, o, y, e, h, ha⟩
  obtain ⟨yb, yo, ye⟩ := ha.ptr
  refine ⟨fun n => if n = 0 then y else .bool false, fun n => by dsimp only; split; rw [ye]; rfl; rfl, fun ν hν => ⟨fun i en hi => ?_, b, o, e, ?_⟩⟩
  · match i, hi with
    | 0, hi => simp only [List.getElem?_cons_zero, Option.some.injEq] at hi; subst hi; exact ⟨ha, by simp, fun _ => ⟨yb, yo, ye⟩⟩
    | i + 1, hi => simp at hi
  · have e0 := hν 0 (by simp)
    simp only [Nat.add_zero, if_true] at e0
    subst ye
    simpa [denC, den, e0, padd] using h
theorem close_tn : Closes (G := GT) (PTO none) [] [.v (.pointer none)] := by
  intro ν σ w x b hE e hS
  exact ⟨b, 0, e, by simpa [denC, den] using hS⟩
theorem close_ts (t : Tr) : Closes (G := GT) (PTO (some t)) [.pn (PT (t)) false false] [.p 0 0] := by
  intro ν σ w x b hE e hS
  have h0 := (hE 0 _ rfl).1
  obtain ⟨yb, yo, ye⟩ := At.ptr h0
  refine ⟨b, 0, ν 0, e, ?_, h0⟩
  rw [ye]
  simpa [denC, den, ye, padd] using hS
theorem al_ptr (p : PP) : AlOk (G := GT) p false false [.pn p false false] (.p 0 0) := fun ν σ w h => by
  obtain ⟨h1, _, h2⟩ := h 0 _ rfl
  obtain ⟨b, o, e⟩ := h2 rfl
  have e2 : den ν (.p 0 0) = ν 0 := by simp only [den, e, padd, Nat.add_zero]
  rw [e2]; exact ⟨h1, fun h => by simp at h, fun _ => ⟨b, o, e⟩⟩
def okO (o : Option Tr) : Prop := ∀ t, o = some t → t.Ks ∧ t.height < 700 ∧ t.depth ≤ 100000
def putO (k v : List UInt8) : Option Tr → Option Tr
  | none => some (.leaf k v)
  | some t => some (t.put k v)
def cutO (k : List UInt8) : Option Tr → Option Tr
  | none => none
  | some t => match t.cut k with | none => some t | some r => r
def wasO (k : List UInt8) : Option Tr → Bool
  | none => false
  | some t => (t.cut k).isSome
def hashO : Option Tr → List UInt8
  | none => sum256 []
  | some t => t.hash
def leavesO : Option Tr → List Pair
  | none => []
  | some t => t.leaves
noncomputable def ccB8_18 : Code := (Tryd.f18.body).getD .skip
theorem new_ok : FOk EN 18 ⟨[.pr wordsP], [], Unit, fun _ => ([.pr wordsP, .pn (PTO none) false false], .p 1 0), fun _ => True⟩ := by
 refine v_fun Tryd.f18 ccB8_18 MX (fun ν F σ w => ?_) Tryd.func18
 refine v_nl ?_
 refine v_close 2 [] (close_tn) ((Value.pointer none = Value.pointer none)) rfl ?_
 exact v_ret () [2] ((wordsP = wordsP) ∧ (PLe (PTO none) (PTO none)) ∧ (false = false)) ⟨rfl, fun _ _ _ h => h, rfl⟩ trivial
noncomputable def ccB8_57 : Code := (Tryd.f57.body).getD .skip
theorem Put1_aux (k v : List UInt8) (h1 : 1 ≤ k.length ∧ k.length ≤ 96) (h2 : v.length ≤ 256) : FOk EN 57 ⟨[.pr wordsP, .rd 5 (k), .rd 5 (v), .pn (PTO none) false false], [.p 3 0, .n 1, .n 2], Unit, fun _ => ([.pr wordsP, .rd 5 (k), .rd 5 (v), .pn (PTO none) false false, .pn (PTO (some (.leaf k v))) false false], .t [.p 4 0, .i 0]), fun _ => True⟩ := by
 refine v_fun Tryd.f57 ccB8_57 MX (fun ν F σ w => ?_) Tryd.func57
 refine v_nl ?_
 refine v_if (false) True trivial (fun h1 => ?_) (fun h1 => ?_)
 ·skip
  contradiction
 ·skip
  refine v_guard 15 (decide ((↑k.length : Int) = 0)) True trivial (fun h2 => ?_) (fun h2 => ?_)
  ·have h2 := of_decide_eq_true h2
   omega
  ·have h2 := of_decide_eq_false h2
   refine v_if (decide (96 < (↑k.length : Int))) True trivial (fun h3 => ?_) (fun h3 => ?_)
   ·have h3 := of_decide_eq_true h3
    omega
   ·have h3 := of_decide_eq_false h3
    refine v_if (decide (256 < (↑v.length : Int))) True trivial (fun h4 => ?_) (fun h4 => ?_)
    ·have h4 := of_decide_eq_true h4
     omega
    ·have h4 := of_decide_eq_false h4
     refine v_open 3 (open_tn) ((false = false) ∧ (PTO none = PTO none)) ⟨rfl, rfl⟩ ?_
     refine v_call _ [0, 1, 2] (putnil_ok (k) (v) (by omega) (by omega)) ((Value.pointer none = Value.pointer none) ∧ (wordsP = wordsP) ∧ (k = k) ∧ (v = v)) ⟨rfl, rfl, rfl, rfl⟩ (fun g5 p6 => ?_)
     have p6 : True := p6
     refine v_close 6 [5] (close_ts (Tr.leaf k v)) ((PT (Tr.leaf k v) = PT (Tr.leaf k v)) ∧ (false = false)) ⟨rfl, rfl⟩ ?_
     exact v_ret () [6] (((0 : Int) = (0 : Int)) ∧ (wordsP = wordsP) ∧ (k = k) ∧ (v = v) ∧ (PLe (PTO none) (PTO none)) ∧ (false = false) ∧ (PLe (PTO (some (Tr.leaf k v))) (PTO (some (Tr.leaf k v)))) ∧ (false = false)) ⟨rfl, rfl, rfl, rfl, fun _ _ _ h => h, rfl, fun _ _ _ h => h, rfl⟩ trivial
theorem Put2_aux (t : Tr) (k v : List UInt8) (ht : t.Ks) (hh : t.height < 700) (h1 : 1 ≤ k.length ∧ k.length ≤ 96) (h2 : v.length ≤ 256) : FOk EN 57 ⟨[.pr wordsP, .rd 5 (k), .rd 5 (v), .pn (PTO (some t)) false false], [.p 3 0, .n 1, .n 2], Unit, fun _ => ([.pr wordsP, .rd 5 (k), .rd 5 (v), .pn (PTO (some t)) false false, .pn (PTO (some (t.put k v))) false false], .t [.p 4 0, .i 0]), fun _ => True⟩ := by
 refine v_fun Tryd.f57 ccB8_57 MX (fun ν F σ w => ?_) Tryd.func57
 refine v_nl ?_
 refine v_if (false) True trivial (fun h1 => ?_) (fun h1 => ?_)
 ·skip
  contradiction
 ·skip
  refine v_guard 15 (decide ((↑k.length : Int) = 0)) True trivial (fun h2 => ?_) (fun h2 => ?_)
  ·have h2 := of_decide_eq_true h2
   omega
  ·have h2 := of_decide_eq_false h2
   refine v_if (decide (96 < (↑k.length : Int))) True trivial (fun h3 => ?_) (fun h3 => ?_)
   ·have h3 := of_decide_eq_true h3
    omega
   ·have h3 := of_decide_eq_false h3
    refine v_if (decide (256 < (↑v.length : Int))) True trivial (fun h4 => ?_) (fun h4 => ?_)
    ·have h4 := of_decide_eq_true h4
     omega
    ·have h4 := of_decide_eq_false h4
     refine v_open 3 (open_ts (t)) ((false = false) ∧ (PTO (some t) = PTO (some t))) ⟨rfl, rfl⟩ ?_
     refine v_call _ [0, 1, 2, 5] (tput_ok (k) (v) (by omega) (by omega) (t) (by assumption) (by assumption)) ((wordsP = wordsP) ∧ (k = k) ∧ (v = v) ∧ (PT t = PT t) ∧ (false = false)) ⟨rfl, rfl, rfl, rfl, rfl⟩ (fun g5 p6 => ?_)
     have p6 : True := p6
     refine v_close 7 [6] (close_ts (Tr.put k v t)) ((PT (Tr.put k v t) = PT (Tr.put k v t)) ∧ (false = false)) ⟨rfl, rfl⟩ ?_
     exact v_ret () [7] (((0 : Int) = (0 : Int)) ∧ (wordsP = wordsP) ∧ (k = k) ∧ (v = v) ∧ (PLe (PTO (some t)) (PTO (some t))) ∧ (false = false) ∧ (PLe (PTO (some (Tr.put k v t))) (PTO (some (Tr.put k v t)))) ∧ (false = false)) ⟨rfl, rfl, rfl, rfl, fun _ _ _ h => h, rfl, fun _ _ _ h => h, rfl⟩ trivial
theorem Put_ok (o : Option Tr) (k v : List UInt8) (ho : okO o) (h1 : 1 ≤ k.length ∧ k.length ≤ 96) (h2 : v.length ≤ 256) : FOk EN 57 ⟨[.pr wordsP, .rd 5 (k), .rd 5 (v), .pn (PTO o) false false], [.p 3 0, .n 1, .n 2], Unit, fun _ => ([.pr wordsP, .rd 5 (k), .rd 5 (v), .pn (PTO o) false false, .pn (PTO (putO k v o)) false false], .t [.p 4 0, .i 0]), fun _ => True⟩ := by
  cases o with
  | none => exact Put1_aux k v h1 h2
  | some t => exact Put2_aux t k v (ho t rfl).1 (ho t rfl).2.1 h1 h2
end Go.Proofs.YtnicmjipbnhciaaDoor.X
set_option linter.unusedVariables false
set_option linter.unusedSimpArgs false
set_option maxRecDepth 100000
namespace Go.Proofs.YtnicmjipbnhciaaDoor.X
open Go Go.RowKit Go.Proofs Go.Proofs.YtnicmjipbnhciaaDoor.E
noncomputable def ccB9_105 : Code := (Tryd.f105.body).getD .skip
theorem cutnil_ok (k : List UInt8) : FOk EN 105 ⟨[.pr wordsP, .rd 5 (k)], [.v (.pointer none), .n 1], Unit, fun _ => ([.pr wordsP, .rd 5 (k)], .t [.v (.pointer none), .b false]), fun _ => True⟩ := by
 refine v_fun Tryd.f105 ccB9_105 MX (fun ν F σ w => ?_) Tryd.func105
 refine v_nl ?_
 exact v_ret () [] ((Value.pointer none = Value.pointer none) ∧ (false = false) ∧ (wordsP = wordsP) ∧ (k = k)) ⟨rfl, rfl, rfl, rfl⟩ trivial
noncomputable def ccB9_65 : Code := (Tryd.f65.body).getD .skip
theorem Cut1_aux (k : List UInt8) : FOk EN 65 ⟨[.pr wordsP, .rd 5 (k), .pn (PTO none) false false], [.p 2 0, .n 1], Unit, fun _ => ([.pr wordsP, .rd 5 (k), .pn (PTO none) false false, .pn (PTO none) false false], .t [.p 3 0, .b false]), fun _ => True⟩ := by
 refine v_fun Tryd.f65 ccB9_65 MX (fun ν F σ w => ?_) Tryd.func65
 refine v_nl ?_
 refine v_if (false) True trivial (fun h1 => ?_) (fun h1 => ?_)
 ·skip
  contradiction
 ·skip
  refine v_open 2 (open_tn) ((false = false) ∧ (PTO none = PTO none)) ⟨rfl, rfl⟩ ?_
  refine v_call _ [0, 1] (cutnil_ok (k)) ((Value.pointer none = Value.pointer none) ∧ (wordsP = wordsP) ∧ (k = k)) ⟨rfl, rfl, rfl⟩ (fun g2 p3 => ?_)
  have p3 : True := p3
  refine v_close 4 [] (close_tn) ((Value.pointer none = Value.pointer none)) rfl ?_
  exact v_ret () [4] ((false = false) ∧ (wordsP = wordsP) ∧ (k = k) ∧ (PLe (PTO none) (PTO none)) ∧ (false = false) ∧ (PLe (PTO none) (PTO none)) ∧ (false = false)) ⟨rfl, rfl, rfl, fun _ _ _ h => h, rfl, fun _ _ _ h => h, rfl⟩ trivial
theorem Cut2_aux (t : Tr) (k : List UInt8) (ih : FOk EN 105 ⟨[.pr wordsP, .rd 5 (k), .pn (PT (t)) false false], [.p 2 0, .n 1], Unit, fun _ => ([.pr wordsP, .rd 5 (k), .pn (PT (t)) false false], .t [.p 2 0, .b false]), fun _ => True⟩) : FOk EN 65 ⟨[.pr wordsP, .rd 5 (k), .pn (PTO (some t)) false false], [.p 2 0, .n 1], Unit, fun _ => ([.pr wordsP, .rd 5 (k), .pn (PTO (some t)) false false, .pn (PTO (some t)) false false], .t [.p 3 0, .b false]), fun _ => True⟩ := by
 refine v_fun Tryd.f65 ccB9_65 MX (fun ν F σ w => ?_) Tryd.func65
 refine v_nl ?_
 refine v_if (false) True trivial (fun h1 => ?_) (fun h1 => ?_)
 ·skip
  contradiction
 ·skip
  refine v_open 2 (open_ts (t)) ((false = false) ∧ (PTO (some t) = PTO (some t))) ⟨rfl, rfl⟩ ?_
  refine v_call _ [0, 1, 4] (ih) ((wordsP = wordsP) ∧ (k = k) ∧ (PT t = PT t) ∧ (false = false)) ⟨rfl, rfl, rfl, rfl⟩ (fun g2 p3 => ?_)
  have p3 : True := p3
  refine v_close 5 [4] (close_ts (t)) ((PT t = PT t) ∧ (false = false)) ⟨rfl, rfl⟩ ?_
  exact v_ret () [5] ((false = false) ∧ (wordsP = wordsP) ∧ (k = k) ∧ (PLe (PTO (some t)) (PTO (some t))) ∧ (false = false) ∧ (PLe (PTO (some t)) (PTO (some t))) ∧ (false = false)) ⟨rfl, rfl, rfl, fun _ _ _ h => h, rfl, fun _ _ _ h => h, rfl⟩ trivial
theorem Cut3_aux (t : Tr) (k : List UInt8) (ih : FOk EN 105 ⟨[.pr wordsP, .rd 5 (k), .pn (PT (t)) false false], [.p 2 0, .n 1], Unit, fun _ => ([.pr wordsP, .rd 5 (k), .pn (PT (t)) false false], .t [.v (.pointer none), .b true]), fun _ => True⟩) : FOk EN 65 ⟨[.pr wordsP, .rd 5 (k), .pn (PTO (some t)) false false], [.p 2 0, .n 1], Unit, fun _ => ([.pr wordsP, .rd 5 (k), .pn (PTO (some t)) false false, .pn (PTO none) false false], .t [.p 3 0, .b true]), fun _ => True⟩ := by
 refine v_fun Tryd.f65 ccB9_65 MX (fun ν F σ w => ?_) Tryd.func65
 refine v_nl ?_
 refine v_if (false) True trivial (fun h1 => ?_) (fun h1 => ?_)
 ·skip
  contradiction
 ·skip
  refine v_open 2 (open_ts (t)) ((false = false) ∧ (PTO (some t) = PTO (some t))) ⟨rfl, rfl⟩ ?_
  refine v_call _ [0, 1, 4] (ih) ((wordsP = wordsP) ∧ (k = k) ∧ (PT t = PT t) ∧ (false = false)) ⟨rfl, rfl, rfl, rfl⟩ (fun g2 p3 => ?_)
  have p3 : True := p3
  refine v_close 5 [] (close_tn) ((Value.pointer none = Value.pointer none)) rfl ?_
  exact v_ret () [5] ((true = true) ∧ (wordsP = wordsP) ∧ (k = k) ∧ (PLe (PTO (some t)) (PTO (some t))) ∧ (false = false) ∧ (PLe (PTO none) (PTO none)) ∧ (false = false)) ⟨rfl, rfl, rfl, fun _ _ _ h => h, rfl, fun _ _ _ h => h, rfl⟩ trivial
theorem Cut4_aux (t t' : Tr) (k : List UInt8) (ih : FOk EN 105 ⟨[.pr wordsP, .rd 5 (k), .pn (PT (t)) false false], [.p 2 0, .n 1], Unit, fun _ => ([.pr wordsP, .rd 5 (k), .pn (PT (t)) false false, .pn (PT (t')) false false], .t [.p 3 0, .b true]), fun _ => True⟩) : FOk EN 65 ⟨[.pr wordsP, .rd 5 (k), .pn (PTO (some t)) false false], [.p 2 0, .n 1], Unit, fun _ => ([.pr wordsP, .rd 5 (k), .pn (PTO (some t)) false false, .pn (PTO (some t')) false false], .t [.p 3 0, .b true]), fun _ => True⟩ := by
 refine v_fun Tryd.f65 ccB9_65 MX (fun ν F σ w => ?_) Tryd.func65
 refine v_nl ?_
 refine v_if (false) True trivial (fun h1 => ?_) (fun h1 => ?_)
 ·skip
  contradiction
 ·skip
  refine v_open 2 (open_ts (t)) ((false = false) ∧ (PTO (some t) = PTO (some t))) ⟨rfl, rfl⟩ ?_
  refine v_call _ [0, 1, 4] (ih) ((wordsP = wordsP) ∧ (k = k) ∧ (PT t = PT t) ∧ (false = false)) ⟨rfl, rfl, rfl, rfl⟩ (fun g2 p3 => ?_)
  have p3 : True := p3
  refine v_close 6 [5] (close_ts (t')) ((PT t' = PT t') ∧ (false = false)) ⟨rfl, rfl⟩ ?_
  exact v_ret () [6] ((true = true) ∧ (wordsP = wordsP) ∧ (k = k) ∧ (PLe (PTO (some t)) (PTO (some t))) ∧ (false = false) ∧ (PLe (PTO (some t')) (PTO (some t'))) ∧ (false = false)) ⟨rfl, rfl, rfl, fun _ _ _ h => h, rfl, fun _ _ _ h => h, rfl⟩ trivial
theorem Cut_ok (o : Option Tr) (k : List UInt8) (ho : okO o) : FOk EN 65 ⟨[.pr wordsP, .rd 5 (k), .pn (PTO o) false false], [.p 2 0, .n 1], Unit, fun _ => ([.pr wordsP, .rd 5 (k), .pn (PTO o) false false, .pn (PTO (cutO k o)) false false], .t [.p 3 0, .b (wasO k o)]), fun _ => True⟩ := by
  cases o with
  | none => exact Cut1_aux k
  | some t =>
    obtain ⟨h1, h2, h3⟩ := tcut k t (ho t rfl).1 (ho t rfl).2.1
    cases e : t.cut k with
    | none => rw [show cutO k (some t) = some t by simp [cutO, e], show wasO k (some t) = false by simp [wasO, e]]; exact Cut2_aux t k (h1 e)
    | some r =>
      rw [show cutO k (some t) = r by simp [cutO, e], show wasO k (some t) = true by simp [wasO, e]]
      cases r with
      | none => exact Cut3_aux t k (h2 e)
      | some t' => exact Cut4_aux t t' k (h3 t' e)
noncomputable def ccB9_53 : Code := (Tryd.f53.body).getD .skip
theorem Empty_ok : FOk EN 53 ⟨[.pr wordsP], [], Unit, fun _ => ([.pr wordsP], .a [.h 32 (sum256 [])]), fun _ => True⟩ := by
 refine v_fun Tryd.f53 ccB9_53 MX (fun ν F σ w => ?_) Tryd.func53
 refine v_nl ?_
 refine v_call _ [0, 3] (sum_ok ([[]]) (by decide)) ((wordsP = wordsP) ∧ (Eq (α := List (List UInt8)) [[]] [[]])) ⟨rfl, rfl⟩ (fun g1 p2 => ?_)
 have p2 : True := p2
 exact v_ret () [] ((sum256 [[]].flatten = sum256 []) ∧ (wordsP = wordsP)) ⟨rfl, rfl⟩ trivial
noncomputable def ccB9_25 : Code := (Tryd.f25.body).getD .skip
theorem Root1_aux : FOk EN 25 ⟨[.pr wordsP, .pn (PTO none) false false], [.p 1 0], Unit, fun _ => ([.pr wordsP, .pn (PTO none) false false], .a [.h 32 (sum256 [])]), fun _ => True⟩ := by
 refine v_fun Tryd.f25 ccB9_25 MX (fun ν F σ w => ?_) Tryd.func25
 refine v_nl ?_
 refine v_guard 5 (false) True trivial (fun h1 => ?_) (fun h1 => ?_)
 ·skip
  contradiction
 ·skip
  refine v_open 1 (open_tn) ((false = false) ∧ (PTO none = PTO none)) ⟨rfl, rfl⟩ ?_
  refine v_call _ [0] (Empty_ok) ((wordsP = wordsP)) rfl (fun g2 p3 => ?_)
  have p3 : True := p3
  exact v_ret () [] ((sum256 [] = sum256 []) ∧ (wordsP = wordsP) ∧ (PLe (PTO none) (PTO none)) ∧ (false = false)) ⟨rfl, rfl, fun _ _ _ h => h, rfl⟩ trivial
theorem Root2_aux (t : Tr) : FOk EN 25 ⟨[.pr wordsP, .pn (PTO (some t)) false false], [.p 1 0], Unit, fun _ => ([.pr wordsP, .pn (PTO (some t)) false false], .a [.h 32 t.hash]), fun _ => True⟩ := by
 refine v_fun Tryd.f25 ccB9_25 MX (fun ν F σ w => ?_) Tryd.func25
 refine v_nl ?_
 refine v_guard 5 (false) True trivial (fun h1 => ?_) (fun h1 => ?_)
 ·skip
  contradiction
 ·skip
  refine v_open 1 (open_ts (t)) ((false = false) ∧ (PTO (some t) = PTO (some t))) ⟨rfl, rfl⟩ ?_
  refine v_if (false) True trivial (fun h2 => ?_) (fun h2 => ?_)
  ·skip
   contradiction
  ·skip
   refine v_open 4 (open_any (t)) ((false = false) ∧ (PT t = PT t)) ⟨rfl, rfl⟩ ?_
   exact v_ret () [] ((t.hash = t.hash) ∧ (wordsP = wordsP) ∧ (PLe (PTO (some t)) (PTO (some t))) ∧ (false = false)) ⟨rfl, rfl, fun _ _ _ h => h, rfl⟩ trivial
theorem Root_ok (o : Option Tr) : FOk EN 25 ⟨[.pr wordsP, .pn (PTO o) false false], [.p 1 0], Unit, fun _ => ([.pr wordsP, .pn (PTO o) false false], .a [.h 32 (hashO o)]), fun _ => True⟩ := by
  cases o with
  | none => exact Root1_aux
  | some t => exact Root2_aux t
noncomputable def ccB9_104 : Code := (Tryd.f104.body).getD .skip
theorem walknil_ok : FOk EN 104 ⟨[], [.v (.pointer none), .v (.slice none 0 0)], Unit, fun _ => ([], .v (.slice none 0 0)), fun _ => True⟩ := by
 refine v_fun Tryd.f104 ccB9_104 MX (fun ν F σ w => ?_) Tryd.func104
 refine v_nl ?_
 exact v_ret () [] ((Value.slice none 0 0 = Value.slice none 0 0)) rfl trivial
noncomputable def ccB9_62 : Code := (Tryd.f62.body).getD .skip
theorem All1_aux : FOk EN 62 ⟨[.pn (PTO none) false false], [.p 0 0], Unit, fun _ => ([.pn (PTO none) false false, .ow 46 ([])], .n 1), fun _ => True⟩ := by
 refine v_fun Tryd.f62 ccB9_62 MX (fun ν F σ w => ?_) Tryd.func62
 refine v_nl ?_
 refine v_if (false) True trivial (fun h1 => ?_) (fun h1 => ?_)
 ·skip
  contradiction
 ·skip
  refine v_open 0 (open_tn) ((false = false) ∧ (PTO none = PTO none)) ⟨rfl, rfl⟩ ?_
  refine v_call _ [] (walknil_ok) ((Value.pointer none = Value.pointer none) ∧ (Value.slice none 0 0 = Value.slice none 0 0)) ⟨rfl, rfl⟩ (fun g2 p3 => ?_)
  have p3 : True := p3
  exact v_ret () [1] ((PLe (PTO none) (PTO none)) ∧ (false = false) ∧ (Eq (α := List Pair) [] [])) ⟨fun _ _ _ h => h, rfl, rfl⟩ trivial
theorem All2_aux (t : Tr) (h : t.Ks) (hl : t.leaves.length ≤ 900000) : FOk EN 62 ⟨[.pn (PTO (some t)) false false], [.p 0 0], Unit, fun _ => ([.pn (PTO (some t)) false false, .ow 46 (t.leaves)], .n 1), fun _ => True⟩ := by
 refine v_fun Tryd.f62 ccB9_62 MX (fun ν F σ w => ?_) Tryd.func62
 refine v_nl ?_
 refine v_if (false) True trivial (fun h1 => ?_) (fun h1 => ?_)
 ·skip
  contradiction
 ·skip
  refine v_open 0 (open_ts (t)) ((false = false) ∧ (PTO (some t) = PTO (some t))) ⟨rfl, rfl⟩ ?_
  refine v_call _ [2, 1] (walk_ok (t) ([]) (by assumption) (by (simp; omega))) ((PT t = PT t) ∧ (false = false) ∧ (Eq (α := List Pair) [] [])) ⟨rfl, rfl, rfl⟩ (fun g2 p3 => ?_)
  have p3 : True := p3
  exact v_ret () [3] ((PLe (PTO (some t)) (PTO (some t))) ∧ (false = false) ∧ ([] ++ t.leaves = t.leaves)) ⟨fun _ _ _ h => h, rfl, rfl⟩ trivial
theorem All_ok (o : Option Tr) (ho : okO o) (hl : (leavesO o).length ≤ 900000) : FOk EN 62 ⟨[.pn (PTO o) false false], [.p 0 0], Unit, fun _ => ([.pn (PTO o) false false, .ow 46 (leavesO o)], .n 1), fun _ => True⟩ := by
  cases o with
  | none => exact All1_aux
  | some t => exact All2_aux t (ho t rfl).1 hl
end Go.Proofs.YtnicmjipbnhciaaDoor.X
set_option linter.unusedVariables false
set_option linter.unusedSimpArgs false
set_option maxRecDepth 100000
namespace Go.Proofs.YtnicmjipbnhciaaDoor.X
open Go Go.RowKit Go.Proofs Go.Proofs.YtnicmjipbnhciaaDoor.E
namespace Tr
def lo : Tr → Tr
  | leaf k v => leaf k v
  | node l _ => l
def ro : Tr → Tr
  | leaf k v => leaf k v
  | node _ r => r
def child (t : Tr) (b : Bool) : Tr := if b then t.ro else t.lo
def at' : Tr → List Bool → Option Tr
  | t, [] => some t
  | leaf _ _, _ :: _ => none
  | node l r, b :: w => if b then r.at' w else l.at' w
theorem height_pos {l r : Tr} : 0 < (node l r).height := by
  have h1 := l.height_nn; have h2 := r.height_nn; simp only [height]; omega
theorem at_leaf {k v : List UInt8} {w : List Bool} {i : Nat} {s : Tr} (h : (leaf k v).at' (w.drop i) = some s) (hi : (i : Int) < w.length) : False := by
  have : w.drop i = w.getD i false :: w.drop (i + 1) := by
    have hl : i < w.length := by omega
    rw [List.drop_eq_getElem_cons hl]
    simp [List.getD_eq_getElem?_getD, hl]
  rw [this] at h; simp [at'] at h
theorem at_leaf' {k v : List UInt8} {w : List Bool} {i : Nat} {s : Tr} {X : Prop} (h : (leaf k v).at' (w.drop i) = some s ∧ X) (hi : (i : Int) < w.length) : False := at_leaf h.1 hi
theorem at_end' {t : Tr} {w : List Bool} {i : Nat} {s : Tr} {X : Prop} (h : t.at' (w.drop i) = some s ∧ X) (hi : ¬ (i : Int) < w.length) : t = s := by
  have h := h.1
  rw [List.drop_of_length_le (by omega)] at h
  cases t <;> simpa [at'] using h
theorem at_node {l r : Tr} {w : List Bool} {i : Nat} {s : Tr} (h : (node l r).at' (w.drop i) = some s) (hi : (i : Int) < w.length) : (w.getD i false = true → r.at' (w.drop (i + 1)) = some s) ∧ (w.getD i false = false → l.at' (w.drop (i + 1)) = some s) := by
  have : w.drop i = w.getD i false :: w.drop (i + 1) := by
    have hl : i < w.length := by omega
    rw [List.drop_eq_getElem_cons hl]
    simp [List.getD_eq_getElem?_getD, hl]
  rw [this] at h
  constructor <;> intro e <;> rw [e] at h <;> simpa [at'] using h
end Tr
noncomputable def ccB10_131 : Code := (Tryd.f131.body).getD .skip
theorem copied_ok (k v l r : List UInt8) (h : Int) (s : UInt64) (hk : k.length ≤ 1000) (hv : v.length ≤ 1000) (hl : l.length = 32) (hr : r.length = 32) : FOk EN 131 ⟨[.rd 5 (k), .rd 5 (v)], [.a [.n 0, .n 1, .i h, .u s, .h 32 l, .h 32 r]], Unit, fun _ => ([.rd 5 (k), .rd 5 (v), .rd 5 (k), .rd 5 (v)], .a [.n 2, .n 3, .i h, .u s, .h 32 l, .h 32 r]), fun _ => True⟩ := by
 refine v_fun Tryd.f131 ccB10_131 MX (fun ν F σ w => ?_) Tryd.func131
 refine v_nl ?_
 refine v_join [3, 4, 5, 6, 7, 8, 9, 10, 1] [3] (fun _ : Unit => ([(1, SV.p 5 0)], [Ent.bx 124 [SV.n 6, SV.n 7, SV.i h, SV.u s, SV.h 32 l, SV.h 32 r], Ent.ow 5 k, Ent.ow 5 v])) (fun _ => True) ?_ (fun _ _ => ?_) True trivial
 ·skip
  refine v_plan (.fs [0, 3] (.c 1 (.c 2 (.o 4 (.fs [6] (.o 5 (.o 7 (.fs [8] (.o 9 .e)))))) (.o 4 (.o 2 (.fs [6] (.o 5 (.o 7 (.fs [8] (.o 9 .e)))))))) (.o 4 (.o 1 (.o 2 (.fs [6] (.o 5 (.o 7 (.fs [8] (.o 9 .e)))))))))) [4] True trivial ?_
  refine v_pick True trivial ?_ ?_
  ·skip
   refine v_pick True trivial ?_ ?_
   ·skip
    refine v_call _ [0] (clone_ok (k) (by omega)) ((k = k)) rfl (fun g1 p2 => ?_)
    have p2 : True := p2
    refine v_call _ [1] (clone_ok (v) (by omega)) ((v = v)) rfl (fun g3 p4 => ?_)
    have p4 : True := p4
    exact v_back (()) [3, 5, 6] ((h = h) ∧ (s = s) ∧ (l = l) ∧ (r = r) ∧ (k = k) ∧ (v = v)) ⟨rfl, rfl, rfl, rfl, rfl, rfl⟩ (show True from trivial)
   ·skip
    refine v_call _ [0] (clone_ok (k) (by omega)) ((k = k)) rfl (fun g5 p6 => ?_)
    have p6 : True := p6
    refine v_call _ [1] (clone_ok (v) (by omega)) ((v = v)) rfl (fun g7 p8 => ?_)
    have p8 : True := p8
    exact v_back (()) [3, 5, 6] ((h = h) ∧ (s = s) ∧ (l = l) ∧ (r = r) ∧ (k = k) ∧ (v = v)) ⟨rfl, rfl, rfl, rfl, rfl, rfl⟩ (show True from trivial)
  ·skip
   refine v_call _ [0] (clone_ok (k) (by omega)) ((k = k)) rfl (fun g9 p10 => ?_)
   have p10 : True := p10
   refine v_call _ [1] (clone_ok (v) (by omega)) ((v = v)) rfl (fun g11 p12 => ?_)
   have p12 : True := p12
   exact v_back (()) [3, 5, 6] ((h = h) ∧ (s = s) ∧ (l = l) ∧ (r = r) ∧ (k = k) ∧ (v = v)) ⟨rfl, rfl, rfl, rfl, rfl, rfl⟩ (show True from trivial)
 ·skip
  exact v_ret () [6, 7] ((h = h) ∧ (s = s) ∧ (l = l) ∧ (r = r) ∧ (k = k) ∧ (v = v) ∧ (k = k) ∧ (v = v)) ⟨rfl, rfl, rfl, rfl, rfl, rfl, rfl, rfl⟩ trivial
noncomputable def ccB10_102 : Code := (Tryd.f102.body).getD .skip
theorem Nodenone_ok (ws : List Bool) : FOk EN 102 ⟨[.rd 4 ws, .pn (PTO none) false false], [.p 1 0, .n 0], Unit, fun _ => ([.rd 4 ws, .pn (PTO none) false false], .t [.a [.v (.slice none 0 0), .v (.slice none 0 0), .i 0, .u 0, .h 32 z32, .h 32 z32], .b false]), fun _ => True⟩ := by
 refine v_fun Tryd.f102 ccB10_102 MX (fun ν F σ w => ?_) Tryd.func102
 refine v_nl ?_
 refine v_guard 11 (false) True trivial (fun h1 => ?_) (fun h1 => ?_)
 ·skip
  contradiction
 ·skip
  refine v_open 1 (open_tn) ((false = false) ∧ (PTO none = PTO none)) ⟨rfl, rfl⟩ ?_
  exact v_ret () [] ((Value.slice none 0 0 = Value.slice none 0 0) ∧ (Value.slice none 0 0 = Value.slice none 0 0) ∧ ((0 : Int) = (0 : Int)) ∧ ((0 : UInt64) = (0 : UInt64)) ∧ (List.replicate 32 0 = z32) ∧ (List.replicate 32 0 = z32) ∧ (false = false) ∧ (ws = ws) ∧ (PLe (PTO none) (PTO none)) ∧ (false = false)) ⟨rfl, rfl, rfl, rfl, rfl, rfl, rfl, rfl, fun _ _ _ h => h, rfl⟩ trivial
theorem chT {l r : Tr} {b : Bool} (h : b = true) : PT r = PT ((Tr.node l r).child b) := by rw [h]; rfl
theorem chF {l r : Tr} {b : Bool} (h : b = false) : PT l = PT ((Tr.node l r).child b) := by rw [h]; rfl
theorem chBT {l r s : Tr} {ws : List Bool} {i : Nat} (hk : (Tr.node l r).at' (ws.drop i) = some s ∧ i ≤ ws.length) (hi : (i : Int) < ws.length) (h : ws.getD i false = true) : (((Tr.node l r).child (ws.getD i false)).at' (ws.drop (i + 1)) = some s ∧ i + 1 ≤ ws.length) ∧ ws.length - (i + 1) < ws.length - i := by
  rw [h]; exact ⟨⟨(Tr.at_node hk.1 hi).1 h, by omega⟩, by omega⟩
theorem chBF {l r s : Tr} {ws : List Bool} {i : Nat} (hk : (Tr.node l r).at' (ws.drop i) = some s ∧ i ≤ ws.length) (hi : (i : Int) < ws.length) (h : ws.getD i false = false) : (((Tr.node l r).child (ws.getD i false)).at' (ws.drop (i + 1)) = some s ∧ i + 1 ≤ ws.length) ∧ ws.length - (i + 1) < ws.length - i := by
  rw [h]; exact ⟨⟨(Tr.at_node hk.1 hi).2 h, by omega⟩, by omega⟩
theorem Node_ok (t s : Tr) (ws : List Bool) (hw : ws.length ≤ 1000000) (hs : t.at' ws = some s) (hk : s.key.length ≤ 1000) (hv : s.value.length ≤ 1000) : FOk EN 102 ⟨[.rd 4 ws, .pn (PTO (some t)) false false], [.p 1 0, .n 0], Unit, fun _ => ([.rd 4 ws, .pn (PTO (some t)) false false, .rd 5 (s.key), .rd 5 (s.value)], .t [.a [.n 2, .n 3, .i s.height, .u s.size, .h 32 s.lh, .h 32 s.rh], .b true]), fun _ => True⟩ := by
 refine v_fun Tryd.f102 ccB10_102 MX (fun ν F σ w => ?_) Tryd.func102
 refine v_nl ?_
 refine v_guard 11 (false) True trivial (fun h1 => ?_) (fun h1 => ?_)
 ·skip
  contradiction
 ·skip
  refine v_open 1 (open_ts (t)) ((false = false) ∧ (PTO (some t) = PTO (some t))) ⟨rfl, rfl⟩ ?_
  refine v_if (false) True trivial (fun h2 => ?_) (fun h2 => ?_)
  ·skip
   contradiction
  ·skip
   refine v_loop (fun k : Nat × Tr => ([(25, .i k.1), (6, .p 5 0)], [.pn (PT (k.2)) false false])) (fun k => k.2.at' (ws.drop k.1) = some s ∧ k.1 ≤ ws.length) (fun k => ws.length - k.1) (0, t) [4] (((0 : Int) = (↑(0 : Nat) : Int)) ∧ (PT t = PT t) ∧ (false = false)) ⟨rfl, rfl, rfl⟩ (by (simp; omega)) (fun k hk3 => ?_)
   obtain ⟨i, t2⟩ := k
   cases t2 with
   | leaf a b =>
    refine v_if (decide ((↑i : Int) < (↑ws.length : Int))) True trivial (fun h4 => ?_) (fun h4 => ?_)
    ·have h4 := of_decide_eq_true h4
     exfalso; exact Tr.at_leaf' (by assumption) (by assumption)
    ·have h4 := of_decide_eq_false h4
     refine v_leave (.ex 0) True trivial ?_
     refine v_open 5 (open_leaf (a) (b)) ((false = false) ∧ (PT (Tr.leaf a b) = PT (Tr.leaf a b))) ⟨rfl, rfl⟩ ?_
     refine v_call _ [6, 7] (copied_ok (a) (b) (z32) (z32) (0) (1) (by (cases Tr.at_end' (by assumption) (by assumption); first | rfl | assumption | exact Tr.hash_len _)) (by (cases Tr.at_end' (by assumption) (by assumption); first | rfl | assumption | exact Tr.hash_len _)) rfl rfl) (((0 : Int) = (0 : Int)) ∧ ((1 : UInt64) = (1 : UInt64)) ∧ (z32 = z32) ∧ (z32 = z32) ∧ (a = a) ∧ (b = b)) ⟨rfl, rfl, rfl, rfl, rfl, rfl⟩ (fun g5 p6 => ?_)
     have p6 : True := p6
     exact v_ret () [8, 9] ((0 = s.height) ∧ (1 = s.size) ∧ (z32 = s.lh) ∧ (z32 = s.rh) ∧ (true = true) ∧ (ws = ws) ∧ (PLe (PTO (some t)) (PTO (some t))) ∧ (false = false) ∧ (a = s.key) ∧ (b = s.value)) ⟨(by (cases Tr.at_end' (by assumption) (by assumption); first | rfl | assumption | exact Tr.hash_len _)), (by (cases Tr.at_end' (by assumption) (by assumption); first | rfl | assumption | exact Tr.hash_len _)), (by (cases Tr.at_end' (by assumption) (by assumption); first | rfl | assumption | exact Tr.hash_len _)), (by (cases Tr.at_end' (by assumption) (by assumption); first | rfl | assumption | exact Tr.hash_len _)), rfl, rfl, fun _ _ _ h => h, rfl, (by (cases Tr.at_end' (by assumption) (by assumption); first | rfl | assumption | exact Tr.hash_len _)), (by (cases Tr.at_end' (by assumption) (by assumption); first | rfl | assumption | exact Tr.hash_len _))⟩ trivial
   | node l r =>
    refine v_if (decide ((↑i : Int) < (↑ws.length : Int))) True trivial (fun h7 => ?_) (fun h7 => ?_)
    ·have h7 := of_decide_eq_true h7
     refine v_open 5 (open_node (l) (r)) ((0 ≤ (↑i : Int) ∧ (↑i : Int) < (↑ws.length : Int)) ∧ (false = false) ∧ (PT (l.node r) = PT (l.node r))) ⟨(by omega), rfl, rfl⟩ ?_
     refine v_if (decide ((l.node r).height = 0)) True trivial (fun h8 => ?_) (fun h8 => ?_)
     ·have h8 := of_decide_eq_true h8
      exfalso; (have := Tr.height_pos (l := l) (r := r); omega)
     ·have h8 := of_decide_eq_false h8
      refine v_if (ws.getD (↑i : Int).toNat false) True trivial (fun h9 => ?_) (fun h9 => ?_)
      ·skip
       exact v_back (((i, l.node r).fst + 1, (i, l.node r).snd.child (ws.getD (i, l.node r).fst false))) [9] ((I64 (↑i + 1)) ∧ ((↑i : Int) + 1 = (↑(i + 1) : Int)) ∧ (PT r = PT ((l.node r).child (ws.getD i false))) ∧ (false = false)) ⟨(by (unfold I64; omega)), rfl, (by exact chT (by assumption)), rfl⟩ (show (((l.node r).child (ws.getD i false)).at' (List.drop (i + 1) ws) = some s ∧ i + 1 ≤ ws.length) ∧ ws.length - (i + 1) < ws.length - i from (by exact chBT (by assumption) (by assumption) (by assumption)))
      ·skip
       exact v_back (((i, l.node r).fst + 1, (i, l.node r).snd.child (ws.getD (i, l.node r).fst false))) [8] ((I64 (↑i + 1)) ∧ ((↑i : Int) + 1 = (↑(i + 1) : Int)) ∧ (PT l = PT ((l.node r).child (ws.getD i false))) ∧ (false = false)) ⟨(by (unfold I64; omega)), rfl, (by exact chF (by assumption)), rfl⟩ (show (((l.node r).child (ws.getD i false)).at' (List.drop (i + 1) ws) = some s ∧ i + 1 ≤ ws.length) ∧ ws.length - (i + 1) < ws.length - i from (by exact chBF (by assumption) (by assumption) (by assumption)))
    ·have h7 := of_decide_eq_false h7
     refine v_leave (.ex 0) True trivial ?_
     refine v_open 5 (open_node (l) (r)) ((false = false) ∧ (PT (l.node r) = PT (l.node r))) ⟨rfl, rfl⟩ ?_
     refine v_call _ [6, 2] (copied_ok ((l.node r).key) ([]) (l.hash) (r.hash) ((l.node r).height) ((l.node r).size) (by (cases Tr.at_end' (by assumption) (by assumption); first | rfl | assumption | exact Tr.hash_len _)) (by decide) (by (cases Tr.at_end' (by assumption) (by assumption); first | rfl | assumption | exact Tr.hash_len _)) (by (cases Tr.at_end' (by assumption) (by assumption); first | rfl | assumption | exact Tr.hash_len _))) (((l.node r).height = (l.node r).height) ∧ ((l.node r).size = (l.node r).size) ∧ (l.hash = l.hash) ∧ (r.hash = r.hash) ∧ ((l.node r).key = (l.node r).key) ∧ (Eq (α := List UInt8) [] [])) ⟨rfl, rfl, rfl, rfl, rfl, rfl⟩ (fun g10 p11 => ?_)
     have p11 : True := p11
     exact v_ret () [9, 10] (((l.node r).height = s.height) ∧ ((l.node r).size = s.size) ∧ (l.hash = s.lh) ∧ (r.hash = s.rh) ∧ (true = true) ∧ (ws = ws) ∧ (PLe (PTO (some t)) (PTO (some t))) ∧ (false = false) ∧ ((l.node r).key = s.key) ∧ ([] = s.value)) ⟨(by (cases Tr.at_end' (by assumption) (by assumption); first | rfl | assumption | exact Tr.hash_len _)), (by (cases Tr.at_end' (by assumption) (by assumption); first | rfl | assumption | exact Tr.hash_len _)), (by (cases Tr.at_end' (by assumption) (by assumption); first | rfl | assumption | exact Tr.hash_len _)), (by (cases Tr.at_end' (by assumption) (by assumption); first | rfl | assumption | exact Tr.hash_len _)), rfl, rfl, fun _ _ _ h => h, rfl, (by (cases Tr.at_end' (by assumption) (by assumption); first | rfl | assumption | exact Tr.hash_len _)), (by (cases Tr.at_end' (by assumption) (by assumption); first | rfl | assumption | exact Tr.hash_len _))⟩ trivial
end Go.Proofs.YtnicmjipbnhciaaDoor.X
