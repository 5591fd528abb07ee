/- Walks, printed by a program of this session. -/
import Derived.Test.YtaoamokfbhlaaaaK
import Derived.Test.Ytaoamokfbhlaaaapure21
set_option linter.unusedVariables false
set_option linter.unusedSimpArgs false
set_option maxRecDepth 100000
namespace Go.Proofs.Ytaoamokfbhlaaaa.E
open Go Go.RowKit
open Go.Proofs
theorem F56 : Try.prog.fieldsOf 56 = #[⟨"Channel", 3, 0, false, "", "", 0⟩, ⟨"Seq", 22, 1, false, "", "", 8⟩, ⟨"Timeout", 22, 2, false, "", "", 16⟩, ⟨"Denom", 9, 3, false, "", "", 24⟩, ⟨"Amount", 22, 4, false, "", "", 40⟩, ⟨"From", 9, 5, false, "", "", 48⟩, ⟨"To", 9, 6, false, "", "", 64⟩] := by kernel_rfl
theorem beq56 (p q : Packet) : (((p.channel : Int) == (q.channel : Int)) && ((((p.seq).toNat : Int) == ((q.seq).toNat : Int)) && ((((p.timeout).toNat : Int) == ((q.timeout).toNat : Int)) && (((⟨(p.denom).toArray⟩ : ByteArray).toList == (⟨(q.denom).toArray⟩ : ByteArray).toList) && ((((p.amount).toNat : Int) == ((q.amount).toNat : Int)) && (((⟨(p.src).toArray⟩ : ByteArray).toList == (⟨(q.src).toArray⟩ : ByteArray).toList) && (((⟨(p.dst).toArray⟩ : ByteArray).toList == (⟨(q.dst).toArray⟩ : ByteArray).toList) && true))))))) = decide (p = q) := by
  try simp only [cmp_u64_eql, cmp_u8_eql, str_eql]
  try simp only [cmp_int_eql]
  cases p; cases q
  rw [Bool.eq_iff_iff]
  simp
theorem eqin56 (d : Nat) (p q : Packet) (w : World) : (Op.equalIn (d + 2) 56 (Value.agg #[(Value.int .i64 (p.channel)), (uv p.seq), (uv p.timeout), (sv p.denom), (uv p.amount), (sv p.src), (sv p.dst)]) (Value.agg #[(Value.int .i64 (q.channel)), (uv q.seq), (uv q.timeout), (sv q.denom), (uv q.amount), (sv q.src), (sv q.dst)])).run Try.prog w = .ok (decide (p = q)) w := by
  rw [run_equalIn_struct w (d + 1) 56 _ _ (by kernel_rfl) (by kernel_rfl), F56, ← beq56]
  exact eqF_cons (by decide) (fun _ => by kernel_rfl) (fun _ => by kernel_rfl) (fun w => run_equalIn_int w _ 3 .i64 .i64 _ _ U3) (fun w => eqF_cons (by decide) (fun _ => by kernel_rfl) (fun _ => by kernel_rfl) (fun w => run_equalIn_int w _ 22 .u64 .u64 _ _ U22) (fun w => eqF_cons (by decide) (fun _ => by kernel_rfl) (fun _ => by kernel_rfl) (fun w => run_equalIn_int w _ 22 .u64 .u64 _ _ U22) (fun w => eqF_cons (by decide) (fun _ => by kernel_rfl) (fun _ => by kernel_rfl) (fun w => run_equalIn_string w _ 9 _ _ U9) (fun w => eqF_cons (by decide) (fun _ => by kernel_rfl) (fun _ => by kernel_rfl) (fun w => run_equalIn_int w _ 22 .u64 .u64 _ _ U22) (fun w => eqF_cons (by decide) (fun _ => by kernel_rfl) (fun _ => by kernel_rfl) (fun w => run_equalIn_string w _ 9 _ _ U9) (fun w => eqF_cons (by decide) (fun _ => by kernel_rfl) (fun _ => by kernel_rfl) (fun w => run_equalIn_string w _ 9 _ _ U9) (fun w => eqF_nil w) w) w) w) w) w) w) w
theorem F53 : Try.prog.fieldsOf 53 = #[⟨"OK", 4, 0, false, "", "", 0⟩, ⟨"Code", 36, 1, false, "", "", 8⟩] := by kernel_rfl
theorem beq53 (p q : Ack) : ((p.ok == q.ok) && (((p.code : Int) == (q.code : Int)) && true)) = decide (p = q) := by
  try simp only [cmp_u64_eql, cmp_u8_eql, str_eql]
  try simp only [cmp_int_eql]
  cases p; cases q
  rw [Bool.eq_iff_iff]
  simp
theorem eqin53 (d : Nat) (p q : Ack) (w : World) : (Op.equalIn (d + 2) 53 (Value.agg #[(Value.bool p.ok), (Value.int .i64 (p.code))]) (Value.agg #[(Value.bool q.ok), (Value.int .i64 (q.code))])).run Try.prog w = .ok (decide (p = q)) w := by
  rw [run_equalIn_struct w (d + 1) 53 _ _ (by kernel_rfl) (by kernel_rfl), F53, ← beq53]
  exact eqF_cons (by decide) (fun _ => by kernel_rfl) (fun _ => by kernel_rfl) (fun w => run_equalIn_bool' w _ 4 _ _ U4) (fun w => eqF_cons (by decide) (fun _ => by kernel_rfl) (fun _ => by kernel_rfl) (fun w => run_equalIn_int w _ 36 .i64 .i64 _ _ U36) (fun w => eqF_nil w) w) w
end Go.Proofs.Ytaoamokfbhlaaaa.E
