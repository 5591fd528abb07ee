/- Plain arithmetic of the engine: what the model reckons over Int, as Lean's own words have it; one step with an equation. -/
import Derived.Test.YtaoamokfbhlaaaaE4
import Derived.Laws.Strings
import Derived.Laws.StructEq
set_option linter.unusedVariables false
set_option linter.unusedSimpArgs false
namespace Go.Proofs.Ytaoamokfbhlaaaa.E
open Go Go.RowKit

section
variable {P : Program} {ops : Array Oper} {Q : Exit → Act → World → Prop} {n i : Nat} {l : Sl} {a : Act} {w : World}
theorem r_one {d : Nat} {v0 v : Value} (hF : Fr a n l) (hc : (allLt n l && ((ops.toList.drop i).take 1).all (dstOk n)) = true) (hr : (runAll ops ((ops.toList.drop i).take 1) l).run P w = .ok ((d, v0) :: l) w) (e : v0 = v)
    (K : ∀ a', Fr a' n ((d, v) :: l) → wpAt P ops Q (i + 1) a' w) : wpAt P ops Q i a w := by
  subst e
  exact r_run 1 hF hc hr K
end

theorem app_small {a b k : Nat} (h : a + b ≤ 1000000) (hk : k ≤ 1000) : (a + b) * k ≤ 140737488355328 :=
  Nat.le_trans (Nat.mul_le_mul h hk) (by decide)

theorem wrap_u {k : IntKind} (hk : k.signed = false) (x : Int) : k.wrap x = x % (2 ^ k.bits : Int) := by
  unfold IntKind.wrap
  simp [hk]

theorem i64_eq {x y : Int} (h1 : -9223372036854775808 ≤ x) (h2 : x < 9223372036854775808) (e : x = y) : IntKind.i64.wrap x = y := by
  subst e
  unfold IntKind.wrap
  simp only [IntKind.bits, IntKind.signed, Bool.true_and]
  show (if decide (x % (2 ^ 64 : Int) ≥ (2 ^ (64 - 1) : Int)) = true then x % (2 ^ 64 : Int) - (2 ^ 64 : Int) else x % (2 ^ 64 : Int)) = x
  split <;> simp_all <;> omega

def ofI (x : Int) : UInt64 := UInt64.ofNat (x % 18446744073709551616).toNat

theorem i64_u64 (x : Int) : IntKind.u64.wrap x = ((ofI x).toNat : Int) := by
  rw [wrap_u rfl]
  unfold ofI
  rw [UInt64.toNat_ofNat']
  show x % (2 ^ 64 : Int) = _
  have h : (2 ^ 64 : Int) = 18446744073709551616 := by decide
  rw [h]
  omega

theorem u64_u8 (x : UInt64) : IntKind.u8.wrap ((x).toNat : Int) = ((x.toUInt8).toNat : Int) := by
  rw [wrap_u rfl, UInt64.toNat_toUInt8]
  show ((x.toNat : Int)) % (2 ^ 8 : Int) = _
  omega
theorem u64_u32 (x : UInt64) : IntKind.u32.wrap ((x).toNat : Int) = ((x.toUInt32).toNat : Int) := by
  rw [wrap_u rfl, UInt64.toNat_toUInt32]
  show ((x.toNat : Int)) % (2 ^ 32 : Int) = _
  have h : (2 ^ 32 : Int) = 4294967296 := by decide
  rw [h]
  omega
theorem u32_u8 (x : UInt32) : IntKind.u8.wrap ((x).toNat : Int) = ((x.toUInt8).toNat : Int) := by
  rw [wrap_u rfl, UInt32.toNat_toUInt8]
  show ((x.toNat : Int)) % (2 ^ 8 : Int) = _
  omega
theorem u8_u64 (x : UInt8) : IntKind.u64.wrap ((x).toNat : Int) = ((x.toUInt64).toNat : Int) := by
  rw [wrap_u rfl, UInt8.toNat_toUInt64]
  show ((x.toNat : Int)) % (2 ^ 64 : Int) = _
  have h : (2 ^ 64 : Int) = 18446744073709551616 := by decide
  have := x.toNat_lt
  rw [h]
  omega
theorem u8_u32 (x : UInt8) : IntKind.u32.wrap ((x).toNat : Int) = ((x.toUInt32).toNat : Int) := by
  rw [wrap_u rfl, UInt8.toNat_toUInt32]
  show ((x.toNat : Int)) % (2 ^ 32 : Int) = _
  have h : (2 ^ 32 : Int) = 4294967296 := by decide
  have := x.toNat_lt
  rw [h]
  omega
theorem u8_i64 (x : UInt8) : IntKind.i64.wrap ((x).toNat : Int) = ((x.toNat : Nat) : Int) := by
  have := x.toNat_lt
  exact i64_eq (by omega) (by omega) rfl
theorem u32_i64 (x : UInt32) : IntKind.i64.wrap ((x).toNat : Int) = ((x.toNat : Nat) : Int) := by
  have := x.toNat_lt
  exact i64_eq (by omega) (by omega) rfl

/-! comparisons -/
theorem cmp_nat_eql (a b : Nat) : ((a : Int) == (b : Int)) = decide (a = b) := by rw [Bool.eq_iff_iff]; simp; omega
theorem cmp_nat_neq (a b : Nat) : ((a : Int) != (b : Int)) = !decide (a = b) := by rw [Bool.eq_iff_iff]; simp; omega
theorem cmp_nat_lss (a b : Nat) : decide ((a : Int) < (b : Int)) = decide (a < b) := by rw [Bool.eq_iff_iff]; simp
theorem cmp_nat_leq (a b : Nat) : decide ((a : Int) ≤ (b : Int)) = decide (a ≤ b) := by rw [Bool.eq_iff_iff]; simp
theorem cmp_nat_gtr (a b : Nat) : decide ((a : Int) > (b : Int)) = decide (a > b) := by rw [Bool.eq_iff_iff]; simp
theorem cmp_nat_geq (a b : Nat) : decide ((a : Int) ≥ (b : Int)) = decide (a ≥ b) := by rw [Bool.eq_iff_iff]; simp
theorem cmp_int_eql (a b : Int) : (a == b) = decide (a = b) := by rw [Bool.eq_iff_iff]; simp
theorem cmp_int_neq (a b : Int) : (a != b) = !decide (a = b) := by rw [Bool.eq_iff_iff]; simp
theorem cmp_int_lss (a b : Int) : decide (a < b) = decide (a < b) := rfl
theorem cmp_int_leq (a b : Int) : decide (a ≤ b) = decide (a ≤ b) := rfl
theorem cmp_int_gtr (a b : Int) : decide (a > b) = decide (a > b) := rfl
theorem cmp_int_geq (a b : Int) : decide (a ≥ b) = decide (a ≥ b) := rfl
theorem cmp_u8_eql (a b : UInt8) : ((a.toNat : Int) == (b.toNat : Int)) = decide (a = b) := by rw [Bool.eq_iff_iff]; simp [← UInt8.toNat_inj]; omega
theorem cmp_u8_neq (a b : UInt8) : ((a.toNat : Int) != (b.toNat : Int)) = !decide (a = b) := by rw [Bool.eq_iff_iff]; simp [← UInt8.toNat_inj]; omega
theorem cmp_u8_lss (a b : UInt8) : decide ((a.toNat : Int) < (b.toNat : Int)) = decide (a < b) := by rw [Bool.eq_iff_iff]; simp [UInt8.lt_iff_toNat_lt]
theorem cmp_u8_leq (a b : UInt8) : decide ((a.toNat : Int) ≤ (b.toNat : Int)) = decide (a ≤ b) := by rw [Bool.eq_iff_iff]; simp [UInt8.le_iff_toNat_le]
theorem cmp_u8_gtr (a b : UInt8) : decide ((a.toNat : Int) > (b.toNat : Int)) = decide (a > b) := by rw [Bool.eq_iff_iff]; simp [UInt8.lt_iff_toNat_lt]
theorem cmp_u8_geq (a b : UInt8) : decide ((a.toNat : Int) ≥ (b.toNat : Int)) = decide (a ≥ b) := by rw [Bool.eq_iff_iff]; simp [UInt8.le_iff_toNat_le]
theorem cmp_u64_eql (a b : UInt64) : ((a.toNat : Int) == (b.toNat : Int)) = decide (a = b) := by rw [Bool.eq_iff_iff]; simp [← UInt64.toNat_inj]; omega
theorem cmp_u64_neq (a b : UInt64) : ((a.toNat : Int) != (b.toNat : Int)) = !decide (a = b) := by rw [Bool.eq_iff_iff]; simp [← UInt64.toNat_inj]; omega
theorem cmp_u64_lss (a b : UInt64) : decide ((a.toNat : Int) < (b.toNat : Int)) = decide (a < b) := by rw [Bool.eq_iff_iff]; simp [UInt64.lt_iff_toNat_lt]
theorem cmp_u64_leq (a b : UInt64) : decide ((a.toNat : Int) ≤ (b.toNat : Int)) = decide (a ≤ b) := by rw [Bool.eq_iff_iff]; simp [UInt64.le_iff_toNat_le]
theorem cmp_u64_gtr (a b : UInt64) : decide ((a.toNat : Int) > (b.toNat : Int)) = decide (a > b) := by rw [Bool.eq_iff_iff]; simp [UInt64.lt_iff_toNat_lt]
theorem cmp_u64_geq (a b : UInt64) : decide ((a.toNat : Int) ≥ (b.toNat : Int)) = decide (a ≥ b) := by rw [Bool.eq_iff_iff]; simp [UInt64.le_iff_toNat_le]
theorem cmp_u32_eql (a b : UInt32) : ((a.toNat : Int) == (b.toNat : Int)) = decide (a = b) := by rw [Bool.eq_iff_iff]; simp [← UInt32.toNat_inj]; omega
theorem cmp_u32_neq (a b : UInt32) : ((a.toNat : Int) != (b.toNat : Int)) = !decide (a = b) := by rw [Bool.eq_iff_iff]; simp [← UInt32.toNat_inj]; omega

theorem ba_toList (l : List UInt8) : (⟨l.toArray⟩ : ByteArray).toList = l := by
  exact Go.ByteArray.toList_mk l
theorem str_eql (a b : List UInt8) : ((⟨a.toArray⟩ : ByteArray).toList == (⟨b.toArray⟩ : ByteArray).toList) = decide (a = b) := by
  rw [ba_toList, ba_toList, Bool.eq_iff_iff]; simp
theorem str_neq (a b : List UInt8) : (!((⟨a.toArray⟩ : ByteArray).toList == (⟨b.toArray⟩ : ByteArray).toList)) = !decide (a = b) := by rw [str_eql]

/-! whole numbers without a sign -/
theorem u64_add (a b : UInt64) : IntKind.u64.wrap ((a.toNat : Int) + (b.toNat : Int)) = ((a + b).toNat : Int) := by
  rw [wrap_u rfl, UInt64.toNat_add]
  show _ % (2 ^ 64 : Int) = _
  have h : (2 ^ 64 : Int) = 18446744073709551616 := by decide
  have h' : (2 ^ 64 : Nat) = 18446744073709551616 := by decide
  rw [h, h']
  omega
theorem u64_sub (a b : UInt64) : IntKind.u64.wrap ((a.toNat : Int) - (b.toNat : Int)) = ((a - b).toNat : Int) := by
  rw [wrap_u rfl, UInt64.toNat_sub]
  show _ % (2 ^ 64 : Int) = _
  have h : (2 ^ 64 : Int) = 18446744073709551616 := by decide
  have h' : (2 ^ 64 : Nat) = 18446744073709551616 := by decide
  have := a.toNat_lt
  have := b.toNat_lt
  rw [h, h']
  omega
theorem u64_mul (a b : UInt64) : IntKind.u64.wrap ((a.toNat : Int) * (b.toNat : Int)) = ((a * b).toNat : Int) := by
  rw [wrap_u rfl, UInt64.toNat_mul]
  show _ % (2 ^ 64 : Int) = _
  rw [← Int.natCast_mul]
  have h : (2 ^ 64 : Int) = ((2 ^ 64 : Nat) : Int) := by decide
  rw [h]
  exact (Int.natCast_emod _ _).symm
theorem u64_rem (a b : UInt64) (hb : b.toNat ≠ 0) : Int.tmod (a.toNat : Int) (b.toNat : Int) = ((a % b).toNat : Int) := by
  rw [UInt64.toNat_mod]
  exact (Int.ofNat_tmod _ _).symm
theorem u64_quo (a b : UInt64) (hb : b.toNat ≠ 0) : IntKind.u64.wrap (Int.tdiv (a.toNat : Int) (b.toNat : Int)) = ((a / b).toNat : Int) := by
  rw [wrap_u rfl, UInt64.toNat_div]
  have h1 : Int.tdiv (a.toNat : Int) (b.toNat : Int) = ((a.toNat / b.toNat : Nat) : Int) := (Int.ofNat_tdiv _ _).symm
  rw [h1]
  show _ % (2 ^ 64 : Int) = _
  have h : (2 ^ 64 : Int) = 18446744073709551616 := by decide
  have h3 := a.toNat_lt
  have h2 : a.toNat / b.toNat ≤ a.toNat := Nat.div_le_self _ _
  rw [h]
  generalize a.toNat / b.toNat = q at *
  omega
theorem u64_shr (x : UInt64) (m : Nat) (hm : m < 64) : Int.fdiv (x.toNat : Int) (2 ^ (min (Int.toNat (m : Int)) 64)) = ((x >>> m.toUInt64).toNat : Int) := by
  have h0 : min (Int.toNat (m : Int)) 64 = m := by omega
  rw [h0, UInt64.toNat_shiftRight]
  have h1 : m.toUInt64.toNat % 64 = m := by
    have : m.toUInt64.toNat = m := by
      show (UInt64.ofNat m).toNat = m
      rw [UInt64.toNat_ofNat']
      have h' : (2 ^ 64 : Nat) = 18446744073709551616 := by decide
      rw [h']; omega
    rw [this]; omega
  rw [h1, Nat.shiftRight_eq_div_pow]
  have h2 : (2 ^ m : Int) = ((2 ^ m : Nat) : Int) := by rw [Int.natCast_pow]; rfl
  rw [h2]
  rw [Int.fdiv_eq_ediv_of_nonneg _ (Int.natCast_nonneg _)]
  exact (Int.natCast_ediv _ _).symm

/-! structs held against each other -/
theorem eqF_nil {P : Program} {d : Nat} {xs ys : Array Value} (w : World) : (Op.eqFields d xs ys []).run P w = .ok true w := rfl
theorem eqF_cons {P : Program} {d : Nat} {xs ys : Array Value} {f : Field} {fs : List Field} {a b : Value} {r r' : Bool} (hn : f.name ≠ "_") (ha : ∀ w, (part f.type xs f.offset).run P w = .ok a w) (hb : ∀ w, (part f.type ys f.offset).run P w = .ok b w)
    (he : ∀ w, (Op.equalIn d f.type a b).run P w = .ok r w) (rest : ∀ w, (Op.eqFields d xs ys fs).run P w = .ok r' w) (w : World) : (Op.eqFields d xs ys (f :: fs)).run P w = .ok (r && r') w := by
  unfold Op.eqFields
  rw [if_pos hn]
  simp only [Sem.run_bind, ha, hb, he, Result.andThen_ok, Sem.run_ite, rest, Sem.run_pure]
  cases r <;> rfl
theorem exec_eqS {P : Program} {w : World} {l : Sl} {x y : Operand} {t u : TypeId} {xs ys : Array Value} {r : Bool} (hx : evl l x = .agg xs) (hy : evl l y = .agg ys) (hm : P.eqGuardType P.depth t = false) (he : ∀ w, (Op.equalIn 10000 t (.agg xs) (.agg ys)).run P w = .ok r w) :
    ∀ o : Oper, o.op = .binOp .eql t x y u → (execOp (evl l) o).run P w = .ok (.value (.bool r)) w := by
  intro o e
  simp only [execOp, e, hx, hy, Sem.run_bind, run_eqGuard_agg w .eql t x y xs ys hm, run_eql_struct, he, Result.andThen_ok, Sem.run_pure]
theorem exec_neS {P : Program} {w : World} {l : Sl} {x y : Operand} {t u : TypeId} {xs ys : Array Value} {r : Bool} (hx : evl l x = .agg xs) (hy : evl l y = .agg ys) (hm : P.eqGuardType P.depth t = false) (he : ∀ w, (Op.equalIn 10000 t (.agg xs) (.agg ys)).run P w = .ok r w) :
    ∀ o : Oper, o.op = .binOp .neq t x y u → (execOp (evl l) o).run P w = .ok (.value (.bool (!r))) w := by
  intro o e
  simp only [execOp, e, hx, hy, Sem.run_bind, run_eqGuard_agg w .neq t x y xs ys hm, run_neq_struct, he, Result.andThen_ok, Sem.run_pure]

theorem ofInt_u64 (x : UInt64) : BitVec.ofInt 64 (x.toNat : Int) = x.toBitVec := by
  apply BitVec.eq_of_toNat_eq
  rw [BitVec.toNat_ofInt]
  have := x.toNat_lt
  show (((x.toNat : Int)) % ((2 ^ 64 : Nat) : Int)).toNat = x.toNat
  have h' : (2 ^ 64 : Nat) = 18446744073709551616 := by decide
  rw [h']; omega
theorem wrap_u64 (x : UInt64) : IntKind.u64.wrap (x.toBitVec.toNat : Int) = (x.toNat : Int) := by
  rw [wrap_u rfl]
  have := x.toNat_lt
  show ((x.toNat : Int)) % (2 ^ 64 : Int) = _
  have h : (2 ^ 64 : Int) = 18446744073709551616 := by decide
  rw [h]; omega
theorem u64_or (a b : UInt64) : IntKind.u64.wrap ((BitVec.ofInt 64 (a.toNat : Int) ||| BitVec.ofInt 64 (b.toNat : Int)).toNat : Int) = ((a ||| b).toNat : Int) := by
  rw [ofInt_u64, ofInt_u64]; exact wrap_u64 (a ||| b)
theorem u64_and (a b : UInt64) : IntKind.u64.wrap ((BitVec.ofInt 64 (a.toNat : Int) &&& BitVec.ofInt 64 (b.toNat : Int)).toNat : Int) = ((a &&& b).toNat : Int) := by
  rw [ofInt_u64, ofInt_u64]; exact wrap_u64 (a &&& b)
theorem u64_xor (a b : UInt64) : IntKind.u64.wrap ((BitVec.ofInt 64 (a.toNat : Int) ^^^ BitVec.ofInt 64 (b.toNat : Int)).toNat : Int) = ((a ^^^ b).toNat : Int) := by
  rw [ofInt_u64, ofInt_u64]; exact wrap_u64 (a ^^^ b)
theorem u64_shl (x : UInt64) (m : Nat) (hm : m < 64) : IntKind.u64.wrap ((x.toNat : Int) * (2 ^ (min (Int.toNat (m : Int)) 64))) = ((x <<< m.toUInt64).toNat : Int) := by
  have h0 : min (Int.toNat (m : Int)) 64 = m := by omega
  rw [h0, UInt64.toNat_shiftLeft, wrap_u rfl]
  have h1 : m.toUInt64.toNat % 64 = m := by
    have : m.toUInt64.toNat = m := by
      show (UInt64.ofNat m).toNat = m
      rw [UInt64.toNat_ofNat']
      have h' : (2 ^ 64 : Nat) = 18446744073709551616 := by decide
      rw [h']; omega
    rw [this]; omega
  rw [h1, Nat.shiftLeft_eq]
  have h2 : (2 ^ m : Int) = ((2 ^ m : Nat) : Int) := by rw [Int.natCast_pow]; rfl
  rw [h2, ← Int.natCast_mul]
  show _ % (2 ^ 64 : Int) = _
  have h : (2 ^ 64 : Int) = ((2 ^ 64 : Nat) : Int) := by decide
  rw [h]
  exact (Int.natCast_emod _ _).symm

theorem exec_shr {P : Program} {w : World} {l : Sl} {x y : Operand} {t u : TypeId} {n : UInt64} {k : IntKind} {s : Int} (hx : evl l x = uv n) (hy : evl l y = .int k s) (h0 : 0 ≤ s) (h1 : s < 64) (m : Nat) (hm : s.toNat = m) :
    ∀ o : Oper, o.op = .binOp .shr t x y u → (execOp (evl l) o).run P w = .ok (.value (uv (n >>> m.toUInt64))) w := by
  intro o e
  subst hm
  have hn : ¬ s < 0 := by omega
  have h2 := u64_shr n s.toNat (by omega)
  rw [Int.toNat_natCast] at h2
  simp only [execOp, e, hx, hy, eqGuard, binOp, Op.shift, hn, if_false, Sem.run_bind, Sem.run_pure, Result.andThen_ok]
  show Result.ok (Next.value (Value.int .u64 (Int.fdiv (n.toNat : Int) (2 ^ (min s.toNat 64))))) w = _
  rw [h2]
end Go.Proofs.Ytaoamokfbhlaaaa.E
