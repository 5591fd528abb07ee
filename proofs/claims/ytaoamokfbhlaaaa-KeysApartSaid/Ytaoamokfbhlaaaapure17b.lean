/- Plain laws of numbers as bytes. -/
import Derived.Test.Ytaoamokfbhlaaaapure17
set_option linter.unusedVariables false
set_option linter.unusedSimpArgs false
namespace Go.Proofs.Ytaoamokfbhlaaaa.E
open Go

def numN (b : List UInt8) (k : Nat) : Nat := (b.take k).foldl (fun n c => n * 256 + c.toNat) 0
theorem numN_succ (b : List UInt8) (k : Nat) (hk : k < b.length) : numN b (k + 1) = numN b k * 256 + (b[k]'hk).toNat := by
  unfold numN
  rw [List.take_succ_eq_append_getElem hk, List.foldl_append]
  rfl
theorem numN_zero (b : List UInt8) : numN b 0 = 0 := by simp [numN]

theorem shl_or (x : UInt64) (c : UInt8) (hx : x.toNat < 256 ^ 7) : (x <<< (8 : Nat).toUInt64 ||| c.toUInt64).toNat = x.toNat * 256 + c.toNat := by
  have hc := c.toNat_lt
  rw [UInt64.toNat_or, UInt64.toNat_shiftLeft, UInt8.toNat_toUInt64]
  have h8 : (8 : Nat).toUInt64.toNat % 64 = 8 := by decide
  rw [h8]
  have h1 : x.toNat <<< 8 % 2 ^ 64 = x.toNat <<< 8 := by
    rw [Nat.shiftLeft_eq]
    apply Nat.mod_eq_of_lt
    have : (256 : Nat) ^ 7 = 72057594037927936 := by decide
    have h2 : (2 : Nat) ^ 64 = 18446744073709551616 := by decide
    have h3 : (2 : Nat) ^ 8 = 256 := by decide
    rw [h2, h3]; omega
  rw [h1, ← Nat.shiftLeft_add_eq_or_of_lt (by have : (2 : Nat) ^ 8 = 256 := by decide
                                              omega), Nat.shiftLeft_eq]

theorem numTo_nat (b : List UInt8) : ∀ k, k ≤ b.length → k ≤ 8 → (numTo b k).toNat = numN b k ∧ numN b k < 256 ^ k
  | 0, _, _ => by simp [numTo, numN]
  | k + 1, hk, h8 => by
    obtain ⟨h1, h2⟩ := numTo_nat b k (by omega) (by omega)
    have hc := (b[k]'(by omega)).toNat_lt
    have hlt : numN b k < 256 ^ 7 := Nat.lt_of_lt_of_le h2 (Nat.pow_le_pow_right (by decide) (by omega))
    have h3 := shl_or (numTo b k) (b[k]'(by omega)) (by rw [h1]; exact hlt)
    rw [numTo_succ b k (by omega)] at h3
    rw [numN_succ b k (by omega), h3, h1]
    refine ⟨rfl, ?_⟩
    rw [Nat.pow_succ]; omega

theorem byteAt_nat (n : UInt64) (k : Nat) (hk : k < 8) : (byteAt n k).toNat = n.toNat / 256 ^ (7 - k) % 256 := by
  unfold byteAt
  rw [UInt64.toNat_toUInt8, UInt64.toNat_shiftRight]
  have h1 : (56 - 8 * k).toUInt64.toNat % 64 = 56 - 8 * k := by
    have : (56 - 8 * k).toUInt64.toNat = 56 - 8 * k := by
      show (UInt64.ofNat (56 - 8 * k)).toNat = _
      rw [UInt64.toNat_ofNat']
      have h' : (2 ^ 64 : Nat) = 18446744073709551616 := by decide
      rw [h']; omega
    rw [this]; omega
  rw [h1, Nat.shiftRight_eq_div_pow]
  have h2 : (2 : Nat) ^ (56 - 8 * k) = 256 ^ (7 - k) := by
    rw [show (256 : Nat) = 2 ^ 8 by decide, ← Nat.pow_mul]
    congr 1; omega
  rw [h2]

theorem eight_get (n : UInt64) (k : Nat) (hk : k < (eight n).length) : (eight n)[k] = byteAt n k := by
  simp [eight]

theorem div_step (n k : Nat) (hk : k < 8) : n / 256 ^ (8 - k) * 256 + n / 256 ^ (7 - k) % 256 = n / 256 ^ (7 - k) := by
  have h : n / 256 ^ (8 - k) = n / 256 ^ (7 - k) / 256 := by
    rw [Nat.div_div_eq_div_mul, ← Nat.pow_succ]
    congr 2; omega
  rw [h]; omega

theorem numN_eight (n : UInt64) : ∀ k, k ≤ 8 → numN (eight n) k = n.toNat / 256 ^ (8 - k)
  | 0, _ => by
    rw [numN_zero]
    have := n.toNat_lt
    have h : (256 : Nat) ^ (8 - 0) = 18446744073709551616 := by decide
    rw [h]
    exact (Nat.div_eq_of_lt this).symm
  | k + 1, hk => by
    rw [numN_succ _ k (by rw [eight_len]; omega), numN_eight n k (by omega), eight_get, byteAt_nat n k (by omega), div_step _ _ (by omega), show 7 - k = 8 - (k + 1) by omega]

theorem numTo_eight (n : UInt64) : numTo (eight n) 8 = n := by
  apply UInt64.toNat_inj.1
  rw [(numTo_nat (eight n) 8 (by rw [eight_len]; exact Nat.le_refl _) (Nat.le_refl _)).1, numN_eight n 8 (Nat.le_refl _)]
  simp

theorem value_eight (n : UInt64) : valueL (eight n) = (n, 0) := by
  unfold valueL
  rw [if_pos (eight_len n), eight_len, numTo_eight]

theorem numN_pre (b : List UInt8) (hb : b.length = 8) : ∀ j, j ≤ 8 → numN b (8 - j) = numN b 8 / 256 ^ j
  | 0, _ => by simp
  | j + 1, hj => by
    have h1 := numN_pre b hb j (by omega)
    have h2 := numN_succ b (8 - (j + 1)) (by omega)
    rw [show 8 - (j + 1) + 1 = 8 - j by omega] at h2
    have hc := (b[8 - (j + 1)]'(by omega)).toNat_lt
    rw [Nat.pow_succ, ← Nat.div_div_eq_div_mul, ← h1, h2]
    omega

theorem eight_numTo (b : List UInt8) (hb : b.length = 8) : eight (numTo b 8) = b := by
  apply List.ext_getElem
  · rw [eight_len, hb]
  · intro k h1 h2
    rw [eight_get]
    apply UInt8.toNat_inj.1
    have hk : k < 8 := by rw [eight_len] at h1; exact h1
    rw [byteAt_nat _ k hk, (numTo_nat b 8 (by omega) (Nat.le_refl _)).1]
    have h3 := numN_pre b hb (7 - k) (by omega)
    rw [← h3, show 8 - (7 - k) = k + 1 by omega, numN_succ b k h2]
    have hc := (b[k]'h2).toNat_lt
    omega

theorem eight_value (b : List UInt8) (hb : b.length = 8) : eight (valueL b).1 = b := by
  unfold valueL
  rw [if_pos hb, hb]
  exact eight_numTo b hb
theorem value_ok (b : List UInt8) (hb : b.length = 8) : (valueL b).2 = 0 := by unfold valueL; rw [if_pos hb]
theorem value_no (b : List UInt8) (hb : ¬ b.length = 8) : valueL b = (0, 7) := by unfold valueL; rw [if_neg hb]
end Go.Proofs.Ytaoamokfbhlaaaa.E
