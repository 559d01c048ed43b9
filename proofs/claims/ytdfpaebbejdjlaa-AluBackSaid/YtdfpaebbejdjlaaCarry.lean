/- The bit that tells the half carry: a ^ b ^ (a + b + c) at place i is the carry into i. -/
import Derived.Test.YtdfpaebbejdjlaaNum
namespace Go.Proofs.Ytdfpaebbejdjlaa.Pure
open Go.RowKit
set_option linter.unusedVariables false

theorem carry_bit (a b c i : Nat) (hc : c ≤ 1) : ((a ^^^ b) ^^^ (a + b + c)).testBit i = decide (2 ^ i ≤ a % 2 ^ i + b % 2 ^ i + c) := by
  have hp : 0 < 2 ^ i := Nat.pow_pos (by omega)
  rw [Nat.testBit_xor, Nat.testBit_xor, Nat.testBit_eq_decide_div_mod_eq, Nat.testBit_eq_decide_div_mod_eq, Nat.testBit_eq_decide_div_mod_eq]
  generalize hP : 2 ^ i = P at *
  have ha := Nat.div_add_mod a P
  have hb := Nat.div_add_mod b P
  have la := Nat.mod_lt a hp
  have lb := Nat.mod_lt b hp
  generalize a / P = A at *
  generalize b / P = B at *
  generalize a % P = x at *
  generalize b % P = y at *
  by_cases h : P ≤ x + y + c
  · have e : (a + b + c) / P = A + B + 1 := by
      have : a + b + c = (x + y + c - P) + P * (A + B + 1) := by
        rw [← ha, ← hb, Nat.mul_add, Nat.mul_add]; omega
      rw [this, Nat.add_mul_div_left _ _ hp, Nat.div_eq_of_lt (by omega)]; omega
    rw [e, decide_eq_true h]
    have h1 : A % 2 = 0 ∨ A % 2 = 1 := by omega
    have h2 : B % 2 = 0 ∨ B % 2 = 1 := by omega
    rcases h1 with h1 | h1 <;> rcases h2 with h2 | h2
    · have h3 : (A + B + 1) % 2 = 1 := by omega
      simp [h1, h2, h3]
    · have h3 : (A + B + 1) % 2 = 0 := by omega
      simp [h1, h2, h3]
    · have h3 : (A + B + 1) % 2 = 0 := by omega
      simp [h1, h2, h3]
    · have h3 : (A + B + 1) % 2 = 1 := by omega
      simp [h1, h2, h3]
  · have e : (a + b + c) / P = A + B := by
      have : a + b + c = (x + y + c) + P * (A + B) := by
        rw [← ha, ← hb, Nat.mul_add]; omega
      rw [this, Nat.add_mul_div_left _ _ hp, Nat.div_eq_of_lt (by omega)]; omega
    rw [e, decide_eq_false h]
    have h1 : A % 2 = 0 ∨ A % 2 = 1 := by omega
    have h2 : B % 2 = 0 ∨ B % 2 = 1 := by omega
    rcases h1 with h1 | h1 <;> rcases h2 with h2 | h2
    · have h3 : (A + B) % 2 = 0 := by omega
      simp [h1, h2, h3]
    · have h3 : (A + B) % 2 = 1 := by omega
      simp [h1, h2, h3]
    · have h3 : (A + B) % 2 = 1 := by omega
      simp [h1, h2, h3]
    · have h3 : (A + B) % 2 = 0 := by omega
      simp [h1, h2, h3]
theorem and_pow_is (n i : Nat) : n &&& 2 ^ i = if n.testBit i = true then 2 ^ i else 0 := by
  apply Nat.eq_of_testBit_eq
  intro j
  rw [Nat.testBit_and, Nat.testBit_two_pow]
  by_cases h : i = j
  · subst h
    cases hb : n.testBit i <;> simp
  · cases hb : n.testBit i <;> simp [h]
theorem and_pow_ne (n i : Nat) : ((((n &&& 2 ^ i : Nat) : Int)) != 0) = n.testBit i := by
  rw [and_pow_is]
  have hp : 0 < 2 ^ i := Nat.pow_pos (by omega)
  cases n.testBit i with
  | false => simp
  | true =>
    rw [if_pos rfl]
    have : ((2 ^ i : Nat) : Int) ≠ 0 := by omega
    simpa using this
/-- A byte's half carry. -/
theorem half8 (a v c : Int) (ha : 0 ≤ a ∧ a ≤ 255) (hv : 0 ≤ v ∧ v ≤ 255) (hc : 0 ≤ c ∧ c ≤ 1) :
    (bits .and .u8 (bits .xor .u8 (bits .xor .u8 a v) ((a + v + c) % 256)) 16 != 0) = decide (a % 16 + v % 16 + c > 15) := by
  obtain ⟨A, rfl⟩ := Int.eq_ofNat_of_zero_le ha.1
  obtain ⟨V, rfl⟩ := Int.eq_ofNat_of_zero_le hv.1
  obtain ⟨C, rfl⟩ := Int.eq_ofNat_of_zero_le hc.1
  have e : ((A : Int) + (V : Int) + (C : Int)) % 256 = (((A + V + C) % 2 ^ 8 : Nat) : Int) := by omega
  have x1 : A ^^^ V < 2 ^ 8 := Nat.xor_lt_two_pow (by omega) (by omega)
  have x2 : (A ^^^ V) ^^^ ((A + V + C) % 2 ^ 8) < 2 ^ 8 := Nat.xor_lt_two_pow x1 (Nat.mod_lt _ (by omega))
  rw [e, u8_xor_nat A V (by omega) (by omega), u8_xor_nat (A ^^^ V) ((A + V + C) % 2 ^ 8) x1 (Nat.mod_lt _ (by omega)), show (16 : Int) = ((16 : Nat) : Int) from rfl, u8_and_nat _ 16 x2 (by omega)]
  have h := and_pow_ne ((A ^^^ V) ^^^ ((A + V + C) % 2 ^ 8)) 4
  rw [show (2 : Nat) ^ 4 = 16 from rfl] at h
  rw [h]
  have h2 : ((A ^^^ V) ^^^ ((A + V + C) % 2 ^ 8)).testBit 4 = ((A ^^^ V) ^^^ (A + V + C)).testBit 4 := by
    rw [Nat.testBit_xor, Nat.testBit_xor, Nat.testBit_mod_two_pow]; simp
  rw [h2, carry_bit A V C 4 (by omega)]
  congr 1
  apply propext
  constructor <;> intro h <;> omega
/-- A word's. -/
theorem half16 (a v : Int) (ha : 0 ≤ a ∧ a ≤ 65535) (hv : 0 ≤ v ∧ v ≤ 65535) :
    (bits .and .u16 (bits .xor .u16 (bits .xor .u16 a v) ((a + v) % 65536)) 4096 != 0) = decide (a % 4096 + v % 4096 > 4095) := by
  obtain ⟨A, rfl⟩ := Int.eq_ofNat_of_zero_le ha.1
  obtain ⟨V, rfl⟩ := Int.eq_ofNat_of_zero_le hv.1
  have e : ((A : Int) + (V : Int)) % 65536 = (((A + V) % 2 ^ 16 : Nat) : Int) := by omega
  have x1 : A ^^^ V < 2 ^ 16 := Nat.xor_lt_two_pow (by omega) (by omega)
  have x2 : (A ^^^ V) ^^^ ((A + V) % 2 ^ 16) < 2 ^ 16 := Nat.xor_lt_two_pow x1 (Nat.mod_lt _ (by omega))
  rw [e, u16_xor_nat A V (by omega) (by omega), u16_xor_nat (A ^^^ V) ((A + V) % 2 ^ 16) x1 (Nat.mod_lt _ (by omega)), show (4096 : Int) = ((4096 : Nat) : Int) from rfl, u16_and_nat _ 4096 x2 (by omega)]
  have h := and_pow_ne ((A ^^^ V) ^^^ ((A + V) % 2 ^ 16)) 12
  rw [show (2 : Nat) ^ 12 = 4096 from rfl] at h
  rw [h]
  have h2 : ((A ^^^ V) ^^^ ((A + V) % 2 ^ 16)).testBit 12 = ((A ^^^ V) ^^^ (A + V + 0)).testBit 12 := by
    rw [Nat.testBit_xor, Nat.testBit_xor, Nat.testBit_mod_two_pow]; simp
  rw [h2, carry_bit A V 0 12 (by omega)]
  congr 1
  apply propext
  constructor <;> intro h <;> omega
end Go.Proofs.Ytdfpaebbejdjlaa.Pure
