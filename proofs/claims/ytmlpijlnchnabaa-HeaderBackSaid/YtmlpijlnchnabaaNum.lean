/- Plain lemmas on numbers: bounds out of well-formedness, masks, joined bits. -/
import Derived.OpenShut
import Derived.Laws.BitsAllLaws
import Derived.Laws.BitsLemmas
import Derived.RowKit
namespace Go.Proofs.Ytmlpijlnchnabaa.Pure
open Go.RowKit
set_option maxRecDepth 100000
set_option linter.unusedVariables false

theorem i64_of {x : Int} (h : (Lit.int .i64 x).wf = true) : -9223372036854775808 ≤ x ∧ x ≤ 9223372036854775807 := by
  have hmin : IntKind.i64.min = -9223372036854775808 := rfl
  have hmax : IntKind.i64.max = 9223372036854775807 := rfl
  simp only [Lit.wf, Bool.and_eq_true, decide_eq_true_eq] at h
  omega
theorem u8_of {x : Int} (h : (Lit.int .u8 x).wf = true) : ∃ v : Fin 256, x = (v.val : Int) := by
  have hmin : IntKind.u8.min = 0 := rfl
  have hmax : IntKind.u8.max = 255 := rfl
  simp only [Lit.wf, Bool.and_eq_true, decide_eq_true_eq] at h
  exact ⟨⟨x.toNat, by omega⟩, by show x = (x.toNat : Int); omega⟩

/-- 'x & (2^i - 1)' of an int, whatever its sign, is x modulo 2^i. -/
theorem and_mask (x : Int) (i m : Nat) (hi : i ≤ 32) (hm : m = 2 ^ i - 1) : bits .and .i64 x (m : Int) = x % (2 ^ i : Nat) := by
  have hp : (2 : Nat) ^ i ≤ 2 ^ 32 := Nat.pow_le_pow_right (by omega) hi
  have hpos : 0 < (2 : Nat) ^ i := Nat.pow_pos (by omega)
  have h1 : (BitVec.ofInt 64 (m : Int)).toNat = 2 ^ i - 1 := by
    rw [BitVec.ofInt_natCast, BitVec.toNat_ofNat, hm]
    exact Nat.mod_eq_of_lt (by omega)
  show IntKind.i64.wrap ((BitVec.ofInt 64 x &&& BitVec.ofInt 64 (m : Int)).toNat : Int) = _
  rw [BitVec.toNat_and, h1, Nat.and_two_pow_sub_one_eq_mod, BitVec.toNat_ofInt, IntKind.wrap_i64]
  have h2 : ((((x % ((2 ^ 64 : Nat) : Int)).toNat % 2 ^ i : Nat)) : Int) = x % ((2 ^ i : Nat) : Int) := by
    rw [Int.natCast_emod, Int.toNat_of_nonneg (Int.emod_nonneg _ (by decide))]
    have hd : ((2 ^ i : Nat) : Int) ∣ ((2 ^ 64 : Nat) : Int) := Int.natCast_dvd_natCast.mpr (Nat.pow_dvd_pow 2 (by omega))
    exact Int.emod_emod_of_dvd x hd
  rw [h2]
  have h3 : 0 ≤ x % ((2 ^ i : Nat) : Int) := Int.emod_nonneg _ (by omega)
  have h4 : x % ((2 ^ i : Nat) : Int) < ((2 ^ i : Nat) : Int) := Int.emod_lt_of_pos _ (by omega)
  omega
theorem and7 (x : Int) : bits .and .i64 x 7 = x % 8 := and_mask x 3 7 (by omega) rfl
theorem and3 (x : Int) : bits .and .i64 x 3 = x % 4 := and_mask x 2 3 (by omega) rfl
theorem eight (x : Int) : ∃ m : Fin 8, x % 8 = (m.val : Int) := ⟨⟨(x % 8).toNat, by omega⟩, by show x % 8 = ((x % 8).toNat : Int); omega⟩
theorem tmod8 (x : Int) : Int.tmod x 8 = x % 8 ∨ Int.tmod x 8 = x % 8 - 8 ∧ x % 8 ≠ 0 := by
  rcases Int.lt_or_le x 0 with h | h
  · have e : Int.tmod x 8 = -((-x) % 8) := by
      have := Int.tmod_eq_emod_of_nonneg (a := -x) (b := 8) (by omega)
      rw [Int.neg_tmod] at this
      omega
    omega
  · exact .inl (Int.tmod_eq_emod_of_nonneg h)
theorem u8_bd {x : Int} (h : (Lit.int .u8 x).wf = true) : 0 ≤ x ∧ x ≤ 255 := by
  obtain ⟨v, rfl⟩ := u8_of h
  omega
theorem u16_bd {x : Int} (h : (Lit.int .u16 x).wf = true) : 0 ≤ x ∧ x ≤ 65535 := by
  have hmin : IntKind.u16.min = 0 := rfl
  have hmax : IntKind.u16.max = 65535 := rfl
  simp only [Lit.wf, Bool.and_eq_true, decide_eq_true_eq] at h
  omega
theorem byte_fin {x : Int} (h : 0 ≤ x ∧ x ≤ 255) : ∃ v : Fin 256, x = (v.val : Int) := ⟨⟨x.toNat, by omega⟩, by show x = (x.toNat : Int); omega⟩
theorem wrap64_in {x : Int} (h : -9223372036854775808 ≤ x ∧ x ≤ 9223372036854775807) : wrap64 x = x := by unfold wrap64; omega
theorem nat_or_join (a d i : Nat) (h : d < 2 ^ i) : (a * 2 ^ i) ||| d = a * 2 ^ i + d := by
  rw [Nat.mul_comm, Nat.two_pow_add_eq_or_of_lt h]
theorem u16_or_join (a d : Int) (i : Nat) (hi : i ≤ 15) (ha : 0 ≤ a) (hd : 0 ≤ d) (hdi : d < ((2 ^ i : Nat) : Int)) (h : a * ((2 ^ i : Nat) : Int) + d < 65536) :
    bits .or .u16 (a * ((2 ^ i : Nat) : Int)) d = a * ((2 ^ i : Nat) : Int) + d := by
  obtain ⟨A, rfl⟩ := Int.eq_ofNat_of_zero_le ha
  obtain ⟨D, rfl⟩ := Int.eq_ofNat_of_zero_le hd
  have hA : A * 2 ^ i + D < 65536 := by
    have h3 : ((A * 2 ^ i + D : Nat) : Int) < ((65536 : Nat) : Int) := by rw [Int.natCast_add, Int.natCast_mul]; exact h
    exact Int.ofNat_lt.mp h3
  have hD : D < 2 ^ i := Int.ofNat_lt.mp hdi
  have e : ((A : Int) * ((2 ^ i : Nat) : Int)) = ((A * 2 ^ i : Nat) : Int) := (Int.natCast_mul _ _).symm
  have h1 : (BitVec.ofInt 16 ((A * 2 ^ i : Nat) : Int)).toNat = A * 2 ^ i := by
    rw [BitVec.ofInt_natCast, BitVec.toNat_ofNat]; exact Nat.mod_eq_of_lt (by omega)
  have h2 : (BitVec.ofInt 16 (D : Int)).toNat = D := by
    rw [BitVec.ofInt_natCast, BitVec.toNat_ofNat]; exact Nat.mod_eq_of_lt (by omega)
  rw [e]
  show IntKind.u16.wrap ((BitVec.ofInt 16 ((A * 2 ^ i : Nat) : Int) ||| BitVec.ofInt 16 (D : Int)).toNat : Int) = _
  rw [BitVec.toNat_or, h1, h2, nat_or_join A D i hD, IntKind.wrap_u16]
  omega
theorem u16_or16 (a d : Int) (ha : 0 ≤ a) (hd : 0 ≤ d) (hd' : d < 16) (h : a * 16 + d < 65536) : bits .or .u16 (a * 16) d = a * 16 + d := u16_or_join a d 4 (by omega) ha hd hd' h
theorem u16_or256 (a d : Int) (ha : 0 ≤ a) (hd : 0 ≤ d) (hd' : d < 256) (h : a * 256 + d < 65536) : bits .or .u16 (a * 256) d = a * 256 + d := u16_or_join a d 8 (by omega) ha hd hd' h
end Go.Proofs.Ytmlpijlnchnabaa.Pure
