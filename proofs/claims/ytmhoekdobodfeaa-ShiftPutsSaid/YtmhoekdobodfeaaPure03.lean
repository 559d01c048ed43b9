/- The plain laws of the shifts: what the printed Lean functions answer, byte by byte (the kernel goes through the 256 bytes). -/
import Derived.Test.YtmhoekdobodfeaaG13
import Derived.Test.YtmhoekdobodfeaaHDo
import Derived.Test.YtmhoekdobodfeaaG7
import Derived.OpenShut
namespace Go.Proofs.Ytmhoekdobodfeaa.Pure
open Go.RowKit Go.Proofs.Ytmhoekdobodfeaa.G Go.Proofs.Ytmhoekdobodfeaa.Hand
open Go.Proofs.YtmhoekdobodfeaaW.PrintWords
set_option maxRecDepth 100000
set_option linter.unusedVariables false

theorem i64_of {x : Int} (h : (Lit.int .i64 x).wf = true) : -9223372036854775808 ≤ x ∧ x ≤ 9223372036854775807 := by
  have hmin : IntKind.i64.min = -9223372036854775808 := rfl
  have hmax : IntKind.i64.max = 9223372036854775807 := rfl
  simp only [Lit.wf, Bool.and_eq_true, decide_eq_true_eq] at h
  omega
theorem u8_of {x : Int} (h : (Lit.int .u8 x).wf = true) : ∃ v : Fin 256, x = (v.val : Int) := by
  have hmin : IntKind.u8.min = 0 := rfl
  have hmax : IntKind.u8.max = 255 := rfl
  simp only [Lit.wf, Bool.and_eq_true, decide_eq_true_eq] at h
  exact ⟨⟨x.toNat, by omega⟩, by show x = (x.toNat : Int); omega⟩

/-- 'x & (2^i - 1)' of an int, whatever its sign, is x modulo 2^i. -/
theorem and_mask (x : Int) (i m : Nat) (hi : i ≤ 32) (hm : m = 2 ^ i - 1) : bits .and .i64 x (m : Int) = x % (2 ^ i : Nat) := by
  have hp : (2 : Nat) ^ i ≤ 2 ^ 32 := Nat.pow_le_pow_right (by omega) hi
  have hpos : 0 < (2 : Nat) ^ i := Nat.pow_pos (by omega)
  have h1 : (BitVec.ofInt 64 (m : Int)).toNat = 2 ^ i - 1 := by
    rw [BitVec.ofInt_natCast, BitVec.toNat_ofNat, hm]
    exact Nat.mod_eq_of_lt (by omega)
  show IntKind.i64.wrap ((BitVec.ofInt 64 x &&& BitVec.ofInt 64 (m : Int)).toNat : Int) = _
  rw [BitVec.toNat_and, h1, Nat.and_two_pow_sub_one_eq_mod, BitVec.toNat_ofInt, IntKind.wrap_i64]
  have h2 : ((((x % ((2 ^ 64 : Nat) : Int)).toNat % 2 ^ i : Nat)) : Int) = x % ((2 ^ i : Nat) : Int) := by
    rw [Int.natCast_emod, Int.toNat_of_nonneg (Int.emod_nonneg _ (by decide))]
    have hd : ((2 ^ i : Nat) : Int) ∣ ((2 ^ 64 : Nat) : Int) := Int.natCast_dvd_natCast.mpr (Nat.pow_dvd_pow 2 (by omega))
    exact Int.emod_emod_of_dvd x hd
  rw [h2]
  have h3 : 0 ≤ x % ((2 ^ i : Nat) : Int) := Int.emod_nonneg _ (by omega)
  have h4 : x % ((2 ^ i : Nat) : Int) < ((2 ^ i : Nat) : Int) := Int.emod_lt_of_pos _ (by omega)
  omega
theorem and7 (x : Int) : bits .and .i64 x 7 = x % 8 := and_mask x 3 7 (by omega) rfl
theorem and3 (x : Int) : bits .and .i64 x 3 = x % 4 := and_mask x 2 3 (by omega) rfl
theorem eight (x : Int) : ∃ m : Fin 8, x % 8 = (m.val : Int) := ⟨⟨(x % 8).toNat, by omega⟩, by show x % 8 = ((x % 8).toNat : Int); omega⟩
theorem tmod8 (x : Int) : Int.tmod x 8 = x % 8 ∨ Int.tmod x 8 = x % 8 - 8 ∧ x % 8 ≠ 0 := by
  rcases Int.lt_or_le x 0 with h | h
  · have e : Int.tmod x 8 = -((-x) % 8) := by
      have := Int.tmod_eq_emod_of_nonneg (a := -x) (b := 8) (by omega)
      rw [Int.neg_tmod] at this
      omega
    omega
  · exact .inl (Int.tmod_eq_emod_of_nonneg h)
theorem op_is (x : Int) : whirligigref02_Op.f x = some (x % 8) := by
  unfold whirligigref02_Op.f wrap64
  rcases tmod8 x with h | ⟨h, h'⟩
  · rw [if_neg (by omega), h]
  · rw [if_pos (by omega), h]
    congr 1
    omega

theorem shown_is : whirligiglaw03_shown.f 90 = some true := by decide +kernel

/-- What shift.Do hangs on: the operation's number modulo 8, the byte, the carry. -/
theorem do_is (x v : Int) (z n h c : Bool) : shift_Do.f x v z n h c = shift_Do.f (x % 8) v false false false c := by
  have e : (x % 8) % 8 = x % 8 := by omega
  unfold shift_Do.f
  rw [and7, and7, e]
theorem refdo_is (k : Nat) (x v : Int) (z n h c : Bool) : whirligigref03_Do.f k x v z n h c = whirligigref03_Do.f k (x % 8) v z n h c := by
  have e : (x % 8) % 8 = x % 8 := by omega
  unfold whirligigref03_Do.f
  rw [op_is, op_is, e]
theorem do_all : ∀ m : Fin 8, ∀ v : Fin 256, ∀ c : Bool, ∃ r, shift_Do.f (m.val : Int) (v.val : Int) false false false c = some r ∧ ∀ z n h : Bool, whirligigref03_Do.f 90 (m.val : Int) (v.val : Int) z n h c = some r := by
  have key : ∀ m : Fin 8, ∀ v : Fin 256, ∀ c : Bool, (shift_Do.f (m.val : Int) (v.val : Int) false false false c).isSome ∧ ∀ z n h : Bool, whirligigref03_Do.f 90 (m.val : Int) (v.val : Int) z n h c = shift_Do.f (m.val : Int) (v.val : Int) false false false c := by decide +kernel
  intro m v c
  obtain ⟨h1, h2⟩ := key m v c
  obtain ⟨r, hr⟩ := Option.isSome_iff_exists.mp h1
  exact ⟨r, hr, fun z n h => (h2 z n h).trans hr⟩
end Go.Proofs.Ytmhoekdobodfeaa.Pure
