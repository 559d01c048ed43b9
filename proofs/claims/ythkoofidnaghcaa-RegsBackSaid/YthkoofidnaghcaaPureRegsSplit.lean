/- Splitting words, in plain words. -/
import Derived.Test.YthkoofidnaghcaaNum
import Derived.Test.YthkoofidnaghcaaPureJoin
import Derived.Test.YthkoofidnaghcaaG42
namespace Go.Proofs.Ythkoofidnaghcaa.Pure
open Go.RowKit Go.Proofs.Ythkoofidnaghcaa.G
open Go.Proofs.YthkoofidnaghcaaW.PrintWords Go.Proofs.YthkoofidnaghcaaW.PrintLast Go.Proofs.YthkoofidnaghcaaW.PrintMore
set_option maxRecDepth 100000
set_option linter.unusedVariables false
set_option linter.unusedSimpArgs false
theorem bvn (x : BitVec 16) : x &&& ~~~(15#16) = (x >>> 4) <<< 4 := by
  apply BitVec.eq_of_getLsbD_eq
  intro i hi
  have h : i = 0 ∨ i = 1 ∨ i = 2 ∨ i = 3 ∨ i = 4 ∨ i = 5 ∨ i = 6 ∨ i = 7 ∨ i = 8 ∨ i = 9 ∨ i = 10 ∨ i = 11 ∨ i = 12 ∨ i = 13 ∨ i = 14 ∨ i = 15 := by omega
  rcases h with rfl | rfl | rfl | rfl | rfl | rfl | rfl | rfl | rfl | rfl | rfl | rfl | rfl | rfl | rfl | rfl <;> simp
theorem andNot15 (w : Int) (h : 0 ≤ w ∧ w ≤ 65535) : Go.bits .andNot .u16 w 15 = w / 16 * 16 := by
  obtain ⟨A, rfl⟩ := Int.eq_ofNat_of_zero_le h.1
  have h1 : (BitVec.ofInt 16 (A : Int)).toNat = A := by
    rw [BitVec.ofInt_natCast, BitVec.toNat_ofNat]; exact Nat.mod_eq_of_lt (by omega)
  show IntKind.u16.wrap ((BitVec.ofInt 16 (A : Int) &&& ~~~ (15#16)).toNat : Int) = _
  rw [bvn, BitVec.toNat_shiftLeft, BitVec.toNat_ushiftRight, h1, Nat.shiftRight_eq_div_pow, Nat.shiftLeft_eq, IntKind.wrap_u16]
  omega
theorem split_prog (w : Int) (h : 0 ≤ w ∧ w ≤ 65535) : word_Split.f w = some (w / 256, w % 256) := by
  unfold word_Split.f
  rw [show (w / 256) % 256 = w / 256 by omega]
theorem split4 (w : Int) (h : 0 ≤ w ∧ w ≤ 65535) : word_Split.f (Go.bits .andNot .u16 w 15) = some (w / 256, w % 256 / 16 * 16) := by
  unfold word_Split.f
  rw [andNot15 w h, show (w / 16 * 16 / 256) % 256 = w / 256 by omega, show w / 16 * 16 % 256 = w % 256 / 16 * 16 by omega]
end Go.Proofs.Ythkoofidnaghcaa.Pure
