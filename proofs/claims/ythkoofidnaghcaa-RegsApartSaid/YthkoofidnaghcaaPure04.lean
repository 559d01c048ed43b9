/- regs in plain words. -/
import Derived.Test.YthkoofidnaghcaaNum
import Derived.Test.YthkoofidnaghcaaG14
import Derived.Test.YthkoofidnaghcaaG16
import Derived.Test.YthkoofidnaghcaaG18
namespace Go.Proofs.Ythkoofidnaghcaa.Pure
open Go.RowKit Go.Proofs.Ythkoofidnaghcaa.G Go.Proofs.Ythkoofidnaghcaa.Hand
open Go.Proofs.YthkoofidnaghcaaW.PrintWords Go.Proofs.YthkoofidnaghcaaW.PrintLast Go.Proofs.YthkoofidnaghcaaW.PrintMore
set_option maxRecDepth 100000
set_option linter.unusedVariables false
set_option linter.unusedSimpArgs false
theorem shown_is : whirligiglaw04_shown.f 90 = some true := by decide +kernel
theorem join_prog (a b : Int) (ha : 0 ≤ a ∧ a ≤ 255) (hb : 0 ≤ b ∧ b ≤ 255) : word_Join.f a b = some (a * 256 + b) := by
  have u0 : IntKind.u16.wrap a = a := by rw [IntKind.wrap_u16]; omega
  have u1 : IntKind.u16.wrap b = b := by rw [IntKind.wrap_u16]; omega
  have u2 : IntKind.u16.wrap (a * 256) = a * 256 := by rw [IntKind.wrap_u16]; omega
  have o := u16_or256 a b (by omega) (by omega) (by omega) (by omega)
  unfold word_Join.f
  rw [u0, u1, u2, o]
theorem join_ref (a b : Int) (ha : 0 ≤ a ∧ a ≤ 255) (hb : 0 ≤ b ∧ b ≤ 255) : whirligigref01_Join.f a b = some (a * 256 + b) := by
  have e0 : wrap64 a = a := wrap64_in (by omega)
  have e1 : wrap64 b = b := wrap64_in (by omega)
  have e3 : wrap64 (a * 256) = a * 256 := wrap64_in (by omega)
  have e4 : wrap64 (a * 256 + b) = a * 256 + b := wrap64_in (by omega)
  have u3 : IntKind.u16.wrap (a * 256 + b) = a * 256 + b := by rw [IntKind.wrap_u16]; omega
  unfold whirligigref01_Join.f
  rw [e0, e1, e3, e4, u3]
theorem get_eq (a0_0 a0_1 a0_2 a0_3 a0_4 a0_5 a0_6 a0_7 a0_8 a0_9 : Int) (n : Int) : regs_Get.f a0_0 a0_1 a0_2 a0_3 a0_4 a0_5 a0_6 a0_7 a0_8 a0_9 n = whirligigref04_Get.f a0_0 a0_1 a0_2 a0_3 a0_4 a0_5 a0_6 a0_7 a0_8 a0_9 n := by
  have h : n < 0 ∨ 7 < n ∨ n = 0 ∨ n = 1 ∨ n = 2 ∨ n = 3 ∨ n = 4 ∨ n = 5 ∨ n = 6 ∨ n = 7 := by omega
  rcases h with h | h | rfl | rfl | rfl | rfl | rfl | rfl | rfl | rfl
  · have h1 : n ≠ 6 := by omega
    simp [regs_Get.f, whirligigref04_Get.f, whirligigref04_may.f, h, h1]
  · have h1 : n ≠ 6 := by omega
    have h2 : ¬ n < 0 := by omega
    simp [regs_Get.f, whirligigref04_Get.f, whirligigref04_may.f, h, h1, h2]
  all_goals rfl
end Go.Proofs.Ythkoofidnaghcaa.Pure
