/- The program's Join of two bytes is their word. -/
import Derived.Test.YthkoofidnaghcaaNum
import Derived.Test.YthkoofidnaghcaaG6
namespace Go.Proofs.Ythkoofidnaghcaa.Pure
open Go.RowKit Go.Proofs.Ythkoofidnaghcaa.G
open Go.Proofs.YthkoofidnaghcaaW.PrintWords Go.Proofs.YthkoofidnaghcaaW.PrintLast Go.Proofs.YthkoofidnaghcaaW.PrintMore
set_option maxRecDepth 100000
set_option linter.unusedVariables false
set_option linter.unusedSimpArgs false
theorem join_prog (a b : Int) (ha : 0 ≤ a ∧ a ≤ 255) (hb : 0 ≤ b ∧ b ≤ 255) : word_Join.f a b = some (a * 256 + b) := by
  have u0 : IntKind.u16.wrap a = a := by rw [IntKind.wrap_u16]; omega
  have u1 : IntKind.u16.wrap b = b := by rw [IntKind.wrap_u16]; omega
  have u2 : IntKind.u16.wrap (a * 256) = a * 256 := by rw [IntKind.wrap_u16]; omega
  have o := u16_or256 a b (by omega) (by omega) (by omega) (by omega)
  unfold word_Join.f
  rw [u0, u1, u2, o]
end Go.Proofs.Ythkoofidnaghcaa.Pure
