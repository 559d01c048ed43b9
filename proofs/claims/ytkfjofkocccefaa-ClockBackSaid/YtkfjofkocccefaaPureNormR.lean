/- The reference's Norm cuts a clock to its widths. -/
import Derived.Test.YtkfjofkocccefaaNum
import Derived.Test.YtkfjofkocccefaaPure09
import Derived.Test.YtkfjofkocccefaaG6
namespace Go.Proofs.Ytkfjofkocccefaa.Pure
open Go.RowKit Go.Proofs.Ytkfjofkocccefaa.G Go.Proofs.Ytkfjofkocccefaa.Hand
open Go.Proofs.YtkfjofkocccefaaW.PrintWords Go.Proofs.YtkfjofkocccefaaW.PrintLast Go.Proofs.YtkfjofkocccefaaW.PrintMore
set_option maxRecDepth 100000
set_option linter.unusedVariables false
set_option linter.unusedSimpArgs false
theorem norm_ref (c : C) (h : wide c) : whirligigref09_Norm.f c.1 c.2.1 c.2.2.1 c.2.2.2.1 c.2.2.2.2.1 c.2.2.2.2.2 = some (nm c) := by
  obtain ⟨h1, h2, h3, h4⟩ := h
  unfold whirligigref09_Norm.f nm
  rw [Int.tmod_eq_emod_of_nonneg h1.1, Int.tmod_eq_emod_of_nonneg h2.1, Int.tmod_eq_emod_of_nonneg h3.1, Int.tmod_eq_emod_of_nonneg h4.1]
end Go.Proofs.Ytkfjofkocccefaa.Pure
