/- The plain law of MapperNews. -/
import Derived.Test.YtkogdocpldfmnaaNum
import Derived.Test.YtkogdocpldfmnaaG7
import Derived.Test.YtkogdocpldfmnaaPure08
namespace Go.Proofs.Ytkogdocpldfmnaa.Pure
open Go.RowKit Go.Proofs.Ytkogdocpldfmnaa.G Go.Proofs.Ytkogdocpldfmnaa.Hand
open Go.Proofs.YtkogdocpldfmnaaW.PrintWords Go.Proofs.YtkogdocpldfmnaaW.PrintLast Go.Proofs.YtkogdocpldfmnaaW.PrintMore
set_option maxRecDepth 100000
set_option linter.unusedVariables false
set_option linter.unusedSimpArgs false
theorem MapperNews (k : Int) (w0 : (Lit.int .i64 k).wf = true) : whirligiglaw08_MapperNews.f k = some true := by
  have e : whirligigref08_New.f k = mapper_New.f k := rfl
  unfold whirligiglaw08_MapperNews.f
  rw [shown_is, e]
  have hs : ∃ x, mapper_New.f k = some x := by
    unfold mapper_New.f
    split
    · exact ⟨_, rfl⟩
    split
    · exact ⟨_, rfl⟩
    split
    · exact ⟨_, rfl⟩
    split
    · exact ⟨_, rfl⟩
    · exact ⟨_, rfl⟩
  obtain ⟨x, hx⟩ := hs
  rw [hx]
  simp
end Go.Proofs.Ytkogdocpldfmnaa.Pure
