/- The plain law of HeaderSums: the sums of any image are the document's. -/
import Derived.Test.YtmlpijlnchnabaaPure07
import Derived.Test.YtmlpijlnchnabaaG17
namespace Go.Proofs.Ytmlpijlnchnabaa.Pure
open Go.RowKit Go.Proofs.Ytmlpijlnchnabaa.G Go.Proofs.Ytmlpijlnchnabaa.Hand
open Go.Proofs.YtmlpijlnchnabaaW.PrintWords Go.Proofs.YtmlpijlnchnabaaW.PrintLast Go.Proofs.YtmlpijlnchnabaaW.PrintMore
set_option linter.unusedVariables false
theorem HeaderSums (l : List Int) (hL : l.length ≤ 9223372036854775807) (hx : ∀ x ∈ l, 0 ≤ x ∧ x ≤ 255) : ∃ k, whirligiglaw07_HeaderSums.f k l = some true := by
  obtain ⟨r, h1, h2⟩ := sum_same hx (l.length + 30) (by omega)
  obtain ⟨v, g1, g2, _⟩ := whole_same hx hL (l.length + 30) (by omega)
  refine ⟨l.length + 30, ?_⟩
  unfold whirligiglaw07_HeaderSums.f
  rw [shown_all _ (by omega), h1, h2, g1, g2]
  simp
end Go.Proofs.Ytmlpijlnchnabaa.Pure
