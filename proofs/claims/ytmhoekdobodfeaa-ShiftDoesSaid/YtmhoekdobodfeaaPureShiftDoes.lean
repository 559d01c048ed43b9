/- The plain law of ShiftDoes: the shifts' bytes and flags are the document's. -/
import Derived.Test.YtmhoekdobodfeaaPure03
import Derived.Test.YtmhoekdobodfeaaG14
namespace Go.Proofs.Ytmhoekdobodfeaa.Pure
open Go.RowKit Go.Proofs.Ytmhoekdobodfeaa.G Go.Proofs.Ytmhoekdobodfeaa.Hand
open Go.Proofs.YtmhoekdobodfeaaW.PrintWords
set_option maxRecDepth 100000
set_option linter.unusedVariables false
theorem ShiftDoes (a0 a1 : Int) (z n h c : Bool) (w0 : (Lit.int .i64 a0).wf = true) (w1 : (Lit.int .u8 a1).wf = true) : ∃ k, whirligiglaw03_ShiftDoes.f k a0 a1 z n h c = some true := by
  obtain ⟨v, rfl⟩ := u8_of w1
  obtain ⟨m, hm⟩ := eight a0
  obtain ⟨r, h1, h2⟩ := do_all m v c
  refine ⟨90, ?_⟩
  unfold whirligiglaw03_ShiftDoes.f
  rw [shown_is, do_is, refdo_is, hm, h1, h2]
  simp
end Go.Proofs.Ytmhoekdobodfeaa.Pure
