/- The plain law of RegsPuts. -/
import Derived.Test.YthkoofidnaghcaaNum
import Derived.Test.YthkoofidnaghcaaPure04
import Derived.Test.YthkoofidnaghcaaG31
namespace Go.Proofs.Ythkoofidnaghcaa.Pure
open Go.RowKit Go.Proofs.Ythkoofidnaghcaa.G Go.Proofs.Ythkoofidnaghcaa.Hand
open Go.Proofs.YthkoofidnaghcaaW.PrintWords Go.Proofs.YthkoofidnaghcaaW.PrintLast Go.Proofs.YthkoofidnaghcaaW.PrintMore
set_option maxRecDepth 100000
set_option linter.unusedVariables false
set_option linter.unusedSimpArgs false
theorem RegsPuts (a0_0 a0_1 a0_2 a0_3 a0_4 a0_5 a0_6 a0_7 a0_8 a0_9 : Int) (a1 a2 : Int) (w0_0 : (Lit.int .u8 a0_0).wf = true) (w0_1 : (Lit.int .u8 a0_1).wf = true) (w0_2 : (Lit.int .u8 a0_2).wf = true) (w0_3 : (Lit.int .u8 a0_3).wf = true) (w0_4 : (Lit.int .u8 a0_4).wf = true) (w0_5 : (Lit.int .u8 a0_5).wf = true) (w0_6 : (Lit.int .u8 a0_6).wf = true) (w0_7 : (Lit.int .u8 a0_7).wf = true) (w0_8 : (Lit.int .u16 a0_8).wf = true) (w0_9 : (Lit.int .u16 a0_9).wf = true) (w1 : (Lit.int .i64 a1).wf = true) (w2 : (Lit.int .u8 a2).wf = true) : ∃ k, whirligiglaw04_RegsPuts.f k a0_0 a0_1 a0_2 a0_3 a0_4 a0_5 a0_6 a0_7 a0_8 a0_9 a1 a2 = some true := by
  refine ⟨90, ?_⟩
  unfold whirligiglaw04_RegsPuts.f
  rw [shown_is]
  have h : a1 < 0 ∨ 7 < a1 ∨ a1 = 0 ∨ a1 = 1 ∨ a1 = 2 ∨ a1 = 3 ∨ a1 = 4 ∨ a1 = 5 ∨ a1 = 6 ∨ a1 = 7 := by omega
  rcases h with h | h | rfl | rfl | rfl | rfl | rfl | rfl | rfl | rfl
  · have h1 : a1 ≠ 6 := by omega
    simp [regs_Put.f, whirligigref04_Put.f, whirligigref04_may.f, h, h1]
  · have h1 : a1 ≠ 6 := by omega
    have h2 : ¬ a1 < 0 := by omega
    simp [regs_Put.f, whirligigref04_Put.f, whirligigref04_may.f, h, h1, h2]
  all_goals simp [regs_Put.f, whirligigref04_Put.f, whirligigref04_may.f]
end Go.Proofs.Ythkoofidnaghcaa.Pure
