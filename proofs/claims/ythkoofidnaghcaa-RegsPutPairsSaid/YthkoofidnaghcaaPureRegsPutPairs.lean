/- The plain law of RegsPutPairs. -/
import Derived.Test.YthkoofidnaghcaaNum
import Derived.Test.YthkoofidnaghcaaPureRegsSplit
import Derived.Test.YthkoofidnaghcaaG44
namespace Go.Proofs.Ythkoofidnaghcaa.Pure
open Go.RowKit Go.Proofs.Ythkoofidnaghcaa.G Go.Proofs.Ythkoofidnaghcaa.Hand
open Go.Proofs.YthkoofidnaghcaaW.PrintWords Go.Proofs.YthkoofidnaghcaaW.PrintLast Go.Proofs.YthkoofidnaghcaaW.PrintMore
set_option maxRecDepth 100000
set_option linter.unusedVariables false
set_option linter.unusedSimpArgs false
theorem split_ref (w : Int) (h : 0 ≤ w ∧ w ≤ 65535) : whirligigref01_Split.f w = some (w / 256, w % 256) := by
  unfold whirligigref01_Split.f
  have e0 : wrap64 w = w := wrap64_in (by omega)
  have e1 : wrap64 (w / 256) = w / 256 := wrap64_in (by omega)
  rw [e0, Int.tdiv_eq_ediv_of_nonneg (by omega), e1, Int.tmod_eq_emod_of_nonneg (by omega), show (w / 256) % 256 = w / 256 by omega, show w % 256 % 256 = w % 256 by omega]
theorem RegsPutPairs (a0_0 a0_1 a0_2 a0_3 a0_4 a0_5 a0_6 a0_7 a0_8 a0_9 : Int) (a1 a2 : Int) (w0_0 : (Lit.int .u8 a0_0).wf = true) (w0_1 : (Lit.int .u8 a0_1).wf = true) (w0_2 : (Lit.int .u8 a0_2).wf = true) (w0_3 : (Lit.int .u8 a0_3).wf = true) (w0_4 : (Lit.int .u8 a0_4).wf = true) (w0_5 : (Lit.int .u8 a0_5).wf = true) (w0_6 : (Lit.int .u8 a0_6).wf = true) (w0_7 : (Lit.int .u8 a0_7).wf = true) (w0_8 : (Lit.int .u16 a0_8).wf = true) (w0_9 : (Lit.int .u16 a0_9).wf = true) (w1 : (Lit.int .i64 a1).wf = true) (w2 : (Lit.int .u16 a2).wf = true) : ∃ k, whirligiglaw04_RegsPutPairs.f k a0_0 a0_1 a0_2 a0_3 a0_4 a0_5 a0_6 a0_7 a0_8 a0_9 a1 a2 = some true := by
  have b2 := u16_bd w2
  have s0 := split_prog a2 b2
  have s4 := split4 a2 b2
  have r0 := split_ref a2 b2
  have e : (((Int.tdiv (a2 % 256) 16) % 256) * 16) % 256 = a2 % 256 / 16 * 16 := by
    rw [Int.tdiv_eq_ediv_of_nonneg (by omega)]; omega
  refine ⟨90, ?_⟩
  unfold whirligiglaw04_RegsPutPairs.f
  rw [shown_is]
  have h : a1 < 0 ∨ 4 < a1 ∨ a1 = 0 ∨ a1 = 1 ∨ a1 = 2 ∨ a1 = 3 ∨ a1 = 4 := by omega
  unfold regs_PutPair.f whirligigref04_PutPair.f
  rcases h with h | h | rfl | rfl | rfl | rfl | rfl
  · have h0 : a1 ≠ 0 := by omega
    have h1 : a1 ≠ 1 := by omega
    have h2 : a1 ≠ 2 := by omega
    have h3 : a1 ≠ 3 := by omega
    have h4 : a1 ≠ 4 := by omega
    simp [h, h0, h1, h2, h3, h4, r0]
  · have h0 : a1 ≠ 0 := by omega
    have h1 : a1 ≠ 1 := by omega
    have h2 : a1 ≠ 2 := by omega
    have h3 : a1 ≠ 3 := by omega
    have h4 : a1 ≠ 4 := by omega
    simp [h, h0, h1, h2, h3, h4, r0]
  all_goals simp [s0, s4, r0, e]
end Go.Proofs.Ythkoofidnaghcaa.Pure
