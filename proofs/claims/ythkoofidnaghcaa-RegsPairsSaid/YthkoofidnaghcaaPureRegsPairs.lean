/- The plain law of RegsPairs. -/
import Derived.Test.YthkoofidnaghcaaNum
import Derived.Test.YthkoofidnaghcaaPure04
import Derived.Test.YthkoofidnaghcaaG20
namespace Go.Proofs.Ythkoofidnaghcaa.Pure
open Go.RowKit Go.Proofs.Ythkoofidnaghcaa.G Go.Proofs.Ythkoofidnaghcaa.Hand
open Go.Proofs.YthkoofidnaghcaaW.PrintWords Go.Proofs.YthkoofidnaghcaaW.PrintLast Go.Proofs.YthkoofidnaghcaaW.PrintMore
set_option maxRecDepth 100000
set_option linter.unusedVariables false
set_option linter.unusedSimpArgs false
theorem RegsPairs (a0_0 a0_1 a0_2 a0_3 a0_4 a0_5 a0_6 a0_7 a0_8 a0_9 : Int) (a1 : Int) (w0_0 : (Lit.int .u8 a0_0).wf = true) (w0_1 : (Lit.int .u8 a0_1).wf = true) (w0_2 : (Lit.int .u8 a0_2).wf = true) (w0_3 : (Lit.int .u8 a0_3).wf = true) (w0_4 : (Lit.int .u8 a0_4).wf = true) (w0_5 : (Lit.int .u8 a0_5).wf = true) (w0_6 : (Lit.int .u8 a0_6).wf = true) (w0_7 : (Lit.int .u8 a0_7).wf = true) (w0_8 : (Lit.int .u16 a0_8).wf = true) (w0_9 : (Lit.int .u16 a0_9).wf = true) (w1 : (Lit.int .i64 a1).wf = true) : ∃ k, whirligiglaw04_RegsPairs.f k a0_0 a0_1 a0_2 a0_3 a0_4 a0_5 a0_6 a0_7 a0_8 a0_9 a1 = some true := by
  have b0 := u8_bd w0_0
  have b1 := u8_bd w0_1
  have b2 := u8_bd w0_2
  have b3 := u8_bd w0_3
  have b4 := u8_bd w0_4
  have b5 := u8_bd w0_5
  have b6 := u8_bd w0_6
  have b7 := u8_bd w0_7
  refine ⟨90, ?_⟩
  unfold whirligiglaw04_RegsPairs.f
  rw [shown_is]
  have h : a1 < 0 ∨ 4 < a1 ∨ a1 = 0 ∨ a1 = 1 ∨ a1 = 2 ∨ a1 = 3 ∨ a1 = 4 := by omega
  have j0 := join_prog a0_0 a0_1 b0 b1
  have j1 := join_prog a0_2 a0_3 b2 b3
  have j2 := join_prog a0_4 a0_5 b4 b5
  have j3 := join_prog a0_6 a0_7 b6 b7
  have k0 := join_ref a0_0 a0_1 b0 b1
  have k1 := join_ref a0_2 a0_3 b2 b3
  have k2 := join_ref a0_4 a0_5 b4 b5
  have k3 := join_ref a0_6 a0_7 b6 b7
  unfold regs_Pair.f whirligigref04_Pair.f
  rcases h with h | h | rfl | rfl | rfl | rfl | rfl
  · have h0 : a1 ≠ 0 := by omega
    have h1 : a1 ≠ 1 := by omega
    have h2 : a1 ≠ 2 := by omega
    have h3 : a1 ≠ 3 := by omega
    have h4 : a1 ≠ 4 := by omega
    simp [h, h0, h1, h2, h3, h4]
  · have h0 : a1 ≠ 0 := by omega
    have h1 : a1 ≠ 1 := by omega
    have h2 : a1 ≠ 2 := by omega
    have h3 : a1 ≠ 3 := by omega
    have h4 : a1 ≠ 4 := by omega
    simp [h, h0, h1, h2, h3, h4]
  all_goals simp [j0, j1, j2, j3, k0, k1, k2, k3]
end Go.Proofs.Ythkoofidnaghcaa.Pure
