/- The plain law of ClockTicks. -/
import Derived.Test.YtkfjofkocccefaaNum
import Derived.Test.YtkfjofkocccefaaG9
import Derived.Test.YtkfjofkocccefaaPure09
import Derived.Test.YtkfjofkocccefaaPureClockR
namespace Go.Proofs.Ytkfjofkocccefaa.Pure
open Go.RowKit Go.Proofs.Ytkfjofkocccefaa.G Go.Proofs.Ytkfjofkocccefaa.Hand
open Go.Proofs.YtkfjofkocccefaaW.PrintWords Go.Proofs.YtkfjofkocccefaaW.PrintLast Go.Proofs.YtkfjofkocccefaaW.PrintMore
set_option maxRecDepth 100000
set_option linter.unusedVariables false
theorem ClockTicks (s m h d : Int) (ht cy : Bool) (w0 : (Lit.int .u8 s).wf = true) (w1 : (Lit.int .u8 m).wf = true) (w2 : (Lit.int .u8 h).wf = true) (w3 : (Lit.int .u16 d).wf = true) : ∃ k, whirligiglaw09_ClockTicks.f k s m h d ht cy = some true := by
  have hw : wide (s, m, h, d, ht, cy) := ⟨u8_bd w0, u8_bd w1, u8_bd w2, u16_bd w3⟩
  refine ⟨4, ?_⟩
  have e1 := tick_prog _ hw
  have e2 := tick_ref 4 (Nat.le_refl _) _ hw
  have e3 := norm_prog _ hw
  have e4 := norm_ref _ hw
  dsimp only at e1 e2 e3 e4
  unfold whirligiglaw09_ClockTicks.f
  rw [shown_is, e1, e2, e3, e4]
  simp
end Go.Proofs.Ytkfjofkocccefaa.Pure
