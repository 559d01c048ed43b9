/- The plain law of ClockWrites. -/
import Derived.Test.YtkfjofkocccefaaNum
import Derived.Test.YtkfjofkocccefaaG18
import Derived.Test.YtkfjofkocccefaaPureClockWrite
namespace Go.Proofs.Ytkfjofkocccefaa.Pure
open Go.RowKit Go.Proofs.Ytkfjofkocccefaa.G Go.Proofs.Ytkfjofkocccefaa.Hand
open Go.Proofs.YtkfjofkocccefaaW.PrintWords Go.Proofs.YtkfjofkocccefaaW.PrintLast Go.Proofs.YtkfjofkocccefaaW.PrintMore
set_option maxRecDepth 100000
set_option linter.unusedVariables false
theorem ClockWrites (s m h d : Int) (ht cy : Bool) (r v : Int) (w0 : (Lit.int .u8 s).wf = true) (w1 : (Lit.int .u8 m).wf = true) (w2 : (Lit.int .u8 h).wf = true) (w3 : (Lit.int .u16 d).wf = true) (w4 : (Lit.int .i64 r).wf = true) (w5 : (Lit.int .u8 v).wf = true) : whirligiglaw09_ClockWrites.f s m h d ht cy r v = some true := by
  have hw : wide (s, m, h, d, ht, cy) := ⟨u8_bd w0, u8_bd w1, u8_bd w2, u16_bd w3⟩
  have e1 := write_prog _ hw r v (u8_bd w5)
  have e2 := write_ref _ hw r v (u8_bd w5)
  dsimp only at e1 e2
  unfold whirligiglaw09_ClockWrites.f
  rw [shown_is, e1, e2]
  simp
end Go.Proofs.Ytkfjofkocccefaa.Pure
