/- The plain law of MapperBanks. -/
import Derived.Test.YtkogdocpldfmnaaNum
import Derived.Test.YtkogdocpldfmnaaG9
import Derived.Test.YtkogdocpldfmnaaPure08
namespace Go.Proofs.Ytkogdocpldfmnaa.Pure
open Go.RowKit Go.Proofs.Ytkogdocpldfmnaa.G Go.Proofs.Ytkogdocpldfmnaa.Hand
open Go.Proofs.YtkogdocpldfmnaaW.PrintWords Go.Proofs.YtkogdocpldfmnaaW.PrintLast Go.Proofs.YtkogdocpldfmnaaW.PrintMore
set_option maxRecDepth 100000
set_option linter.unusedVariables false
set_option linter.unusedSimpArgs false
theorem MapperBanks (k : Int) (o : Bool) (l h r : Int) (md : Bool) (a : Int) (w0 : (Lit.int .i64 k).wf = true) (w1 : (Lit.int .u8 l).wf = true) (w2 : (Lit.int .u8 h).wf = true) (w3 : (Lit.int .u8 r).wf = true) (w4 : (Lit.int .u16 a).wf = true) : whirligiglaw08_MapperBanks.f k o l h r md a = some true := by
  unfold whirligiglaw08_MapperBanks.f mapper_Bank.f whirligigref08_Bank.f
  rw [shown_is, bank_same k l h md a (u8_bd w1) (u16_bd w4)]
  simp
end Go.Proofs.Ytkogdocpldfmnaa.Pure
