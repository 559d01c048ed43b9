/- The plain law of MapperRoms. -/
import Derived.Test.YtkogdocpldfmnaaNum
import Derived.Test.YtkogdocpldfmnaaG17
import Derived.Test.YtkogdocpldfmnaaPure08
namespace Go.Proofs.Ytkogdocpldfmnaa.Pure
open Go.RowKit Go.Proofs.Ytkogdocpldfmnaa.G Go.Proofs.Ytkogdocpldfmnaa.Hand
open Go.Proofs.YtkogdocpldfmnaaW.PrintWords Go.Proofs.YtkogdocpldfmnaaW.PrintLast Go.Proofs.YtkogdocpldfmnaaW.PrintMore
set_option maxRecDepth 100000
set_option linter.unusedVariables false
set_option linter.unusedSimpArgs false
theorem MapperRoms (k : Int) (o : Bool) (l h r : Int) (md : Bool) (a s : Int) (w0 : (Lit.int .i64 k).wf = true) (w1 : (Lit.int .u8 l).wf = true) (w2 : (Lit.int .u8 h).wf = true) (w3 : (Lit.int .u8 r).wf = true) (w4 : (Lit.int .u16 a).wf = true) (w5 : (Lit.int .i64 s).wf = true) : whirligiglaw08_MapperRoms.f k o l h r md a s = some true := by
  unfold whirligiglaw08_MapperRoms.f mapper_Rom.f whirligigref08_Rom.f mapper_Bank.f whirligigref08_Bank.f
  rw [shown_is, bank_same k l h md a (u8_bd w1) (u16_bd w4)]
  simp only [Option.bind_some, if_true]
  by_cases c0 : s < 1
  · rw [if_pos c0, if_pos c0]; simp
  rw [if_neg c0, if_neg c0]
  by_cases c1 : a ≥ 32768
  · rw [if_pos c1, if_pos (by omega)]; simp
  rw [if_neg c1, if_neg (by omega), if_neg (by omega), if_neg (by omega), Int.mul_comm]
  simp
end Go.Proofs.Ytkogdocpldfmnaa.Pure
