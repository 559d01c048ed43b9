/- The plain law of AluBytes. -/
import Derived.Test.YtdfpaebbejdjlaaNum
import Derived.Test.YtdfpaebbejdjlaaG26
import Derived.Test.YtdfpaebbejdjlaaPure02
namespace Go.Proofs.Ytdfpaebbejdjlaa.Pure
open Go.RowKit Go.Proofs.Ytdfpaebbejdjlaa.G Go.Proofs.Ytdfpaebbejdjlaa.Hand
open Go.Proofs.YtdfpaebbejdjlaaW.PrintWords Go.Proofs.YtdfpaebbejdjlaaW.PrintLast Go.Proofs.YtdfpaebbejdjlaaW.PrintMore
set_option maxRecDepth 100000
set_option linter.unusedVariables false
theorem bytes_all : ∀ v : Fin 256, ∀ z n h c : Bool, whirligiglaw02_AluBytes.f 90 z n h c (v.val : Int) = some true := by decide +kernel
theorem AluBytes (z n h c : Bool) (a0 : Int) (w0 : (Lit.int .u8 a0).wf = true) : ∃ k, whirligiglaw02_AluBytes.f k z n h c a0 = some true := by
  obtain ⟨v, rfl⟩ := u8_of w0
  exact ⟨90, bytes_all v z n h c⟩
end Go.Proofs.Ytdfpaebbejdjlaa.Pure
