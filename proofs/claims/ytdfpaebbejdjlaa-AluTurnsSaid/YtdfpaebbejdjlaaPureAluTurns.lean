/- The plain law of AluTurns. -/
import Derived.Test.YtdfpaebbejdjlaaNum
import Derived.Test.YtdfpaebbejdjlaaG32
import Derived.Test.YtdfpaebbejdjlaaPure02
namespace Go.Proofs.Ytdfpaebbejdjlaa.Pure
open Go.RowKit Go.Proofs.Ytdfpaebbejdjlaa.G Go.Proofs.Ytdfpaebbejdjlaa.Hand
open Go.Proofs.YtdfpaebbejdjlaaW.PrintWords Go.Proofs.YtdfpaebbejdjlaaW.PrintLast Go.Proofs.YtdfpaebbejdjlaaW.PrintMore
set_option maxRecDepth 100000
set_option linter.unusedVariables false
theorem turns_all : ∀ v : Fin 256, ∀ z n h c : Bool, whirligiglaw02_AluTurns.f 90 (v.val : Int) z n h c = some true := by decide +kernel
theorem AluTurns (a0 : Int) (z n h c : Bool) (w0 : (Lit.int .u8 a0).wf = true) : ∃ k, whirligiglaw02_AluTurns.f k a0 z n h c = some true := by
  obtain ⟨v, rfl⟩ := u8_of w0
  exact ⟨90, turns_all v z n h c⟩
end Go.Proofs.Ytdfpaebbejdjlaa.Pure
