/- The plain law of WordSigns: a byte as a signed number. -/
import Derived.Test.YtodhhbmkfphpiaaNum
import Derived.Test.YtodhhbmkfphpiaaG16
import Derived.Test.YtodhhbmkfphpiaaPure01
namespace Go.Proofs.Ytodhhbmkfphpiaa.Pure
open Go.RowKit Go.Proofs.Ytodhhbmkfphpiaa.G Go.Proofs.Ytodhhbmkfphpiaa.Hand
open Go.Proofs.YtodhhbmkfphpiaaW.PrintWords Go.Proofs.YtodhhbmkfphpiaaW.PrintLast Go.Proofs.YtodhhbmkfphpiaaW.PrintMore
set_option maxRecDepth 100000
set_option linter.unusedVariables false
theorem signs_all : ∀ v : Fin 256, whirligiglaw01_WordSigns.f 90 (v.val : Int) = some true := by decide +kernel
theorem WordSigns (a0 : Int) (w0 : (Lit.int .u8 a0).wf = true) : ∃ k, whirligiglaw01_WordSigns.f k a0 = some true := by
  obtain ⟨v, rfl⟩ := u8_of w0
  exact ⟨90, signs_all v⟩
end Go.Proofs.Ytodhhbmkfphpiaa.Pure
