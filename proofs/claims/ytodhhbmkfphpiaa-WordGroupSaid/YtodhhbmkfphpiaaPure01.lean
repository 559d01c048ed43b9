/- What all laws of layer 1 begin with: the examples. -/
import Derived.Test.YtodhhbmkfphpiaaNum
import Derived.Test.YtodhhbmkfphpiaaG10
namespace Go.Proofs.Ytodhhbmkfphpiaa.Pure
open Go.RowKit Go.Proofs.Ytodhhbmkfphpiaa.G Go.Proofs.Ytodhhbmkfphpiaa.Hand
open Go.Proofs.YtodhhbmkfphpiaaW.PrintWords Go.Proofs.YtodhhbmkfphpiaaW.PrintLast Go.Proofs.YtodhhbmkfphpiaaW.PrintMore
set_option maxRecDepth 100000
set_option linter.unusedVariables false
theorem shown_is : whirligiglaw01_shown.f 90 = some true := by decide +kernel
end Go.Proofs.Ytodhhbmkfphpiaa.Pure
