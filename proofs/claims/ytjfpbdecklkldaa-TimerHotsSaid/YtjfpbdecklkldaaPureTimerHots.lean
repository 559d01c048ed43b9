/- The plain law of TimerHots. -/
import Derived.Test.YtjfpbdecklkldaaNum
import Derived.Test.YtjfpbdecklkldaaG10
import Derived.Test.YtjfpbdecklkldaaPureTimerR
namespace Go.Proofs.Ytjfpbdecklkldaa.Pure
open Go.RowKit Go.Proofs.Ytjfpbdecklkldaa.G Go.Proofs.Ytjfpbdecklkldaa.Hand
open Go.Proofs.YtjfpbdecklkldaaW.PrintWords Go.Proofs.YtjfpbdecklkldaaW.PrintLast Go.Proofs.YtjfpbdecklkldaaW.PrintMore
set_option maxRecDepth 100000
set_option linter.unusedVariables false
theorem TimerHots (d t m c s : Int) (w0 : (Lit.int .u16 d).wf = true) (w1 : (Lit.int .u8 t).wf = true) (w2 : (Lit.int .u8 m).wf = true) (w3 : (Lit.int .u8 c).wf = true) (w4 : (Lit.int .u8 s).wf = true) : ∃ k, whirligiglaw11_TimerHots.f k d t m c s = some true := by
  have bd := u16_bd w0
  have bt := u8_bd w1
  have bm := u8_bd w2
  have bc := u8_bd w3
  have bs := u8_bd w4
  refine ⟨90, ?_⟩
  unfold whirligiglaw11_TimerHots.f
  rw [shown_is, hot_prog d t m c s bd bc, hot_ref 90 d t m c s (by omega) bd bc]
  simp
end Go.Proofs.Ytjfpbdecklkldaa.Pure
