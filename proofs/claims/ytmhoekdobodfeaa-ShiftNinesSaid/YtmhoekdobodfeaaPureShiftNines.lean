/- The plain law of ShiftNines: nine turns through the carry are none. -/
import Derived.Test.YtmhoekdobodfeaaPure03
import Derived.Test.YtmhoekdobodfeaaG20
namespace Go.Proofs.Ytmhoekdobodfeaa.Pure
open Go.RowKit Go.Proofs.Ytmhoekdobodfeaa.G Go.Proofs.Ytmhoekdobodfeaa.Hand
open Go.Proofs.YtmhoekdobodfeaaW.PrintWords
set_option maxRecDepth 100000
set_option linter.unusedVariables false
theorem nines_all : ∀ v : Fin 256, ∀ z n h c : Bool, whirligiglaw03_ShiftNines.f 90 (v.val : Int) z n h c = some true := by decide +kernel
theorem ShiftNines (a0 : Int) (z n h c : Bool) (w0 : (Lit.int .u8 a0).wf = true) : ∃ k, whirligiglaw03_ShiftNines.f k a0 z n h c = some true := by
  obtain ⟨v, rfl⟩ := u8_of w0
  exact ⟨90, nines_all v z n h c⟩
end Go.Proofs.Ytmhoekdobodfeaa.Pure
