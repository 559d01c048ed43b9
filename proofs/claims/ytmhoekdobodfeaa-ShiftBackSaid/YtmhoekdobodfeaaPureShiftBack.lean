/- The plain law of ShiftBack: what was turned up is turned down again. -/
import Derived.Test.YtmhoekdobodfeaaPure03
import Derived.Test.YtmhoekdobodfeaaG19
namespace Go.Proofs.Ytmhoekdobodfeaa.Pure
open Go.RowKit Go.Proofs.Ytmhoekdobodfeaa.G Go.Proofs.Ytmhoekdobodfeaa.Hand
open Go.Proofs.YtmhoekdobodfeaaW.PrintWords
set_option maxRecDepth 100000
set_option linter.unusedVariables false
theorem back_all : ∀ v : Fin 256, ∀ z n h c : Bool, whirligiglaw03_ShiftBack.f 90 (v.val : Int) z n h c = some true := by
  have key : ∀ v : Fin 256, ∀ c : Bool, whirligiglaw03_ShiftBack.f 90 (v.val : Int) false false false c = some true := by decide +kernel
  intro v z n h c
  rw [← key v c]
  rfl
theorem ShiftBack (a0 : Int) (z n h c : Bool) (w0 : (Lit.int .u8 a0).wf = true) : ∃ k, whirligiglaw03_ShiftBack.f k a0 z n h c = some true := by
  obtain ⟨v, rfl⟩ := u8_of w0
  exact ⟨90, back_all v z n h c⟩
end Go.Proofs.Ytmhoekdobodfeaa.Pure
