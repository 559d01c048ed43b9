/- The plain law of ShiftTests: a byte's bit is told as the document says. -/
import Derived.Test.YtmhoekdobodfeaaPure03
import Derived.Test.YtmhoekdobodfeaaG18
namespace Go.Proofs.Ytmhoekdobodfeaa.Pure
open Go.RowKit Go.Proofs.Ytmhoekdobodfeaa.G Go.Proofs.Ytmhoekdobodfeaa.Hand
open Go.Proofs.YtmhoekdobodfeaaW.PrintWords
set_option maxRecDepth 100000
set_option linter.unusedVariables false
theorem test_all : ∀ m : Fin 8, ∀ v : Fin 256, (word_Bit.f (v.val : Int) (m.val : Int)).isSome ∧ whirligigref01_Bit.f 90 (v.val : Int) (m.val : Int) = word_Bit.f (v.val : Int) (m.val : Int) := by decide +kernel
theorem ShiftTests (a0 a1 : Int) (z n h c : Bool) (w0 : (Lit.int .i64 a0).wf = true) (w1 : (Lit.int .u8 a1).wf = true) : ∃ k, whirligiglaw03_ShiftTests.f k a0 a1 z n h c = some true := by
  obtain ⟨v, rfl⟩ := u8_of w1
  obtain ⟨m, hm⟩ := eight a0
  obtain ⟨h1, h2⟩ := test_all m v
  obtain ⟨r, hr⟩ := Option.isSome_iff_exists.mp h1
  refine ⟨90, ?_⟩
  unfold whirligiglaw03_ShiftTests.f shift_Test.f whirligigref03_Test.f
  rw [shown_is, and7, op_is]
  simp only [Option.bind_some]
  rw [hm, h2, hr]
  simp
end Go.Proofs.Ytmhoekdobodfeaa.Pure
