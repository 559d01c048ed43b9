/- The plain law of ShiftPuts: bits are set and taken away as the document says. -/
import Derived.Test.YtmhoekdobodfeaaPure03
import Derived.Test.YtmhoekdobodfeaaG24
namespace Go.Proofs.Ytmhoekdobodfeaa.Pure
open Go.RowKit Go.Proofs.Ytmhoekdobodfeaa.G Go.Proofs.Ytmhoekdobodfeaa.Hand
open Go.Proofs.YtmhoekdobodfeaaW.PrintWords
set_option maxRecDepth 100000
set_option linter.unusedVariables false
theorem put_all : ∀ m : Fin 8, ∀ v : Fin 256, ∀ b : Bool, (word_Put.f 90 (v.val : Int) (m.val : Int) b).isSome ∧ whirligigref01_Put.f 90 (v.val : Int) (m.val : Int) b = word_Put.f 90 (v.val : Int) (m.val : Int) b := by decide +kernel
theorem ShiftPuts (a0 a1 : Int) (w0 : (Lit.int .i64 a0).wf = true) (w1 : (Lit.int .u8 a1).wf = true) : ∃ k, whirligiglaw03_ShiftPuts.f k a0 a1 = some true := by
  obtain ⟨v, rfl⟩ := u8_of w1
  obtain ⟨m, hm⟩ := eight a0
  obtain ⟨h1, h2⟩ := put_all m v false
  obtain ⟨r, hr⟩ := Option.isSome_iff_exists.mp h1
  obtain ⟨h3, h4⟩ := put_all m v true
  obtain ⟨s, hs⟩ := Option.isSome_iff_exists.mp h3
  refine ⟨90, ?_⟩
  unfold whirligiglaw03_ShiftPuts.f shift_Res.f whirligigref03_Res.f shift_Set.f whirligigref03_Set.f
  rw [shown_is, and7, op_is]
  simp only [Option.bind_some]
  rw [hm, h2, hr, h4, hs]
  simp
end Go.Proofs.Ytmhoekdobodfeaa.Pure
