/- The plain law of ShiftFasts: the short shifts' bytes and flags are the document's. -/
import Derived.Test.YtmhoekdobodfeaaPure03
import Derived.Test.YtmhoekdobodfeaaG16
namespace Go.Proofs.Ytmhoekdobodfeaa.Pure
open Go.RowKit Go.Proofs.Ytmhoekdobodfeaa.G Go.Proofs.Ytmhoekdobodfeaa.Hand
open Go.Proofs.YtmhoekdobodfeaaW.PrintWords
set_option maxRecDepth 100000
set_option linter.unusedVariables false
theorem ShiftFasts (a0 a1 : Int) (z n h c : Bool) (w0 : (Lit.int .i64 a0).wf = true) (w1 : (Lit.int .u8 a1).wf = true) : ∃ k, whirligiglaw03_ShiftFasts.f k a0 a1 z n h c = some true := by
  obtain ⟨v, rfl⟩ := u8_of w1
  have e1 : (a0 % 4) % 8 = a0 % 4 := by omega
  have e2 : Int.tmod (a0 % 8) 4 = a0 % 4 := by rw [Int.tmod_eq_emod_of_nonneg (by omega)]; omega
  obtain ⟨m, hm⟩ : ∃ m : Fin 8, a0 % 4 = (m.val : Int) := ⟨⟨(a0 % 4).toNat, by omega⟩, by show a0 % 4 = ((a0 % 4).toNat : Int); omega⟩
  obtain ⟨r, h1, h2⟩ := do_all m v c
  refine ⟨90, ?_⟩
  unfold whirligiglaw03_ShiftFasts.f shift_Fast.f whirligigref03_Fast.f
  rw [shown_is, and3, do_is, op_is]
  simp only [Option.bind_some]
  rw [e2, refdo_is, e1, hm, h1, h2]
  simp
end Go.Proofs.Ytmhoekdobodfeaa.Pure
