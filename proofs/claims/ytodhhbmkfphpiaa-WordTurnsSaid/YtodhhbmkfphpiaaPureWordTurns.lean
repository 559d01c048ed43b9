/- The plain law of WordTurns: a byte is turned and mirrored as the document says. -/
import Derived.Test.YtodhhbmkfphpiaaNum
import Derived.Test.YtodhhbmkfphpiaaG19
import Derived.Test.YtodhhbmkfphpiaaPure01
namespace Go.Proofs.Ytodhhbmkfphpiaa.Pure
open Go.RowKit Go.Proofs.Ytodhhbmkfphpiaa.G Go.Proofs.Ytodhhbmkfphpiaa.Hand
open Go.Proofs.YtodhhbmkfphpiaaW.PrintWords Go.Proofs.YtodhhbmkfphpiaaW.PrintLast Go.Proofs.YtodhhbmkfphpiaaW.PrintMore
set_option maxRecDepth 100000
set_option linter.unusedVariables false
theorem tmod_tmod8 (n : Int) : Int.tmod (Int.tmod n 8) 8 = Int.tmod n 8 := by
  rcases tmod8 n with e | ⟨e, h⟩
  · rw [e, Int.tmod_eq_emod_of_nonneg (by omega)]; omega
  · have := Int.tmod_eq_emod_of_nonneg (a := -Int.tmod n 8) (b := 8) (by omega)
    rw [Int.neg_tmod] at this
    omega
theorem turns_all : ∀ m : Fin 15, ∀ v : Fin 256, whirligiglaw01_WordTurns.f 90 (v.val : Int) ((m.val : Int) - 7) = some true := by decide +kernel
theorem WordTurns (a0 a1 : Int) (w0 : (Lit.int .u8 a0).wf = true) (w1 : (Lit.int .i64 a1).wf = true) : ∃ k, whirligiglaw01_WordTurns.f k a0 a1 = some true := by
  obtain ⟨v, rfl⟩ := u8_of w0
  have h : -8 < Int.tmod a1 8 ∧ Int.tmod a1 8 < 8 := by rcases tmod8 a1 with e | ⟨e, _⟩ <;> omega
  obtain ⟨m, hm⟩ : ∃ m : Fin 15, Int.tmod a1 8 = (m.val : Int) - 7 := ⟨⟨(Int.tmod a1 8 + 7).toNat, by omega⟩, by show Int.tmod a1 8 = ((Int.tmod a1 8 + 7).toNat : Int) - 7; omega⟩
  refine ⟨90, ?_⟩
  rw [← turns_all m v, ← hm]
  unfold whirligiglaw01_WordTurns.f word_Turn.f whirligigref01_Turn.f
  rw [tmod_tmod8]
end Go.Proofs.Ytodhhbmkfphpiaa.Pure
