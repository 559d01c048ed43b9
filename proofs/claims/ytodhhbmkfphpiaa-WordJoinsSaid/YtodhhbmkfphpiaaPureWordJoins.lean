/- The plain law of WordJoins: two bytes make the word, a word falls into its bytes. -/
import Derived.Test.YtodhhbmkfphpiaaNum
import Derived.Test.YtodhhbmkfphpiaaG31
import Derived.Test.YtodhhbmkfphpiaaPure01
namespace Go.Proofs.Ytodhhbmkfphpiaa.Pure
open Go.RowKit Go.Proofs.Ytodhhbmkfphpiaa.G Go.Proofs.Ytodhhbmkfphpiaa.Hand
open Go.Proofs.YtodhhbmkfphpiaaW.PrintWords Go.Proofs.YtodhhbmkfphpiaaW.PrintLast Go.Proofs.YtodhhbmkfphpiaaW.PrintMore
set_option maxRecDepth 100000
set_option linter.unusedVariables false
theorem WordJoins (a0 a1 a2 : Int) (w0 : (Lit.int .u8 a0).wf = true) (w1 : (Lit.int .u8 a1).wf = true) (w2 : (Lit.int .u16 a2).wf = true) : ∃ k, whirligiglaw01_WordJoins.f k a0 a1 a2 = some true := by
  have b0 := u8_bd w0
  have b1 := u8_bd w1
  have b2 := u16_bd w2
  have e0 : wrap64 a0 = a0 := wrap64_in (by omega)
  have e1 : wrap64 a1 = a1 := wrap64_in (by omega)
  have e2 : wrap64 a2 = a2 := wrap64_in (by omega)
  have e3 : wrap64 (a0 * 256) = a0 * 256 := wrap64_in (by omega)
  have e4 : wrap64 (a0 * 256 + a1) = a0 * 256 + a1 := wrap64_in (by omega)
  have u0 : IntKind.u16.wrap a0 = a0 := by rw [IntKind.wrap_u16]; omega
  have u1 : IntKind.u16.wrap a1 = a1 := by rw [IntKind.wrap_u16]; omega
  have u2 : IntKind.u16.wrap (a0 * 256) = a0 * 256 := by rw [IntKind.wrap_u16]; omega
  have u3 : IntKind.u16.wrap (a0 * 256 + a1) = a0 * 256 + a1 := by rw [IntKind.wrap_u16]; omega
  have d1 : wrap64 (Int.tdiv a2 256) % 256 = a2 / 256 % 256 := by rw [Int.tdiv_eq_ediv_of_nonneg (by omega), wrap64_in (by omega)]
  have d2 : Int.tmod a2 256 % 256 = a2 % 256 := by rw [Int.tmod_eq_emod_of_nonneg (by omega)]; omega
  have o := u16_or256 a0 a1 (by omega) (by omega) (by omega) (by omega)
  refine ⟨90, ?_⟩
  unfold whirligiglaw01_WordJoins.f word_Split.f whirligigref01_Split.f word_Join.f whirligigref01_Join.f
  rw [shown_is]
  simp only [Option.bind_some, e0, e1, e2, e3, e4, u0, u1, u2, u3, d1, d2, o, if_true]
  simp
end Go.Proofs.Ytodhhbmkfphpiaa.Pure
