/- The plain law of WordHexes: bytes and words are written in the document's digits. -/
import Derived.Test.YtodhhbmkfphpiaaNum
import Derived.Test.YtodhhbmkfphpiaaG24
import Derived.Test.YtodhhbmkfphpiaaPure01
namespace Go.Proofs.Ytodhhbmkfphpiaa.Pure
open Go.RowKit Go.Proofs.Ytodhhbmkfphpiaa.G Go.Proofs.Ytodhhbmkfphpiaa.Hand
open Go.Proofs.YtodhhbmkfphpiaaW.PrintWords Go.Proofs.YtodhhbmkfphpiaaW.PrintLast Go.Proofs.YtodhhbmkfphpiaaW.PrintMore
set_option maxRecDepth 100000
set_option linter.unusedVariables false
theorem hex_all : ∀ v : Fin 256, ((word_Hex8.f (v.val : Int)).any fun s => s.size == 2) = true ∧ (whirligigref01_Hex8.f (v.val : Int)).map (·.data) = (word_Hex8.f (v.val : Int)).map (·.data) := by decide +kernel
theorem hex8 (x : Int) (h : 0 ≤ x ∧ x ≤ 255) : ∃ s, word_Hex8.f x = some s ∧ whirligigref01_Hex8.f x = some s ∧ s.size = 2 := by
  obtain ⟨v, rfl⟩ := byte_fin h
  obtain ⟨h1, h2⟩ := hex_all v
  cases e : word_Hex8.f (v.val : Int) with
  | none => rw [e] at h1; simp at h1
  | some s =>
    rw [e] at h1 h2
    cases e2 : whirligigref01_Hex8.f (v.val : Int) with
    | none => rw [e2] at h2; simp at h2
    | some u =>
      rw [e2] at h2
      have h3 : u.data = s.data := by simpa using h2
      obtain rfl : u = s := by cases u; cases s; simp_all
      exact ⟨u, rfl, rfl, by simpa using h1⟩
theorem WordHexes (a0 a1 : Int) (w0 : (Lit.int .u8 a0).wf = true) (w1 : (Lit.int .u16 a1).wf = true) : ∃ k, whirligiglaw01_WordHexes.f k a0 a1 = some true := by
  have b0 := u8_bd w0
  have b1 := u16_bd w1
  have e0 : wrap64 a1 = a1 := wrap64_in (by omega)
  have e1 : wrap64 (Int.tdiv a1 256) % 256 = a1 / 256 := by rw [Int.tdiv_eq_ediv_of_nonneg (by omega), wrap64_in (by omega)]; omega
  have e2 : Int.tmod a1 256 % 256 = a1 % 256 := by rw [Int.tmod_eq_emod_of_nonneg (by omega)]; omega
  have e3 : (a1 / 256) % 256 = a1 / 256 := by omega
  obtain ⟨s, h1, h2, h3⟩ := hex8 a0 b0
  obtain ⟨t, h4, h5, h6⟩ := hex8 (a1 / 256) (by omega)
  obtain ⟨u, h7, h8, h9⟩ := hex8 (a1 % 256) (by omega)
  refine ⟨90, ?_⟩
  unfold whirligiglaw01_WordHexes.f word_Hex16.f whirligigref01_Hex16.f whirligigref01_Split.f
  rw [shown_is, h1, h2, e0, e1, e2, e3, h4, h7]
  simp [h5, h8, h6, h9]
end Go.Proofs.Ytodhhbmkfphpiaa.Pure
