/- The plain law of WordBits: bits, and how many are 1. -/
import Derived.Test.YtodhhbmkfphpiaaNum
import Derived.Test.YtodhhbmkfphpiaaG35
import Derived.Test.YtodhhbmkfphpiaaPure01
namespace Go.Proofs.Ytodhhbmkfphpiaa.Pure
open Go.RowKit Go.Proofs.Ytodhhbmkfphpiaa.G Go.Proofs.Ytodhhbmkfphpiaa.Hand
open Go.Proofs.YtodhhbmkfphpiaaW.PrintWords Go.Proofs.YtodhhbmkfphpiaaW.PrintLast Go.Proofs.YtodhhbmkfphpiaaW.PrintMore
set_option maxRecDepth 100000
set_option linter.unusedVariables false
theorem bit_all : ∀ m : Fin 8, ∀ v : Fin 256, (word_Bit.f (v.val : Int) (m.val : Int)).isSome ∧ whirligigref01_Bit.f 90 (v.val : Int) (m.val : Int) = word_Bit.f (v.val : Int) (m.val : Int) := by decide +kernel
theorem bit_out (v n : Int) (h : n < 0 ∨ 7 < n) : word_Bit.f v n = some false ∧ whirligigref01_Bit.f 90 v n = some false := by
  unfold word_Bit.f whirligigref01_Bit.f
  rcases h with h | h
  · rw [if_neg (by omega), if_pos h]; exact ⟨rfl, rfl⟩
  · rw [if_pos (by omega), if_neg (by omega), if_neg (by omega), if_pos (by omega)]; exact ⟨rfl, rfl⟩
theorem bits_same (v : Fin 256) (n : Int) : ∃ b, word_Bit.f (v.val : Int) n = some b ∧ whirligigref01_Bit.f 90 (v.val : Int) n = some b := by
  by_cases h : n < 0 ∨ 7 < n
  · exact ⟨false, bit_out _ n h⟩
  · obtain ⟨m, rfl⟩ : ∃ m : Fin 8, n = (m.val : Int) := ⟨⟨n.toNat, by omega⟩, by show n = (n.toNat : Int); omega⟩
    obtain ⟨h1, h2⟩ := bit_all m v
    obtain ⟨r, hr⟩ := Option.isSome_iff_exists.mp h1
    exact ⟨r, hr, h2.trans hr⟩
theorem ones_all : ∀ v : Fin 256, (word_Ones.f 90 (v.val : Int)).isSome ∧ whirligigref01_Ones.f 90 (v.val : Int) = word_Ones.f 90 (v.val : Int) := by decide +kernel
theorem WordBits (a0 a1 : Int) (w0 : (Lit.int .u8 a0).wf = true) (w1 : (Lit.int .i64 a1).wf = true) : ∃ k, whirligiglaw01_WordBits.f k a0 a1 = some true := by
  obtain ⟨v, rfl⟩ := u8_of w0
  obtain ⟨b, h1, h2⟩ := bits_same v a1
  obtain ⟨h3, h4⟩ := ones_all v
  obtain ⟨o, ho⟩ := Option.isSome_iff_exists.mp h3
  refine ⟨90, ?_⟩
  unfold whirligiglaw01_WordBits.f
  rw [shown_is, h1, h2, h4, ho]
  simp
end Go.Proofs.Ytodhhbmkfphpiaa.Pure
