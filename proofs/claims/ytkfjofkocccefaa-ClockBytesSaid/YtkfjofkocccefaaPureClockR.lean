/- The reference of the clock comes to the same plain words: its Norm, its Tick. -/
import Derived.Test.YtkfjofkocccefaaNum
import Derived.Test.YtkfjofkocccefaaG8
import Derived.Test.YtkfjofkocccefaaPure09
namespace Go.Proofs.Ytkfjofkocccefaa.Pure
open Go.RowKit Go.Proofs.Ytkfjofkocccefaa.G Go.Proofs.Ytkfjofkocccefaa.Hand
open Go.Proofs.YtkfjofkocccefaaW.PrintWords Go.Proofs.YtkfjofkocccefaaW.PrintLast Go.Proofs.YtkfjofkocccefaaW.PrintMore
set_option maxRecDepth 100000
set_option linter.unusedVariables false
theorem norm_ref (c : C) (h : wide c) : whirligigref09_Norm.f c.1 c.2.1 c.2.2.1 c.2.2.2.1 c.2.2.2.2.1 c.2.2.2.2.2 = some (nm c) := by
  obtain ⟨h1, h2, h3, h4⟩ := h
  unfold whirligigref09_Norm.f nm
  rw [Int.tmod_eq_emod_of_nonneg h1.1, Int.tmod_eq_emod_of_nonneg h2.1, Int.tmod_eq_emod_of_nonneg h3.1, Int.tmod_eq_emod_of_nonneg h4.1]
theorem on_ref (v l p : Int) (hv : 0 ≤ v ∧ v < p) (hp : p = 64 ∨ p = 32) : whirligigref09_on.f v l p = some (if v = l then 0 else (v + 1) % p) := by
  unfold whirligigref09_on.f
  by_cases c : v = l
  · rw [if_pos c, if_pos c]
  · rw [if_neg c, if_neg c, if_neg (by omega)]
    rcases hp with rfl | rfl
    · rw [show (v + 1) % 256 % 64 = (v + 1) % 64 by omega]
    · rw [show (v + 1) % 256 % 32 = (v + 1) % 32 by omega]
theorem tick_ref (k : Nat) (hk : 4 ≤ k) (c : C) (h : wide c) : whirligigref09_Tick.f k c.1 c.2.1 c.2.2.1 c.2.2.2.1 c.2.2.2.2.1 c.2.2.2.2.2 = some (tk (nm c)) := by
  obtain ⟨k, rfl⟩ : ∃ q, k = q + 4 := ⟨k - 4, by omega⟩
  unfold whirligigref09_Tick.f
  rw [norm_ref c h]
  have hn := nm_ok c
  generalize nm c = e at hn
  obtain ⟨s, m, hh, d, ht, cy⟩ := e
  unfold okC at hn; dsimp only at hn
  obtain ⟨b1, b2, b3, b4⟩ := hn
  simp only [Option.bind_some]
  unfold tk
  dsimp only
  cases ht with
  | true => simp only [if_true]
  | false =>
    simp only [Bool.false_eq_true, if_false]
    rw [on_ref s 59 64 (by omega) (.inl rfl), on_ref m 59 64 (by omega) (.inl rfl)]
    simp only [Option.bind_some]
    by_cases c1 : s = 59
    · subst c1
      simp only [if_true, not_true_eq_false, if_false]
      by_cases c2 : m = 59
      · subst c2
        simp only [if_true, not_true_eq_false, if_false, whirligigref09_Tick.j0, whirligigref09_Tick.j1, BEq.rfl]
        rw [on_ref hh 23 32 (by omega) (.inr rfl)]
        simp only [Option.bind_some, whirligigref09_Tick.j2, if_true]
        by_cases c3 : hh = 23
        · subst c3
          simp only [whirligigref09_Tick.j3, BEq.rfl, if_true, not_true_eq_false, if_false]
          by_cases c4 : d = 511
          · subst c4
            rw [if_pos rfl]
            cases cy <;> rfl
          · have e : IntKind.u16.wrap (d + 1) = (d + 1) % 512 := by rw [IntKind.wrap_u16]; omega
            have e2 : (d == 511) = false := by simpa using c4
            rw [if_neg c4, e, e2]
            cases cy <;> rfl
        · have e2 : (hh == 23) = false := by simpa using c3
          rw [e2]
          simp only [whirligigref09_Tick.j3, c3, if_false, Bool.false_eq_true, not_false_eq_true, if_true]
      · have e2 : (m == 59) = false := by simpa using c2
        simp only [c2, if_false, if_true, not_false_eq_true, whirligigref09_Tick.j0, e2, whirligigref09_Tick.j1, Bool.false_eq_true, whirligigref09_Tick.j2, whirligigref09_Tick.j3]
    · simp only [c1, if_false, if_true, not_false_eq_true, whirligigref09_Tick.j0, whirligigref09_Tick.j1, Bool.false_eq_true, whirligigref09_Tick.j2, whirligigref09_Tick.j3]
end Go.Proofs.Ytkfjofkocccefaa.Pure
