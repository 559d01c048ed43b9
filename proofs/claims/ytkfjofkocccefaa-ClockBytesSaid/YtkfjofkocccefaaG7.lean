/- Written by a program of this session, after the kit's print: Go functions as Lean functions, each with the proof that the Go text comes to it. -/
import Derived.Test.YtkfjofkocccefaaG0
namespace Go.Proofs.Ytkfjofkocccefaa.G
open Go.RowKit Go.Proofs.YtkfjofkocccefaaW.PrintWords Go.Proofs.YtkfjofkocccefaaW.PrintLast Go.Proofs.YtkfjofkocccefaaW.PrintMore
attribute [local go_sem] max2_int min2_int max_two min_two max_three min_three max_four min_four   -- for this text's walks alone
set_option linter.unusedVariables false
set_option linter.unusedSimpArgs false

/-! ### whirligigref09_on: function 28 -/
def whirligigref09_on.f (a0 : Int) (a1 : Int) (a2 : Int) : Option (Int) := if a0 = a1 then (some 0) else (if a2 = 0 then (none) else (some (((a0 + 1) % 256) % a2)))
set_option maxHeartbeats 8000000 in
set_option maxRecDepth 100000 in
theorem whirligigref09_on.calls (a0 : Int) (a1 : Int) (a2 : Int) (r : Int) (w : World) (h : whirligigref09_on.f a0 a1 a2 = some r) :
    Calls Try.prog 28 #[.int .u8 a0, .int .u8 a1, .int .u8 a2] w fun e w' => e = .returned (.int .u8 r) ∧ Drawn0 w w' := by
  have H : (if a0 = a1 then (some 0) else (if a2 = 0 then (none) else (some (((a0 + 1) % 256) % a2)))) = some r := h
  clear h
  by_cases c4 : a0 = a1
  · rw [if_pos c4] at H
    have c4b0 : (a0 == a1) = true := beq_iff_eq.mpr c4
    have c4b1 : (a0 != a1) = false := bne_eq_false_iff_eq.mpr c4
    clear c4
    obtain rfl := Option.some.inj H
    go_enter Try.func28, Try.ntmps28
    go_wp2
    go_ret
    exact ⟨by first | rfl | (simp; done) | (simp [*]; done), by repeat (first | exact Drawn0.refl _ | apply Drawn0.step)⟩
  · rw [if_neg c4] at H
    have c4b0 : (a0 == a1) = false := beq_eq_false_iff_ne.mpr c4
    have c4b1 : (a0 != a1) = true := bne_iff_ne.mpr c4
    by_cases c5 : a2 = 0
    · rw [if_pos c5] at H
      exact absurd H (by simp)
    · rw [if_neg c5] at H
      have c5b0 : (a2 == 0) = false := beq_eq_false_iff_ne.mpr c5
      have c5b1 : (a2 != 0) = true := bne_iff_ne.mpr c5
      obtain rfl := Option.some.inj H
      go_enter Try.func28, Try.ntmps28
      go_wp2
      go_ret
      exact ⟨by first | rfl | (simp; done) | (simp [*]; done), by repeat (first | exact Drawn0.refl _ | apply Drawn0.step)⟩

end Go.Proofs.Ytkfjofkocccefaa.G
