/- Written by a program of this session, after the kit's print: Go functions as Lean functions, each with the proof that the Go text comes to it. -/
import Derived.Test.YtkfjofkocccefaaG0
namespace Go.Proofs.Ytkfjofkocccefaa.G
open Go.RowKit Go.Proofs.YtkfjofkocccefaaW.PrintWords Go.Proofs.YtkfjofkocccefaaW.PrintLast Go.Proofs.YtkfjofkocccefaaW.PrintMore
attribute [local go_sem] max2_int min2_int max_two min_two max_three min_three max_four min_four   -- for this text's walks alone
set_option linter.unusedVariables false
set_option linter.unusedSimpArgs false

/-! ### clock_bit: function 29 -/
def clock_bit.f (a0 : Bool) (a1 : Int) : Option (Int) := if a0 = true then (some a1) else (some 0)
set_option maxHeartbeats 8000000 in
set_option maxRecDepth 100000 in
theorem clock_bit.calls (a0 : Bool) (a1 : Int) (r : Int) (w : World) (h : clock_bit.f a0 a1 = some r) :
    Calls Try.prog 29 #[.bool a0, .int .u8 a1] w fun e w' => e = .returned (.int .u8 r) ∧ Drawn0 w w' := by
  have H : (if a0 = true then (some a1) else (some 0)) = some r := h
  clear h
  by_cases c3 : a0 = true
  · subst c3
    have H1 : (some a1) = some r := by rw [if_pos rfl] at H; exact H
    clear H
    have H := H1
    clear H1
    obtain rfl := Option.some.inj H
    go_enter Try.func29, Try.ntmps29
    go_wp2
    go_ret
    exact ⟨by first | rfl | (simp; done) | (simp [*]; done), by repeat (first | exact Drawn0.refl _ | apply Drawn0.step)⟩
  · replace c3 := Bool.eq_false_iff.mpr c3
    subst c3
    have H1 : (some 0) = some r := by rw [if_neg (show ¬ (false = true) by decide)] at H; exact H
    clear H
    have H := H1
    clear H1
    obtain rfl := Option.some.inj H
    go_enter Try.func29, Try.ntmps29
    go_wp2
    go_ret
    exact ⟨by first | rfl | (simp; done) | (simp [*]; done), by repeat (first | exact Drawn0.refl _ | apply Drawn0.step)⟩

end Go.Proofs.Ytkfjofkocccefaa.G
