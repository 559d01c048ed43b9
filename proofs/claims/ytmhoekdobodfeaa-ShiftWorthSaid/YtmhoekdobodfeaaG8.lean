/- Written by a program of this session, after the kit's print: Go functions as Lean functions, each with the proof that the Go text comes to it. -/
import Derived.Test.YtmhoekdobodfeaaG0
namespace Go.Proofs.Ytmhoekdobodfeaa.G
open Go.RowKit Go.Proofs.YtmhoekdobodfeaaW.PrintWords Go.Proofs.YtmhoekdobodfeaaW.PrintLast Go.Proofs.YtmhoekdobodfeaaW.PrintMore
attribute [local go_sem] max2_int min2_int max_two min_two max_three min_three max_four min_four   -- for this text's walks alone
set_option linter.unusedVariables false
set_option linter.unusedSimpArgs false

/-! ### whirligigref02_Op: function 25 -/
def whirligigref02_Op.f (a0 : Int) : Option (Int) := if (Int.tmod a0 8) < 0 then (some (wrap64 ((Int.tmod a0 8) + 8))) else (some (Int.tmod a0 8))
set_option maxHeartbeats 8000000 in
set_option maxRecDepth 100000 in
theorem whirligigref02_Op.calls (a0 : Int) (r : Int) (w : World) (h : whirligigref02_Op.f a0 = some r) :
    Calls Try.prog 25 #[.int .i64 a0] w fun e w' => e = .returned (.int .i64 r) ∧ Drawn0 w w' := by
  have H : (if (Int.tmod a0 8) < 0 then (some (wrap64 ((Int.tmod a0 8) + 8))) else (some (Int.tmod a0 8))) = some r := h
  clear h
  by_cases c2 : (Int.tmod a0 8) < 0
  · rw [if_pos c2] at H
    have c2b0 : decide ((Int.tmod a0 8) < 0) = true := decide_eq_true c2
    clear c2
    obtain rfl := Option.some.inj H
    go_enter Try.func25, Try.ntmps25
    go_wp2
    go_ret
    exact ⟨by first | rfl | (simp; done) | (simp [*]; done), by repeat (first | exact Drawn0.refl _ | apply Drawn0.step)⟩
  · rw [if_neg c2] at H
    have c2b0 : decide ((Int.tmod a0 8) < 0) = false := decide_eq_false c2
    clear c2
    obtain rfl := Option.some.inj H
    go_enter Try.func25, Try.ntmps25
    go_wp2
    go_ret
    exact ⟨by first | rfl | (simp; done) | (simp [*]; done), by repeat (first | exact Drawn0.refl _ | apply Drawn0.step)⟩

end Go.Proofs.Ytmhoekdobodfeaa.G
