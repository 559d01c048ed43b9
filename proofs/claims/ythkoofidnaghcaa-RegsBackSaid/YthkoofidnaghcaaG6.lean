/- Written by a program of this session, after the kit's print: Go functions as Lean functions, each with the proof that the Go text comes to it. -/
import Derived.Test.YthkoofidnaghcaaG0
namespace Go.Proofs.Ythkoofidnaghcaa.G
open Go.RowKit Go.Proofs.YthkoofidnaghcaaW.PrintWords Go.Proofs.YthkoofidnaghcaaW.PrintLast Go.Proofs.YthkoofidnaghcaaW.PrintMore
attribute [local go_sem] max2_int min2_int max_two min_two max_three min_three max_four min_four   -- for this text's walks alone
set_option linter.unusedVariables false
set_option linter.unusedSimpArgs false

/-! ### word_Join: function 37 -/
def word_Join.f (a0 : Int) (a1 : Int) : Option (Int) := some (Go.bits .or .u16 (IntKind.u16.wrap ((IntKind.u16.wrap (a0)) * 256)) (IntKind.u16.wrap (a1)))
set_option maxHeartbeats 8000000 in
set_option maxRecDepth 100000 in
theorem word_Join.calls (a0 : Int) (a1 : Int) (r : Int) (w : World) (h : word_Join.f a0 a1 = some r) :
    Calls Try.prog 37 #[.int .u8 a0, .int .u8 a1] w fun e w' => e = .returned (.int .u16 r) ∧ Drawn0 w w' := by
  have H : (some (Go.bits .or .u16 (IntKind.u16.wrap ((IntKind.u16.wrap (a0)) * 256)) (IntKind.u16.wrap (a1)))) = some r := h
  clear h
  obtain rfl := Option.some.inj H
  go_enter Try.func37, Try.ntmps37
  go_wp2
  go_ret
  exact ⟨by first | rfl | (simp; done) | (simp [*]; done), by repeat (first | exact Drawn0.refl _ | apply Drawn0.step)⟩

end Go.Proofs.Ythkoofidnaghcaa.G
