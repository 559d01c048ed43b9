/- Written by a program of this session, after the kit's print: Go functions as Lean functions, each with the proof that the Go text comes to it. -/
import Derived.Test.YthkoofidnaghcaaG0
namespace Go.Proofs.Ythkoofidnaghcaa.G
open Go.RowKit Go.Proofs.YthkoofidnaghcaaW.PrintWords Go.Proofs.YthkoofidnaghcaaW.PrintLast Go.Proofs.YthkoofidnaghcaaW.PrintMore
attribute [local go_sem] max2_int min2_int max_two min_two max_three min_three max_four min_four   -- for this text's walks alone
set_option linter.unusedVariables false
set_option linter.unusedSimpArgs false

/-! ### whirligigref01_Join: function 38 -/
def whirligigref01_Join.f (a0 : Int) (a1 : Int) : Option (Int) := some (IntKind.u16.wrap (wrap64 ((wrap64 ((wrap64 (a0)) * 256)) + (wrap64 (a1)))))
set_option maxHeartbeats 8000000 in
set_option maxRecDepth 100000 in
theorem whirligigref01_Join.calls (a0 : Int) (a1 : Int) (r : Int) (w : World) (h : whirligigref01_Join.f a0 a1 = some r) :
    Calls Try.prog 38 #[.int .u8 a0, .int .u8 a1] w fun e w' => e = .returned (.int .u16 r) ∧ Drawn0 w w' := by
  have H : (some (IntKind.u16.wrap (wrap64 ((wrap64 ((wrap64 (a0)) * 256)) + (wrap64 (a1)))))) = some r := h
  clear h
  obtain rfl := Option.some.inj H
  go_enter Try.func38, Try.ntmps38
  go_wp2
  go_ret
  exact ⟨by first | rfl | (simp; done) | (simp [*]; done), by repeat (first | exact Drawn0.refl _ | apply Drawn0.step)⟩

end Go.Proofs.Ythkoofidnaghcaa.G
