/- bits.Reverse8 by hand: the byte of its table. -/
import Derived.Test.YtodhhbmkfphpiaaG0
import Derived.Lib.Tables
namespace Go.Proofs.Ytodhhbmkfphpiaa.Hand
open Go.RowKit Go.Proofs.Ytodhhbmkfphpiaa.G
open Go.Proofs.YtodhhbmkfphpiaaW.PrintWords Go.Proofs.YtodhhbmkfphpiaaW.PrintLast Go.Proofs.YtodhhbmkfphpiaaW.PrintMore
set_option linter.unusedVariables false
def bits_Reverse8.f (a0 : Int) : Option Int := if 0 ≤ a0 then (if a0 ≤ 255 then some (Lib.rev8 a0) else none) else none
set_option maxRecDepth 100000 in
theorem bits_Reverse8.calls (a0 : Int) (r : Int) (w : World) (h : bits_Reverse8.f a0 = some r) :
    Calls Try.prog 37 #[.int .u8 a0] w fun e w' => e = .returned (.int .u8 r) ∧ Drawn0 w w' := by
  unfold bits_Reverse8.f at h
  by_cases c1 : 0 ≤ a0
  · rw [if_pos c1] at h
    by_cases c2 : a0 ≤ 255
    · rw [if_pos c2] at h
      obtain rfl := Option.some.inj h
      go_enter Try.func37, Try.ntmps37
      go_wp2
      go_ret
      exact ⟨rfl, Drawn0.refl _⟩
    · rw [if_neg c2] at h
      cases h
  · rw [if_neg c1] at h
    cases h
end Go.Proofs.Ytodhhbmkfphpiaa.Hand
