/- The alu in plain words: adding and subtracting bytes. -/
import Derived.Test.YtdfpaebbejdjlaaNum
import Derived.Test.YtdfpaebbejdjlaaG6
import Derived.Test.YtdfpaebbejdjlaaCarry
import Derived.Test.YtdfpaebbejdjlaaHAlu
namespace Go.Proofs.Ytdfpaebbejdjlaa.Pure
open Go.RowKit Go.Proofs.Ytdfpaebbejdjlaa.G Go.Proofs.Ytdfpaebbejdjlaa.Hand
open Go.Proofs.YtdfpaebbejdjlaaW.PrintWords Go.Proofs.YtdfpaebbejdjlaaW.PrintLast Go.Proofs.YtdfpaebbejdjlaaW.PrintMore
set_option maxRecDepth 100000
set_option linter.unusedVariables false
theorem shown_is : whirligiglaw02_shown.f 90 = some true := by decide +kernel
def addT (a v c : Int) : Int × Bool × Bool × Bool × Bool := ((a + v + c) % 256, (a + v + c) % 256 == 0, false, decide (a % 16 + v % 16 + c > 15), decide (a + v + c > 255))
def subT (a v c : Int) : Int × Bool × Bool × Bool × Bool := ((a - v - c) % 256, (a - v - c) % 256 == 0, true, decide (a % 16 < v % 16 + c), decide (a < v + c))
theorem add_prog (a v c : Int) (ha : 0 ≤ a ∧ a ≤ 255) (hv : 0 ≤ v ∧ v ≤ 255) (hc : 0 ≤ c ∧ c ≤ 1) : alu_add.f a v c = some (addT a v c) := by
  have e1 : IntKind.u16.wrap a = a := by rw [IntKind.wrap_u16]; omega
  have e2 : IntKind.u16.wrap v = v := by rw [IntKind.wrap_u16]; omega
  have e3 : IntKind.u16.wrap c = c := by rw [IntKind.wrap_u16]; omega
  have e4 : IntKind.u16.wrap (a + v) = a + v := by rw [IntKind.wrap_u16]; omega
  have e5 : IntKind.u16.wrap (a + v + c) = a + v + c := by rw [IntKind.wrap_u16]; omega
  have e6 : ((a + v + c) / 256 != 0) = decide (a + v + c > 255) := by
    rw [Bool.eq_iff_iff]; simp; clear e1 e2 e3 e4 e5; omega
  unfold alu_add.f addT
  rw [e1, e2, e3, e4, e5, half8 a v c ha hv hc, e6]
theorem notb : ∀ v : Fin 256, Go.bits .xor .u8 IntKind.u8.max (v.val : Int) = 255 - (v.val : Int) := by decide +kernel
theorem sub_prog (a v c : Int) (ha : 0 ≤ a ∧ a ≤ 255) (hv : 0 ≤ v ∧ v ≤ 255) (hc : 0 ≤ c ∧ c ≤ 1) : alu_sub.f a v c = some (subT a v c) := by
  have e1 : Go.bits .xor .u8 IntKind.u8.max v = 255 - v := by
    obtain ⟨x, rfl⟩ := byte_fin hv
    exact notb x
  have e2 : (1 - c) % 256 = 1 - c := by omega
  unfold alu_sub.f
  rw [e1, e2, add_prog a (255 - v) (1 - c) ha (by omega) (by omega)]
  unfold addT subT
  have e3 : (a + (255 - v) + (1 - c)) % 256 = (a - v - c) % 256 := by omega
  have e4 : (!decide (a % 16 + (255 - v) % 16 + (1 - c) > 15)) = decide (a % 16 < v % 16 + c) := by
    rw [Bool.eq_iff_iff]; simp; clear e1 e2 e3; omega
  have e5 : (!decide (a + (255 - v) + (1 - c) > 255)) = decide (a < v + c) := by
    rw [Bool.eq_iff_iff]; simp; clear e1 e2 e3 e4; omega
  simp only [Option.bind_some, e3, e4, e5]
end Go.Proofs.Ytdfpaebbejdjlaa.Pure
