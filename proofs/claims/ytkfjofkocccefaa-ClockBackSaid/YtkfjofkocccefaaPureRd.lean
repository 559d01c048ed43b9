/- What a clock's register shows; the program's Read comes to it. -/
import Derived.Test.YtkfjofkocccefaaNum
import Derived.Test.YtkfjofkocccefaaPure09
import Derived.Test.YtkfjofkocccefaaG4
namespace Go.Proofs.Ytkfjofkocccefaa.Pure
open Go.RowKit Go.Proofs.Ytkfjofkocccefaa.G Go.Proofs.Ytkfjofkocccefaa.Hand
open Go.Proofs.YtkfjofkocccefaaW.PrintWords Go.Proofs.YtkfjofkocccefaaW.PrintLast Go.Proofs.YtkfjofkocccefaaW.PrintMore
set_option maxRecDepth 100000
set_option linter.unusedVariables false
set_option linter.unusedSimpArgs false
/-- What a register shows. -/
def rdC (c : C) (r : Int) : Int × Int :=
  if r = 8 then (c.1, 0) else if r = 9 then (c.2.1, 0) else if r = 10 then (c.2.2.1, 0) else if r = 11 then (c.2.2.2.1 % 256, 0) else
  if r = 12 then (Go.bits .or .u8 (Go.bits .or .u8 ((c.2.2.2.1 / 256) % 256) (if c.2.2.2.2.1 = true then 64 else 0)) (if c.2.2.2.2.2 = true then 128 else 0), 0) else (0, 7)
theorem read_prog (c : C) (h : wide c) (r : Int) : clock_Read.f c.1 c.2.1 c.2.2.1 c.2.2.2.1 c.2.2.2.2.1 c.2.2.2.2.2 r = some (rdC (nm c) r) := by
  unfold clock_Read.f rdC
  rw [norm_prog c h]
  simp only [Option.bind_some]
  have hb : ∀ (x : Bool) (n : Int), clock_bit.f x n = some (if x = true then n else 0) := by intro x n; unfold clock_bit.f; cases x <;> rfl
  rw [hb, hb]
  simp only [Option.bind_some]
  split
  · rfl
  split
  · rfl
  split
  · rfl
  split
  · rfl
  split <;> rfl
end Go.Proofs.Ytkfjofkocccefaa.Pure
