/- A clock's five bytes; the program's Bytes comes to two clocks' ten. -/
import Derived.Test.YtkfjofkocccefaaNum
import Derived.Test.YtkfjofkocccefaaPureRd
import Derived.Test.YtkfjofkocccefaaHBytes
namespace Go.Proofs.Ytkfjofkocccefaa.Pure
open Go.RowKit Go.Proofs.Ytkfjofkocccefaa.G Go.Proofs.Ytkfjofkocccefaa.Hand
open Go.Proofs.YtkfjofkocccefaaW.PrintWords Go.Proofs.YtkfjofkocccefaaW.PrintLast Go.Proofs.YtkfjofkocccefaaW.PrintMore
set_option maxRecDepth 100000
set_option linter.unusedVariables false
set_option linter.unusedSimpArgs false
/-- A clock's five bytes. -/
def five (c : C) : List Int := [(rdC (nm c) 8).1, (rdC (nm c) 9).1, (rdC (nm c) 10).1, (rdC (nm c) 11).1, (rdC (nm c) 12).1]
theorem bytes_prog (c b : C) (hc : wide c) (hb : wide b) : clock_Bytes.f c.1 c.2.1 c.2.2.1 c.2.2.2.1 c.2.2.2.2.1 c.2.2.2.2.2 b.1 b.2.1 b.2.2.1 b.2.2.2.1 b.2.2.2.2.1 b.2.2.2.2.2 = some (five c ++ five b) := by
  unfold clock_Bytes.f
  rw [read_prog c hc 8]
  simp only [Option.bind_some]
  rw [read_prog c hc 9]
  simp only [Option.bind_some]
  rw [read_prog c hc 10]
  simp only [Option.bind_some]
  rw [read_prog c hc 11]
  simp only [Option.bind_some]
  rw [read_prog c hc 12]
  simp only [Option.bind_some]
  rw [read_prog b hb 8]
  simp only [Option.bind_some]
  rw [read_prog b hb 9]
  simp only [Option.bind_some]
  rw [read_prog b hb 10]
  simp only [Option.bind_some]
  rw [read_prog b hb 11]
  simp only [Option.bind_some]
  rw [read_prog b hb 12]
  simp only [Option.bind_some]
  rfl
end Go.Proofs.Ytkfjofkocccefaa.Pure
