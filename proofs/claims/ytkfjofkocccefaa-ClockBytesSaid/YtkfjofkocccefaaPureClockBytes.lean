/- The plain law of ClockBytes: two clocks' ten bytes. -/
import Derived.Test.YtkfjofkocccefaaNum
import Derived.Test.YtkfjofkocccefaaG13
import Derived.Test.YtkfjofkocccefaaPure09
import Derived.Test.YtkfjofkocccefaaPureClockReads
namespace Go.Proofs.Ytkfjofkocccefaa.Pure
open Go.RowKit Go.Proofs.Ytkfjofkocccefaa.G Go.Proofs.Ytkfjofkocccefaa.Hand
open Go.Proofs.YtkfjofkocccefaaW.PrintWords Go.Proofs.YtkfjofkocccefaaW.PrintLast Go.Proofs.YtkfjofkocccefaaW.PrintMore
set_option maxRecDepth 100000
set_option linter.unusedVariables false
set_option linter.unusedSimpArgs false
/-- A clock's five bytes. -/
def five (c : C) : List Int := [(rdC (nm c) 8).1, (rdC (nm c) 9).1, (rdC (nm c) 10).1, (rdC (nm c) 11).1, (rdC (nm c) 12).1]
theorem bytes_prog (c b : C) (hc : wide c) (hb : wide b) : clock_Bytes.f c.1 c.2.1 c.2.2.1 c.2.2.2.1 c.2.2.2.2.1 c.2.2.2.2.2 b.1 b.2.1 b.2.2.1 b.2.2.2.1 b.2.2.2.2.1 b.2.2.2.2.2 = some (five c ++ five b) := by
  unfold clock_Bytes.f
  rw [read_prog c hc 8]
  simp only [Option.bind_some]
  rw [read_prog c hc 9]
  simp only [Option.bind_some]
  rw [read_prog c hc 10]
  simp only [Option.bind_some]
  rw [read_prog c hc 11]
  simp only [Option.bind_some]
  rw [read_prog c hc 12]
  simp only [Option.bind_some]
  rw [read_prog b hb 8]
  simp only [Option.bind_some]
  rw [read_prog b hb 9]
  simp only [Option.bind_some]
  rw [read_prog b hb 10]
  simp only [Option.bind_some]
  rw [read_prog b hb 11]
  simp only [Option.bind_some]
  rw [read_prog b hb 12]
  simp only [Option.bind_some]
  rfl
theorem bytes_l1 (x : List Int) (b : C) (hx : x.length = 5) (hb : wide b) : whirligigref09_Bytes.l1 6 x 8 b.1 b.2.1 b.2.2.1 b.2.2.2.1 b.2.2.2.2.1 b.2.2.2.2.2 = some (x ++ five b) := by
  simp only [whirligigref09_Bytes.l1]
  rw [if_pos (by decide), read_ref b hb 8]
  simp only [Option.bind_some]
  rw [if_pos (by simp [hx]), show wrap64 (8 + 1) = 9 from by kernel_rfl]
  rw [if_pos (by decide), read_ref b hb 9]
  simp only [Option.bind_some]
  rw [if_pos (by simp [hx]), show wrap64 (9 + 1) = 10 from by kernel_rfl]
  rw [if_pos (by decide), read_ref b hb 10]
  simp only [Option.bind_some]
  rw [if_pos (by simp [hx]), show wrap64 (10 + 1) = 11 from by kernel_rfl]
  rw [if_pos (by decide), read_ref b hb 11]
  simp only [Option.bind_some]
  rw [if_pos (by simp [hx]), show wrap64 (11 + 1) = 12 from by kernel_rfl]
  rw [if_pos (by decide), read_ref b hb 12]
  simp only [Option.bind_some]
  rw [if_pos (by simp [hx]), show wrap64 (12 + 1) = 13 from by kernel_rfl]
  rw [if_neg (by decide)]
  simp only [List.append_assoc, five]
  rfl
theorem bytes_l0 (c b : C) (hc : wide c) (hb : wide b) : whirligigref09_Bytes.l0 12 [] 8 c.1 c.2.1 c.2.2.1 c.2.2.2.1 c.2.2.2.2.1 c.2.2.2.2.2 b.1 b.2.1 b.2.2.1 b.2.2.2.1 b.2.2.2.2.1 b.2.2.2.2.2 = some (five c ++ five b) := by
  simp only [whirligigref09_Bytes.l0]
  rw [if_pos (by decide), read_ref c hc 8]
  simp only [Option.bind_some]
  rw [if_pos (by simp), show wrap64 (8 + 1) = 9 from by kernel_rfl]
  rw [if_pos (by decide), read_ref c hc 9]
  simp only [Option.bind_some]
  rw [if_pos (by simp), show wrap64 (9 + 1) = 10 from by kernel_rfl]
  rw [if_pos (by decide), read_ref c hc 10]
  simp only [Option.bind_some]
  rw [if_pos (by simp), show wrap64 (10 + 1) = 11 from by kernel_rfl]
  rw [if_pos (by decide), read_ref c hc 11]
  simp only [Option.bind_some]
  rw [if_pos (by simp), show wrap64 (11 + 1) = 12 from by kernel_rfl]
  rw [if_pos (by decide), read_ref c hc 12]
  simp only [Option.bind_some]
  rw [if_pos (by simp), show wrap64 (12 + 1) = 13 from by kernel_rfl]
  rw [if_neg (by decide)]
  exact bytes_l1 _ b (by simp) hb
theorem ClockBytes (s m h d : Int) (ht cy : Bool) (s' m' h' d' : Int) (ht' cy' : Bool) (w0 : (Lit.int .u8 s).wf = true) (w1 : (Lit.int .u8 m).wf = true) (w2 : (Lit.int .u8 h).wf = true) (w3 : (Lit.int .u16 d).wf = true) (w4 : (Lit.int .u8 s').wf = true) (w5 : (Lit.int .u8 m').wf = true) (w6 : (Lit.int .u8 h').wf = true) (w7 : (Lit.int .u16 d').wf = true) : ∃ k, whirligiglaw09_ClockBytes.f k s m h d ht cy s' m' h' d' ht' cy' = some true := by
  have hc : wide (s, m, h, d, ht, cy) := ⟨u8_bd w0, u8_bd w1, u8_bd w2, u16_bd w3⟩
  have hb : wide (s', m', h', d', ht', cy') := ⟨u8_bd w4, u8_bd w5, u8_bd w6, u16_bd w7⟩
  refine ⟨12, ?_⟩
  have e1 := bytes_prog _ _ hc hb
  have e2 := bytes_l0 _ _ hc hb
  dsimp only at e1 e2
  unfold whirligiglaw09_ClockBytes.f whirligigref09_Bytes.f
  rw [shown_is, e1, e2]
  simp
end Go.Proofs.Ytkfjofkocccefaa.Pure

