/- The plain law of ClockSums. -/
import Derived.Test.YtkfjofkocccefaaNum
import Derived.Test.YtkfjofkocccefaaG17
import Derived.Test.YtkfjofkocccefaaPure09
import Derived.Test.YtkfjofkocccefaaPureClockRun
namespace Go.Proofs.Ytkfjofkocccefaa.Pure
open Go.RowKit Go.Proofs.Ytkfjofkocccefaa.G Go.Proofs.Ytkfjofkocccefaa.Hand
open Go.Proofs.YtkfjofkocccefaaW.PrintWords Go.Proofs.YtkfjofkocccefaaW.PrintLast Go.Proofs.YtkfjofkocccefaaW.PrintMore
set_option maxRecDepth 100000
set_option linter.unusedVariables false
theorem ClockSums (s m h d : Int) (ht cy : Bool) (a b : Int) (w0 : (Lit.int .u8 s).wf = true) (w1 : (Lit.int .u8 m).wf = true) (w2 : (Lit.int .u8 h).wf = true) (w3 : (Lit.int .u16 d).wf = true) (w4 : (Lit.int .u16 a).wf = true) (w5 : (Lit.int .u16 b).wf = true) : ∃ k, whirligiglaw09_ClockSums.f k s m h d ht cy a b = some true := by
  have hw : wide (s, m, h, d, ht, cy) := ⟨u8_bd w0, u8_bd w1, u8_bd w2, u16_bd w3⟩
  have ba := u16_bd w4
  have bb := u16_bd w5
  refine ⟨20000, ?_⟩
  unfold whirligiglaw09_ClockSums.f
  rw [shown_is, Int.tmod_eq_emod_of_nonneg ba.1, Int.tmod_eq_emod_of_nonneg bb.1]
  have ha : 0 ≤ a % 5000 ∧ a % 5000 ≤ 4999 := by omega
  have hb : 0 ≤ b % 5000 ∧ b % 5000 ≤ 4999 := by omega
  generalize a % 5000 = x at ha ⊢
  generalize b % 5000 = y at hb ⊢
  rw [wrap64_in (x := x) (by omega), wrap64_in (x := y) (by omega), wrap64_in (x := x + y) (by omega)]
  have e1 := run_prog 20000 x _ hw (by omega) (by omega) (by omega)
  have ok := it_ok x.toNat (nm_ok (s, m, h, d, ht, cy))
  have e2 := run_prog 20000 y _ ok.wide (by omega) (by omega) (by omega)
  rw [nm_of ok, ← it_add] at e2
  have e3 := run_prog 20000 (x + y) _ hw (by omega) (by omega) (by omega)
  rw [show (x + y).toNat = x.toNat + y.toNat by omega] at e3
  have e4 := run_prog 20000 1 _ hw (by omega) (by omega) (by decide)
  have e5 := run_prog 20000 0 _ hw (by omega) (by omega) (by decide)
  have e6 := tick_prog _ hw
  have e7 := norm_prog _ hw
  have ok2 := it_ok (x.toNat + y.toNat) (nm_ok (s, m, h, d, ht, cy))
  have e8 := norm_prog _ ok2.wide
  rw [nm_of ok2] at e8
  dsimp only at e1 e2 e3 e4 e5 e6 e7 e8
  have f4 : it (1 : Int).toNat (nm (s, m, h, d, ht, cy)) = tk (nm (s, m, h, d, ht, cy)) := rfl
  have f5 : it (0 : Int).toNat (nm (s, m, h, d, ht, cy)) = nm (s, m, h, d, ht, cy) := rfl
  rw [f4] at e4
  rw [f5] at e5
  rw [e1, e3, e4, e5]
  simp only [Option.bind_some, fl]
  rw [e2]
  simp only [Option.bind_some, fl]
  simp [e6, e7, e8, wrap64]
end Go.Proofs.Ytkfjofkocccefaa.Pure
