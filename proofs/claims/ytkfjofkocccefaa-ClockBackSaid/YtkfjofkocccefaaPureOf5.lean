/- Five bytes written one by one onto the zero clock, and read again. -/
import Derived.Test.YtkfjofkocccefaaNum
import Derived.Test.YtkfjofkocccefaaPureClockWrite
import Derived.Test.YtkfjofkocccefaaPureFive
namespace Go.Proofs.Ytkfjofkocccefaa.Pure
open Go.RowKit Go.Proofs.Ytkfjofkocccefaa.G Go.Proofs.Ytkfjofkocccefaa.Hand
open Go.Proofs.YtkfjofkocccefaaW.PrintWords Go.Proofs.YtkfjofkocccefaaW.PrintLast Go.Proofs.YtkfjofkocccefaaW.PrintMore
set_option maxRecDepth 100000
set_option linter.unusedVariables false
set_option linter.unusedSimpArgs false
theorem write_ok (c : C) (h : okC c) (r v : Int) (hv : 0 ≤ v ∧ v ≤ 255) : clock_Write.f c.1 c.2.1 c.2.2.1 c.2.2.2.1 c.2.2.2.2.1 c.2.2.2.2.2 r v = some (fl2 (wrC c r v)) := by
  have := write_prog c h.wide r v hv
  rwa [nm_of h] at this
/-- The clock of five bytes, cut to its widths. -/
def of5 (a b c d e : Int) : C := (a % 64, b % 64, c % 32, d + e % 2 * 256, e / 64 % 2 == 1, decide (128 ≤ e))
theorem of5_ok (a b c d e : Int) (hd : 0 ≤ d ∧ d ≤ 255) : okC (of5 a b c d e) := by
  unfold okC of5; dsimp only; omega
/-- The five writes. -/
theorem writes5 (a b c d e : Int) (ha : 0 ≤ a ∧ a ≤ 255) (hb : 0 ≤ b ∧ b ≤ 255) (hc : 0 ≤ c ∧ c ≤ 255) (hd : 0 ≤ d ∧ d ≤ 255) (he : 0 ≤ e ∧ e ≤ 255) :
    clock_Write.f 0 0 0 0 false false 8 a = some (a % 64, 0, 0, 0, false, false, 0) ∧
    clock_Write.f (a % 64) 0 0 0 false false 9 b = some (a % 64, b % 64, 0, 0, false, false, 0) ∧
    clock_Write.f (a % 64) (b % 64) 0 0 false false 10 c = some (a % 64, b % 64, c % 32, 0, false, false, 0) ∧
    clock_Write.f (a % 64) (b % 64) (c % 32) 0 false false 11 d = some (a % 64, b % 64, c % 32, d, false, false, 0) ∧
    clock_Write.f (a % 64) (b % 64) (c % 32) d false false 12 e = some (a % 64, b % 64, c % 32, d + e % 2 * 256, e / 64 % 2 == 1, decide (128 ≤ e), 0) := by
  refine ⟨?_, ?_, ?_, ?_, ?_⟩
  · have := write_ok (0, 0, 0, 0, false, false) (by unfold okC; dsimp only; omega) 8 a ha
    simpa [wrC, fl2] using this
  · have := write_ok (a % 64, 0, 0, 0, false, false) (by unfold okC; dsimp only; omega) 9 b hb
    simpa [wrC, fl2] using this
  · have := write_ok (a % 64, b % 64, 0, 0, false, false) (by unfold okC; dsimp only; omega) 10 c hc
    simpa [wrC, fl2] using this
  · have := write_ok (a % 64, b % 64, c % 32, 0, false, false) (by unfold okC; dsimp only; omega) 11 d hd
    simpa [wrC, fl2] using this
  · have := write_ok (a % 64, b % 64, c % 32, d, false, false) (by unfold okC; dsimp only; omega) 12 e he
    have ed : d % 256 = d := by omega
    simpa [wrC, fl2, ed] using this
theorem high5 : ∀ v : Fin 256, (Go.bits .or .u8 (Go.bits .or .u8 ((v.val : Int) % 2 % 256) (if ((v.val : Int) / 64 % 2 == 1) = true then 64 else 0)) (if decide (128 ≤ (v.val : Int)) = true then 128 else 0) = (v.val : Int)) ↔ (v.val : Int) % 64 ≤ 1 := by decide +kernel
theorem five_is (a b c d e : Int) (hd : 0 ≤ d ∧ d ≤ 255) : five (of5 a b c d e) = [a % 64, b % 64, c % 32, d, Go.bits .or .u8 (Go.bits .or .u8 (e % 2 % 256) (if (e / 64 % 2 == 1) = true then 64 else 0)) (if decide (128 ≤ e) = true then 128 else 0)] := by
  unfold five
  rw [nm_of (of5_ok a b c d e hd)]
  unfold rdC of5
  dsimp only
  simp only [if_true]
  rw [if_neg (by decide), if_neg (by decide), if_neg (by decide), if_neg (by decide), if_neg (by decide), if_neg (by decide), if_neg (by decide), if_neg (by decide), if_neg (by decide), if_neg (by decide)]
  simp only [if_true]
  rw [show (d + e % 2 * 256) % 256 = d by omega, show (d + e % 2 * 256) / 256 = e % 2 by omega]
/-- The five bytes are found again just where there is such a clock. -/
theorem five_again (a b c d e : Int) (ha : 0 ≤ a ∧ a ≤ 255) (hb : 0 ≤ b ∧ b ≤ 255) (hc : 0 ≤ c ∧ c ≤ 255) (hd : 0 ≤ d ∧ d ≤ 255) (he : 0 ≤ e ∧ e ≤ 255) :
    five (of5 a b c d e) = [a, b, c, d, e] ↔ (a ≤ 63 ∧ b ≤ 63 ∧ c ≤ 31 ∧ e % 64 ≤ 1) := by
  rw [five_is a b c d e hd]
  obtain ⟨v, rfl⟩ := byte_fin he
  have hv := high5 v
  generalize Go.bits .or .u8 (Go.bits .or .u8 ((v.val : Int) % 2 % 256) (if ((v.val : Int) / 64 % 2 == 1) = true then 64 else 0)) (if decide (128 ≤ (v.val : Int)) = true then 128 else 0) = x at hv ⊢
  simp only [List.cons.injEq, and_true]
  constructor
  · rintro ⟨h1, h2, h3, _, h5⟩
    exact ⟨by omega, by omega, by omega, hv.mp h5⟩
  · rintro ⟨h1, h2, h3, h4⟩
    exact ⟨by omega, by omega, by omega, trivial, hv.mpr h4⟩
end Go.Proofs.Ytkfjofkocccefaa.Pure
