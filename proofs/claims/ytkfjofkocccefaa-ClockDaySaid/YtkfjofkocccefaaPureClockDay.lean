/- The plain law of ClockDay. -/
import Derived.Test.YtkfjofkocccefaaNum
import Derived.Test.YtkfjofkocccefaaG16
import Derived.Test.YtkfjofkocccefaaPure09
import Derived.Test.YtkfjofkocccefaaPureClockRun
namespace Go.Proofs.Ytkfjofkocccefaa.Pure
open Go.RowKit Go.Proofs.Ytkfjofkocccefaa.G Go.Proofs.Ytkfjofkocccefaa.Hand
open Go.Proofs.YtkfjofkocccefaaW.PrintWords Go.Proofs.YtkfjofkocccefaaW.PrintLast Go.Proofs.YtkfjofkocccefaaW.PrintMore
set_option maxRecDepth 100000
set_option linter.unusedVariables false
/-- The clock so many seconds behind the beginning of day d, a carry once the days are over. -/
def at_ (d : Int) (t : Nat) : C := ((t : Int) % 60, (t : Int) / 60 % 60, (t : Int) / 3600 % 24, (d + (t : Int) / 86400) % 512, false, decide (d + (t : Int) / 86400 ≥ 512))
theorem tk_at (d : Int) (t : Nat) (hd : 0 ≤ d ∧ d ≤ 511) (ht : t < 2 * 86400 - 1) : tk (at_ d t) = at_ d (t + 1) := by
  unfold tk at_
  dsimp only
  rw [if_neg (by simp)]
  have en : ((t + 1 : Nat) : Int) = (t : Int) + 1 := by omega
  rw [en]
  by_cases c1 : (t : Int) % 60 = 59
  · rw [if_neg (by simpa using c1)]
    by_cases c2 : (t : Int) / 60 % 60 = 59
    · rw [if_neg (by simpa using c2)]
      by_cases c3 : (t : Int) / 3600 % 24 = 23
      · rw [if_neg (by simpa using c3)]
        rw [show ((t : Int) + 1) % 60 = 0 by omega, show ((t : Int) + 1) / 60 % 60 = 0 by omega, show ((t : Int) + 1) / 3600 % 24 = 0 by omega, show ((t : Int) + 1) / 86400 = (t : Int) / 86400 + 1 by omega,
          show ((d + (t : Int) / 86400) % 512 + 1) % 512 = (d + ((t : Int) / 86400 + 1)) % 512 by omega]
        have e : (if decide (d + (t : Int) / 86400 ≥ 512) = true then true else (d + (t : Int) / 86400) % 512 == 511) = decide (d + ((t : Int) / 86400 + 1) ≥ 512) := by
          by_cases c4 : d + (t : Int) / 86400 ≥ 512
          · rw [decide_eq_true c4, if_pos rfl, decide_eq_true (by omega)]
          · rw [decide_eq_false c4, if_neg (by simp)]
            rw [Bool.eq_iff_iff]
            simp only [beq_iff_eq, decide_eq_true_eq]
            omega
        rw [e]
      · rw [if_pos c3]
        rw [show ((t : Int) + 1) % 60 = 0 by omega, show ((t : Int) + 1) / 60 % 60 = 0 by omega, show ((t : Int) + 1) / 3600 % 24 = ((t : Int) / 3600 % 24 + 1) % 32 by omega, show ((t : Int) + 1) / 86400 = (t : Int) / 86400 by omega]
    · rw [if_pos c2]
      rw [show ((t : Int) + 1) % 60 = 0 by omega, show ((t : Int) + 1) / 60 % 60 = ((t : Int) / 60 % 60 + 1) % 64 by omega, show ((t : Int) + 1) / 3600 % 24 = (t : Int) / 3600 % 24 by omega, show ((t : Int) + 1) / 86400 = (t : Int) / 86400 by omega]
  · rw [if_pos c1]
    rw [show ((t : Int) + 1) % 60 = ((t : Int) % 60 + 1) % 64 by omega, show ((t : Int) + 1) / 60 % 60 = (t : Int) / 60 % 60 by omega, show ((t : Int) + 1) / 3600 % 24 = (t : Int) / 3600 % 24 by omega, show ((t : Int) + 1) / 86400 = (t : Int) / 86400 by omega]
theorem it_at (d : Int) (hd : 0 ≤ d ∧ d ≤ 511) : ∀ (n t : Nat), t + n < 2 * 86400 → it n (at_ d t) = at_ d (t + n)
  | 0, t, _ => rfl
  | n + 1, t, h => by
    show it n (tk (at_ d t)) = _
    rw [tk_at d t hd (by omega), it_at d hd n (t + 1) (by omega)]
    congr 1
    omega
theorem ClockDay (a0 a1 a2 a3 : Int) (w0 : (Lit.int .u8 a0).wf = true) (w1 : (Lit.int .u8 a1).wf = true) (w2 : (Lit.int .u8 a2).wf = true) (w3 : (Lit.int .u16 a3).wf = true) : ∃ k, whirligiglaw09_ClockDay.f k a0 a1 a2 a3 = some true := by
  have b0 := u8_bd w0
  have b1 := u8_bd w1
  have b2 := u8_bd w2
  have b3 := u16_bd w3
  refine ⟨86402, ?_⟩
  unfold whirligiglaw09_ClockDay.f
  rw [shown_is, Int.tmod_eq_emod_of_nonneg b0.1, Int.tmod_eq_emod_of_nonneg b1.1, Int.tmod_eq_emod_of_nonneg b2.1, Int.tmod_eq_emod_of_nonneg b3.1]
  have h0 : 0 ≤ a0 % 60 ∧ a0 % 60 ≤ 59 := by omega
  have h1 : 0 ≤ a1 % 60 ∧ a1 % 60 ≤ 59 := by omega
  have h2 : 0 ≤ a2 % 24 ∧ a2 % 24 ≤ 23 := by omega
  have h3 : 0 ≤ a3 % 512 ∧ a3 % 512 ≤ 511 := by omega
  generalize a0 % 60 = s at h0 ⊢
  generalize a1 % 60 = m at h1 ⊢
  generalize a2 % 24 = h at h2 ⊢
  generalize a3 % 512 = d at h3 ⊢
  have ok1 : okC (s, m, h, d, false, false) := ⟨by dsimp only; omega, by dsimp only; omega, by dsimp only; omega, by dsimp only; omega⟩
  have ok2 : okC (s, m, h, d, true, false) := ⟨by dsimp only; omega, by dsimp only; omega, by dsimp only; omega, by dsimp only; omega⟩
  have e1 := run_prog 86402 86400 _ ok1.wide (by omega) (by omega) (by decide)
  have e2 := run_prog 86402 86400 _ ok2.wide (by omega) (by omega) (by decide)
  have e3 := tick_ok _ ok2
  rw [nm_of ok1, show (86400 : Int).toNat = 86400 by rfl] at e1
  rw [nm_of ok2, it_stay _ (show tk (s, m, h, d, true, false) = (s, m, h, d, true, false) from rfl)] at e2
  rw [show tk (s, m, h, d, true, false) = (s, m, h, d, true, false) from rfl] at e3
  have hc : ((s, m, h, d, false, false) : C) = at_ d (s + 60 * m + 3600 * h).toNat := by
    unfold at_
    have e : (((s + 60 * m + 3600 * h).toNat : Nat) : Int) = s + 60 * m + 3600 * h := by omega
    rw [e, show (s + 60 * m + 3600 * h) % 60 = s by omega, show (s + 60 * m + 3600 * h) / 60 % 60 = m by omega, show (s + 60 * m + 3600 * h) / 3600 % 24 = h by omega, show (s + 60 * m + 3600 * h) / 86400 = 0 by omega, show (d + 0) % 512 = d by omega, decide_eq_false (by omega)]
  have ht : (s + 60 * m + 3600 * h).toNat < 86400 := by omega
  have hd := it_at d h3 86400 (s + 60 * m + 3600 * h).toNat (by omega)
  have hr : at_ d ((s + 60 * m + 3600 * h).toNat + 86400) = (s, m, h, (d + 1) % 512, false, decide (d = 511)) := by
    unfold at_
    have e : (((s + 60 * m + 3600 * h).toNat + 86400 : Nat) : Int) = s + 60 * m + 3600 * h + 86400 := by omega
    have e5 : decide (d + (s + 60 * m + 3600 * h + 86400) / 86400 ≥ 512) = decide (d = 511) := by
      rw [Bool.eq_iff_iff]
      simp only [decide_eq_true_eq]
      omega
    rw [e, e5, show (s + 60 * m + 3600 * h + 86400) % 60 = s by omega, show (s + 60 * m + 3600 * h + 86400) / 60 % 60 = m by omega, show (s + 60 * m + 3600 * h + 86400) / 3600 % 24 = h by omega, show (s + 60 * m + 3600 * h + 86400) / 86400 = 1 by omega]
  rw [hc, hd, hr] at e1
  rw [← hc] at e1
  dsimp only at e1 e2 e3
  rw [e1, e2, e3]
  have ew : Int.tmod (IntKind.u16.wrap (d + 1)) 512 = (d + 1) % 512 := by
    rw [IntKind.wrap_u16, Int.tmod_eq_emod_of_nonneg (by omega)]; omega
  have ed : decide (d = 511) = (d == 511) := by rw [Bool.eq_iff_iff]; simp
  simp [fl, ew, ed]
end Go.Proofs.Ytkfjofkocccefaa.Pure
