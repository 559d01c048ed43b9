/- Written by a program of this session, after the kit's print: Go functions as Lean functions, each with the proof that the Go text comes to it. -/
import Derived.Test.YthkoofidnaghcaaG0
namespace Go.Proofs.Ythkoofidnaghcaa.G
open Go.RowKit Go.Proofs.YthkoofidnaghcaaW.PrintWords Go.Proofs.YthkoofidnaghcaaW.PrintLast Go.Proofs.YthkoofidnaghcaaW.PrintMore
attribute [local go_sem] max2_int min2_int max_two min_two max_three min_three max_four min_four   -- for this text's walks alone
set_option linter.unusedVariables false
set_option linter.unusedSimpArgs false

/-! ### whirligigref04_names: function 40 -/
def whirligigref04_names.f (a0 : Int) : Option (ByteArray) := if 0 ≤ (wrap64 (3 * a0)) then (if (wrap64 (3 * a0)) ≤ (wrap64 ((wrap64 (3 * a0)) + 3)) then (if (wrap64 ((wrap64 (3 * a0)) + 3)) ≤ 18 then (some ((⟨#[65, 70, 61, 66, 67, 61, 68, 69, 61, 72, 76, 61, 83, 80, 61, 80, 67, 61]⟩ : ByteArray).extract ((wrap64 (3 * a0)) : Int).toNat ((wrap64 ((wrap64 (3 * a0)) + 3)) : Int).toNat)) else (none)) else (none)) else (none)
set_option maxHeartbeats 8000000 in
set_option maxRecDepth 100000 in
theorem whirligigref04_names.calls (a0 : Int) (r : ByteArray) (w : World) (h : whirligigref04_names.f a0 = some r) :
    Calls Try.prog 40 #[.int .i64 a0] w fun e w' => e = .returned (.string r) ∧ Drawn0 w w' := by
  have H : (if 0 ≤ (wrap64 (3 * a0)) then (if (wrap64 (3 * a0)) ≤ (wrap64 ((wrap64 (3 * a0)) + 3)) then (if (wrap64 ((wrap64 (3 * a0)) + 3)) ≤ 18 then (some ((⟨#[65, 70, 61, 66, 67, 61, 68, 69, 61, 72, 76, 61, 83, 80, 61, 80, 67, 61]⟩ : ByteArray).extract ((wrap64 (3 * a0)) : Int).toNat ((wrap64 ((wrap64 (3 * a0)) + 3)) : Int).toNat)) else (none)) else (none)) else (none)) = some r := h
  clear h
  obtain ⟨ji2, hji2⟩ : ∃ j_ : Int, (wrap64 (3 * a0)) = j_ := ⟨_, rfl⟩
  replace H : (if 0 ≤ (ji2) then (if (ji2) ≤ (wrap64 ((ji2) + 3)) then (if (wrap64 ((ji2) + 3)) ≤ 18 then (some ((⟨#[65, 70, 61, 66, 67, 61, 68, 69, 61, 72, 76, 61, 83, 80, 61, 80, 67, 61]⟩ : ByteArray).extract ((ji2) : Int).toNat ((wrap64 ((ji2) + 3)) : Int).toNat)) else (none)) else (none)) else (none)) = some r := by first | (rw [hji2] at H; exact H) | (simp only [hji2] at H ⊢; exact H)
  have hji2w : (IntKind.i64.wrap (3 * a0)) = ji2 := (i64_w _).trans hji2
  by_cases c3 : 0 ≤ (ji2)
  · rw [if_pos c3] at H
    have c3b0 := eq_true c3
    have c3b1 : decide (0 ≤ (ji2)) = true := decide_eq_true c3
    clear c3
    by_cases c4 : (ji2) ≤ (wrap64 ((ji2) + 3))
    · rw [if_pos c4] at H
      have c4b0 := eq_true c4
      have c4b1 : decide ((ji2) ≤ (wrap64 ((ji2) + 3))) = true := decide_eq_true c4
      by_cases c5 : (wrap64 ((ji2) + 3)) ≤ 18
      · rw [if_pos c5] at H
        have c5b0 := eq_true c5
        have c5b1 : decide ((wrap64 ((ji2) + 3)) ≤ 18) = true := decide_eq_true c5
        obtain rfl := Option.some.inj H
        go_enter Try.func40, Try.ntmps40
        go_wp2
        go_ret
        exact ⟨by first | rfl | (simp; done) | (simp only [← hji2] <;> (first | rfl | simp)) | (simp [*]; done), by repeat (first | exact Drawn0.refl _ | apply Drawn0.step)⟩
      · rw [if_neg c5] at H
        exact absurd H (by simp)
    · rw [if_neg c4] at H
      exact absurd H (by simp)
  · rw [if_neg c3] at H
    exact absurd H (by simp)

end Go.Proofs.Ythkoofidnaghcaa.G
