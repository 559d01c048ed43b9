/- The plain law of MapperRams. -/
import Derived.Test.YtkogdocpldfmnaaNum
import Derived.Test.YtkogdocpldfmnaaG13
import Derived.Test.YtkogdocpldfmnaaPure08
namespace Go.Proofs.Ytkogdocpldfmnaa.Pure
open Go.RowKit Go.Proofs.Ytkogdocpldfmnaa.G Go.Proofs.Ytkogdocpldfmnaa.Hand
open Go.Proofs.YtkogdocpldfmnaaW.PrintWords Go.Proofs.YtkogdocpldfmnaaW.PrintLast Go.Proofs.YtkogdocpldfmnaaW.PrintMore
set_option maxRecDepth 100000
set_option linter.unusedVariables false
set_option linter.unusedSimpArgs false
theorem win_is (a : Int) : whirligigref08_window.f a = some (decide (a / 8192 = 5)) := by
  unfold whirligigref08_window.f
  by_cases c : a ≥ 40960
  · rw [if_pos c]
    congr 1
    rw [decide_eq_decide]
    omega
  · rw [if_neg c, decide_eq_false (by omega)]
theorem reg_same (k : Int) (o : Bool) (l h r : Int) (md : Bool) (a : Int) (ha : 0 ≤ a ∧ a ≤ 65535) : mapper_Reg.f k o l h r md a = whirligigref08_Reg.f k o l h r md a := by
  unfold mapper_Reg.f whirligigref08_Reg.f mapper_inside.f
  rw [win_is a, show ((a / 8192 == 5) = decide (a / 8192 = 5)) by rw [Bool.eq_iff_iff]; simp]
  simp only [Option.bind_some]
  split <;> (try rfl)
  split <;> (try rfl)
  split <;> (try rfl)
  by_cases c : r < 8
  · rw [if_pos c, if_neg (show ¬ r ≥ 8 by omega)]
  · rw [if_neg c, if_pos (show r ≥ 8 by omega)]
    by_cases c2 : r > 12
    · rw [if_pos c2, if_neg (show ¬ r ≤ 12 by omega)]
    · rw [if_neg c2, if_pos (show r ≤ 12 by omega)]
theorem ram_ref (k : Int) (o : Bool) (l h r : Int) (md : Bool) (a s : Int) (ha : 0 ≤ a ∧ a ≤ 65535) : whirligigref08_Ram.f 2 k o l h r md a s = some (ramF k o h r md a s) := by
  unfold whirligigref08_Ram.f
  rw [win_is a]
  simp only [Option.bind_some, whirligigref08_Ram.j0, if_true]
  unfold ramF ramR ramZ
  by_cases c0 : s < 1
  · rw [if_pos c0]
    simp only [c0, if_true, ite_self]
  rw [if_neg c0]
  simp only [c0, if_false]
  by_cases c1 : a / 8192 = 5
  · have hm : ∀ x : Int, Int.tmod (wrap64 ((wrap64 ((wrap64 (8192 * x)) + (wrap64 a))) - 40960)) s = Int.tmod (wrap64 (wrap64 (wrap64 (x * 8192) + a) - 40960)) s := by
      intro x; rw [Int.mul_comm, wrap64_in (x := a) (by omega)]
    have hz : Int.tmod (wrap64 ((wrap64 ((8192 * 0) + (wrap64 a))) - 40960)) s = (a - 40960) % s := by
      rw [wrap64_in (x := a) (by omega), show (8192 * 0 + a : Int) = a by omega, wrap64_in (x := a) (by omega), wrap64_in (x := a - 40960) (by omega), Int.tmod_eq_emod_of_nonneg (by omega)]
    rw [hz, hm, hm]
    simp only [c1, decide_true, Bool.not_true, Bool.false_eq_true, if_false, not_true_eq_false, show ¬ s = 0 by omega, if_true]
    by_cases k1 : k = 1
    · subst k1; cases o <;> cases md <;> simp
    by_cases k3 : k = 3
    · subst k3
      cases o
      · simp
      · by_cases hr : r < 8
        · simp [hr, show ¬ r > 7 by omega]
        · simp [hr, show r > 7 by omega]
    by_cases k5 : k = 5
    · subst k5; cases o <;> simp
    · simp [k1, k3, k5]
  · simp only [c1, decide_false, Bool.not_false, if_true, not_false_eq_true, ite_self]
theorem MapperRams (k : Int) (o : Bool) (l h r : Int) (md : Bool) (a s : Int) (w0 : (Lit.int .i64 k).wf = true) (w1 : (Lit.int .u8 l).wf = true) (w2 : (Lit.int .u8 h).wf = true) (w3 : (Lit.int .u8 r).wf = true) (w4 : (Lit.int .u16 a).wf = true) (w5 : (Lit.int .i64 s).wf = true) : ∃ n, whirligiglaw08_MapperRams.f n k o l h r md a s = some true := by
  have ha := u16_bd w4
  refine ⟨2, ?_⟩
  unfold whirligiglaw08_MapperRams.f mapper_Ram.f
  rw [shown_is, ram_ref k o l h r md a s ha, reg_same k o l h r md a ha]
  have hs : ∃ x, whirligigref08_Reg.f k o l h r md a = some x := by
    unfold whirligigref08_Reg.f
    rw [win_is a]
    simp only [Option.bind_some]
    repeat' (first | exact ⟨_, rfl⟩ | split)
  obtain ⟨x, hx⟩ := hs
  rw [hx]
  simp
end Go.Proofs.Ytkogdocpldfmnaa.Pure
