/- The mapper: the document's examples; what Bank and Ram come to. -/
import Derived.Test.YtkogdocpldfmnaaNum
import Derived.Test.YtkogdocpldfmnaaHBank
import Derived.Test.YtkogdocpldfmnaaHRam
import Derived.Test.YtkogdocpldfmnaaHRBank
import Derived.Test.YtkogdocpldfmnaaG5
namespace Go.Proofs.Ytkogdocpldfmnaa.Pure
open Go.RowKit Go.Proofs.Ytkogdocpldfmnaa.G Go.Proofs.Ytkogdocpldfmnaa.Hand
open Go.Proofs.YtkogdocpldfmnaaW.PrintWords Go.Proofs.YtkogdocpldfmnaaW.PrintLast Go.Proofs.YtkogdocpldfmnaaW.PrintMore
set_option maxRecDepth 100000
set_option linter.unusedVariables false
set_option linter.unusedSimpArgs false
theorem shown_is : whirligiglaw08_shown.f = some true := by decide +kernel
theorem least_is (l : Int) (h : 0 ≤ l ∧ l ≤ 255) : leastF l = if wrap64 l = 0 then 1 else wrap64 l := by
  unfold leastF
  rw [wrap64_in (x := l) (by omega)]
  by_cases c : l = 0
  · rw [if_pos (by omega), if_pos c]
  · rw [if_neg (by omega), if_neg c]
theorem bank_same (k l h : Int) (md : Bool) (a : Int) (hl : 0 ≤ l ∧ l ≤ 255) (ha : 0 ≤ a ∧ a ≤ 65535) : bankF k l h md (a / 16384) = rbankF k l h md a := by
  unfold bankF rbankF
  rw [least_is l hl]
  by_cases c0 : a > 32767
  · rw [if_pos c0, if_neg (by omega), if_neg (by omega)]
  rw [if_neg c0]
  by_cases c1 : a > 16383
  · rw [if_neg (by omega), if_pos (by omega)]
    simp only [c1, if_true]
  · rw [if_pos (by omega)]
    simp only [c1, if_false]
    by_cases k1 : k = 1
    · rw [if_pos k1, if_pos k1]
    · rw [if_neg k1, if_neg k1]
      split <;> (try rfl)
      split <;> rfl
theorem bank_bd (k l h : Int) (md : Bool) (q : Int) (hl : 0 ≤ l ∧ l ≤ 255) (hh : 0 ≤ h ∧ h ≤ 255) : 0 ≤ bankF k l h md q ∧ bankF k l h md q ≤ 70000 := by
  unfold bankF
  rw [least_is l hl, wrap64_in (x := l) (by omega), wrap64_in (x := h) (by omega), wrap64_in (x := 32 * h) (by omega), wrap64_in (x := 256 * h) (by omega), wrap64_in (x := 256 * h + l) (by omega)]
  have e : ∀ x : Int, 0 ≤ x → x ≤ 255 → wrap64 (32 * h + x) = 32 * h + x := fun x h1 h2 => wrap64_in (by omega)
  rw [e _ (by split <;> omega) (by split <;> omega)]
  split
  · split
    · split <;> omega
    · omega
  · split
    · split
      · split <;> omega
      · split
        · split <;> omega
        · split <;> omega
    · omega
end Go.Proofs.Ytkogdocpldfmnaa.Pure
