/- The plain law of AluBack: what was added is taken away again. -/
import Derived.Test.YtdfpaebbejdjlaaNum
import Derived.Test.YtdfpaebbejdjlaaHBack
import Derived.Test.YtdfpaebbejdjlaaPure02
namespace Go.Proofs.Ytdfpaebbejdjlaa.Pure
open Go.RowKit Go.Proofs.Ytdfpaebbejdjlaa.G Go.Proofs.Ytdfpaebbejdjlaa.Hand
open Go.Proofs.YtdfpaebbejdjlaaW.PrintWords Go.Proofs.YtdfpaebbejdjlaaW.PrintLast Go.Proofs.YtdfpaebbejdjlaaW.PrintMore
set_option maxRecDepth 100000
set_option linter.unusedVariables false
set_option linter.unusedSimpArgs false
def cn (c : Bool) : Int := if c = true then 1 else 0
theorem do1_is (a v : Int) (z n h c : Bool) (ha : 0 ≤ a ∧ a ≤ 255) (hv : 0 ≤ v ∧ v ≤ 255) : alu_Do.f 1 a v z n h c = some (addT a v (cn c)) := by
  unfold alu_Do.f
  rw [if_pos (by decide +kernel)]
  cases c with
  | true => rw [if_pos rfl, add_prog a v 1 ha hv (by omega)]; rfl
  | false => rw [if_neg (by simp), add_prog a v 0 ha hv (by omega)]; rfl
theorem do0_is (a v : Int) (z n h c : Bool) (ha : 0 ≤ a ∧ a ≤ 255) (hv : 0 ≤ v ∧ v ≤ 255) : alu_Do.f 0 a v z n h c = some (addT a v 0) := by
  unfold alu_Do.f
  rw [if_neg (by decide +kernel), if_pos (by decide +kernel), add_prog a v 0 ha hv (by omega)]
  rfl
theorem do3_is (a v : Int) (z n h c : Bool) (ha : 0 ≤ a ∧ a ≤ 255) (hv : 0 ≤ v ∧ v ≤ 255) : alu_Do.f 3 a v z n h c = some (subT a v (cn c)) := by
  unfold alu_Do.f
  rw [if_neg (by decide +kernel), if_neg (by decide +kernel), if_pos (by decide +kernel)]
  cases c with
  | true => rw [if_pos rfl, sub_prog a v 1 ha hv (by omega)]; rfl
  | false => rw [if_neg (by simp), sub_prog a v 0 ha hv (by omega)]; rfl
theorem do2_is (a v : Int) (z n h c : Bool) (ha : 0 ≤ a ∧ a ≤ 255) (hv : 0 ≤ v ∧ v ≤ 255) : alu_Do.f 2 a v z n h c = some (subT a v 0) := by
  unfold alu_Do.f
  rw [if_neg (by decide +kernel), if_neg (by decide +kernel), if_neg (by decide +kernel), if_pos (by decide +kernel), sub_prog a v 0 ha hv (by omega)]
  rfl
theorem do7_is (a v : Int) (z n h c : Bool) (ha : 0 ≤ a ∧ a ≤ 255) (hv : 0 ≤ v ∧ v ≤ 255) : alu_Do.f 7 a v z n h c = some (a, (subT a v 0).2) := by
  unfold alu_Do.f
  rw [if_neg (by decide +kernel), if_neg (by decide +kernel), if_neg (by decide +kernel), if_neg (by decide +kernel), if_pos (by decide +kernel), sub_prog a v 0 ha hv (by omega)]
  rfl
theorem byte_all : ∀ z n h c : Bool, ((alu_Byte.f z n h c).bind fun y => if Go.bits .and .u8 y 15 = 0 then alu_Of.f y else none) = some (z, n, h, c) := by decide +kernel
theorem AluBack (a0 a1 : Int) (z n h c : Bool) (w0 : (Lit.int .u8 a0).wf = true) (w1 : (Lit.int .u8 a1).wf = true) : ∃ k, whirligiglaw02_AluBack.f k a0 a1 z n h c = some true := by
  have b0 := u8_bd w0
  have b1 := u8_bd w1
  have hc : cn c = 0 ∨ cn c = 1 := by cases c <;> simp [cn]
  refine ⟨90, ?_⟩
  obtain ⟨y, hy, hyo⟩ := Option.bind_eq_some_iff.mp (byte_all z n h c)
  rw [Option.ite_none_right_eq_some] at hyo
  obtain ⟨y1, y2⟩ := hyo
  unfold whirligiglaw02_AluBack.f
  rw [shown_is, do1_is a0 a1 z n h c b0 b1]
  simp only [Option.bind_some]
  have bs : 0 ≤ (addT a0 a1 (cn c)).1 ∧ (addT a0 a1 (cn c)).1 ≤ 255 := by unfold addT; dsimp only; omega
  rw [do3_is _ a1 z n h c bs b1, do2_is _ a0 false false false false bs b0]
  unfold alu_Inc.f
  rw [add_prog a0 1 0 b0 (by omega) (by omega)]
  simp only [Option.bind_some]
  unfold alu_Dec.f
  have bi : 0 ≤ (addT a0 1 0).1 ∧ (addT a0 1 0).1 ≤ 255 := by unfold addT; dsimp only; omega
  rw [sub_prog _ 1 0 bi (by omega) (by omega), do0_is a0 a1 z n h c b0 b1]
  simp only [Option.bind_some]
  have bp : 0 ≤ (addT a0 a1 0).1 ∧ (addT a0 a1 0).1 ≤ 255 := by unfold addT; dsimp only; omega
  rw [do7_is _ a0 false false false false bp b0, hy]
  simp only [Option.bind_some]
  rw [y2]
  simp only [Option.bind_some]
  rw [if_pos]
  refine ⟨trivial, ?_⟩
  unfold backOk addT subT
  simp only [Bool.and_eq_true, beq_iff_eq]
  refine ⟨trivial, ?_, ?_, ?_, trivial, ?_, trivial, y1⟩
  · omega
  · cases c with
    | true => rw [if_pos rfl]; simp only [cn, if_true]; omega
    | false => rw [if_neg (by simp)]; simp only [cn]; rw [if_neg (by simp)]; omega
  · omega
  · rw [decide_eq_decide]; omega
end Go.Proofs.Ytdfpaebbejdjlaa.Pure
