/- The plain law of RegsFlags. -/
import Derived.Test.YthkoofidnaghcaaNum
import Derived.Test.YthkoofidnaghcaaG41
namespace Go.Proofs.Ythkoofidnaghcaa.Pure
open Go.RowKit Go.Proofs.Ythkoofidnaghcaa.G Go.Proofs.Ythkoofidnaghcaa.Hand
open Go.Proofs.YthkoofidnaghcaaW.PrintWords Go.Proofs.YthkoofidnaghcaaW.PrintLast Go.Proofs.YthkoofidnaghcaaW.PrintMore
set_option maxRecDepth 100000
set_option linter.unusedVariables false
set_option linter.unusedSimpArgs false
theorem shown_is : whirligiglaw04_shown.f 90 = some true := by decide +kernel
theorem of_eq : ∀ v : Fin 256, alu_Of.f (v.val : Int) = whirligigref02_Of.f 90 (v.val : Int) := by decide +kernel
theorem byte_eq : ∀ z n h c : Bool, alu_Byte.f z n h c = whirligigref02_Byte.f z n h c := by decide +kernel
theorem holds_is (a0_0 a0_1 a0_2 a0_3 a0_4 a0_5 a0_6 a0_7 a0_8 a0_9 : Int) (n : Int) (z m h c : Bool) (e : alu_Of.f a0_1 = some (z, m, h, c)) (e2 : whirligigref02_Of.f 90 a0_1 = some (z, m, h, c)) : ∃ t, regs_Holds.f 90 a0_0 a0_1 a0_2 a0_3 a0_4 a0_5 a0_6 a0_7 a0_8 a0_9 n = some t ∧ whirligigref04_Holds.f 90 a0_0 a0_1 a0_2 a0_3 a0_4 a0_5 a0_6 a0_7 a0_8 a0_9 n = some t := by
  unfold regs_Holds.f whirligigref04_Holds.f regs_Flags.f whirligigref04_Flags.f
  rw [e, e2]
  by_cases h0 : n = 0
  · subst h0
    exact ⟨!z, by cases z <;> rfl, by cases z <;> rfl⟩
  by_cases h1 : n = 1
  · subst h1
    exact ⟨z, by cases z <;> rfl, by cases z <;> rfl⟩
  by_cases h2 : n = 2
  · subst h2
    exact ⟨!c, by cases c <;> rfl, by cases c <;> rfl⟩
  by_cases h3 : n = 3
  · subst h3
    exact ⟨c, by cases c <;> rfl, by cases c <;> rfl⟩
  by_cases h4 : n = 4
  · subst h4
    exact ⟨true, rfl, rfl⟩
  exact ⟨false, by simp [regs_Holds.j0, h0, h1, h2, h3, h4], by simp [h0, h1, h2, h3, h4]⟩
theorem RegsFlags (a0_0 a0_1 a0_2 a0_3 a0_4 a0_5 a0_6 a0_7 a0_8 a0_9 : Int) (a1_0 a1_1 a1_2 a1_3 : Bool) (a2 : Int) (w0_0 : (Lit.int .u8 a0_0).wf = true) (w0_1 : (Lit.int .u8 a0_1).wf = true) (w0_2 : (Lit.int .u8 a0_2).wf = true) (w0_3 : (Lit.int .u8 a0_3).wf = true) (w0_4 : (Lit.int .u8 a0_4).wf = true) (w0_5 : (Lit.int .u8 a0_5).wf = true) (w0_6 : (Lit.int .u8 a0_6).wf = true) (w0_7 : (Lit.int .u8 a0_7).wf = true) (w0_8 : (Lit.int .u16 a0_8).wf = true) (w0_9 : (Lit.int .u16 a0_9).wf = true) (w2 : (Lit.int .i64 a2).wf = true) : ∃ k, whirligiglaw04_RegsFlags.f k a0_0 a0_1 a0_2 a0_3 a0_4 a0_5 a0_6 a0_7 a0_8 a0_9 a1_0 a1_1 a1_2 a1_3 a2 = some true := by
  obtain ⟨v, hv⟩ := byte_fin (u8_bd w0_1)
  obtain ⟨t, e⟩ : ∃ t, alu_Of.f a0_1 = some t := ⟨_, rfl⟩
  have e2 : whirligigref02_Of.f 90 a0_1 = some t := by rw [← e, hv]; exact (of_eq v).symm
  obtain ⟨z, m, h, c⟩ := t
  obtain ⟨t, q1, q2⟩ := holds_is a0_0 a0_1 a0_2 a0_3 a0_4 a0_5 a0_6 a0_7 a0_8 a0_9 a2 z m h c e e2
  obtain ⟨x, p1⟩ : ∃ x, alu_Byte.f a1_0 a1_1 a1_2 a1_3 = some x := ⟨_, rfl⟩
  have p2 := (byte_eq a1_0 a1_1 a1_2 a1_3).symm.trans p1
  refine ⟨90, ?_⟩
  unfold whirligiglaw04_RegsFlags.f
  rw [shown_is, q1, q2]
  unfold regs_Flags.f whirligigref04_Flags.f regs_WithFlags.f whirligigref04_WithFlags.f
  rw [e, e2, p1, p2]
  simp
end Go.Proofs.Ythkoofidnaghcaa.Pure
