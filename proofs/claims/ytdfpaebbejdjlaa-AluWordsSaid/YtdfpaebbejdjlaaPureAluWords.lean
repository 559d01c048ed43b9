/- The plain law of AluWords. -/
import Derived.Test.YtdfpaebbejdjlaaNum
import Derived.Test.YtdfpaebbejdjlaaG19
import Derived.Test.YtdfpaebbejdjlaaPure02
namespace Go.Proofs.Ytdfpaebbejdjlaa.Pure
open Go.RowKit Go.Proofs.Ytdfpaebbejdjlaa.G Go.Proofs.Ytdfpaebbejdjlaa.Hand
open Go.Proofs.YtdfpaebbejdjlaaW.PrintWords Go.Proofs.YtdfpaebbejdjlaaW.PrintLast Go.Proofs.YtdfpaebbejdjlaaW.PrintMore
set_option maxRecDepth 100000
set_option linter.unusedVariables false
theorem AluWords (a b : Int) (z n h c : Bool) (w0 : (Lit.int .u16 a).wf = true) (w1 : (Lit.int .u16 b).wf = true) : ∃ k, whirligiglaw02_AluWords.f k a b z n h c = some true := by
  have ba := u16_bd w0
  have bb := u16_bd w1
  have bm : 0 ≤ a % 256 ∧ a % 256 ≤ 255 := by omega
  have bn : 0 ≤ b % 256 ∧ b % 256 ≤ 255 := by omega
  have e1 : IntKind.u16.wrap (a + b) = (a + b) % 65536 := IntKind.wrap_u16 _
  have e2 : alu_AddWords.f a b z n h c = some ((a + b) % 65536, z, false, decide (a % 4096 + b % 4096 > 4095), decide (a + b > 65535)) := by
    unfold alu_AddWords.f
    rw [if_pos ⟨ba.1, ba.2, bb.1, bb.2⟩, e1, half16 a b ba bb]
    have : ((a + b) / 65536 != 0) = decide (a + b > 65535) := by rw [Bool.eq_iff_iff]; simp; clear e1; omega
    rw [this]
  have e3 : whirligigref02_AddWords.f a b z n h c = some ((a + b) % 65536, z, false, decide (a % 4096 + b % 4096 > 4095), decide (a + b > 65535)) := by
    unfold whirligigref02_AddWords.f
    rw [wrap64_in (x := a) (by omega), wrap64_in (x := b) (by omega), wrap64_in (x := a + b) (by omega), Int.tmod_eq_emod_of_nonneg (a := a + b) (by omega), Int.tmod_eq_emod_of_nonneg (a := a) (by omega), Int.tmod_eq_emod_of_nonneg (a := b) (by omega), wrap64_in (x := a % 4096 + b % 4096) (by omega)]
    have : IntKind.u16.wrap ((a + b) % 65536) = (a + b) % 65536 := by rw [IntKind.wrap_u16]; omega
    rw [this]
  generalize hm : b % 256 = m at *
  have e4 : IntKind.u16.wrap (a + IntKind.u16.wrap (IntKind.i16.wrap (IntKind.i8.wrap m))) = (a + (if m < 128 then m else m - 256) + 65536) % 65536 := by
    have q1 : IntKind.i8.wrap m = if m < 128 then m else m - 256 := by
      simp [IntKind.wrap, IntKind.bits, IntKind.signed]; split <;> split <;> omega
    have q2 : IntKind.i16.wrap (if m < 128 then m else m - 256) = if m < 128 then m else m - 256 := by
      simp [IntKind.wrap, IntKind.bits, IntKind.signed]; split <;> split <;> omega
    rw [q1, q2, IntKind.wrap_u16, IntKind.wrap_u16]
    clear e1 e2 e3 q1 q2
    split <;> omega
  have e5 : alu_AddSigned.f a m = some ((a + (if m < 128 then m else m - 256) + 65536) % 65536, false, false, decide (a % 16 + m % 16 > 15), decide (a % 256 + m > 255)) := by
    unfold alu_AddSigned.f
    rw [add_prog (a % 256) m 0 bm bn (by omega), e4]
    have q : (a % 256) % 16 = a % 16 := by omega
    simp [addT, q]
  have e6 : whirligigref02_AddSigned.f a m = some ((a + (if m < 128 then m else m - 256) + 65536) % 65536, false, false, decide (a % 16 + m % 16 > 15), decide (a % 256 + m > 255)) := by
    have q0 : whirligigref01_Signed.f m = some (if m < 128 then m else m - 256) := by
      unfold whirligigref01_Signed.f
      by_cases h : m < 128
      · rw [if_pos h, if_pos h, wrap64_in (by omega)]
      · rw [if_neg h, if_neg h, wrap64_in (x := m) (by omega), wrap64_in (by omega)]
    have bs : -128 ≤ (if m < 128 then m else m - 256) ∧ (if m < 128 then m else m - 256) ≤ 127 := by split <;> omega
    unfold whirligigref02_AddSigned.f
    rw [q0]
    simp only [Option.bind_some]
    generalize (if m < 128 then m else m - 256) = s at *
    clear e1 e2 e3 e4 e5 q0
    rw [wrap64_in (x := a) (by omega), wrap64_in (x := m) (by omega), wrap64_in (x := a + s) (by omega), wrap64_in (x := a + s + 65536) (by omega), Int.tmod_eq_emod_of_nonneg (a := a + s + 65536) (by omega), Int.tmod_eq_emod_of_nonneg (a := a) (b := 16) (by omega), Int.tmod_eq_emod_of_nonneg (a := m) (by omega), Int.tmod_eq_emod_of_nonneg (a := a) (b := 256) (by omega), wrap64_in (x := a % 16 + m % 16) (by omega), wrap64_in (x := a % 256 + m) (by omega)]
    have : IntKind.u16.wrap ((a + s + 65536) % 65536) = (a + s + 65536) % 65536 := by rw [IntKind.wrap_u16]; omega
    rw [this]
  refine ⟨90, ?_⟩
  unfold whirligiglaw02_AluWords.f
  rw [shown_is, e2, e3, hm, e5, e6]
  simp
end Go.Proofs.Ytdfpaebbejdjlaa.Pure
