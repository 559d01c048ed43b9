/- The plain law of HeaderTurned: a head that is right, of which one byte is another one, is refused. -/
import Derived.Test.YtmlpijlnchnabaaPureTurn
import Derived.Test.YtmlpijlnchnabaaG21
namespace Go.Proofs.Ytmlpijlnchnabaa.Pure
open Go.RowKit Go.Proofs.Ytmlpijlnchnabaa.G Go.Proofs.Ytmlpijlnchnabaa.Hand
open Go.Proofs.YtmlpijlnchnabaaW.PrintWords Go.Proofs.YtmlpijlnchnabaaW.PrintLast Go.Proofs.YtmlpijlnchnabaaW.PrintMore
set_option maxRecDepth 100000
set_option linter.unusedVariables false
set_option linter.unusedSimpArgs false
theorem HeaderTurned (s : ByteArray) (kd rom ram : Int) (l : List Int) (at_ by_ : Int) (w0 : s.size ≤ 9223372036854775807) (w1 : (Lit.int .u8 kd).wf = true) (w2 : (Lit.int .u8 rom).wf = true) (w3 : (Lit.int .u8 ram).wf = true) (w4 : l.length ≤ 9223372036854775807) (y4 : ∀ x ∈ l, 0 ≤ x ∧ x ≤ 255) (w5 : (Lit.int .u8 at_).wf = true) (w6 : (Lit.int .u8 by_).wf = true) : ∃ k, whirligiglaw07_HeaderTurned.f k s kd rom ram l at_ by_ = some true := by
  have ha := u8_bd w5
  have hb := u8_bd w6
  obtain ⟨r, e, g1⟩ := make_total s kd rom ram l (u8_bd w1) (u8_bd w2) (u8_bd w3) y4
  refine ⟨1, ?_⟩
  unfold whirligiglaw07_HeaderTurned.f
  rw [shown_all _ (by omega), g1]
  simp only [Option.bind_some]
  by_cases he : e = 0
  case neg => rw [if_neg he, whirligiglaw07_HeaderTurned.j0, if_pos rfl]
  subst he
  obtain ⟨m1, m2, m3⟩ := made (u8_bd w1) (u8_bd w2) (u8_bd w3) y4 g1
  rw [if_pos rfl, whirligiglaw07_HeaderTurned.j0]
  by_cases h0 : by_ = 0
  · rw [if_pos (by rw [h0]; rfl)]
  rw [if_neg (by simp [h0]), if_neg (show ¬ (r.length : Int) < 336 by omega)]
  have ek : wrap64 (308 + Int.tmod (wrap64 at_) 26) = 308 + at_ % 26 := by
    rw [wrap64_in (x := at_) (by omega), Int.tmod_eq_emod_of_nonneg ha.1, wrap64_in (by omega)]
  rw [ek, if_pos (by omega), if_pos (by omega)]
  have hr := rd_byte m2 (308 + at_ % 26)
  obtain ⟨x1, x2, x3⟩ := xor_other (rd r (308 + at_ % 26)) by_ hr hb h0
  have en : (308 + at_ % 26) = (((308 + at_ % 26).toNat : Nat) : Int) := by omega
  have ht := turned m2 (by omega) m3 (308 + at_ % 26).toNat (by omega) (Go.bits .xor .u8 (rd r (308 + at_ % 26)) by_) ⟨x2, x3⟩ (by rw [← en]; exact x1)
  obtain ⟨e, e1, e2⟩ := refused (bytes_set m2 (308 + at_ % 26).toNat _ ⟨x2, x3⟩) (by rw [List.length_set]; omega) ht
  rw [e2]
  simp only [Option.bind_some]
  simp [e1, ByteArray.toList_eq]
end Go.Proofs.Ytmlpijlnchnabaa.Pure
