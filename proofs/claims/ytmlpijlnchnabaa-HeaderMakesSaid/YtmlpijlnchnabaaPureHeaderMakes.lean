/- The plain law of HeaderMakes: an image that is wished is made, or refused, as the document says. -/
import Derived.Test.YtmlpijlnchnabaaPureMakeSame
import Derived.Test.YtmlpijlnchnabaaG19
namespace Go.Proofs.Ytmlpijlnchnabaa.Pure
open Go.RowKit Go.Proofs.Ytmlpijlnchnabaa.G Go.Proofs.Ytmlpijlnchnabaa.Hand
open Go.Proofs.YtmlpijlnchnabaaW.PrintWords Go.Proofs.YtmlpijlnchnabaaW.PrintLast Go.Proofs.YtmlpijlnchnabaaW.PrintMore
set_option maxRecDepth 100000
set_option linter.unusedVariables false
set_option linter.unusedSimpArgs false
theorem most336 : ∀ v : Fin 9, wrap64 (shl .i64 32768 (v.val : Int) - 336) ≤ 8388272 := by decide +kernel
theorem most336_is (r : Int) (h : 0 ≤ r ∧ r ≤ 8) : wrap64 (shl .i64 32768 r - 336) ≤ 8388272 := by
  have q := most336 ⟨r.toNat, by omega⟩
  rw [show ((⟨r.toNat, by omega⟩ : Fin 9).val : Int) = r by show (r.toNat : Int) = r; omega] at q
  exact q
theorem ref_j1 (K : Nat) (s : ByteArray) (kd rom ram : Int) (l : List Int) : whirligigref07_Make.j1 (K + 1) s kd rom ram l true = some ([], 5) := by
  rw [whirligigref07_Make.j1, if_pos rfl]
theorem ref_j1' (K : Nat) (s : ByteArray) (kd rom ram : Int) (l : List Int) : whirligigref07_Make.j1 (K + 1) s kd rom ram l false = whirligigref07_Make.l1 K s kd rom ram l (titleB s 0) 0 := by
  rw [whirligigref07_Make.j1, if_neg (by decide), if_pos (by decide)]
  simp only [Option.bind_some]
  rw [if_pos (by decide), if_pos (by decide), if_pos (by decide)]
  rfl
theorem make_same (s : ByteArray) (kd rom ram : Int) (l : List Int) (h1 : 0 ≤ kd ∧ kd ≤ 255) (h2 : 0 ≤ rom ∧ rom ≤ 255) (h3 : 0 ≤ ram ∧ ram ≤ 255) (hl : bytes l) :
    ∃ r, header_Make.f s kd rom ram l = some r ∧ whirligigref07_Make.f (l.length + 500 + s.size) s kd rom ram l = some r := by
  unfold header_Make.f whirligigref07_Make.f
  by_cases hs : (s.size : Int) ≤ 16
  case neg => rw [if_neg hs, if_pos (by omega)]; exact ⟨_, rfl, rfl⟩
  rw [if_pos hs, if_neg (show ¬ (s.size : Int) > 16 by omega)]
  obtain ⟨a1, a2⟩ := ref_signs s kd rom ram l (by omega) s.size 0 (l.length + 499) (by omega)
  rw [show l.length + 499 + 1 + s.size = l.length + 500 + s.size by omega, show ((0 : Nat) : Int) = 0 from rfl] at a1 a2
  by_cases ht : titleOk s = true
  case neg =>
    rw [if_neg ht, a2 (fun z => ht ((titleOk_iff s).mpr fun i hi => z i (Nat.zero_le _) hi))]
    exact ⟨_, rfl, rfl⟩
  rw [if_pos ht, a1 (fun i _ hi => (titleOk_iff s).mp ht i hi), if_pos ⟨h1.1, h1.2, h2.1⟩]
  rw [whirligigref07_Make.l0, if_neg (show ¬ (s.size : Int) < (s.size : Int) by omega), kinds_is kd h1 (l.length + 499) (by omega)]
  simp only [Option.bind_some]
  by_cases hok : (wareT kd).2.2.2.2 = true
  case neg => rw [if_neg hok, if_neg hok]; exact ⟨_, rfl, rfl⟩
  rw [if_pos hok, if_pos hok]
  by_cases h8 : rom ≤ 8
  case neg => rw [if_neg (fun z => h8 z.1), if_pos (by omega), ref_j1 (l.length + 498)]; exact ⟨_, rfl, rfl⟩
  rw [if_neg (show ¬ rom > 8 by omega)]
  by_cases h5 : ram ≤ 5
  case neg => rw [if_neg (fun z => h5 z.2.1), if_pos (by omega), ref_j1 (l.length + 498)]; exact ⟨_, rfl, rfl⟩
  rw [if_neg (show ¬ ram > 5 by omega), (most_is rom ⟨h2.1, h8⟩).1 (l.length + 499) (by omega)]
  simp only [Option.bind_some]
  have hm8 := most336_is rom ⟨h2.1, h8⟩
  by_cases hm : (l.length : Int) ≤ wrap64 (shl .i64 32768 rom - 336)
  case neg => rw [if_neg (fun z => hm z.2.2), decide_eq_true (show (l.length : Int) > wrap64 (shl .i64 32768 rom - 336) by omega), ref_j1 (l.length + 498)]; exact ⟨_, rfl, rfl⟩
  rw [if_pos ⟨h8, h5, hm⟩, decide_eq_false (show ¬ (l.length : Int) > wrap64 (shl .i64 32768 rom - 336) by omega), ref_j1' (l.length + 498)]
  obtain ⟨v, g1, g2, g3, g4⟩ := ref_final s kd rom ram l h1 h2 h3 hl (by omega) (l.length + 497 - s.size) (by omega)
  have g5 := ref_title s (by omega) kd rom ram l s.size 0 (l.length + 497 - s.size + 1) (by omega)
  rw [show l.length + 497 - s.size + 1 + s.size = l.length + 498 by omega, show ((0 : Nat) : Int) = 0 from rfl] at g5
  rw [g5, g4, makeL_is s kd rom ram l (by omega)]
  refine ⟨_, ?_, rfl⟩
  have g6 : header_Whole.f (337 + l.length) ((headY s kd rom ram).set 333 (sumTo (headY s kd rom ram) 25) ++ l) = some v := g1
  rw [g6]
  rfl
theorem HeaderMakes (s : ByteArray) (kd rom ram : Int) (l : List Int) (w0 : s.size ≤ 9223372036854775807) (w1 : (Lit.int .u8 kd).wf = true) (w2 : (Lit.int .u8 rom).wf = true) (w3 : (Lit.int .u8 ram).wf = true) (w4 : l.length ≤ 9223372036854775807) (y4 : ∀ x ∈ l, 0 ≤ x ∧ x ≤ 255) : ∃ k, whirligiglaw07_HeaderMakes.f k s kd rom ram l = some true := by
  obtain ⟨r, g1, g2⟩ := make_same s kd rom ram l (u8_bd w1) (u8_bd w2) (u8_bd w3) y4
  refine ⟨l.length + 500 + s.size, ?_⟩
  unfold whirligiglaw07_HeaderMakes.f
  rw [shown_all _ (by omega), g1, g2]
  simp
end Go.Proofs.Ytmlpijlnchnabaa.Pure
