/- What header.Make comes to, and what the reference's Make comes to, are the same image. -/
import Derived.Test.YtmlpijlnchnabaaPureImage
import Derived.Test.YtmlpijlnchnabaaPureKinds
import Derived.Test.YtmlpijlnchnabaaG18
namespace Go.Proofs.Ytmlpijlnchnabaa.Pure
open Go.RowKit Go.Proofs.Ytmlpijlnchnabaa.G Go.Proofs.Ytmlpijlnchnabaa.Hand
open Go.Proofs.YtmlpijlnchnabaaW.PrintWords Go.Proofs.YtmlpijlnchnabaaW.PrintLast Go.Proofs.YtmlpijlnchnabaaW.PrintMore
set_option maxRecDepth 100000
set_option linter.unusedVariables false
set_option linter.unusedSimpArgs false
/-- The reference behind the title: the sums and the code. -/
theorem ref_final (s : ByteArray) (kd rom ram : Int) (l : List Int) (h1 : 0 ≤ kd ∧ kd ≤ 255) (h2 : 0 ≤ rom ∧ rom ≤ 255) (h3 : 0 ≤ ram ∧ ram ≤ 255) (hl : bytes l) (hn : l.length ≤ 8388272) (K : Nat) (hK : 400 + l.length ≤ K) :
    ∃ v, header_Whole.f (337 + l.length) (imageL s kd rom ram l) = some v ∧ 0 ≤ v ∧ v ≤ 65535 ∧
    whirligigref07_Make.l1 (K + 1) s kd rom ram l (titleB s s.size) (s.size : Int) = some (((imageL s kd rom ram l).set 334 (v / 256 % 256)).set 335 (v % 256), 0) := by
  have hz := titleB_length s s.size
  have hI := imageL_length s kd rom ram l
  have hIb := imageL_bytes s kd rom ram l h1 h2 h3 hl
  obtain ⟨v, g1, _, g3, g4⟩ := whole_same hIb (by omega) (337 + l.length) (by omega)
  obtain ⟨v', g5, g6, _, _⟩ := whole_same hIb (by omega) K (by omega)
  have hv : v' = v := by
    have q := more (f := fun k => header_Whole.f k (imageL s kd rom ram l)) (fun k => header_Whole.mono _ k) g1 K (by omega)
    have q2 : some v' = some v := g5.symm.trans q
    exact Option.some.inj q2
  subst hv
  refine ⟨v', g1, g3, g4, ?_⟩
  rw [whirligigref07_Make.l1, if_neg (by omega), if_pos (show (327 : Int) < ((titleB s s.size).length : Int) by omega), if_pos (show (328 : Int) < ((titleB s s.size).length : Int) by omega), if_pos (show (329 : Int) < ((titleB s s.size).length : Int) by omega)]
  simp only [Option.bind_some]
  have hy : ((((titleB s s.size).set (327 : Int).toNat kd).set (328 : Int).toNat rom).set (329 : Int).toNat ram) = headY s kd rom ram := rfl
  have hsum : whirligigref07_Sum.f K (headY s kd rom ram) = some (sumTo (headY s kd rom ram) 25, 0) := by
    unfold whirligigref07_Sum.f
    rw [if_neg (by rw [headY_length]; omega)]
    exact sum_step (headY_bytes s kd rom ram h1 h2 h3) (by rw [headY_length]; omega) 25 0 K rfl (by omega)
  rw [hy, hsum]
  simp only [Option.bind_some]
  rw [if_pos (show (333 : Int) < ((titleB s s.size).length : Int) by omega), if_pos (show ((headY s kd rom ram).set (333 : Int).toNat (sumTo (headY s kd rom ram) 25)).length + l.length < 140737488355328 by rw [List.length_set, headY_length]; omega)]
  have hi : (headY s kd rom ram).set (333 : Int).toNat (sumTo (headY s kd rom ram) 25) ++ l = imageL s kd rom ram l := rfl
  rw [hi, g6]
  simp only [Option.bind_some]
  rw [if_pos (show (334 : Int) < ((imageL s kd rom ram l).length : Int) by rw [hI]; omega), if_pos (show (335 : Int) < ((imageL s kd rom ram l).length : Int) by rw [hI]; omega)]
  have e1 : IntKind.u16.wrap (Int.tdiv v' 256) % 256 = v' / 256 % 256 := by
    rw [Int.tdiv_eq_ediv_of_nonneg g3, IntKind.wrap_u16]; omega
  have e2 : Int.tmod v' 256 % 256 = v' % 256 := by
    rw [Int.tmod_eq_emod_of_nonneg g3]; omega
  rw [e1, e2]
  rfl
theorem ref_title (s : ByteArray) (hs : s.size ≤ 16) (kd rom ram : Int) (l : List Int) : ∀ d j K : Nat, j + d = s.size →
    whirligigref07_Make.l1 (K + d) s kd rom ram l (titleB s j) (j : Int) = whirligigref07_Make.l1 K s kd rom ram l (titleB s s.size) (s.size : Int) := by
  intro d
  induction d with
  | zero =>
    intro j K hj
    obtain rfl : j = s.size := by omega
    rfl
  | succ d ih =>
    intro j K hj
    have hz := titleB_length s j
    rw [show K + (d + 1) = (K + d) + 1 by omega, whirligigref07_Make.l1, if_pos (by omega), if_pos (by omega), wrap64_in (x := 308 + (j : Int)) (by omega), if_pos (by omega), if_pos (by omega), wrap64_in (x := (j : Int) + 1) (by omega)]
    have q := ih (j + 1) K (by omega)
    rw [show ((j + 1 : Nat) : Int) = (j : Int) + 1 by omega] at q
    rw [← q, titleB, show (308 + (j : Int)).toNat = 308 + j by omega]
/-- The test of the title's signs. -/
theorem ref_signs (s : ByteArray) (kd rom ram : Int) (l : List Int) (hs : s.size ≤ 16) : ∀ d j K : Nat, j + d = s.size →
    ((∀ i : Nat, j ≤ i → i < s.size → prb (bt s (i : Int)) = true) → whirligigref07_Make.l0 (K + 1 + d) s kd rom ram l (j : Int) = whirligigref07_Make.l0 (K + 1) s kd rom ram l (s.size : Int)) ∧
    (¬ (∀ i : Nat, j ≤ i → i < s.size → prb (bt s (i : Int)) = true) → whirligigref07_Make.l0 (K + 1 + d) s kd rom ram l (j : Int) = some ([], 1)) := by
  intro d
  induction d with
  | zero =>
    intro j K hj
    obtain rfl : j = s.size := by omega
    exact ⟨fun _ => rfl, fun h => absurd (fun i h1 h2 => absurd h1 (by omega)) h⟩
  | succ d ih =>
    intro j K hj
    rw [show K + 1 + (d + 1) = (K + 1 + d) + 1 by omega]
    have step : whirligigref07_Make.l0 (K + 1 + d + 1) s kd rom ram l (j : Int) = if prb (bt s (j : Int)) = true then whirligigref07_Make.l0 (K + 1 + d) s kd rom ram l ((j + 1 : Nat) : Int) else some ([], 1) := by
      rw [whirligigref07_Make.l0, if_pos (by omega), if_pos (by omega), signs_is]
      simp only [Option.bind_some]
      rw [wrap64_in (x := (j : Int) + 1) (by omega), show ((j + 1 : Nat) : Int) = (j : Int) + 1 by omega]
    rw [step]
    obtain ⟨i1, i2⟩ := ih (j + 1) K (by omega)
    by_cases hp : prb (bt s (j : Int)) = true
    · rw [if_pos hp]
      refine ⟨fun h => i1 (fun i h1 h2 => h i (by omega) h2), fun h => i2 (fun z => h (fun i h1 h2 => ?_))⟩
      rcases Nat.lt_or_ge j i with y | y
      · exact z i (by omega) h2
      · obtain rfl : i = j := by omega
        exact hp
    · rw [if_neg hp]
      exact ⟨fun h => absurd (h j (Nat.le_refl _) (by omega)) hp, fun _ => rfl⟩
end Go.Proofs.Ytmlpijlnchnabaa.Pure
