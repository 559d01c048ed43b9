/- The plain law of RegsTexts: registers are written as the document says. -/
import Derived.Test.YthkoofidnaghcaaNum
import Derived.Test.YthkoofidnaghcaaPure04
import Derived.Test.YthkoofidnaghcaaG28
namespace Go.Proofs.Ythkoofidnaghcaa.Pure
open Go.RowKit Go.Proofs.Ythkoofidnaghcaa.G Go.Proofs.Ythkoofidnaghcaa.Hand
open Go.Proofs.YthkoofidnaghcaaW.PrintWords Go.Proofs.YthkoofidnaghcaaW.PrintLast Go.Proofs.YthkoofidnaghcaaW.PrintMore
set_option maxRecDepth 100000
set_option linter.unusedVariables false
set_option linter.unusedSimpArgs false
theorem hex_all : ∀ v : Fin 256, ((word_Hex8.f (v.val : Int)).any fun s => s.size == 2) = true ∧ (whirligigref01_Hex8.f (v.val : Int)).map (·.data) = (word_Hex8.f (v.val : Int)).map (·.data) := by decide +kernel
theorem hex8 (x : Int) (h : 0 ≤ x ∧ x ≤ 255) : ∃ s, word_Hex8.f x = some s ∧ whirligigref01_Hex8.f x = some s ∧ s.size = 2 := by
  obtain ⟨v, rfl⟩ := byte_fin h
  obtain ⟨h1, h2⟩ := hex_all v
  cases e : word_Hex8.f (v.val : Int) with
  | none => rw [e] at h1; simp at h1
  | some s =>
    rw [e] at h1 h2
    cases e2 : whirligigref01_Hex8.f (v.val : Int) with
    | none => rw [e2] at h2; simp at h2
    | some u =>
      rw [e2] at h2
      have h3 : u.data = s.data := by simpa using h2
      obtain rfl : u = s := by cases u; cases s; simp_all
      exact ⟨u, rfl, rfl, by simpa using h1⟩
theorem hex16 (a1 : Int) (b1 : 0 ≤ a1 ∧ a1 ≤ 65535) : ∃ s, word_Hex16.f a1 = some s ∧ whirligigref01_Hex16.f a1 = some s ∧ s.size = 4 := by
  have e0 : wrap64 a1 = a1 := wrap64_in (by omega)
  have e1 : wrap64 (Int.tdiv a1 256) % 256 = a1 / 256 := by rw [Int.tdiv_eq_ediv_of_nonneg (by omega), wrap64_in (by omega)]; omega
  have e2 : Int.tmod a1 256 % 256 = a1 % 256 := by rw [Int.tmod_eq_emod_of_nonneg (by omega)]; omega
  have e3 : (a1 / 256) % 256 = a1 / 256 := by omega
  obtain ⟨t, h4, h5, h6⟩ := hex8 (a1 / 256) (by omega)
  obtain ⟨u, h7, h8, h9⟩ := hex8 (a1 % 256) (by omega)
  refine ⟨t ++ u, ?_, ?_, by rw [ByteArray.size_append, h6, h9]⟩
  · unfold word_Hex16.f
    rw [e3, h4, h7]
    simp [h6, h9]
  · unfold whirligigref01_Hex16.f whirligigref01_Split.f
    rw [e0, e1, e2]
    simp [h5, h8, h6, h9]
theorem name0 : whirligigref04_names.f 0 = some ⟨#[65, 70, 61]⟩ := by kernel_rfl
theorem name1 : whirligigref04_names.f 1 = some ⟨#[66, 67, 61]⟩ := by kernel_rfl
theorem name2 : whirligigref04_names.f 2 = some ⟨#[68, 69, 61]⟩ := by kernel_rfl
theorem name3 : whirligigref04_names.f 3 = some ⟨#[72, 76, 61]⟩ := by kernel_rfl
theorem name4 : whirligigref04_names.f 4 = some ⟨#[83, 80, 61]⟩ := by kernel_rfl
theorem name5 : whirligigref04_names.f 5 = some ⟨#[80, 67, 61]⟩ := by kernel_rfl
theorem ref_step (k : Nat) (a0_0 a0_1 a0_2 a0_3 a0_4 a0_5 a0_6 a0_7 a0_8 a0_9 : Int) (i : Int) (x n t : ByteArray) (v : Int) (h0 : 0 < i) (h6 : i < 6) (hn : whirligigref04_names.f i = some n) (hw : whirligigref04_words.f a0_0 a0_1 a0_2 a0_3 a0_4 a0_5 a0_6 a0_7 a0_8 a0_9 i = some v) (ht : whirligigref01_Hex16.f v = some t) (sx : x.size ≤ 100) (sn : n.size = 3) (st : t.size = 4) :
    whirligigref04_Text.l0 (k + 1) x i a0_0 a0_1 a0_2 a0_3 a0_4 a0_5 a0_6 a0_7 a0_8 a0_9 = whirligigref04_Text.l0 k (((x ++ (⟨#[32]⟩ : ByteArray)) ++ n) ++ t) (i + 1) a0_0 a0_1 a0_2 a0_3 a0_4 a0_5 a0_6 a0_7 a0_8 a0_9 := by
  have z : (⟨#[32]⟩ : ByteArray).size = 1 := rfl
  have s1 : x.size + 1 ≤ 9223372036854775807 := by omega
  have s2 : (x ++ (⟨#[32]⟩ : ByteArray)).size + n.size ≤ 9223372036854775807 := by rw [ByteArray.size_append, z]; omega
  have s3 : ((x ++ (⟨#[32]⟩ : ByteArray)) ++ n).size + t.size ≤ 9223372036854775807 := by rw [ByteArray.size_append, ByteArray.size_append, z]; omega
  have e : wrap64 (i + 1) = i + 1 := wrap64_in (by omega)
  have h0' : i > 0 := h0
  simp only [whirligigref04_Text.l0]
  rw [if_pos h6, if_pos h0', if_pos s1, hn, Option.bind_some, if_pos s2, hw, Option.bind_some, ht, Option.bind_some, if_pos s3, e]
theorem ref_first (k : Nat) (a0_0 a0_1 a0_2 a0_3 a0_4 a0_5 a0_6 a0_7 a0_8 a0_9 : Int) (n t : ByteArray) (v : Int) (hn : whirligigref04_names.f 0 = some n) (hw : whirligigref04_words.f a0_0 a0_1 a0_2 a0_3 a0_4 a0_5 a0_6 a0_7 a0_8 a0_9 0 = some v) (ht : whirligigref01_Hex16.f v = some t) (sn : n.size = 3) (st : t.size = 4) :
    whirligigref04_Text.l0 (k + 1) (⟨#[]⟩ : ByteArray) 0 a0_0 a0_1 a0_2 a0_3 a0_4 a0_5 a0_6 a0_7 a0_8 a0_9 = whirligigref04_Text.l0 k (((⟨#[]⟩ : ByteArray) ++ n) ++ t) 1 a0_0 a0_1 a0_2 a0_3 a0_4 a0_5 a0_6 a0_7 a0_8 a0_9 := by
  have z : (⟨#[]⟩ : ByteArray).size = 0 := rfl
  have s2 : (⟨#[]⟩ : ByteArray).size + n.size ≤ 9223372036854775807 := by rw [z]; omega
  have s3 : ((⟨#[]⟩ : ByteArray) ++ n).size + t.size ≤ 9223372036854775807 := by rw [ByteArray.size_append, z]; omega
  have e : wrap64 (0 + 1) = 1 := by kernel_rfl
  simp only [whirligigref04_Text.l0]
  rw [if_pos (by decide), if_neg (by decide), hn, Option.bind_some, if_pos s2, hw, Option.bind_some, ht, Option.bind_some, if_pos s3, e]
theorem ref_last (k : Nat) (a0_0 a0_1 a0_2 a0_3 a0_4 a0_5 a0_6 a0_7 a0_8 a0_9 : Int) (x : ByteArray) : whirligigref04_Text.l0 (k + 1) x 6 a0_0 a0_1 a0_2 a0_3 a0_4 a0_5 a0_6 a0_7 a0_8 a0_9 = some x := by
  simp only [whirligigref04_Text.l0]
  rw [if_neg (by decide)]
theorem join3 (x n m t : ByteArray) (h : (⟨#[32]⟩ : ByteArray) ++ n = m) : ((x ++ (⟨#[32]⟩ : ByteArray)) ++ n) ++ t = x ++ (m ++ t) := by
  rw [← h, ByteArray.append_assoc, ByteArray.append_assoc, ByteArray.append_assoc]
theorem RegsTexts (a0_0 a0_1 a0_2 a0_3 a0_4 a0_5 a0_6 a0_7 a0_8 a0_9 : Int) (w0_0 : (Lit.int .u8 a0_0).wf = true) (w0_1 : (Lit.int .u8 a0_1).wf = true) (w0_2 : (Lit.int .u8 a0_2).wf = true) (w0_3 : (Lit.int .u8 a0_3).wf = true) (w0_4 : (Lit.int .u8 a0_4).wf = true) (w0_5 : (Lit.int .u8 a0_5).wf = true) (w0_6 : (Lit.int .u8 a0_6).wf = true) (w0_7 : (Lit.int .u8 a0_7).wf = true) (w0_8 : (Lit.int .u16 a0_8).wf = true) (w0_9 : (Lit.int .u16 a0_9).wf = true) : ∃ k, whirligiglaw04_RegsTexts.f k a0_0 a0_1 a0_2 a0_3 a0_4 a0_5 a0_6 a0_7 a0_8 a0_9 = some true := by
  have b0 := u8_bd w0_0
  have b1 := u8_bd w0_1
  have b2 := u8_bd w0_2
  have b3 := u8_bd w0_3
  have b4 := u8_bd w0_4
  have b5 := u8_bd w0_5
  have b6 := u8_bd w0_6
  have b7 := u8_bd w0_7
  have b8 := u16_bd w0_8
  have b9 := u16_bd w0_9
  obtain ⟨t0, h0, r0, z0⟩ := hex16 (a0_0 * 256 + a0_1) (by omega)
  obtain ⟨t1, h1, r1, z1⟩ := hex16 (a0_2 * 256 + a0_3) (by omega)
  obtain ⟨t2, h2, r2, z2⟩ := hex16 (a0_4 * 256 + a0_5) (by omega)
  obtain ⟨t3, h3, r3, z3⟩ := hex16 (a0_6 * 256 + a0_7) (by omega)
  obtain ⟨t4, h4, r4, z4⟩ := hex16 a0_8 (by omega)
  obtain ⟨t5, h5, r5, z5⟩ := hex16 a0_9 (by omega)
  have j0 := join_prog a0_0 a0_1 b0 b1
  have k0 := join_ref a0_0 a0_1 b0 b1
  have j1 := join_prog a0_2 a0_3 b2 b3
  have k1 := join_ref a0_2 a0_3 b2 b3
  have j2 := join_prog a0_4 a0_5 b4 b5
  have k2 := join_ref a0_4 a0_5 b4 b5
  have j3 := join_prog a0_6 a0_7 b6 b7
  have k3 := join_ref a0_6 a0_7 b6 b7
  have v0 : whirligigref04_words.f a0_0 a0_1 a0_2 a0_3 a0_4 a0_5 a0_6 a0_7 a0_8 a0_9 0 = some (a0_0 * 256 + a0_1) := by simp [whirligigref04_words.f, k0]
  have q1 : wrap64 0 = 0 := by kernel_rfl
  have v1 : whirligigref04_words.f a0_0 a0_1 a0_2 a0_3 a0_4 a0_5 a0_6 a0_7 a0_8 a0_9 1 = some (a0_2 * 256 + a0_3) := by simp [whirligigref04_words.f, q1, whirligigref04_Pair.f, k1]
  have q2 : wrap64 1 = 1 := by kernel_rfl
  have v2 : whirligigref04_words.f a0_0 a0_1 a0_2 a0_3 a0_4 a0_5 a0_6 a0_7 a0_8 a0_9 2 = some (a0_4 * 256 + a0_5) := by simp [whirligigref04_words.f, q2, whirligigref04_Pair.f, k2]
  have q3 : wrap64 2 = 2 := by kernel_rfl
  have v3 : whirligigref04_words.f a0_0 a0_1 a0_2 a0_3 a0_4 a0_5 a0_6 a0_7 a0_8 a0_9 3 = some (a0_6 * 256 + a0_7) := by simp [whirligigref04_words.f, q3, whirligigref04_Pair.f, k3]
  have q4 : wrap64 3 = 3 := by kernel_rfl
  have v4 : whirligigref04_words.f a0_0 a0_1 a0_2 a0_3 a0_4 a0_5 a0_6 a0_7 a0_8 a0_9 4 = some a0_8 := by simp [whirligigref04_words.f, q4, whirligigref04_Pair.f]
  have v5 : whirligigref04_words.f a0_0 a0_1 a0_2 a0_3 a0_4 a0_5 a0_6 a0_7 a0_8 a0_9 5 = some a0_9 := by simp [whirligigref04_words.f]
  have hp : regs_Text.f a0_0 a0_1 a0_2 a0_3 a0_4 a0_5 a0_6 a0_7 a0_8 a0_9 = some (textAcc t0 t1 t2 t3 t4 t5 5) := by
    unfold regs_Text.f
    rw [j0, j1, j2, j3]
    simp only [Option.bind_some]
    rw [h0, h1, h2, h3, h4, h5]
    simp only [Option.bind_some]
    rw [if_pos ⟨z0, z1, z2, z3, z4, z5⟩]
  have hr : whirligigref04_Text.f 90 a0_0 a0_1 a0_2 a0_3 a0_4 a0_5 a0_6 a0_7 a0_8 a0_9 = some (textAcc t0 t1 t2 t3 t4 t5 5) := by
    have zz : (⟨#[]⟩ : ByteArray).size = 0 := rfl
    have z32 : (⟨#[32]⟩ : ByteArray).size = 1 := rfl
    have y0 : (⟨#[65, 70, 61]⟩ : ByteArray).size = 3 := rfl
    have y1 : (⟨#[66, 67, 61]⟩ : ByteArray).size = 3 := rfl
    have y2 : (⟨#[68, 69, 61]⟩ : ByteArray).size = 3 := rfl
    have y3 : (⟨#[72, 76, 61]⟩ : ByteArray).size = 3 := rfl
    have y4 : (⟨#[83, 80, 61]⟩ : ByteArray).size = 3 := rfl
    have y5 : (⟨#[80, 67, 61]⟩ : ByteArray).size = 3 := rfl
    unfold whirligigref04_Text.f
    rw [ref_first 89 a0_0 a0_1 a0_2 a0_3 a0_4 a0_5 a0_6 a0_7 a0_8 a0_9 _ _ _ name0 v0 r0 rfl z0]
    rw [ref_step 88 a0_0 a0_1 a0_2 a0_3 a0_4 a0_5 a0_6 a0_7 a0_8 a0_9 1 _ _ _ _ (by decide) (by decide) name1 v1 r1 (by simp only [ByteArray.size_append, zz, z32, y0, y1, y2, y3, y4, y5, z0, z1, z2, z3, z4, z5]; decide) rfl z1]
    rw [show (1 : Int) + 1 = 2 by decide]
    rw [ref_step 87 a0_0 a0_1 a0_2 a0_3 a0_4 a0_5 a0_6 a0_7 a0_8 a0_9 2 _ _ _ _ (by decide) (by decide) name2 v2 r2 (by simp only [ByteArray.size_append, zz, z32, y0, y1, y2, y3, y4, y5, z0, z1, z2, z3, z4, z5]; decide) rfl z2]
    rw [show (2 : Int) + 1 = 3 by decide]
    rw [ref_step 86 a0_0 a0_1 a0_2 a0_3 a0_4 a0_5 a0_6 a0_7 a0_8 a0_9 3 _ _ _ _ (by decide) (by decide) name3 v3 r3 (by simp only [ByteArray.size_append, zz, z32, y0, y1, y2, y3, y4, y5, z0, z1, z2, z3, z4, z5]; decide) rfl z3]
    rw [show (3 : Int) + 1 = 4 by decide]
    rw [ref_step 85 a0_0 a0_1 a0_2 a0_3 a0_4 a0_5 a0_6 a0_7 a0_8 a0_9 4 _ _ _ _ (by decide) (by decide) name4 v4 r4 (by simp only [ByteArray.size_append, zz, z32, y0, y1, y2, y3, y4, y5, z0, z1, z2, z3, z4, z5]; decide) rfl z4]
    rw [show (4 : Int) + 1 = 5 by decide]
    rw [ref_step 84 a0_0 a0_1 a0_2 a0_3 a0_4 a0_5 a0_6 a0_7 a0_8 a0_9 5 _ _ _ _ (by decide) (by decide) name5 v5 r5 (by simp only [ByteArray.size_append, zz, z32, y0, y1, y2, y3, y4, y5, z0, z1, z2, z3, z4, z5]; decide) rfl z5]
    rw [show (5 : Int) + 1 = 6 by decide]
    rw [ref_last 83]
    refine congrArg some ?_
    unfold textAcc
    rw [join3 _ ⟨#[80, 67, 61]⟩ ⟨#[32, 80, 67, 61]⟩ t5 rfl, join3 _ ⟨#[83, 80, 61]⟩ ⟨#[32, 83, 80, 61]⟩ t4 rfl, join3 _ ⟨#[72, 76, 61]⟩ ⟨#[32, 72, 76, 61]⟩ t3 rfl, join3 _ ⟨#[68, 69, 61]⟩ ⟨#[32, 68, 69, 61]⟩ t2 rfl, join3 _ ⟨#[66, 67, 61]⟩ ⟨#[32, 66, 67, 61]⟩ t1 rfl]
    rfl
  refine ⟨90, ?_⟩
  unfold whirligiglaw04_RegsTexts.f
  rw [shown_is, hp, hr]
  simp
end Go.Proofs.Ythkoofidnaghcaa.Pure
