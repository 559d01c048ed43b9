/- The plain law of RegsBack: what was put is got, flags too; registers that were written are read as they were. -/
import Derived.Test.YthkoofidnaghcaaNum
import Derived.Test.YthkoofidnaghcaaPureDigits
import Derived.Test.YthkoofidnaghcaaPureRegsSplit
import Derived.Test.YthkoofidnaghcaaHParse
import Derived.Test.YthkoofidnaghcaaPureParse
import Derived.Test.YthkoofidnaghcaaG52
namespace Go.Proofs.Ythkoofidnaghcaa.Pure
open Go.RowKit Go.Proofs.Ythkoofidnaghcaa.G Go.Proofs.Ythkoofidnaghcaa.Hand
open Go.Proofs.YthkoofidnaghcaaW.PrintWords Go.Proofs.YthkoofidnaghcaaW.PrintLast Go.Proofs.YthkoofidnaghcaaW.PrintMore
set_option maxRecDepth 100000
set_option linter.unusedVariables false
set_option linter.unusedSimpArgs false
theorem of_list (l : List UInt8) : ∀ s : ByteArray, s.toList = l → s = ⟨⟨l⟩⟩ := by
  rintro ⟨⟨m⟩⟩ h
  rw [ByteArray.toList_eq] at h
  exact congrArg (fun z => (⟨⟨z⟩⟩ : ByteArray)) h
set_option maxHeartbeats 4000000 in
theorem parse_back (v0 v1 v2 v3 v4 v5 : Int) (b0 : 0 ≤ v0 ∧ v0 ≤ 65535) (b1 : 0 ≤ v1 ∧ v1 ≤ 65535) (b2 : 0 ≤ v2 ∧ v2 ≤ 65535) (b3 : 0 ≤ v3 ∧ v3 ≤ 65535) (b4 : 0 ≤ v4 ∧ v4 ≤ 65535) (b5 : 0 ≤ v5 ∧ v5 ≤ 65535) (hz : v0 % 16 = 0) : regs_Parse.f (textAcc (hx4 (v0 / 16 * 16)) (hx4 v1) (hx4 v2) (hx4 v3) (hx4 v4) (hx4 v5) 5) = some (v0 / 256, v0 % 256 / 16 * 16, v1 / 256, v1 % 256, v2 / 256, v2 % 256, v3 / 256, v3 % 256, v4, v5, 0) := by
  have q : v0 / 16 * 16 = v0 := by omega
  rw [of_list _ _ (text_list v0 v1 v2 v3 v4 v5)]
  have hp := parse_prog 65 70 61 (hx (v0 / 4096)) (hx (v0 / 256 % 16)) (hx (v0 / 16 % 16)) (hx (v0 % 16)) 32 66 67 61 (hx (v1 / 4096)) (hx (v1 / 256 % 16)) (hx (v1 / 16 % 16)) (hx (v1 % 16)) 32 68 69 61 (hx (v2 / 4096)) (hx (v2 / 256 % 16)) (hx (v2 / 16 % 16)) (hx (v2 % 16)) 32 72 76 61 (hx (v3 / 4096)) (hx (v3 / 256 % 16)) (hx (v3 / 16 % 16)) (hx (v3 % 16)) 32 83 80 61 (hx (v4 / 4096)) (hx (v4 / 256 % 16)) (hx (v4 / 16 % 16)) (hx (v4 % 16)) 32 80 67 61 (hx (v5 / 4096)) (hx (v5 / 256 % 16)) (hx (v5 / 16 % 16)) (hx (v5 % 16)) v0 0 v1 0 v2 0 v3 0 v4 0 v5 0 (read_hx4 v0 b0) b0 (read_hx4 v1 b1) b1 (read_hx4 v2 b2) b2 (read_hx4 v3 b3) b3 (read_hx4 v4 b4) b4 (read_hx4 v5 b5) b5
  have e : textOf v0 v1 v2 v3 v4 v5 = (65 :: 70 :: 61 :: (hx (v0 / 4096)) :: (hx (v0 / 256 % 16)) :: (hx (v0 / 16 % 16)) :: (hx (v0 % 16)) :: 32 :: 66 :: 67 :: 61 :: (hx (v1 / 4096)) :: (hx (v1 / 256 % 16)) :: (hx (v1 / 16 % 16)) :: (hx (v1 % 16)) :: 32 :: 68 :: 69 :: 61 :: (hx (v2 / 4096)) :: (hx (v2 / 256 % 16)) :: (hx (v2 / 16 % 16)) :: (hx (v2 % 16)) :: 32 :: 72 :: 76 :: 61 :: (hx (v3 / 4096)) :: (hx (v3 / 256 % 16)) :: (hx (v3 / 16 % 16)) :: (hx (v3 % 16)) :: 32 :: 83 :: 80 :: 61 :: (hx (v4 / 4096)) :: (hx (v4 / 256 % 16)) :: (hx (v4 / 16 % 16)) :: (hx (v4 % 16)) :: 32 :: 80 :: 67 :: 61 :: (hx (v5 / 4096)) :: (hx (v5 / 256 % 16)) :: (hx (v5 / 16 % 16)) :: (hx (v5 % 16)) :: []) := by unfold textOf; rw [q]
  rw [if_pos e] at hp
  rw [e]
  exact hp
theorem flags_all : ∀ f : Fin 256, (alu_Of.f (f.val : Int)).bind (fun t => (alu_Byte.f t.1 t.2.1 t.2.2.1 t.2.2.2).bind fun b => (alu_Of.f b).bind fun u => some (b, u == t)) = some ((f.val : Int) / 16 * 16, true) := by decide +kernel
theorem flags_is (f : Int) (h : 0 ≤ f ∧ f ≤ 255) : ∃ z m n c, alu_Of.f f = some (z, m, n, c) ∧ alu_Byte.f z m n c = some (f / 16 * 16) ∧ alu_Of.f (f / 16 * 16) = some (z, m, n, c) := by
  obtain ⟨u, rfl⟩ := byte_fin h
  have q := flags_all u
  obtain ⟨t, ht, q⟩ := Option.bind_eq_some_iff.mp q
  obtain ⟨b, hb, q⟩ := Option.bind_eq_some_iff.mp q
  obtain ⟨y, hy, q⟩ := Option.bind_eq_some_iff.mp q
  simp only [Option.some.injEq, Prod.mk.injEq, beq_iff_eq] at q
  obtain ⟨rfl, rfl⟩ := q
  exact ⟨y.1, y.2.1, y.2.2.1, y.2.2.2, ht, hb, hy⟩
theorem shown90 : whirligiglaw04_shown.f 90 = some true := by decide +kernel
/-- All that is asked of registers behind a write. -/
theorem whole (a f b c d e h l s p : Int) (w0 : 0 ≤ a ∧ a ≤ 255) (w1 : 0 ≤ f ∧ f ≤ 255) (w2 : 0 ≤ b ∧ b ≤ 255) (w3 : 0 ≤ c ∧ c ≤ 255) (w4 : 0 ≤ d ∧ d ≤ 255) (w5 : 0 ≤ e ∧ e ≤ 255) (w6 : 0 ≤ h ∧ h ≤ 255) (w7 : 0 ≤ l ∧ l ≤ 255) (w8 : 0 ≤ s ∧ s ≤ 65535) (w9 : 0 ≤ p ∧ p ≤ 65535) :
    ∃ z m n y T, regs_Flags.f a f b c d e h l s p = some (z, m, n, y) ∧ regs_WithFlags.f a f b c d e h l s p z m n y = some (a, f / 16 * 16, b, c, d, e, h, l, s, p) ∧ regs_Text.f a (f / 16 * 16) b c d e h l s p = some T ∧ regs_Parse.f T = some (a, f / 16 * 16, b, c, d, e, h, l, s, p, 0) ∧ regs_Flags.f a (f / 16 * 16) b c d e h l s p = some (z, m, n, y) := by
  obtain ⟨z, m, n, y, h1, h2, h3⟩ := flags_is f w1
  have v := text_is (a * 256 + f / 16 * 16) (b * 256 + c) (d * 256 + e) (h * 256 + l) s p (by omega) (by omega) (by omega) (by omega) w8 w9
  have r := parse_back (a * 256 + f / 16 * 16) (b * 256 + c) (d * 256 + e) (h * 256 + l) s p (by omega) (by omega) (by omega) (by omega) w8 w9 (by omega)
  rw [show (a * 256 + f / 16 * 16) / 256 = a by omega, show (a * 256 + f / 16 * 16) % 256 / 16 * 16 = f / 16 * 16 by omega, show (b * 256 + c) / 256 = b by omega, show (b * 256 + c) % 256 = c by omega, show (d * 256 + e) / 256 = d by omega, show (d * 256 + e) % 256 = e by omega, show (h * 256 + l) / 256 = h by omega, show (h * 256 + l) % 256 = l by omega] at v r
  refine ⟨z, m, n, y, _, ?_, ?_, v, r, ?_⟩
  · unfold regs_Flags.f; rw [h1]; rfl
  · unfold regs_WithFlags.f; rw [h2]; rfl
  · unfold regs_Flags.f; rw [h3]; rfl
theorem RegsBack (a0_0 a0_1 a0_2 a0_3 a0_4 a0_5 a0_6 a0_7 a0_8 a0_9 a1 a2 : Int) (w0_0 : (Lit.int .u8 a0_0).wf = true) (w0_1 : (Lit.int .u8 a0_1).wf = true) (w0_2 : (Lit.int .u8 a0_2).wf = true) (w0_3 : (Lit.int .u8 a0_3).wf = true) (w0_4 : (Lit.int .u8 a0_4).wf = true) (w0_5 : (Lit.int .u8 a0_5).wf = true) (w0_6 : (Lit.int .u8 a0_6).wf = true) (w0_7 : (Lit.int .u8 a0_7).wf = true) (w0_8 : (Lit.int .u16 a0_8).wf = true) (w0_9 : (Lit.int .u16 a0_9).wf = true) (w1 : (Lit.int .u8 a1).wf = true) (w2 : (Lit.int .u8 a2).wf = true) : ∃ k, whirligiglaw04_RegsBack.f k a0_0 a0_1 a0_2 a0_3 a0_4 a0_5 a0_6 a0_7 a0_8 a0_9 a1 a2 = some true := by
  have b0 := u8_bd w0_0
  have b1 := u8_bd w0_1
  have b2 := u8_bd w0_2
  have b3 := u8_bd w0_3
  have b4 := u8_bd w0_4
  have b5 := u8_bd w0_5
  have b6 := u8_bd w0_6
  have b7 := u8_bd w0_7
  have b8 := u16_bd w0_8
  have b9 := u16_bd w0_9
  have c1 := u8_bd w1
  have c2 := u8_bd w2
  clear w0_0 w0_1 w0_2 w0_3 w0_4 w0_5 w0_6 w0_7 w0_8 w0_9 w1 w2
  refine ⟨90, ?_⟩
  unfold whirligiglaw04_RegsBack.f
  rw [shown90, Int.tmod_eq_emod_of_nonneg c1.1, wrap64_in (x := a1 % 8) (by omega)]
  have hk : a1 % 8 = 0 ∨ a1 % 8 = 1 ∨ a1 % 8 = 2 ∨ a1 % 8 = 3 ∨ a1 % 8 = 4 ∨ a1 % 8 = 5 ∨ a1 % 8 = 6 ∨ a1 % 8 = 7 := by omega
  simp only [Option.bind_some]
  rcases hk with e | e | e | e | e | e | e | e
  · rw [e]
    obtain ⟨z, m, n, y, T, h1, h2, h3, h4, h5⟩ := whole a0_0 a0_1 a2 a0_3 a0_4 a0_5 a0_6 a0_7 a0_8 a0_9 b0 b1 c2 b3 b4 b5 b6 b7 b8 b9
    have p : regs_Put.f a0_0 a0_1 a0_2 a0_3 a0_4 a0_5 a0_6 a0_7 a0_8 a0_9 0 a2 = some (a0_0, a0_1, a2, a0_3, a0_4, a0_5, a0_6, a0_7, a0_8, a0_9, 0) := by simp [regs_Put.f]
    have q : regs_Get.f a0_0 a0_1 a2 a0_3 a0_4 a0_5 a0_6 a0_7 a0_8 a0_9 0 = some (a2, 0) := by simp [regs_Get.f]
    rw [p]
    simp only [Option.bind_some]
    rw [q]
    simp only [Option.bind_some]
    rw [if_neg (by decide), h1]
    simp only [Option.bind_some]
    rw [h2]
    simp only [Option.bind_some]
    rw [h3]
    simp only [Option.bind_some]
    rw [h4]
    simp only [Option.bind_some]
    have d : (((Int.tdiv a0_1 16) % 256) * 16) % 256 = a0_1 / 16 * 16 := by rw [Int.tdiv_eq_ediv_of_nonneg (by omega)]; omega
    rw [d, h5]
    simp
  · rw [e]
    obtain ⟨z, m, n, y, T, h1, h2, h3, h4, h5⟩ := whole a0_0 a0_1 a0_2 a2 a0_4 a0_5 a0_6 a0_7 a0_8 a0_9 b0 b1 b2 c2 b4 b5 b6 b7 b8 b9
    have p : regs_Put.f a0_0 a0_1 a0_2 a0_3 a0_4 a0_5 a0_6 a0_7 a0_8 a0_9 1 a2 = some (a0_0, a0_1, a0_2, a2, a0_4, a0_5, a0_6, a0_7, a0_8, a0_9, 0) := by simp [regs_Put.f]
    have q : regs_Get.f a0_0 a0_1 a0_2 a2 a0_4 a0_5 a0_6 a0_7 a0_8 a0_9 1 = some (a2, 0) := by simp [regs_Get.f]
    rw [p]
    simp only [Option.bind_some]
    rw [q]
    simp only [Option.bind_some]
    rw [if_neg (by decide), h1]
    simp only [Option.bind_some]
    rw [h2]
    simp only [Option.bind_some]
    rw [h3]
    simp only [Option.bind_some]
    rw [h4]
    simp only [Option.bind_some]
    have d : (((Int.tdiv a0_1 16) % 256) * 16) % 256 = a0_1 / 16 * 16 := by rw [Int.tdiv_eq_ediv_of_nonneg (by omega)]; omega
    rw [d, h5]
    simp
  · rw [e]
    obtain ⟨z, m, n, y, T, h1, h2, h3, h4, h5⟩ := whole a0_0 a0_1 a0_2 a0_3 a2 a0_5 a0_6 a0_7 a0_8 a0_9 b0 b1 b2 b3 c2 b5 b6 b7 b8 b9
    have p : regs_Put.f a0_0 a0_1 a0_2 a0_3 a0_4 a0_5 a0_6 a0_7 a0_8 a0_9 2 a2 = some (a0_0, a0_1, a0_2, a0_3, a2, a0_5, a0_6, a0_7, a0_8, a0_9, 0) := by simp [regs_Put.f]
    have q : regs_Get.f a0_0 a0_1 a0_2 a0_3 a2 a0_5 a0_6 a0_7 a0_8 a0_9 2 = some (a2, 0) := by simp [regs_Get.f]
    rw [p]
    simp only [Option.bind_some]
    rw [q]
    simp only [Option.bind_some]
    rw [if_neg (by decide), h1]
    simp only [Option.bind_some]
    rw [h2]
    simp only [Option.bind_some]
    rw [h3]
    simp only [Option.bind_some]
    rw [h4]
    simp only [Option.bind_some]
    have d : (((Int.tdiv a0_1 16) % 256) * 16) % 256 = a0_1 / 16 * 16 := by rw [Int.tdiv_eq_ediv_of_nonneg (by omega)]; omega
    rw [d, h5]
    simp
  · rw [e]
    obtain ⟨z, m, n, y, T, h1, h2, h3, h4, h5⟩ := whole a0_0 a0_1 a0_2 a0_3 a0_4 a2 a0_6 a0_7 a0_8 a0_9 b0 b1 b2 b3 b4 c2 b6 b7 b8 b9
    have p : regs_Put.f a0_0 a0_1 a0_2 a0_3 a0_4 a0_5 a0_6 a0_7 a0_8 a0_9 3 a2 = some (a0_0, a0_1, a0_2, a0_3, a0_4, a2, a0_6, a0_7, a0_8, a0_9, 0) := by simp [regs_Put.f]
    have q : regs_Get.f a0_0 a0_1 a0_2 a0_3 a0_4 a2 a0_6 a0_7 a0_8 a0_9 3 = some (a2, 0) := by simp [regs_Get.f]
    rw [p]
    simp only [Option.bind_some]
    rw [q]
    simp only [Option.bind_some]
    rw [if_neg (by decide), h1]
    simp only [Option.bind_some]
    rw [h2]
    simp only [Option.bind_some]
    rw [h3]
    simp only [Option.bind_some]
    rw [h4]
    simp only [Option.bind_some]
    have d : (((Int.tdiv a0_1 16) % 256) * 16) % 256 = a0_1 / 16 * 16 := by rw [Int.tdiv_eq_ediv_of_nonneg (by omega)]; omega
    rw [d, h5]
    simp
  · rw [e]
    obtain ⟨z, m, n, y, T, h1, h2, h3, h4, h5⟩ := whole a0_0 a0_1 a0_2 a0_3 a0_4 a0_5 a2 a0_7 a0_8 a0_9 b0 b1 b2 b3 b4 b5 c2 b7 b8 b9
    have p : regs_Put.f a0_0 a0_1 a0_2 a0_3 a0_4 a0_5 a0_6 a0_7 a0_8 a0_9 4 a2 = some (a0_0, a0_1, a0_2, a0_3, a0_4, a0_5, a2, a0_7, a0_8, a0_9, 0) := by simp [regs_Put.f]
    have q : regs_Get.f a0_0 a0_1 a0_2 a0_3 a0_4 a0_5 a2 a0_7 a0_8 a0_9 4 = some (a2, 0) := by simp [regs_Get.f]
    rw [p]
    simp only [Option.bind_some]
    rw [q]
    simp only [Option.bind_some]
    rw [if_neg (by decide), h1]
    simp only [Option.bind_some]
    rw [h2]
    simp only [Option.bind_some]
    rw [h3]
    simp only [Option.bind_some]
    rw [h4]
    simp only [Option.bind_some]
    have d : (((Int.tdiv a0_1 16) % 256) * 16) % 256 = a0_1 / 16 * 16 := by rw [Int.tdiv_eq_ediv_of_nonneg (by omega)]; omega
    rw [d, h5]
    simp
  · rw [e]
    obtain ⟨z, m, n, y, T, h1, h2, h3, h4, h5⟩ := whole a0_0 a0_1 a0_2 a0_3 a0_4 a0_5 a0_6 a2 a0_8 a0_9 b0 b1 b2 b3 b4 b5 b6 c2 b8 b9
    have p : regs_Put.f a0_0 a0_1 a0_2 a0_3 a0_4 a0_5 a0_6 a0_7 a0_8 a0_9 5 a2 = some (a0_0, a0_1, a0_2, a0_3, a0_4, a0_5, a0_6, a2, a0_8, a0_9, 0) := by simp [regs_Put.f]
    have q : regs_Get.f a0_0 a0_1 a0_2 a0_3 a0_4 a0_5 a0_6 a2 a0_8 a0_9 5 = some (a2, 0) := by simp [regs_Get.f]
    rw [p]
    simp only [Option.bind_some]
    rw [q]
    simp only [Option.bind_some]
    rw [if_neg (by decide), h1]
    simp only [Option.bind_some]
    rw [h2]
    simp only [Option.bind_some]
    rw [h3]
    simp only [Option.bind_some]
    rw [h4]
    simp only [Option.bind_some]
    have d : (((Int.tdiv a0_1 16) % 256) * 16) % 256 = a0_1 / 16 * 16 := by rw [Int.tdiv_eq_ediv_of_nonneg (by omega)]; omega
    rw [d, h5]
    simp
  · rw [e]
    simp [regs_Put.f, regs_Get.f]
  · rw [e]
    obtain ⟨z, m, n, y, T, h1, h2, h3, h4, h5⟩ := whole a2 a0_1 a0_2 a0_3 a0_4 a0_5 a0_6 a0_7 a0_8 a0_9 c2 b1 b2 b3 b4 b5 b6 b7 b8 b9
    have p : regs_Put.f a0_0 a0_1 a0_2 a0_3 a0_4 a0_5 a0_6 a0_7 a0_8 a0_9 7 a2 = some (a2, a0_1, a0_2, a0_3, a0_4, a0_5, a0_6, a0_7, a0_8, a0_9, 0) := by simp [regs_Put.f]
    have q : regs_Get.f a2 a0_1 a0_2 a0_3 a0_4 a0_5 a0_6 a0_7 a0_8 a0_9 7 = some (a2, 0) := by simp [regs_Get.f]
    rw [p]
    simp only [Option.bind_some]
    rw [q]
    simp only [Option.bind_some]
    rw [if_neg (by decide), h1]
    simp only [Option.bind_some]
    rw [h2]
    simp only [Option.bind_some]
    rw [h3]
    simp only [Option.bind_some]
    rw [h4]
    simp only [Option.bind_some]
    have d : (((Int.tdiv a0_1 16) % 256) * 16) % 256 = a0_1 / 16 * 16 := by rw [Int.tdiv_eq_ediv_of_nonneg (by omega)]; omega
    rw [d, h5]
    simp
end Go.Proofs.Ythkoofidnaghcaa.Pure
