/- The plain law of ClockOfs: ten bytes are two clocks, or refused, as the document says. -/
import Derived.Test.YtkfjofkocccefaaNum
import Derived.Test.YtkfjofkocccefaaG19
import Derived.Test.YtkfjofkocccefaaPure09
import Derived.Test.YtkfjofkocccefaaPureOf5
import Derived.Test.YtkfjofkocccefaaPureStr10
namespace Go.Proofs.Ytkfjofkocccefaa.Pure
open Go.RowKit Go.Proofs.Ytkfjofkocccefaa.G Go.Proofs.Ytkfjofkocccefaa.Hand
open Go.Proofs.YtkfjofkocccefaaW.PrintWords Go.Proofs.YtkfjofkocccefaaW.PrintLast Go.Proofs.YtkfjofkocccefaaW.PrintMore
set_option maxRecDepth 100000
set_option linter.unusedVariables false
set_option linter.unusedSimpArgs false
theorem high_bd : ∀ v : Fin 256, 0 ≤ (Go.bits .or .u8 (Go.bits .or .u8 ((v.val : Int) % 2 % 256) (if ((v.val : Int) / 64 % 2 == 1) = true then 64 else 0)) (if decide (128 ≤ (v.val : Int)) = true then 128 else 0)) ∧ (Go.bits .or .u8 (Go.bits .or .u8 ((v.val : Int) % 2 % 256) (if ((v.val : Int) / 64 % 2 == 1) = true then 64 else 0)) (if decide (128 ≤ (v.val : Int)) = true then 128 else 0)) ≤ 255 := by decide +kernel
theorem high_bd' (e : Int) (he : 0 ≤ e ∧ e ≤ 255) : 0 ≤ (Go.bits .or .u8 (Go.bits .or .u8 (e % 2 % 256) (if (e / 64 % 2 == 1) = true then 64 else 0)) (if decide (128 ≤ e) = true then 128 else 0)) ∧ (Go.bits .or .u8 (Go.bits .or .u8 (e % 2 % 256) (if (e / 64 % 2 == 1) = true then 64 else 0)) (if decide (128 ≤ e) = true then 128 else 0)) ≤ 255 := by
  obtain ⟨v, rfl⟩ := byte_fin he
  exact high_bd v
theorem cond_iff (b0 b1 b2 b3 b4 b5 b6 b7 b8 b9 : Int) (p0 : 0 ≤ b0 ∧ b0 ≤ 255) (p1 : 0 ≤ b1 ∧ b1 ≤ 255) (p2 : 0 ≤ b2 ∧ b2 ≤ 255) (p3 : 0 ≤ b3 ∧ b3 ≤ 255) (p4 : 0 ≤ b4 ∧ b4 ≤ 255) (p5 : 0 ≤ b5 ∧ b5 ≤ 255) (p6 : 0 ≤ b6 ∧ b6 ≤ 255) (p7 : 0 ≤ b7 ∧ b7 ≤ 255) (p8 : 0 ≤ b8 ∧ b8 ≤ 255) (p9 : 0 ≤ b9 ∧ b9 ≤ 255) : (((strOfNums (five (of5 b0 b1 b2 b3 b4) ++ five (of5 b5 b6 b7 b8 b9))).toList == (strOfNums [b0, b1, b2, b3, b4, b5, b6, b7, b8, b9]).toList) = true) ↔ ((b0 ≤ 63 ∧ b1 ≤ 63 ∧ b2 ≤ 31 ∧ b4 % 64 ≤ 1) ∧ (b5 ≤ 63 ∧ b6 ≤ 63 ∧ b7 ≤ 31 ∧ b9 % 64 ≤ 1)) := by
  have f1 := five_again b0 b1 b2 b3 b4 p0 p1 p2 p3 p4
  have f2 := five_again b5 b6 b7 b8 b9 p5 p6 p7 p8 p9
  rw [← f1, ← f2, five_is b0 b1 b2 b3 b4 p3, five_is b5 b6 b7 b8 b9 p8]
  have h4 := high_bd' b4 p4
  have h9 := high_bd' b9 p9
  generalize (Go.bits .or .u8 (Go.bits .or .u8 (b4 % 2 % 256) (if (b4 / 64 % 2 == 1) = true then 64 else 0)) (if decide (128 ≤ b4) = true then 128 else 0)) = x4 at h4 ⊢
  generalize (Go.bits .or .u8 (Go.bits .or .u8 (b9 % 2 % 256) (if (b9 / 64 % 2 == 1) = true then 64 else 0)) (if decide (128 ≤ b9) = true then 128 else 0)) = x9 at h9 ⊢
  have e := str10_eq (b0 % 64) (b1 % 64) (b2 % 32) b3 x4 (b5 % 64) (b6 % 64) (b7 % 32) b8 x9 b0 b1 b2 b3 b4 b5 b6 b7 b8 b9 (by omega) (by omega) (by omega) p3 h4 (by omega) (by omega) (by omega) p8 h9 p0 p1 p2 p3 p4 p5 p6 p7 p8 p9
  refine e.trans ?_
  simp only [List.cons.injEq, and_true]
  constructor
  · rintro ⟨q0, q1, q2, q3, q4, q5, q6, q7, q8, q9⟩
    exact ⟨⟨q0, q1, q2, q3, q4⟩, ⟨q5, q6, q7, q8, q9⟩⟩
  · rintro ⟨⟨q0, q1, q2, q3, q4⟩, ⟨q5, q6, q7, q8, q9⟩⟩
    exact ⟨q0, q1, q2, q3, q4, q5, q6, q7, q8, q9⟩
theorem one_is (a b c d e : Int) (ha : 0 ≤ a ∧ a ≤ 255) (hb : 0 ≤ b ∧ b ≤ 255) (hc : 0 ≤ c ∧ c ≤ 255) (hd : 0 ≤ d ∧ d ≤ 255) (he : 0 ≤ e ∧ e ≤ 255) :
    whirligigref09_one.f [a, b, c, d, e] = if a ≤ 63 ∧ b ≤ 63 ∧ c ≤ 31 ∧ e % 64 ≤ 1 then some ((of5 a b c d e).1, (of5 a b c d e).2.1, (of5 a b c d e).2.2.1, (of5 a b c d e).2.2.2.1, (of5 a b c d e).2.2.2.2.1, (of5 a b c d e).2.2.2.2.2, true) else some (0, 0, 0, 0, false, false, false) := by
  unfold whirligigref09_one.f
  rw [if_pos (show [a, b, c, d, e].length = 5 from rfl), show rd [a, b, c, d, e] 0 = a from rfl, show rd [a, b, c, d, e] 1 = b from rfl, show rd [a, b, c, d, e] 2 = c from rfl, show rd [a, b, c, d, e] 3 = d from rfl, show rd [a, b, c, d, e] 4 = e from rfl]
  rw [Int.tmod_eq_emod_of_nonneg he.1, Int.tmod_eq_emod_of_nonneg he.1, Int.tdiv_eq_ediv_of_nonneg he.1]
  rw [w16 (x := e % 2) (by omega), w16 (x := e % 2 * 256) (by omega), w16 (x := d) (by omega), w16 (x := e % 2 * 256 + d) (by omega)]
  by_cases c0 : a > 63
  · rw [if_pos c0, if_neg (by omega)]
  rw [if_neg c0]
  by_cases c1 : b > 63
  · rw [if_pos c1, if_neg (by omega)]
  rw [if_neg c1]
  by_cases c2 : c > 31
  · rw [if_pos c2, if_neg (by omega)]
  rw [if_neg c2]
  by_cases c3 : e % 64 > 1
  · rw [if_pos c3, if_neg (by omega)]
  rw [if_neg c3, if_pos (by omega)]
  unfold of5
  dsimp only
  rw [show a % 64 = a by omega, show b % 64 = b by omega, show c % 32 = c by omega, show e / 64 % 256 % 2 = e / 64 % 2 by omega, show e % 2 * 256 + d = d + e % 2 * 256 by omega]
theorem of_prog (b0 b1 b2 b3 b4 b5 b6 b7 b8 b9 : Int) (p0 : 0 ≤ b0 ∧ b0 ≤ 255) (p1 : 0 ≤ b1 ∧ b1 ≤ 255) (p2 : 0 ≤ b2 ∧ b2 ≤ 255) (p3 : 0 ≤ b3 ∧ b3 ≤ 255) (p4 : 0 ≤ b4 ∧ b4 ≤ 255) (p5 : 0 ≤ b5 ∧ b5 ≤ 255) (p6 : 0 ≤ b6 ∧ b6 ≤ 255) (p7 : 0 ≤ b7 ∧ b7 ≤ 255) (p8 : 0 ≤ b8 ∧ b8 ≤ 255) (p9 : 0 ≤ b9 ∧ b9 ≤ 255) : clock_Of.f [b0, b1, b2, b3, b4, b5, b6, b7, b8, b9] = if (b0 ≤ 63 ∧ b1 ≤ 63 ∧ b2 ≤ 31 ∧ b4 % 64 ≤ 1) ∧ (b5 ≤ 63 ∧ b6 ≤ 63 ∧ b7 ≤ 31 ∧ b9 % 64 ≤ 1) then some ((of5 b0 b1 b2 b3 b4).1, (of5 b0 b1 b2 b3 b4).2.1, (of5 b0 b1 b2 b3 b4).2.2.1, (of5 b0 b1 b2 b3 b4).2.2.2.1, (of5 b0 b1 b2 b3 b4).2.2.2.2.1, (of5 b0 b1 b2 b3 b4).2.2.2.2.2, (of5 b5 b6 b7 b8 b9).1, (of5 b5 b6 b7 b8 b9).2.1, (of5 b5 b6 b7 b8 b9).2.2.1, (of5 b5 b6 b7 b8 b9).2.2.2.1, (of5 b5 b6 b7 b8 b9).2.2.2.2.1, (of5 b5 b6 b7 b8 b9).2.2.2.2.2, 0) else some (0, 0, 0, 0, false, false, 0, 0, 0, 0, false, false, 6) := by
  obtain ⟨x0, x1, x2, x3, x4⟩ := writes5 b0 b1 b2 b3 b4 p0 p1 p2 p3 p4
  obtain ⟨y0, y1, y2, y3, y4⟩ := writes5 b5 b6 b7 b8 b9 p5 p6 p7 p8 p9
  have hB : clock_Bytes.f (b0 % 64) (b1 % 64) (b2 % 32) (b3 + b4 % 2 * 256) (b4 / 64 % 2 == 1) (decide (128 ≤ b4)) (b5 % 64) (b6 % 64) (b7 % 32) (b8 + b9 % 2 * 256) (b9 / 64 % 2 == 1) (decide (128 ≤ b9)) = some (five (of5 b0 b1 b2 b3 b4) ++ five (of5 b5 b6 b7 b8 b9)) := bytes_prog (of5 b0 b1 b2 b3 b4) (of5 b5 b6 b7 b8 b9) (of5_ok b0 b1 b2 b3 b4 p3).wide (of5_ok b5 b6 b7 b8 b9 p8).wide
  have hC := cond_iff b0 b1 b2 b3 b4 b5 b6 b7 b8 b9 p0 p1 p2 p3 p4 p5 p6 p7 p8 p9
  unfold clock_Of.f
  rw [if_pos (show (([b0, b1, b2, b3, b4, b5, b6, b7, b8, b9] : List Int).length : Int) = 10 from rfl), show rd [b0, b1, b2, b3, b4, b5, b6, b7, b8, b9] 0 = b0 from rfl, show rd [b0, b1, b2, b3, b4, b5, b6, b7, b8, b9] 1 = b1 from rfl, show rd [b0, b1, b2, b3, b4, b5, b6, b7, b8, b9] 2 = b2 from rfl, show rd [b0, b1, b2, b3, b4, b5, b6, b7, b8, b9] 3 = b3 from rfl, show rd [b0, b1, b2, b3, b4, b5, b6, b7, b8, b9] 4 = b4 from rfl, show rd [b0, b1, b2, b3, b4, b5, b6, b7, b8, b9] 5 = b5 from rfl, show rd [b0, b1, b2, b3, b4, b5, b6, b7, b8, b9] 6 = b6 from rfl, show rd [b0, b1, b2, b3, b4, b5, b6, b7, b8, b9] 7 = b7 from rfl, show rd [b0, b1, b2, b3, b4, b5, b6, b7, b8, b9] 8 = b8 from rfl, show rd [b0, b1, b2, b3, b4, b5, b6, b7, b8, b9] 9 = b9 from rfl]
  rw [x0]
  simp only [Option.bind_some]
  rw [x1]
  simp only [Option.bind_some]
  rw [x2]
  simp only [Option.bind_some]
  rw [x3]
  simp only [Option.bind_some]
  rw [x4]
  simp only [Option.bind_some]
  rw [y0]
  simp only [Option.bind_some]
  rw [y1]
  simp only [Option.bind_some]
  rw [y2]
  simp only [Option.bind_some]
  rw [y3]
  simp only [Option.bind_some]
  rw [y4]
  simp only [Option.bind_some]
  rw [hB]
  simp only [Option.bind_some]
  by_cases hk : (b0 ≤ 63 ∧ b1 ≤ 63 ∧ b2 ≤ 31 ∧ b4 % 64 ≤ 1) ∧ (b5 ≤ 63 ∧ b6 ≤ 63 ∧ b7 ≤ 31 ∧ b9 % 64 ≤ 1)
  · rw [if_pos (hC.mpr hk), if_pos hk]
    rfl
  · rw [if_neg (fun z => hk (hC.mp z)), if_neg hk]
theorem of_ref (b0 b1 b2 b3 b4 b5 b6 b7 b8 b9 : Int) (p0 : 0 ≤ b0 ∧ b0 ≤ 255) (p1 : 0 ≤ b1 ∧ b1 ≤ 255) (p2 : 0 ≤ b2 ∧ b2 ≤ 255) (p3 : 0 ≤ b3 ∧ b3 ≤ 255) (p4 : 0 ≤ b4 ∧ b4 ≤ 255) (p5 : 0 ≤ b5 ∧ b5 ≤ 255) (p6 : 0 ≤ b6 ∧ b6 ≤ 255) (p7 : 0 ≤ b7 ∧ b7 ≤ 255) (p8 : 0 ≤ b8 ∧ b8 ≤ 255) (p9 : 0 ≤ b9 ∧ b9 ≤ 255) : whirligigref09_Of.f [b0, b1, b2, b3, b4, b5, b6, b7, b8, b9] = if (b0 ≤ 63 ∧ b1 ≤ 63 ∧ b2 ≤ 31 ∧ b4 % 64 ≤ 1) ∧ (b5 ≤ 63 ∧ b6 ≤ 63 ∧ b7 ≤ 31 ∧ b9 % 64 ≤ 1) then some ((of5 b0 b1 b2 b3 b4).1, (of5 b0 b1 b2 b3 b4).2.1, (of5 b0 b1 b2 b3 b4).2.2.1, (of5 b0 b1 b2 b3 b4).2.2.2.1, (of5 b0 b1 b2 b3 b4).2.2.2.2.1, (of5 b0 b1 b2 b3 b4).2.2.2.2.2, (of5 b5 b6 b7 b8 b9).1, (of5 b5 b6 b7 b8 b9).2.1, (of5 b5 b6 b7 b8 b9).2.2.1, (of5 b5 b6 b7 b8 b9).2.2.2.1, (of5 b5 b6 b7 b8 b9).2.2.2.2.1, (of5 b5 b6 b7 b8 b9).2.2.2.2.2, 0) else some (0, 0, 0, 0, false, false, 0, 0, 0, 0, false, false, 6) := by
  unfold whirligigref09_Of.f
  rw [if_pos (show (([b0, b1, b2, b3, b4, b5, b6, b7, b8, b9] : List Int).length : Int) = 10 from rfl), show List.take 5 [b0, b1, b2, b3, b4, b5, b6, b7, b8, b9] = [b0, b1, b2, b3, b4] from rfl, show List.drop 5 [b0, b1, b2, b3, b4, b5, b6, b7, b8, b9] = [b5, b6, b7, b8, b9] from rfl, one_is b0 b1 b2 b3 b4 p0 p1 p2 p3 p4, one_is b5 b6 b7 b8 b9 p5 p6 p7 p8 p9]
  by_cases hA : (b0 ≤ 63 ∧ b1 ≤ 63 ∧ b2 ≤ 31 ∧ b4 % 64 ≤ 1)
  · by_cases hB : (b5 ≤ 63 ∧ b6 ≤ 63 ∧ b7 ≤ 31 ∧ b9 % 64 ≤ 1)
    · rw [if_pos hA, if_pos hB, if_pos ⟨hA, hB⟩]; rfl
    · rw [if_pos hA, if_neg hB, if_neg (fun z => hB z.2)]; rfl
  · by_cases hB : (b5 ≤ 63 ∧ b6 ≤ 63 ∧ b7 ≤ 31 ∧ b9 % 64 ≤ 1)
    · rw [if_neg hA, if_pos hB, if_neg (fun z => hA z.1)]; rfl
    · rw [if_neg hA, if_neg hB, if_neg (fun z => hA z.1)]; rfl
theorem ClockOfs (l : List Int) (hL : l.length ≤ 9223372036854775807) (hx : ∀ x ∈ l, 0 ≤ x ∧ x ≤ 255) : whirligiglaw09_ClockOfs.f l = some true := by
  have he : ∃ r, clock_Of.f l = some r ∧ whirligigref09_Of.f l = some r := by
    by_cases hl : (l.length : Int) = 10
    · have h10 : l.length = 10 := by omega
      match l, h10 with
      | [b0, b1, b2, b3, b4, b5, b6, b7, b8, b9], _ =>
        rw [of_prog b0 b1 b2 b3 b4 b5 b6 b7 b8 b9 (hx _ (by simp)) (hx _ (by simp)) (hx _ (by simp)) (hx _ (by simp)) (hx _ (by simp)) (hx _ (by simp)) (hx _ (by simp)) (hx _ (by simp)) (hx _ (by simp)) (hx _ (by simp)), of_ref b0 b1 b2 b3 b4 b5 b6 b7 b8 b9 (hx _ (by simp)) (hx _ (by simp)) (hx _ (by simp)) (hx _ (by simp)) (hx _ (by simp)) (hx _ (by simp)) (hx _ (by simp)) (hx _ (by simp)) (hx _ (by simp)) (hx _ (by simp))]
        split
        · exact ⟨_, rfl, rfl⟩
        · exact ⟨_, rfl, rfl⟩
    · unfold clock_Of.f whirligigref09_Of.f
      rw [if_neg hl, if_neg hl]
      exact ⟨_, rfl, rfl⟩
  obtain ⟨r, e1, e2⟩ := he
  unfold whirligiglaw09_ClockOfs.f
  rw [shown_is, e1, e2]
  simp
end Go.Proofs.Ytkfjofkocccefaa.Pure
