/- The plain law of AluDoes. -/
import Derived.Test.YtdfpaebbejdjlaaNum
import Derived.Test.YtdfpaebbejdjlaaG13
import Derived.Test.YtdfpaebbejdjlaaPure02
import Derived.Test.YtdfpaebbejdjlaaPureAluEach
namespace Go.Proofs.Ytdfpaebbejdjlaa.Pure
open Go.RowKit Go.Proofs.Ytdfpaebbejdjlaa.G Go.Proofs.Ytdfpaebbejdjlaa.Hand
open Go.Proofs.YtdfpaebbejdjlaaW.PrintWords Go.Proofs.YtdfpaebbejdjlaaW.PrintLast Go.Proofs.YtdfpaebbejdjlaaW.PrintMore
set_option maxRecDepth 100000
set_option linter.unusedVariables false
theorem op_is (x : Int) : whirligigref02_Op.f x = some (x % 8) := by
  unfold whirligigref02_Op.f wrap64
  rcases tmod8 x with h | ⟨h, h'⟩
  · rw [if_neg (by omega), h]
  · rw [if_pos (by omega), h]
    congr 1
    omega
theorem ref_add (k : Nat) (a v m c : Int) (hk : 2 ≤ k) (ha : 0 ≤ a ∧ a ≤ 255) (hv : 0 ≤ v ∧ v ≤ 255) (hc : 0 ≤ c ∧ c ≤ 1) (hm : m < 2) : whirligigref02_Do.j1 k a v m c = some (addT a v c) := by
  obtain ⟨k, rfl⟩ : ∃ j, k = j + 1 := ⟨k - 1, by omega⟩
  simp only [whirligigref02_Do.j1]
  rw [if_pos hm, wrap64_in (x := a) (by omega), wrap64_in (x := v) (by omega), wrap64_in (x := a + v) (by omega), wrap64_in (x := a + v + c) (by omega), Int.tmod_eq_emod_of_nonneg (a := a + v + c) (by omega), Int.tmod_eq_emod_of_nonneg (a := a) (by omega), Int.tmod_eq_emod_of_nonneg (a := v) (by omega), wrap64_in (x := a % 16 + v % 16) (by omega), wrap64_in (x := a % 16 + v % 16 + c) (by omega)]
  have : (a + v + c) % 256 % 256 = (a + v + c) % 256 := by omega
  rw [this]; rfl
theorem ref_sub (k : Nat) (a v m c : Int) (hk : 3 ≤ k) (ha : 0 ≤ a ∧ a ≤ 255) (hv : 0 ≤ v ∧ v ≤ 255) (hc : 0 ≤ c ∧ c ≤ 1) (hm : m = 2 ∨ m = 3 ∨ m = 7) :
    whirligigref02_Do.j1 k a v m c = some (if m = 7 then (a, (subT a v c).2.1, (subT a v c).2.2.1, (subT a v c).2.2.2.1, (subT a v c).2.2.2.2) else subT a v c) := by
  obtain ⟨k, rfl⟩ : ∃ j, k = j + 2 := ⟨k - 2, by omega⟩
  have q : (a - v - c + 512) % 256 = (a - v - c) % 256 := by omega
  have q2 : (a - v - c) % 256 % 256 = (a - v - c) % 256 := by omega
  have key : ∀ k, whirligigref02_Do.j2 (k + 1) a v m c true = some (if m = 7 then (a, (subT a v c).2.1, (subT a v c).2.2.1, (subT a v c).2.2.2.1, (subT a v c).2.2.2.2) else subT a v c) := by
    intro k
    simp only [whirligigref02_Do.j2]
    rw [if_pos trivial, wrap64_in (x := a) (by omega), wrap64_in (x := v) (by omega), wrap64_in (x := a - v) (by omega), wrap64_in (x := a - v - c) (by omega), wrap64_in (x := a - v - c + 512) (by omega), Int.tmod_eq_emod_of_nonneg (a := a - v - c + 512) (by omega), Int.tmod_eq_emod_of_nonneg (a := a) (by omega), Int.tmod_eq_emod_of_nonneg (a := v) (by omega), wrap64_in (x := v % 16 + c) (by omega), wrap64_in (x := v + c) (by omega), q, q2]
    by_cases h : m = 7
    · rw [if_pos h, if_pos h]; rfl
    · rw [if_neg h, if_neg h]; rfl
  have e1 : whirligigref02_Do.j1 (k + 2) a v m c = whirligigref02_Do.j2 (k + 1) a v m c true := by
    simp only [whirligigref02_Do.j1]
    rcases hm with h | h | h
    · rw [if_neg (by omega), if_pos h]
    · rw [if_neg (by omega), if_neg (by omega), if_pos h]
    · rw [if_neg (by omega), if_neg (by omega), if_neg (by omega), show (m == 7) = true from by simpa using h]
  rw [e1, key]
theorem ref_each (k : Nat) (a v : Fin 256) (m c r : Int) (hm : m = 4 ∨ m = 5 ∨ m = 6) (he : whirligigref02_each.f k m (a.val : Int) (v.val : Int) = some r) :
    whirligigref02_Do.j1 (k + 2) (a.val : Int) (v.val : Int) m c = some (r, r == 0, false, m == 4, false) := by
  have e1 : whirligigref02_Do.j1 (k + 2) (a.val : Int) (v.val : Int) m c = whirligigref02_Do.j2 (k + 1) (a.val : Int) (v.val : Int) m c false := by
    simp only [whirligigref02_Do.j1]
    rw [if_neg (by omega), if_neg (by omega), if_neg (by omega), show (m == 7) = false from by simp; omega]
  rw [e1]
  simp only [whirligigref02_Do.j2]
  rw [if_neg (by simp), he]
  rfl
theorem xor_zero (a v : Fin 256) : (Go.bits .xor .u8 (a.val : Int) (v.val : Int) == 0) = ((a.val : Int) == (v.val : Int)) := by
  rw [u8_xor_nat a.val v.val a.isLt v.isLt]
  by_cases h : a.val = v.val
  · rw [h]; simp
  · have h1 : a.val ^^^ v.val ≠ 0 := by
      intro h0
      apply h
      apply Nat.eq_of_testBit_eq
      intro i
      have h2 : (a.val ^^^ v.val).testBit i = false := by rw [h0]; simp
      rw [Nat.testBit_xor] at h2
      simpa using h2
    have h2 : ((a.val ^^^ v.val : Nat) : Int) ≠ 0 := by omega
    have h3 : (a.val : Int) ≠ (v.val : Int) := by omega
    rw [beq_eq_false_iff_ne.mpr h2, beq_eq_false_iff_ne.mpr h3]
theorem does_same (x : Int) (a v : Fin 256) (z n h c : Bool) : ∃ r, alu_Do.f x (a.val : Int) (v.val : Int) z n h c = some r ∧ whirligigref02_Do.f 90 x (a.val : Int) (v.val : Int) z n h c = some r := by
  have ba : 0 ≤ (a.val : Int) ∧ (a.val : Int) ≤ 255 := by omega
  have bv : 0 ≤ (v.val : Int) ∧ (v.val : Int) ≤ 255 := by omega
  have a1 := add_prog _ _ 1 ba bv (by omega)
  have a0 := add_prog _ _ 0 ba bv (by omega)
  have s1 := sub_prog _ _ 1 ba bv (by omega)
  have s0 := sub_prog _ _ 0 ba bv (by omega)
  have hx : 0 ≤ x % 8 ∧ x % 8 < 8 := by omega
  unfold alu_Do.f whirligigref02_Do.f
  rw [and7, op_is]
  simp only [Option.bind_some]
  generalize x % 8 = m at *
  have hm : m = 0 ∨ m = 1 ∨ m = 2 ∨ m = 3 ∨ m = 4 ∨ m = 5 ∨ m = 6 ∨ m = 7 := by omega
  have j0t : ∀ y : Int, whirligigref02_Do.j0 90 (a.val : Int) (v.val : Int) y 0 true = whirligigref02_Do.j1 89 (a.val : Int) (v.val : Int) y 1 := fun y => by simp [whirligigref02_Do.j0]
  have j0f : ∀ y : Int, whirligigref02_Do.j0 90 (a.val : Int) (v.val : Int) y 0 false = whirligigref02_Do.j1 89 (a.val : Int) (v.val : Int) y 0 := fun y => by simp [whirligigref02_Do.j0]
  rcases hm with rfl | rfl | rfl | rfl | rfl | rfl | rfl | rfl
  · refine ⟨addT a.val v.val 0, ?_, ?_⟩
    · simp [a0]
    · simp [j0f, ref_add 89 a.val v.val 0 0 (by omega) ba bv (by omega) (by omega)]
  · cases c with
    | true =>
      refine ⟨addT a.val v.val 1, ?_, ?_⟩
      · simp [a1]
      · simp [j0t, ref_add 89 a.val v.val 1 1 (by omega) ba bv (by omega) (by omega)]
    | false =>
      refine ⟨addT a.val v.val 0, ?_, ?_⟩
      · simp [a0]
      · simp [j0f, ref_add 89 a.val v.val 1 0 (by omega) ba bv (by omega) (by omega)]
  · refine ⟨subT a.val v.val 0, ?_, ?_⟩
    · simp [s0]
    · simp [j0f, ref_sub 89 a.val v.val 2 0 (by omega) ba bv (by omega) (by omega)]
  · cases c with
    | true =>
      refine ⟨subT a.val v.val 1, ?_, ?_⟩
      · simp [s1]
      · simp [j0t, ref_sub 89 a.val v.val 3 1 (by omega) ba bv (by omega) (by omega)]
    | false =>
      refine ⟨subT a.val v.val 0, ?_, ?_⟩
      · simp [s0]
      · simp [j0f, ref_sub 89 a.val v.val 3 0 (by omega) ba bv (by omega) (by omega)]
  · have e := ref_each 87 a v 4 0 _ (by omega) (each_and a v 87 (by omega))
    refine ⟨(Go.bits .and .u8 (a.val : Int) (v.val : Int), Go.bits .and .u8 (a.val : Int) (v.val : Int) == 0, false, true, false), ?_, ?_⟩
    · simp
    · simp [j0f, e]
  · have e := ref_each 87 a v 5 0 _ (by omega) (each_xor a v 87 (by omega))
    have hz := xor_zero a v
    refine ⟨(Go.bits .xor .u8 (a.val : Int) (v.val : Int), Go.bits .xor .u8 (a.val : Int) (v.val : Int) == 0, false, false, false), ?_, ?_⟩
    · simp [hz]
    · simp [j0f, e]
  · have e := ref_each 87 a v 6 0 _ (by omega) (each_or a v 87 (by omega))
    refine ⟨(Go.bits .or .u8 (a.val : Int) (v.val : Int), Go.bits .or .u8 (a.val : Int) (v.val : Int) == 0, false, false, false), ?_, ?_⟩
    · simp
    · simp [j0f, e]
  · refine ⟨(a.val, (subT a.val v.val 0).2.1, (subT a.val v.val 0).2.2.1, (subT a.val v.val 0).2.2.2.1, (subT a.val v.val 0).2.2.2.2), ?_, ?_⟩
    · simp [s0]
    · simp [j0f, ref_sub 89 a.val v.val 7 0 (by omega) ba bv (by omega) (by omega)]
theorem AluDoes (a0 a1 a2 : Int) (z n h c : Bool) (w0 : (Lit.int .i64 a0).wf = true) (w1 : (Lit.int .u8 a1).wf = true) (w2 : (Lit.int .u8 a2).wf = true) : ∃ k, whirligiglaw02_AluDoes.f k a0 a1 a2 z n h c = some true := by
  obtain ⟨a, rfl⟩ := u8_of w1
  obtain ⟨v, rfl⟩ := u8_of w2
  obtain ⟨r, h1, h2⟩ := does_same a0 a v z n h c
  refine ⟨90, ?_⟩
  unfold whirligiglaw02_AluDoes.f
  rw [shown_is, h1, h2]
  simp
end Go.Proofs.Ytdfpaebbejdjlaa.Pure
