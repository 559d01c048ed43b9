/- Four capital digits and the word that they are, both ways. -/
import Derived.Test.YthkoofidnaghcaaNum
import Derived.Test.YthkoofidnaghcaaHRead
import Derived.Test.YthkoofidnaghcaaG8
import Derived.Test.YthkoofidnaghcaaG47
namespace Go.Proofs.Ythkoofidnaghcaa.Pure
open Go.RowKit Go.Proofs.Ythkoofidnaghcaa.G Go.Proofs.Ythkoofidnaghcaa.Hand
open Go.Proofs.YthkoofidnaghcaaW.PrintWords Go.Proofs.YthkoofidnaghcaaW.PrintLast Go.Proofs.YthkoofidnaghcaaW.PrintMore
set_option maxRecDepth 100000
set_option linter.unusedVariables false
set_option linter.unusedSimpArgs false
/-- The capital digit of a number below 16. -/
def hx (d : Int) : UInt8 := [48, 49, 50, 51, 52, 53, 54, 55, 56, 57, 65, 66, 67, 68, 69, 70].getD d.toNat 0
theorem hx_all : ∀ d : Fin 16, (whirligigref04_capital.f ((hx (d.val : Int)).toNat : Int) == some true && word_digit.f 5 ((hx (d.val : Int)).toNat : Int) == some ((d.val : Int), true)) = true := by decide +kernel
theorem hx_cap (d : Int) (h : 0 ≤ d ∧ d < 16) : whirligigref04_capital.f ((hx d).toNat : Int) = some true ∧ word_digit.f 5 ((hx d).toNat : Int) = some (d, true) := by
  have := hx_all ⟨d.toNat, by omega⟩
  rw [show ((⟨d.toNat, by omega⟩ : Fin 16).val : Int) = d by show (d.toNat : Int) = d; omega] at this
  simpa using this
theorem hx_inj (d e : Int) (hd : 0 ≤ d ∧ d < 16) (he : 0 ≤ e ∧ e < 16) (h : hx d = hx e) : d = e := by
  have h1 := (hx_cap d hd).2
  have h2 := (hx_cap e he).2
  rw [h, h2] at h1
  simp only [Option.some.injEq, Prod.mk.injEq] at h1
  exact h1.1.symm
theorem cap_all : ∀ c : Fin 256, ((word_digit.f 5 (c.val : Int)).any fun t => decide (0 ≤ t.1) && (decide (t.1 < 16) && (whirligigref04_capital.f (c.val : Int) == some (t.2 && (hx t.1).toNat == c.val)))) = true := by decide +kernel
theorem cap_is (c : UInt8) : ∃ d b, word_digit.f 5 (c.toNat : Int) = some (d, b) ∧ (0 ≤ d ∧ d < 16) ∧ whirligigref04_capital.f (c.toNat : Int) = some (b && hx d == c) := by
  have h := cap_all ⟨c.toNat, by have := c.toNat_lt; omega⟩
  cases e : word_digit.f 5 (c.toNat : Int) with
  | none => simp only [e] at h; simp at h
  | some t =>
    simp only [e] at h
    simp at h
    refine ⟨t.1, t.2, rfl, ⟨h.1, h.2.1⟩, ?_⟩
    rw [h.2.2]
    congr 2
    by_cases q : hx t.1 = c
    · rw [q]; simp
    · have q2 : ¬ (hx t.1).toNat = c.toNat := fun z => q (UInt8.toNat_inj.mp z)
      rw [beq_eq_false_iff_ne.mpr q, beq_eq_false_iff_ne.mpr q2]
theorem hex8_all : ∀ v : Fin 256, ((word_Hex8.f (v.val : Int)).any fun s => s.data.toList == [hx ((v.val : Int) / 16), hx ((v.val : Int) % 16)]) = true := by decide +kernel
theorem hex8_is (x : Int) (h : 0 ≤ x ∧ x ≤ 255) : word_Hex8.f x = some ⟨⟨[hx (x / 16), hx (x % 16)]⟩⟩ := by
  obtain ⟨v, rfl⟩ := byte_fin h
  have h1 := hex8_all v
  cases e : word_Hex8.f (v.val : Int) with
  | none => rw [e] at h1; simp at h1
  | some s =>
    rw [e] at h1
    obtain ⟨⟨l⟩⟩ := s
    simp at h1
    rw [h1]
/-- The text of a word. -/
def hx4 (x : Int) : ByteArray := ⟨⟨[hx (x / 4096), hx (x / 256 % 16), hx (x / 16 % 16), hx (x % 16)]⟩⟩
theorem hex16_is (x : Int) (h : 0 ≤ x ∧ x ≤ 65535) : word_Hex16.f x = some (hx4 x) := by
  unfold word_Hex16.f
  rw [hex8_is (x / 256 % 256) (by omega), hex8_is (x % 256) (by omega)]
  simp only [Option.bind_some]
  rw [if_pos (by show (2 + 2 : Nat) ≤ 9223372036854775807; decide), show x / 256 % 256 / 16 = x / 4096 by omega, show x / 256 % 256 % 16 = x / 256 % 16 by omega, show x % 256 / 16 = x / 16 % 16 by omega, show x % 256 % 16 = x % 16 by omega]
  rfl
theorem read_step (c : UInt8) (l : List UInt8) (w d : Int) (b : Bool) (hw : 0 ≤ w ∧ w < 4096) (hd : 0 ≤ d ∧ d < 16) (h : word_digit.f 5 (c.toNat : Int) = some (d, b)) :
    word_Read.l (c :: l) w = if b = true then word_Read.l l (w * 16 + d) else some (0, 6) := by
  have a1 : IntKind.u16.wrap (w * 16) = w * 16 := by rw [IntKind.wrap_u16]; omega
  have a2 := u16_or16 w d (by omega) (by omega) (by omega) (by omega)
  simp only [word_Read.l, h, Option.bind_some, a1, a2]
def cap4 (a b c d : UInt8) : Prop := whirligigref04_capital.f (a.toNat : Int) = some true ∧ whirligigref04_capital.f (b.toNat : Int) = some true ∧ whirligigref04_capital.f (c.toNat : Int) = some true ∧ whirligigref04_capital.f (d.toNat : Int) = some true
instance cap4_dec (a b c d : UInt8) : Decidable (cap4 a b c d) := by unfold cap4; infer_instance
theorem chunk (a b c d : UInt8) : ∃ v e, word_Read.f ⟨⟨[a, b, c, d]⟩⟩ 4 = some (v, e) ∧ (0 ≤ v ∧ v ≤ 65535) ∧ (cap4 a b c d → e = 0 ∧ a = hx (v / 4096) ∧ b = hx (v / 256 % 16) ∧ c = hx (v / 16 % 16) ∧ d = hx (v % 16)) := by
  obtain ⟨d0, b0, e0, r0, c0⟩ := cap_is a
  obtain ⟨d1, b1, e1, r1, c1⟩ := cap_is b
  obtain ⟨d2, b2, e2, r2, c2⟩ := cap_is c
  obtain ⟨d3, b3, e3, r3, c3⟩ := cap_is d
  have hf : word_Read.f ⟨⟨[a, b, c, d]⟩⟩ 4 = word_Read.l [a, b, c, d] 0 := by
    unfold word_Read.f
    rw [if_neg (by decide), if_neg (by decide), if_pos (by rfl)]
  rw [hf, read_step a _ 0 d0 b0 (by omega) r0 e0]
  unfold cap4
  rw [c0, c1, c2, c3]
  cases b0 with
  | false => exact ⟨0, 6, rfl, by omega, fun h => by simp at h⟩
  | true =>
  rw [if_pos rfl, read_step b _ _ d1 b1 (by omega) r1 e1]
  cases b1 with
  | false => exact ⟨0, 6, rfl, by omega, fun h => by simp at h⟩
  | true =>
  rw [if_pos rfl, read_step c _ _ d2 b2 (by omega) r2 e2]
  cases b2 with
  | false => exact ⟨0, 6, rfl, by omega, fun h => by simp at h⟩
  | true =>
  rw [if_pos rfl, read_step d _ _ d3 b3 (by omega) r3 e3]
  cases b3 with
  | false => exact ⟨0, 6, rfl, by omega, fun h => by simp at h⟩
  | true =>
  refine ⟨_, _, rfl, by omega, fun h => ?_⟩
  simp at h
  obtain ⟨h0, h1, h2, h3⟩ := h
  refine ⟨rfl, ?_, ?_, ?_, ?_⟩
  · rw [← h0]; congr 1; omega
  · rw [← h1]; congr 1; omega
  · rw [← h2]; congr 1; omega
  · rw [← h3]; congr 1; omega
theorem cap4_hx (x : Int) (h : 0 ≤ x ∧ x ≤ 65535) : cap4 (hx (x / 4096)) (hx (x / 256 % 16)) (hx (x / 16 % 16)) (hx (x % 16)) :=
  ⟨(hx_cap _ (by omega)).1, (hx_cap _ (by omega)).1, (hx_cap _ (by omega)).1, (hx_cap _ (by omega)).1⟩
theorem hx4_inj (x y : Int) (hx_ : 0 ≤ x ∧ x ≤ 65535) (hy : 0 ≤ y ∧ y ≤ 65535) (h0 : hx (x / 4096) = hx (y / 4096)) (h1 : hx (x / 256 % 16) = hx (y / 256 % 16)) (h2 : hx (x / 16 % 16) = hx (y / 16 % 16)) (h3 : hx (x % 16) = hx (y % 16)) : x = y := by
  have g0 := hx_inj _ _ (by omega) (by omega) h0
  have g1 := hx_inj _ _ (by omega) (by omega) h1
  have g2 := hx_inj _ _ (by omega) (by omega) h2
  have g3 := hx_inj _ _ (by omega) (by omega) h3
  omega
theorem read_hx4 (x : Int) (h : 0 ≤ x ∧ x ≤ 65535) : word_Read.f (hx4 x) 4 = some (x, 0) := by
  obtain ⟨v, e, hr, hv, hc⟩ := chunk (hx (x / 4096)) (hx (x / 256 % 16)) (hx (x / 16 % 16)) (hx (x % 16))
  obtain ⟨he, g0, g1, g2, g3⟩ := hc (cap4_hx x h)
  unfold hx4
  rw [hr, he, hx4_inj x v h hv g0 g1 g2 g3]
end Go.Proofs.Ythkoofidnaghcaa.Pure
