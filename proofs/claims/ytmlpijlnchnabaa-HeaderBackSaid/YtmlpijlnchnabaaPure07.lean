/- The sums of an image, in plain words. -/
import Derived.Test.YtmlpijlnchnabaaNum
import Derived.Test.YtmlpijlnchnabaaHSum
import Derived.Test.YtmlpijlnchnabaaG7
import Derived.Test.YtmlpijlnchnabaaG9
import Derived.Test.YtmlpijlnchnabaaG16
import Derived.Test.YtmlpijlnchnabaaG8
namespace Go.Proofs.Ytmlpijlnchnabaa.Pure
open Go.RowKit Go.Proofs.Ytmlpijlnchnabaa.G Go.Proofs.Ytmlpijlnchnabaa.Hand
open Go.Proofs.YtmlpijlnchnabaaW.PrintWords Go.Proofs.YtmlpijlnchnabaaW.PrintLast Go.Proofs.YtmlpijlnchnabaaW.PrintMore
set_option maxRecDepth 100000
set_option linter.unusedVariables false
set_option linter.unusedSimpArgs false
theorem shown1 : whirligiglaw07_shown.f 1 = some true := by decide +kernel
theorem shown_all (k : Nat) (hk : 1 ≤ k) : whirligiglaw07_shown.f k = some true := by
  obtain ⟨j, rfl⟩ := Nat.exists_eq_add_of_le hk
  induction j with
  | zero => exact shown1
  | succ j ih => exact whirligiglaw07_shown.mono _ _ (ih (by omega))
def bytes (l : List Int) : Prop := ∀ x ∈ l, 0 ≤ x ∧ x ≤ 255
theorem rd_byte {l : List Int} (h : bytes l) (i : Int) : 0 ≤ rd l i ∧ rd l i ≤ 255 := by
  unfold rd
  rw [List.getD_eq_getElem?_getD]
  cases e : l[i.toNat]? with
  | none => simp
  | some x => exact h x (List.mem_of_getElem? e)
theorem sumTo_byte (l : List Int) : ∀ j, 0 ≤ sumTo l j ∧ sumTo l j ≤ 255
  | 0 => by unfold sumTo; omega
  | j + 1 => by unfold sumTo; omega
theorem sum_step {l : List Int} (h : bytes l) (hl : 336 ≤ l.length) : ∀ m j k : Nat, j + m = 25 → m + 1 ≤ k → whirligigref07_Sum.l0 k l (sumTo l j) (308 + (j : Int)) = some (sumTo l 25, 0) := by
  intro m
  induction m with
  | zero =>
    intro j k hj hk
    obtain ⟨k', rfl⟩ : ∃ k', k = k' + 1 := ⟨k - 1, by omega⟩
    obtain rfl : j = 25 := by omega
    have b := sumTo_byte l 25
    rw [whirligigref07_Sum.l0, if_neg (by decide), show sumTo l 25 % 256 = sumTo l 25 by omega]
  | succ m ih =>
    intro j k hj hk
    obtain ⟨k', rfl⟩ : ∃ k', k = k' + 1 := ⟨k - 1, by omega⟩
    have b := sumTo_byte l j
    have r := rd_byte h (308 + (j : Int))
    rw [whirligigref07_Sum.l0, if_pos (by omega), if_pos (by omega), if_pos (by omega)]
    have e1 : wrap64 (sumTo l j + 512) = sumTo l j + 512 := wrap64_in (by omega)
    have e2 : wrap64 (rd l (308 + (j : Int))) = rd l (308 + (j : Int)) := wrap64_in (by omega)
    rw [e1, e2, wrap64_in (x := sumTo l j + 512 - rd l (308 + (j : Int))) (by omega), wrap64_in (x := sumTo l j + 512 - rd l (308 + (j : Int)) - 1) (by omega), Int.tmod_eq_emod_of_nonneg (by omega), wrap64_in (x := 308 + (j : Int) + 1) (by omega)]
    have q := ih (j + 1) k' (by omega) (by omega)
    have e3 : sumTo l (j + 1) = (sumTo l j + 512 - rd l (308 + (j : Int)) - 1) % 256 := by
      show (sumTo l j - (rd l ((308 + j : Nat) : Int) + 1) % 256) % 256 = _
      rw [show ((308 + j : Nat) : Int) = 308 + (j : Int) by omega]
      omega
    rw [e3, show (308 : Int) + ((j + 1 : Nat) : Int) = 308 + (j : Int) + 1 by omega] at q
    exact q
theorem sum_same {l : List Int} (h : bytes l) (k : Nat) (hk : 30 ≤ k) : ∃ r, header_Sum.f l = some r ∧ whirligigref07_Sum.f k l = some r := by
  unfold header_Sum.f whirligigref07_Sum.f
  by_cases hl : (336 : Int) ≤ l.length
  · rw [if_pos hl, if_neg (by omega)]
    exact ⟨_, rfl, sum_step h (by omega) 25 0 k rfl (by omega)⟩
  · rw [if_neg hl, if_pos (by omega)]
    exact ⟨_, rfl, rfl⟩
theorem whole_step {l : List Int} (h : bytes l) (hL : l.length ≤ 9223372036854775807) : ∀ m j k : Nat, ∀ x : Int, j + m = l.length → m + 1 ≤ k → 0 ≤ x → x ≤ 65535 →
    ∃ r, header_Whole.l0 k x l (l.length : Int) (j : Int) = some r ∧ whirligigref07_Whole.l0 k l x (j : Int) = some r ∧ 0 ≤ r ∧ r ≤ 65535 := by
  intro m
  induction m with
  | zero =>
    intro j k x hj hk h0 h1
    obtain ⟨k', rfl⟩ : ∃ k', k = k' + 1 := ⟨k - 1, by omega⟩
    refine ⟨x, ?_, ?_, h0, h1⟩
    · rw [header_Whole.l0, if_neg (by omega)]
    · rw [whirligigref07_Whole.l0, if_neg (by omega), show IntKind.u16.wrap x = x by rw [IntKind.wrap_u16]; omega]
  | succ m ih =>
    intro j k x hj hk h0 h1
    obtain ⟨k', rfl⟩ : ∃ k', k = k' + 1 := ⟨k - 1, by omega⟩
    have r := rd_byte h (j : Int)
    have w1 : wrap64 ((j : Int) + 1) = ((j + 1 : Nat) : Int) := by rw [wrap64_in (by omega)]; omega
    have e1 : IntKind.u16.wrap (x + IntKind.u16.wrap (rd l (j : Int))) = (x + rd l (j : Int)) % 65536 := by rw [IntKind.wrap_u16, IntKind.wrap_u16]; omega
    have e2 : Int.tmod (wrap64 (x + wrap64 (rd l (j : Int)))) 65536 = (x + rd l (j : Int)) % 65536 := by
      rw [wrap64_in (x := rd l (j : Int)) (by omega), wrap64_in (x := x + rd l (j : Int)) (by omega), Int.tmod_eq_emod_of_nonneg (by omega)]
    have H1 : header_Whole.l0 (k' + 1) x l (l.length : Int) (j : Int) = if (j : Int) = 334 then header_Whole.l0 k' x l (l.length : Int) ((j + 1 : Nat) : Int) else if (j : Int) = 335 then header_Whole.l0 k' x l (l.length : Int) ((j + 1 : Nat) : Int) else header_Whole.l0 k' ((x + rd l (j : Int)) % 65536) l (l.length : Int) ((j + 1 : Nat) : Int) := by
      rw [header_Whole.l0, if_pos (by omega), if_pos (by omega), if_pos (by omega), e1, w1]
    have H2 : whirligigref07_Whole.l0 (k' + 1) l x (j : Int) = if (j : Int) = 334 then whirligigref07_Whole.l0 k' l x ((j + 1 : Nat) : Int) else if (j : Int) = 335 then whirligigref07_Whole.l0 k' l x ((j + 1 : Nat) : Int) else whirligigref07_Whole.l0 k' l ((x + rd l (j : Int)) % 65536) ((j + 1 : Nat) : Int) := by
      rw [whirligigref07_Whole.l0, if_pos (by omega), if_pos (show (0 : Int) ≤ (j : Int) by omega), e2, w1]
    rw [H1, H2]
    by_cases c1 : (j : Int) = 334
    · rw [if_pos c1, if_pos c1]
      exact ih (j + 1) k' x (by omega) (by omega) h0 h1
    by_cases c2 : (j : Int) = 335
    · rw [if_neg c1, if_neg c1, if_pos c2, if_pos c2]
      exact ih (j + 1) k' x (by omega) (by omega) h0 h1
    rw [if_neg c1, if_neg c1, if_neg c2, if_neg c2]
    exact ih (j + 1) k' _ (by omega) (by omega) (by omega) (by omega)
theorem whole_same {l : List Int} (h : bytes l) (hL : l.length ≤ 9223372036854775807) (k : Nat) (hk : l.length + 1 ≤ k) : ∃ r, header_Whole.f k l = some r ∧ whirligigref07_Whole.f k l = some r ∧ 0 ≤ r ∧ r ≤ 65535 :=
  whole_step h hL l.length 0 k 0 (by omega) hk (by omega) (by omega)
end Go.Proofs.Ytmlpijlnchnabaa.Pure
