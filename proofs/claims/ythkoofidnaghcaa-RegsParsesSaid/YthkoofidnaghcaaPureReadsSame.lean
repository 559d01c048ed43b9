/- Any text is read by the program as by the reference (for the seat of layer 4): any text is read as the number, or refused, as the document says. -/
import Derived.Test.YthkoofidnaghcaaNum
import Derived.Test.YthkoofidnaghcaaHRead
import Derived.Test.YthkoofidnaghcaaG49
namespace Go.Proofs.Ythkoofidnaghcaa.Pure
open Go.RowKit Go.Proofs.Ythkoofidnaghcaa.G Go.Proofs.Ythkoofidnaghcaa.Hand
open Go.Proofs.YthkoofidnaghcaaW.PrintWords Go.Proofs.YthkoofidnaghcaaW.PrintLast Go.Proofs.YthkoofidnaghcaaW.PrintMore
set_option maxRecDepth 100000
set_option linter.unusedVariables false
theorem worth_all : ∀ c : Fin 256, ((word_digit.f 5 (c.val : Int)).any fun t => whirligigref01_worth.f 40 (c.val : Int) == some (if t.2 = true then t.1 else -1) && decide (0 ≤ t.1) && decide (t.1 < 16)) = true := by decide +kernel
theorem worth_more (c r : Int) (K : Nat) (h : whirligigref01_worth.f K c = some r) : ∀ k, K ≤ k → whirligigref01_worth.f k c = some r :=
  fun k hk => at_rounds (g := fun k => whirligigref01_worth.f k c) (fun k => whirligigref01_worth.mono c k) hk h
theorem worth (c : UInt8) : ∃ d b, word_digit.f 5 (c.toNat : Int) = some (d, b) ∧ (∀ k, 40 ≤ k → whirligigref01_worth.f k (c.toNat : Int) = some (if b = true then d else -1)) ∧ 0 ≤ d ∧ d < 16 := by
  have h := worth_all ⟨c.toNat, c.toNat_lt⟩
  cases e : word_digit.f 5 (c.toNat : Int) with
  | none => simp [e] at h
  | some t =>
    obtain ⟨d, b⟩ := t
    simp [e] at h
    exact ⟨d, b, rfl, worth_more _ _ 40 h.1.1, h.1.2, h.2⟩
/-- What a number may be that m digits are still to follow. -/
def room : Nat → Int
  | 0 => 65536
  | 1 => 4096
  | 2 => 256
  | 3 => 16
  | _ => 1
/-- From any place on, with the same number so far, both come to the same. -/
theorem reads_from (s : ByteArray) (hs : s.size ≤ 4) : ∀ (m k : Nat) (i : Nat) (n : Int), s.size - i = m → i ≤ s.size → 45 + m ≤ k → 0 ≤ n → n < room m →
    ∃ r e, word_Read.l (s.data.toList.drop i) n = some (r, e) ∧ whirligigref01_Read.l0 k s n (i : Int) = some (r, e) := by
  intro m
  induction m with
  | zero =>
    intro k i n hm _ hk hn hb
    obtain ⟨k, rfl⟩ : ∃ j, k = j + 1 := ⟨k - 1, by omega⟩
    have hi : ¬ (i : Int) < (s.size : Int) := by omega
    refine ⟨n, 0, ?_, ?_⟩
    · rw [List.drop_of_length_le (by simp; omega)]; rfl
    · simp only [whirligigref01_Read.l0]
      have : n < 65536 := hb
      have e : IntKind.u16.wrap n = n := by rw [IntKind.wrap_u16]; omega
      rw [if_neg hi, e]
  | succ m ih =>
    intro k i n hm his hk hn hb
    obtain ⟨k, rfl⟩ : ∃ j, k = j + 1 := ⟨k - 1, by omega⟩
    have hp : i < s.size := by omega
    have hi : (i : Int) < (s.size : Int) := by omega
    have hl : s.data.toList.drop i = s[i] :: s.data.toList.drop (i + 1) := by
      rw [List.drop_eq_getElem_cons (by simpa using hp)]; rfl
    have hbt : bt s (i : Int) = (s[i].toNat : Int) := by
      unfold bt
      rw [dif_pos (show (i : Int).toNat < s.size by omega)]
      rfl
    obtain ⟨d, b, h1, h2, h3, h4⟩ := worth s[i]
    have hr : 16 * room (m + 1) = room m ∧ room (m + 1) ≤ 4096 := by
      have : m = 0 ∨ m = 1 ∨ m = 2 ∨ m = 3 := by omega
      rcases this with rfl | rfl | rfl | rfl <;> simp [room]
    have hn16 : n * 16 + d < room m := by omega
    have hm16 : n < 4096 := by omega
    clear hb hr
    simp only [whirligigref01_Read.l0]
    rw [if_pos hi, if_pos (by omega), hbt, h2 k (by omega), hl]
    simp only [word_Read.l, h1, Option.bind_some]
    cases b with
    | false =>
      refine ⟨0, 6, if_neg (by simp), ?_⟩
      rw [if_neg (show ¬ false = true by simp), if_pos (by omega)]
    | true =>
      have e1 : wrap64 (n * 16) = n * 16 := wrap64_in (by omega)
      have e2 : wrap64 (n * 16 + d) = n * 16 + d := wrap64_in (by omega)
      have e3 : wrap64 ((i : Int) + 1) = ((i + 1 : Nat) : Int) := by rw [wrap64_in (by omega)]; omega
      have e4 : IntKind.u16.wrap (n * 16) = n * 16 := by rw [IntKind.wrap_u16]; omega
      have e5 := u16_or16 n d hn h3 h4 (by omega)
      simp only [if_true]
      rw [if_neg (by omega), e1, e2, e3, e4, e5]
      clear e1 e2 e3 e4 e5 h1 h2 hbt hl
      exact ih k (i + 1) (n * 16 + d) (by omega) (by omega) (by omega) (by omega) hn16
theorem reads_same (s : ByteArray) (n : Int) : ∃ r e, word_Read.f s n = some (r, e) ∧ whirligigref01_Read.f 90 s n = some (r, e) := by
  unfold word_Read.f whirligigref01_Read.f
  by_cases h1 : n < 1
  · rw [if_pos h1, if_pos h1]; exact ⟨0, 1, rfl, rfl⟩
  rw [if_neg h1, if_neg h1]
  by_cases h2 : 4 < n
  · have : decide (n > 4) = true := by simpa using h2
    rw [if_pos h2, this]; exact ⟨0, 1, rfl, rfl⟩
  have h2' : decide (n > 4) = false := by simpa using h2
  rw [if_neg h2, h2']
  simp only [whirligigref01_Read.j0]
  by_cases h3 : (s.size : Int) = n
  · rw [if_pos h3]
    obtain ⟨r, e, h4, h5⟩ := reads_from s (by omega) s.size 89 0 0 (by omega) (by omega) (by omega) (by omega) (by
      have : s.size = 1 ∨ s.size = 2 ∨ s.size = 3 ∨ s.size = 4 := by omega
      rcases this with h | h | h | h <;> rw [h] <;> decide)
    refine ⟨r, e, h4, ?_⟩
    rw [if_neg (by simp), if_pos h3]
    exact h5
  · rw [if_neg h3]
    exact ⟨0, 6, rfl, by rw [if_neg (by simp), if_neg h3]⟩
end Go.Proofs.Ythkoofidnaghcaa.Pure
