/- An image's head of which one byte is another one. -/
import Derived.Test.YtmlpijlnchnabaaPureImage
import Derived.Laws.BitsAllLaws
namespace Go.Proofs.Ytmlpijlnchnabaa.Pure
open Go.RowKit Go.Proofs.Ytmlpijlnchnabaa.G Go.Proofs.Ytmlpijlnchnabaa.Hand
open Go.Proofs.YtmlpijlnchnabaaW.PrintWords Go.Proofs.YtmlpijlnchnabaaW.PrintLast Go.Proofs.YtmlpijlnchnabaaW.PrintMore
set_option maxRecDepth 100000
set_option linter.unusedVariables false
set_option linter.unusedSimpArgs false
theorem rd_set (l : List Int) (i : Nat) (x : Int) (j : Int) (hi : i < l.length) (h0 : 0 ≤ j) : rd (l.set i x) j = if j = (i : Int) then x else rd l j := by
  unfold rd
  rw [List.getD_eq_getElem?_getD, List.getD_eq_getElem?_getD, List.getElem?_set]
  by_cases h : j = (i : Int)
  · rw [if_pos h, if_pos (by omega), if_pos (by omega)]; rfl
  · rw [if_neg h, if_neg (by omega)]
theorem rd_append (l m : List Int) (j : Int) (h0 : 0 ≤ j) (h1 : j < l.length) : rd (l ++ m) j = rd l j := by
  unfold rd
  rw [List.getD_eq_getElem?_getD, List.getD_eq_getElem?_getD, List.getElem?_append_left (by omega)]
theorem sumTo_congr (l m : List Int) : ∀ j : Nat, (∀ i : Int, 308 ≤ i → i < 308 + (j : Int) → rd l i = rd m i) → sumTo l j = sumTo m j
  | 0, _ => rfl
  | j + 1, h => by
    show (sumTo l j - (rd l ((308 + j : Nat) : Int) + 1) % 256) % 256 = (sumTo m j - (rd m ((308 + j : Nat) : Int) + 1) % 256) % 256
    rw [sumTo_congr l m j (fun i h1 h2 => h i h1 (by omega)), h ((308 + j : Nat) : Int) (by omega) (by omega)]
theorem sumTo_set {l : List Int} (hb : bytes l) (i : Nat) (x : Int) (hx : 0 ≤ x ∧ x ≤ 255) (hi : 308 + i < l.length) : ∀ j : Nat, sumTo (l.set (308 + i) x) j = if j ≤ i then sumTo l j else (sumTo l j + rd l ((308 + i : Nat) : Int) - x) % 256
  | 0 => by rw [if_pos (by omega)]; rfl
  | j + 1 => by
    have r1 := rd_byte hb ((308 + i : Nat) : Int)
    have r2 := rd_byte hb ((308 + j : Nat) : Int)
    have s := sumTo_byte l j
    show (sumTo (l.set (308 + i) x) j - (rd (l.set (308 + i) x) ((308 + j : Nat) : Int) + 1) % 256) % 256 = if j + 1 ≤ i then (sumTo l j - (rd l ((308 + j : Nat) : Int) + 1) % 256) % 256 else ((sumTo l j - (rd l ((308 + j : Nat) : Int) + 1) % 256) % 256 + rd l ((308 + i : Nat) : Int) - x) % 256
    rw [sumTo_set hb i x hx hi j, rd_set l (308 + i) x _ hi (by omega)]
    by_cases c : j = i
    · subst c
      rw [if_pos (by omega), if_pos rfl, if_neg (by omega)]
      omega
    · rw [if_neg (show ¬ ((308 + j : Nat) : Int) = ((308 + i : Nat) : Int) by omega)]
      by_cases d : j < i
      · rw [if_pos (by omega), if_pos (by omega)]
      · rw [if_neg (by omega), if_neg (by omega)]
        omega
theorem xor_other (a b : Int) (ha : 0 ≤ a ∧ a ≤ 255) (hb : 0 ≤ b ∧ b ≤ 255) (h0 : b ≠ 0) : Go.bits .xor .u8 a b ≠ a ∧ 0 ≤ Go.bits .xor .u8 a b ∧ Go.bits .xor .u8 a b ≤ 255 := by
  rw [u8_xor a b ha.1 (by omega) hb.1 (by omega)]
  have hlt : a.toNat ^^^ b.toNat < 2 ^ 8 := Nat.xor_lt_two_pow (by omega) (by omega)
  refine ⟨fun h => h0 ?_, by omega, by omega⟩
  have h1 : a.toNat ^^^ b.toNat = a.toNat := by omega
  have h2 : a.toNat ^^^ (a.toNat ^^^ b.toNat) = 0 := by rw [h1, Nat.xor_self]
  rw [← Nat.xor_assoc, Nat.xor_self, Nat.zero_xor] at h2
  omega
theorem xor_byte (a b : Int) (ha : 0 ≤ a ∧ a ≤ 255) (hb : 0 ≤ b ∧ b ≤ 255) : 0 ≤ Go.bits .xor .u8 a b ∧ Go.bits .xor .u8 a b ≤ 255 := by
  rw [u8_xor a b ha.1 (by omega) hb.1 (by omega)]
  have hlt : a.toNat ^^^ b.toNat < 2 ^ 8 := Nat.xor_lt_two_pow (by omega) (by omega)
  omega
/-- A head whose sum doesn't fit is refused. -/
theorem refused {l : List Int} (hb : bytes l) (hl : 336 ≤ l.length) (hs : rd l 333 ≠ sumTo l 25) : ∃ e : Int, e ≠ 0 ∧ header_Parse.f l = some ((⟨#[]⟩ : ByteArray), 0, 0, false, false, false, 0, 0, 0, 0, e) := by
  unfold header_Parse.f
  have b7 := rd_byte hb 327
  have b8 := rd_byte hb 328
  have b9 := rd_byte hb 329
  rw [if_pos (show (336 : Int) ≤ l.length by omega), if_pos ⟨b7.1, b7.2, b8.1, b9.1⟩]
  by_cases hok : (wareT (rd l 327)).2.2.2.2 = true
  · rw [if_pos hok]
    by_cases hc : rd l 328 ≤ 8 ∧ rd l 329 ≤ 5 ∧ (l.length : Int) ≤ shl .i64 32768 (rd l 328)
    · rw [if_pos hc, if_neg hs]; exact ⟨3, by decide, rfl⟩
    · rw [if_neg hc]; exact ⟨5, by decide, rfl⟩
  · rw [if_neg hok]; exact ⟨4, by decide, rfl⟩
/-- A byte of the head turned: its sum doesn't fit. -/
theorem turned {l : List Int} (hb : bytes l) (hl : 336 ≤ l.length) (hs : rd l 333 = sumTo l 25) (k : Nat) (hk : 308 ≤ k ∧ k ≤ 333) (x : Int) (hx : 0 ≤ x ∧ x ≤ 255) (hne : x ≠ rd l (k : Int)) : rd (l.set k x) 333 ≠ sumTo (l.set k x) 25 := by
  have r := rd_byte hb (k : Int)
  have s := sumTo_byte l 25
  rw [rd_set l k x 333 (by omega) (by omega)]
  by_cases h : k = 333
  · subst h
    rw [if_pos (show (333 : Int) = ((333 : Nat) : Int) from rfl), sumTo_congr (l.set 333 x) l 25 (fun i h1 h2 => by rw [rd_set l 333 x i (by omega) (by omega), if_neg (by omega)]), ← hs]
    exact hne
  · obtain ⟨i, rfl⟩ : ∃ i, k = 308 + i := ⟨k - 308, by omega⟩
    rw [if_neg (by omega), sumTo_set hb i x hx (by omega) 25, if_neg (by omega), hs]
    omega
/-- An image that was made: its length, its sum. -/
theorem made {s : ByteArray} {kd rom ram : Int} {l r : List Int} (h1 : 0 ≤ kd ∧ kd ≤ 255) (h2 : 0 ≤ rom ∧ rom ≤ 255) (h3 : 0 ≤ ram ∧ ram ≤ 255) (hl : bytes l) (h : header_Make.f s kd rom ram l = some (r, 0)) :
    r.length = 336 + l.length ∧ bytes r ∧ rd r 333 = sumTo r 25 := by
  unfold header_Make.f at h
  by_cases hs : (s.size : Int) ≤ 16
  case neg => rw [if_neg hs] at h; simp at h
  rw [if_pos hs] at h
  by_cases ht : titleOk s = true
  case neg => rw [if_neg ht] at h; simp at h
  rw [if_pos ht, if_pos ⟨h1.1, h1.2, h2.1⟩] at h
  by_cases hok : (wareT kd).2.2.2.2 = true
  case neg => rw [if_neg hok] at h; simp at h
  rw [if_pos hok] at h
  by_cases hc : rom ≤ 8 ∧ ram ≤ 5 ∧ (l.length : Int) ≤ wrap64 (shl .i64 32768 rom - 336)
  case neg => rw [if_neg hc] at h; simp at h
  rw [if_pos hc, makeL_is s kd rom ram l (by omega)] at h
  obtain ⟨v, hv, h⟩ := Option.bind_eq_some_iff.mp h
  simp only [Option.some.injEq, Prod.mk.injEq, and_true] at h
  have e : (headY s kd rom ram).set 333 (sumTo (headY s kd rom ram) 25) ++ l = imageL s kd rom ram l := rfl
  rw [e] at h
  have hI := imageL_length s kd rom ram l
  have hIb := imageL_bytes s kd rom ram l h1 h2 h3 hl
  have hY := headY_length s kd rom ram
  subst h
  have each : ∀ i : Int, 0 ≤ i → i < 334 → rd (((imageL s kd rom ram l).set 334 (v / 256 % 256)).set 335 (v % 256)) i = rd ((headY s kd rom ram).set 333 (sumTo (headY s kd rom ram) 25)) i := by
    intro i h0 h4
    rw [rd_set _ 335 _ i (by rw [List.length_set, hI]; omega) h0, if_neg (by omega), rd_set _ 334 _ i (by rw [hI]; omega) h0, if_neg (by omega)]
    exact rd_append _ _ i h0 (by rw [List.length_set, hY]; omega)
  refine ⟨by rw [List.length_set, List.length_set, hI], bytes_set (bytes_set hIb _ _ (by omega)) _ _ (by omega), ?_⟩
  rw [each 333 (by omega) (by omega), rd_set _ 333 _ 333 (by rw [hY]; omega) (by omega), if_pos (show (333 : Int) = ((333 : Nat) : Int) from rfl)]
  refine (sumTo_congr _ _ 25 (fun i h1 h2 => ?_)).symm
  rw [each i (by omega) (by omega), rd_set _ 333 _ i (by rw [hY]; omega) (by omega), if_neg (by omega)]
theorem make_total (s : ByteArray) (kd rom ram : Int) (l : List Int) (h1 : 0 ≤ kd ∧ kd ≤ 255) (h2 : 0 ≤ rom ∧ rom ≤ 255) (h3 : 0 ≤ ram ∧ ram ≤ 255) (hl : bytes l) : ∃ r e, header_Make.f s kd rom ram l = some (r, e) := by
  unfold header_Make.f
  by_cases hs : (s.size : Int) ≤ 16
  case neg => rw [if_neg hs]; exact ⟨_, _, rfl⟩
  rw [if_pos hs]
  by_cases ht : titleOk s = true
  case neg => rw [if_neg ht]; exact ⟨_, _, rfl⟩
  rw [if_pos ht, if_pos ⟨h1.1, h1.2, h2.1⟩]
  by_cases hok : (wareT kd).2.2.2.2 = true
  case neg => rw [if_neg hok]; exact ⟨_, _, rfl⟩
  rw [if_pos hok]
  by_cases hc : rom ≤ 8 ∧ ram ≤ 5 ∧ (l.length : Int) ≤ wrap64 (shl .i64 32768 rom - 336)
  case neg => rw [if_neg hc]; exact ⟨_, _, rfl⟩
  rw [if_pos hc, makeL_is s kd rom ram l (by omega)]
  have e : (headY s kd rom ram).set 333 (sumTo (headY s kd rom ram) 25) ++ l = imageL s kd rom ram l := rfl
  have hI := imageL_length s kd rom ram l
  have hn := most_le rom h2.1 hc.1
  have hc3 := hc.2.2
  obtain ⟨v, g1, _⟩ := whole_same (imageL_bytes s kd rom ram l h1 h2 h3 hl) (by omega) (337 + l.length) (by omega)
  rw [e, g1]
  exact ⟨_, _, rfl⟩
end Go.Proofs.Ytmlpijlnchnabaa.Pure
