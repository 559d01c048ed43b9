/- The plain law of HeaderBack: what was made is parsed as it was wished, its sums fit, and its code stands behind its head. -/
import Derived.Test.YtmlpijlnchnabaaPureTurn
import Derived.Test.YtmlpijlnchnabaaPureRight
import Derived.Test.YtmlpijlnchnabaaG20
namespace Go.Proofs.Ytmlpijlnchnabaa.Pure
open Go.RowKit Go.Proofs.Ytmlpijlnchnabaa.G Go.Proofs.Ytmlpijlnchnabaa.Hand
open Go.Proofs.YtmlpijlnchnabaaW.PrintWords Go.Proofs.YtmlpijlnchnabaaW.PrintLast Go.Proofs.YtmlpijlnchnabaaW.PrintMore
set_option maxRecDepth 100000
set_option linter.unusedVariables false
set_option linter.unusedSimpArgs false
theorem headB_rd : ∀ i : Fin 16, rd headB (308 + (i.val : Int)) = 0 := by decide +kernel
theorem titleB_rd (s : ByteArray) : ∀ j : Nat, j ≤ 16 → ∀ i : Nat, i < 16 → rd (titleB s j) (308 + (i : Int)) = if i < j then bt s (i : Int) else 0
  | 0, _, i, hi => by
    rw [if_neg (by omega)]
    exact headB_rd ⟨i, hi⟩
  | j + 1, hj, i, hi => by
    have hz := titleB_length s j
    rw [titleB, rd_set _ (308 + j) _ _ (by omega) (by omega), titleB_rd s j (by omega) i hi]
    by_cases c : i = j
    · subst c
      rw [if_pos (by omega), if_pos (by omega)]
    · rw [if_neg (by omega)]
      by_cases d : i < j
      · rw [if_pos d, if_pos (by omega)]
      · rw [if_neg d, if_neg (by omega)]
theorem titleTo_is (l : List Int) (n : Nat) : ∀ f j : Nat, j ≤ n → n ≤ j + f → (∀ i : Nat, j ≤ i → i < n → prb (rd l (308 + (i : Int))) = true) → (n < j + f → prb (rd l (308 + (n : Int))) = false) → titleTo l f j = n
  | 0, j, h1, h2, _, _ => by show j = n; omega
  | f + 1, j, h1, h2, h3, h4 => by
    unfold titleTo
    by_cases c : j = n
    · subst c
      rw [h4 (by omega), if_neg (by decide)]
    · rw [h3 j (Nat.le_refl _) (by omega), if_pos rfl]
      exact titleTo_is l n f (j + 1) (by omega) (by omega) (fun i a b => h3 i (by omega) b) (fun a => h4 (by omega))
theorem str_bytes (s : ByteArray) : strOfNums (bytesOf s) = s := by
  apply ByteArray.ext
  apply Array.toList_inj.mp
  rw [strOfNums_data, bytesOf, List.map_map]
  refine (List.map_congr_left (fun b _ => ?_)).trans (List.map_id _)
  show UInt8.ofNat ((b.toNat : Int)).toNat = b
  rw [Int.toNat_natCast, UInt8.ofNat_toNat]
theorem slice_is (l : List Int) (s : ByteArray) (hl : 308 + s.size ≤ l.length) (h : ∀ i : Nat, i < s.size → rd l (308 + (i : Int)) = bt s (i : Int)) : (l.take (308 + s.size)).drop 308 = bytesOf s := by
  have hb : (bytesOf s).length = s.size := bytesOf_length s
  refine List.ext_getElem (by simp [hb]; omega) (fun i h1 h2 => ?_)
  have hi : i < s.size := by omega
  have q := h i hi
  rw [← rd_bytesOf s (i : Int)] at q
  unfold rd at q
  rw [show (308 + (i : Int)).toNat = 308 + i by omega, Int.toNat_natCast, List.getD_eq_getElem?_getD, List.getD_eq_getElem?_getD, List.getElem?_eq_getElem (by omega), List.getElem?_eq_getElem (by omega)] at q
  simpa using q
/-- The sum of the whole leaves the two bytes out that hold it. -/
theorem whole_congr (l m : List Int) (h : l.length = m.length) (ha : ∀ i : Int, 0 ≤ i → i ≠ 334 → i ≠ 335 → rd l i = rd m i) : ∀ k : Nat, ∀ x j : Int, header_Whole.l0 k x l (l.length : Int) j = header_Whole.l0 k x m (m.length : Int) j
  | 0, _, _ => rfl
  | k + 1, x, j => by
    rw [header_Whole.l0, header_Whole.l0, h]
    have ih := whole_congr l m h ha k
    rw [h] at ih
    by_cases c1 : j < (m.length : Int)
    · by_cases c2 : 0 ≤ j
      · by_cases c3 : j = 334
        · simp [c1, c2, c3, ih]
        · by_cases c4 : j = 335
          · simp [c1, c2, c4, ih]
          · simp [c1, c2, c3, c4, ih, ha j c2 c3 c4]
      · simp [c1, c2]
    · simp [c1]
theorem banks_all : ∀ v : Fin 9, wrap64 (2 * 2 ^ min (v.val : Int).toNat 64) = shl .i64 2 (v.val : Int) ∧ wrap64 (shl .i64 32768 (v.val : Int) - 336) = shl .i64 32768 (v.val : Int) - 336 := by decide +kernel
theorem banks_is (r : Int) (h : 0 ≤ r ∧ r ≤ 8) : wrap64 (2 * 2 ^ min r.toNat 64) = shl .i64 2 r ∧ wrap64 (shl .i64 32768 r - 336) = shl .i64 32768 r - 336 := by
  have q := banks_all ⟨r.toNat, by omega⟩
  rw [show ((⟨r.toNat, by omega⟩ : Fin 9).val : Int) = r by show (r.toNat : Int) = r; omega] at q
  exact q
theorem or_halves (v : Int) (h : 0 ≤ v ∧ v ≤ 65535) : Go.bits .or .u16 (IntKind.u16.wrap (IntKind.u16.wrap (v / 256 % 256) * 256)) (IntKind.u16.wrap (v % 256)) = v := by
  have a1 : IntKind.u16.wrap (v / 256 % 256) = v / 256 := by rw [IntKind.wrap_u16]; omega
  have a2 : IntKind.u16.wrap (v % 256) = v % 256 := by rw [IntKind.wrap_u16]; omega
  have a3 : IntKind.u16.wrap (v / 256 * 256) = v / 256 * 256 := by rw [IntKind.wrap_u16]; omega
  rw [a1, a2, a3, u16_or256 (v / 256) (v % 256) (by omega) (by omega) (by omega) (by omega)]
  omega
/-- All that is asked of an image that was made. -/
theorem made_back {s : ByteArray} {kd rom ram : Int} {l r : List Int} (h1 : 0 ≤ kd ∧ kd ≤ 255) (h2 : 0 ≤ rom ∧ rom ≤ 255) (h3 : 0 ≤ ram ∧ ram ≤ 255) (hl : bytes l) (h : header_Make.f s kd rom ram l = some (r, 0)) :
    right r ∧ titleOf r = s ∧ rd r 327 = kd ∧ rd r 328 = rom ∧ rom ≤ 8 ∧ wrap64 (2 * 2 ^ min rom.toNat 64) = shl .i64 2 rom ∧ r.drop 336 = l ∧ header_Whole.f (337 + l.length) r = some (wholeOf r) := by
  obtain ⟨m1, m2, m3⟩ := made h1 h2 h3 hl h
  unfold header_Make.f at h
  by_cases hs : (s.size : Int) ≤ 16
  case neg => rw [if_neg hs] at h; simp at h
  rw [if_pos hs] at h
  by_cases ht : titleOk s = true
  case neg => rw [if_neg ht] at h; simp at h
  rw [if_pos ht, if_pos ⟨h1.1, h1.2, h2.1⟩] at h
  by_cases hok : (wareT kd).2.2.2.2 = true
  case neg => rw [if_neg hok] at h; simp at h
  rw [if_pos hok] at h
  by_cases hc : rom ≤ 8 ∧ ram ≤ 5 ∧ (l.length : Int) ≤ wrap64 (shl .i64 32768 rom - 336)
  case neg => rw [if_neg hc] at h; simp at h
  rw [if_pos hc, makeL_is s kd rom ram l (by omega)] at h
  obtain ⟨v, hv, h⟩ := Option.bind_eq_some_iff.mp h
  simp only [Option.some.injEq, Prod.mk.injEq, and_true] at h
  have e : (headY s kd rom ram).set 333 (sumTo (headY s kd rom ram) 25) ++ l = imageL s kd rom ram l := rfl
  rw [e] at h hv
  have hI := imageL_length s kd rom ram l
  have hIb := imageL_bytes s kd rom ram l h1 h2 h3 hl
  have hY := headY_length s kd rom ram
  have hT := titleB_length s s.size
  obtain ⟨c8, c5, cl⟩ := hc
  obtain ⟨k1, k2⟩ := banks_is rom ⟨h2.1, c8⟩
  have hn := most_le rom h2.1 c8
  have each : ∀ i : Int, 0 ≤ i → i < 333 → rd r i = rd (headY s kd rom ram) i := by
    intro i h0 h4
    rw [← h, rd_set _ 335 _ i (by rw [List.length_set, hI]; omega) h0, if_neg (by omega), rd_set _ 334 _ i (by rw [hI]; omega) h0, if_neg (by omega), ← e,
      rd_append _ _ i h0 (by rw [List.length_set, hY]; omega), rd_set _ 333 _ i (by rw [hY]; omega) h0, if_neg (by omega)]
  have y327 : rd (headY s kd rom ram) 327 = kd := by
    unfold headY
    rw [rd_set _ 329 _ 327 (by simp [hT]) (by omega), if_neg (by decide), rd_set _ 328 _ 327 (by simp [hT]) (by omega), if_neg (by decide), rd_set _ 327 _ 327 (by simp [hT]) (by omega), if_pos (by rfl)]
  have y328 : rd (headY s kd rom ram) 328 = rom := by
    unfold headY
    rw [rd_set _ 329 _ 328 (by simp [hT]) (by omega), if_neg (by decide), rd_set _ 328 _ 328 (by simp [hT]) (by omega), if_pos (by rfl)]
  have y329 : rd (headY s kd rom ram) 329 = ram := by
    unfold headY
    rw [rd_set _ 329 _ 329 (by simp [hT]) (by omega), if_pos (by rfl)]
  have ytit : ∀ i : Nat, i < 16 → rd r (308 + (i : Int)) = if i < s.size then bt s (i : Int) else 0 := by
    intro i hi
    rw [each _ (by omega) (by omega)]
    unfold headY
    rw [rd_set _ 329 _ _ (by simp [hT]) (by omega), if_neg (by omega), rd_set _ 328 _ _ (by simp [hT]) (by omega), if_neg (by omega), rd_set _ 327 _ _ (by simp [hT]) (by omega), if_neg (by omega)]
    exact titleB_rd s s.size (by omega) i hi
  have hpr := (titleOk_iff s).mp ht
  have hN : titleN r = s.size := titleTo_is r s.size 16 0 (Nat.zero_le _) (by omega) (fun i _ hi => by rw [ytit i (by omega), if_pos hi]; exact hpr i hi) (fun hlt => by rw [ytit s.size (by omega), if_neg (by omega)]; rfl)
  refine ⟨⟨by rw [each 327 (by omega) (by omega), y327]; exact hok, ⟨by rw [each 328 (by omega) (by omega), y328]; exact c8, by rw [each 329 (by omega) (by omega), y329]; exact c5, by rw [each 328 (by omega) (by omega), y328, m1]; omega⟩, m3⟩, ?_, by rw [each 327 (by omega) (by omega), y327], by rw [each 328 (by omega) (by omega), y328], c8, k1, ?_, ?_⟩
  · unfold titleOf
    rw [hN, slice_is r s (by omega) (fun i hi => by rw [ytit i (by omega), if_pos hi]), str_bytes]
  · rw [← h, List.drop_set_of_lt (by omega), List.drop_set_of_lt (by omega), ← e]
    rw [List.drop_append_of_le_length (by rw [List.length_set, hY]; omega), List.drop_eq_nil_of_le (by rw [List.length_set, hY]; omega), List.nil_append]
  · obtain ⟨v2, g1, _, g3, g4⟩ := whole_same hIb (by omega) (337 + l.length) (by omega)
    have ev : v2 = v := by
      have : some v2 = some v := g1.symm.trans hv
      exact Option.some.inj this
    subst ev
    have w4 : rd r 334 = v2 / 256 % 256 := by
      rw [← h, rd_set _ 335 _ 334 (by rw [List.length_set, hI]; omega) (by omega), if_neg (by decide), rd_set _ 334 _ 334 (by rw [hI]; omega) (by omega), if_pos (by rfl)]
    have w5 : rd r 335 = v2 % 256 := by
      rw [← h, rd_set _ 335 _ 335 (by rw [List.length_set, hI]; omega) (by omega), if_pos (by rfl)]
    unfold wholeOf
    rw [w4, w5, or_halves v2 ⟨g3, g4⟩, ← hv]
    exact whole_congr r (imageL s kd rom ram l) (by rw [m1, hI]) (fun i h0 h4 h5 => by
      rw [← h, rd_set _ 335 _ i (by rw [List.length_set, hI]; omega) h0, if_neg (by omega), rd_set _ 334 _ i (by rw [hI]; omega) h0, if_neg (by omega)]) (337 + l.length) 0 0
theorem HeaderBack (s : ByteArray) (kd rom ram : Int) (l : List Int) (w0 : s.size ≤ 9223372036854775807) (w1 : (Lit.int .u8 kd).wf = true) (w2 : (Lit.int .u8 rom).wf = true) (w3 : (Lit.int .u8 ram).wf = true) (w4 : l.length ≤ 9223372036854775807) (y4 : ∀ x ∈ l, 0 ≤ x ∧ x ≤ 255) : ∃ k, whirligiglaw07_HeaderBack.f k s kd rom ram l = some true := by
  have h1 := u8_bd w1
  have h2 := u8_bd w2
  have h3 := u8_bd w3
  obtain ⟨r, e, g1⟩ := make_total s kd rom ram l h1 h2 h3 y4
  refine ⟨337 + l.length, ?_⟩
  unfold whirligiglaw07_HeaderBack.f
  rw [shown_all _ (by omega), g1]
  simp only [Option.bind_some]
  by_cases he : e = 0
  case neg =>
    rw [if_neg he]
    have hr : r = [] := by
      unfold header_Make.f at g1
      repeat' split at g1
      all_goals first | (obtain ⟨v, _, g1⟩ := Option.bind_eq_some_iff.mp g1; simp only [Option.some.injEq, Prod.mk.injEq] at g1; exact absurd g1.2.symm he) | (simp only [Option.some.injEq, Prod.mk.injEq] at g1; exact g1.1.symm) | simp at g1
    rw [hr]
    simp
  subst he
  obtain ⟨m1, m2, m3⟩ := made h1 h2 h3 y4 g1
  obtain ⟨b1, b2, b3, b4, b5, b6, b7, b8⟩ := made_back h1 h2 h3 y4 g1
  have hsum : header_Sum.f r = some (sumTo r 25, 0) := by
    unfold header_Sum.f
    rw [if_pos (by omega)]
  rw [if_pos rfl, parse_right m2 (by omega) b1, hsum]
  simp only [Option.bind_some]
  rw [b2, b3, b4, b6, b7, b8, ← m3]
  simp [h2.1, m1]
  omega
end Go.Proofs.Ytmlpijlnchnabaa.Pure
