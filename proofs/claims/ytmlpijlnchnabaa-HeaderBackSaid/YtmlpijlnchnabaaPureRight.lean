/- A head that is right, in plain words. -/
import Derived.Test.YtmlpijlnchnabaaPureTurn
import Derived.Test.YtmlpijlnchnabaaHHead
namespace Go.Proofs.Ytmlpijlnchnabaa.Pure
open Go.RowKit Go.Proofs.Ytmlpijlnchnabaa.G Go.Proofs.Ytmlpijlnchnabaa.Hand
open Go.Proofs.YtmlpijlnchnabaaW.PrintWords Go.Proofs.YtmlpijlnchnabaaW.PrintLast Go.Proofs.YtmlpijlnchnabaaW.PrintMore
set_option maxRecDepth 100000
set_option linter.unusedVariables false
set_option linter.unusedSimpArgs false
theorem titleTo_congr (l m : List Int) : ∀ f j : Nat, (∀ i : Int, 308 + (j : Int) ≤ i → i < 308 + (j : Int) + (f : Int) → rd l i = rd m i) → titleTo l f j = titleTo m f j
  | 0, j, _ => rfl
  | f + 1, j, h => by
    unfold titleTo
    rw [h (308 + (j : Int)) (by omega) (by omega), titleTo_congr l m f (j + 1) (fun i h1 h2 => h i (by omega) (by omega))]
theorem slice_congr (l m : List Int) (n : Nat) (hl : 308 + n ≤ l.length) (hm : 308 + n ≤ m.length) (h : ∀ i : Int, 308 ≤ i → i < 308 + (n : Int) → rd l i = rd m i) : (l.take (308 + n)).drop 308 = (m.take (308 + n)).drop 308 := by
  refine List.ext_getElem (by simp; omega) (fun i h1 h2 => ?_)
  have hi : i < n := by simp at h1; omega
  have q := h ((308 + i : Nat) : Int) (by omega) (by omega)
  unfold rd at q
  rw [Int.toNat_natCast, List.getD_eq_getElem?_getD, List.getD_eq_getElem?_getD, List.getElem?_eq_getElem (by omega), List.getElem?_eq_getElem (by omega)] at q
  simpa using q
/-- The two sums of the whole that a head holds. -/
def wholeOf (l : List Int) : Int := Go.bits .or .u16 (IntKind.u16.wrap (IntKind.u16.wrap (rd l 334) * 256)) (IntKind.u16.wrap (rd l 335))
def titleOf (l : List Int) : ByteArray := strOfNums ((l.take (308 + titleN l)).drop 308)
def right (l : List Int) : Prop := (wareT (rd l 327)).2.2.2.2 = true ∧ (rd l 328 ≤ 8 ∧ rd l 329 ≤ 5 ∧ (l.length : Int) ≤ shl .i64 32768 (rd l 328)) ∧ rd l 333 = sumTo l 25
theorem parse_right {l : List Int} (hb : bytes l) (hl : 336 ≤ l.length) (h : right l) : header_Parse.f l = some (titleOf l, rd l 327, (wareT (rd l 327)).1, (wareT (rd l 327)).2.1, (wareT (rd l 327)).2.2.1, (wareT (rd l 327)).2.2.2.1, wrap64 (2 * 2 ^ min (rd l 328).toNat 64), ramT (wareT (rd l 327)).2.1 (rd l 329), rd l 333, wholeOf l, 0) := by
  unfold header_Parse.f
  have b7 := rd_byte hb 327
  have b8 := rd_byte hb 328
  have b9 := rd_byte hb 329
  rw [if_pos (show (336 : Int) ≤ l.length by omega), if_pos ⟨b7.1, b7.2, b8.1, b9.1⟩, if_pos h.1, if_pos h.2.1, if_pos h.2.2]
  rfl
theorem parse_cases {l : List Int} (hb : bytes l) : (336 ≤ l.length ∧ right l) ∨ ∃ e : Int, e ≠ 0 ∧ header_Parse.f l = some ((⟨#[]⟩ : ByteArray), 0, 0, false, false, false, 0, 0, 0, 0, e) := by
  by_cases hl : (336 : Int) ≤ l.length
  case neg =>
    right
    unfold header_Parse.f
    rw [if_neg hl]
    exact ⟨2, by decide, rfl⟩
  by_cases hs : rd l 333 = sumTo l 25
  case neg => exact Or.inr (refused hb (by omega) hs)
  have b7 := rd_byte hb 327
  have b8 := rd_byte hb 328
  have b9 := rd_byte hb 329
  by_cases hok : (wareT (rd l 327)).2.2.2.2 = true
  case neg =>
    right
    unfold header_Parse.f
    rw [if_pos hl, if_pos ⟨b7.1, b7.2, b8.1, b9.1⟩, if_neg hok]
    exact ⟨4, by decide, rfl⟩
  by_cases hc : rd l 328 ≤ 8 ∧ rd l 329 ≤ 5 ∧ (l.length : Int) ≤ shl .i64 32768 (rd l 328)
  case neg =>
    right
    unfold header_Parse.f
    rw [if_pos hl, if_pos ⟨b7.1, b7.2, b8.1, b9.1⟩, if_pos hok, if_neg hc]
    exact ⟨5, by decide, rfl⟩
  exact Or.inl ⟨by omega, hok, hc, hs⟩
theorem most_facts : ∀ v : Fin 9, shl .i64 32768 (v.val : Int) ≤ 8388608 ∧ wrap64 (wrap64 (2 * 2 ^ min (v.val : Int).toNat 64) * 16384) = shl .i64 32768 (v.val : Int) := by decide +kernel
theorem most_f (r : Int) (h : 0 ≤ r ∧ r ≤ 8) : shl .i64 32768 r ≤ 8388608 ∧ wrap64 (wrap64 (2 * 2 ^ min r.toNat 64) * 16384) = shl .i64 32768 r := by
  have q := most_facts ⟨r.toNat, by omega⟩
  rw [show ((⟨r.toNat, by omega⟩ : Fin 9).val : Int) = r by show (r.toNat : Int) = r; omega] at q
  exact q
/-- The head's bytes are the same. -/
def alike (l m : List Int) : Prop := ∀ i : Int, 308 ≤ i → i ≤ 333 → rd l i = rd m i
theorem title_alike {l m : List Int} (hl : 336 ≤ l.length) (hm : 336 ≤ m.length) (h : alike l m) : titleOf l = titleOf m := by
  have e : titleN l = titleN m := titleTo_congr l m 16 0 (fun i h1 h2 => h i (by omega) (by omega))
  have b := (titleTo_le m 16 0).2
  have c : (titleN m : Int) ≤ 16 := by show ((titleTo m 16 0 : Nat) : Int) ≤ 16; omega
  unfold titleOf
  rw [e, slice_congr l m (titleN m) (by omega) (by omega) (fun i h1 h2 => h i h1 (by omega))]
theorem sum_alike {l m : List Int} (h : alike l m) : sumTo l 25 = sumTo m 25 := sumTo_congr l m 25 (fun i h1 h2 => h i h1 (by omega))
theorem right_alike {l m : List Int} (h : alike l m) (hl : l.length = m.length) (r : right l) : right m := by
  obtain ⟨r1, r2, r3⟩ := r
  unfold right
  rw [← h 327 (by omega) (by omega), ← h 328 (by omega) (by omega), ← h 329 (by omega) (by omega), ← h 333 (by omega) (by omega), ← sum_alike h, ← hl]
  exact ⟨r1, r2, r3⟩
theorem bytes_app {l : List Int} (h : bytes l) (x : Int) (hx : 0 ≤ x ∧ x ≤ 255) : bytes (l ++ [x]) := by
  intro y hy
  rcases List.mem_append.mp hy with q | q
  · exact h y q
  · simp at q; rw [q]; exact hx
/-- A byte more behind the image. -/
theorem behind {m : List Int} (hb : bytes m) (hm : 336 ≤ m.length) (r : right m) (x : Int) (hx : 0 ≤ x ∧ x ≤ 255) :
    (∃ (q : Int × Int × Bool × Bool × Bool × Int × Int) (w : Int), header_Parse.f (m ++ [x]) = some (titleOf m, q.1, q.2.1, q.2.2.1, q.2.2.2.1, q.2.2.2.2.1, wrap64 (2 * 2 ^ min (rd m 328).toNat 64), q.2.2.2.2.2.1, q.2.2.2.2.2.2, w, 0)) ∨
    (header_Parse.f (m ++ [x]) = some ((⟨#[]⟩ : ByteArray), 0, 0, false, false, false, 0, 0, 0, 0, 5) ∧ (m.length : Int) = wrap64 (wrap64 (2 * 2 ^ min (rd m 328).toNat 64) * 16384)) := by
  have ha : alike m (m ++ [x]) := fun i h1 h2 => (rd_append m [x] i (by omega) (by omega)).symm
  have hb2 := bytes_app hb x hx
  have hl2 : (m ++ [x]).length = m.length + 1 := by simp
  obtain ⟨r1, ⟨r8, r5, rm⟩, rs⟩ := r
  have b8 := rd_byte hb 328
  obtain ⟨f1, f2⟩ := most_f (rd m 328) ⟨b8.1, r8⟩
  by_cases hc : ((m ++ [x]).length : Int) ≤ shl .i64 32768 (rd m 328)
  · left
    have rr : right (m ++ [x]) := by
      unfold right
      rw [← ha 327 (by omega) (by omega), ← ha 328 (by omega) (by omega), ← ha 329 (by omega) (by omega), ← ha 333 (by omega) (by omega), ← sum_alike ha]
      exact ⟨r1, ⟨r8, r5, hc⟩, rs⟩
    have p := parse_right hb2 (by omega) rr
    rw [← title_alike hm (by omega) ha, ← ha 328 (by omega) (by omega)] at p
    exact ⟨(_, _, _, _, _, _, _), _, p⟩
  · right
    refine ⟨?_, by rw [f2]; omega⟩
    unfold header_Parse.f
    have c7 := rd_byte hb2 327
    have c8 := rd_byte hb2 328
    have c9 := rd_byte hb2 329
    rw [if_pos (show (336 : Int) ≤ (m ++ [x]).length by omega), if_pos ⟨c7.1, c7.2, c8.1, c9.1⟩, ← ha 327 (by omega) (by omega), ← ha 328 (by omega) (by omega), ← ha 329 (by omega) (by omega), if_pos r1, if_neg (fun z => hc z.2.2)]
end Go.Proofs.Ytmlpijlnchnabaa.Pure
