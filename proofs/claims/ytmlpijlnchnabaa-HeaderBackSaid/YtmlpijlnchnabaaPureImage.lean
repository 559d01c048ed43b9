/- An image that is made, in plain words. -/
import Derived.Test.YtmlpijlnchnabaaPure07
import Derived.Test.YtmlpijlnchnabaaHMake
namespace Go.Proofs.Ytmlpijlnchnabaa.Pure
open Go.RowKit Go.Proofs.Ytmlpijlnchnabaa.G Go.Proofs.Ytmlpijlnchnabaa.Hand
open Go.Proofs.YtmlpijlnchnabaaW.PrintWords Go.Proofs.YtmlpijlnchnabaaW.PrintLast Go.Proofs.YtmlpijlnchnabaaW.PrintMore
set_option maxRecDepth 100000
set_option linter.unusedVariables false
set_option linter.unusedSimpArgs false
/-- A head's fixed bytes. -/
def headB : List Int := (((List.replicate 336 (0 : Int)).set 257 195).set 258 80).set 259 1
/-- The title laid byte by byte. -/
def titleB (s : ByteArray) : Nat → List Int
  | 0 => headB
  | j + 1 => (titleB s j).set (308 + j) (bt s (j : Int))
theorem titleB_length (s : ByteArray) : ∀ j, (titleB s j).length = 336
  | 0 => by simp [titleB, headB]
  | j + 1 => by rw [titleB, List.length_set]; exact titleB_length s j
theorem splice_snoc (L cs : List Int) (o : Nat) (x : Int) (h : o + cs.length < L.length) : splice L o (cs ++ [x]) = (splice L o cs).set (o + cs.length) x := by
  unfold splice
  rw [List.drop_eq_getElem_cons h, List.set_append_right _ _ (by simp; omega), List.set_append_right _ _ (by simp; omega)]
  have e : o + cs.length - (L.take o).length - cs.length = 0 := by simp; omega
  rw [e, List.set_cons_zero]
  simp [Nat.add_assoc]
theorem titleB_splice (s : ByteArray) (hs : s.size ≤ 16) : ∀ j, j ≤ s.size → titleB s j = splice headB 308 ((bytesOf s).take j)
  | 0, _ => by simp [titleB, splice]
  | j + 1, h => by
    have hb : (bytesOf s).length = s.size := bytesOf_length s
    have hj : j < (bytesOf s).length := by omega
    rw [titleB, titleB_splice s hs j (by omega), List.take_succ_eq_append_getElem hj, splice_snoc _ _ _ _ (by simp [headB]; omega)]
    have e1 : ((bytesOf s).take j).length = j := by simp; omega
    have e2 : (bytesOf s)[j] = bt s (j : Int) := by
      rw [← rd_bytesOf s (j : Int)]
      simp [rd, hj]
    rw [e1, e2]
theorem splice_take (L cs : List Int) (o n : Nat) (h : o + cs.length ≤ n) (hn : n ≤ L.length) : (splice L o cs).take n = splice (L.take n) o cs := by
  unfold splice
  rw [List.take_append, List.take_append, List.take_take, List.take_take, List.drop_take]
  have e1 : (L.take o).length = o := by simp; omega
  rw [e1]
  have e2 : cs.take (n - o) = cs := List.take_of_length_le (by omega)
  rw [e2, show min n o = min o n by omega, show n - o - cs.length = n - (o + cs.length) by omega]
theorem splice_end (L cs : List Int) (n : Nat) (hn : L.length = n + cs.length) : splice L n cs = L.take n ++ cs := by
  unfold splice
  rw [List.drop_eq_nil_of_le (by omega), List.append_nil]
/-- A head that is all but summed up. -/
def headY (s : ByteArray) (kd rom ram : Int) : List Int := (((titleB s s.size).set 327 kd).set 328 rom).set 329 ram
theorem makeL_is (s : ByteArray) (kd rom ram : Int) (l : List Int) (hs : s.size ≤ 16) : makeL s kd rom ram l = (headY s kd rom ram).set 333 (sumTo (headY s kd rom ram) 25) ++ l := by
  have hb : (bytesOf s).length = s.size := bytesOf_length s
  have b4 : (bytesOf ⟨#[0, 195, 80, 1]⟩).length = 4 := rfl
  have z1 : (List.replicate (336 + l.length) (0 : Int)).length = 336 + l.length := by simp
  have z2 : (splice (List.replicate (336 + l.length) (0 : Int)) 256 (bytesOf ⟨#[0, 195, 80, 1]⟩)).length = 336 + l.length := by rw [length_splice _ _ _ (by rw [z1, b4]; omega), z1]
  have z3 : (splice (splice (List.replicate (336 + l.length) (0 : Int)) 256 (bytesOf ⟨#[0, 195, 80, 1]⟩)) 308 (bytesOf s)).length = 336 + l.length := by rw [length_splice _ _ _ (by rw [z2, hb]; omega), z2]
  have t3 : (splice (splice (List.replicate (336 + l.length) (0 : Int)) 256 (bytesOf ⟨#[0, 195, 80, 1]⟩)) 308 (bytesOf s)).take 336 = titleB s s.size := by
    rw [splice_take _ _ _ _ (by omega) (by omega), splice_take _ _ _ _ (by rw [b4]; omega) (by omega), List.take_replicate, show min 336 (336 + l.length) = 336 by omega, titleB_splice s hs s.size (Nat.le_refl _), List.take_of_length_le (show (bytesOf s).length ≤ s.size by omega)]
    rfl
  unfold makeL
  generalize splice (splice (List.replicate (336 + l.length) (0 : Int)) 256 (bytesOf ⟨#[0, 195, 80, 1]⟩)) 308 (bytesOf s) = X at z3 t3 ⊢
  have t4 : (((X.set 327 kd).set 328 rom).set 329 ram).take 336 = headY s kd rom ram := by
    rw [List.take_set, List.take_set, List.take_set, t3]
    rfl
  rw [t4, splice_end _ _ _ (by simp [z3]), List.take_set, t4]
theorem bt_byte (s : ByteArray) (i : Int) : 0 ≤ bt s i ∧ bt s i ≤ 255 := by
  unfold bt
  split
  · rename_i h
    have := (s[i.toNat]'h).toNat_lt
    omega
  · omega
theorem bytes_set {l : List Int} (h : bytes l) (i : Nat) (x : Int) (hx : 0 ≤ x ∧ x ≤ 255) : bytes (l.set i x) := by
  intro y hy
  rcases List.mem_or_eq_of_mem_set hy with q | q
  · exact h y q
  · rw [q]; exact hx
theorem headB_bytes : bytes headB := by
  intro x hx
  have : ∀ x ∈ headB, 0 ≤ x ∧ x ≤ 255 := by decide +kernel
  exact this x hx
theorem titleB_bytes (s : ByteArray) : ∀ j, bytes (titleB s j)
  | 0 => headB_bytes
  | j + 1 => bytes_set (titleB_bytes s j) _ _ (bt_byte s _)
theorem headY_bytes (s : ByteArray) (kd rom ram : Int) (h1 : 0 ≤ kd ∧ kd ≤ 255) (h2 : 0 ≤ rom ∧ rom ≤ 255) (h3 : 0 ≤ ram ∧ ram ≤ 255) : bytes (headY s kd rom ram) :=
  bytes_set (bytes_set (bytes_set (titleB_bytes s _) _ _ h1) _ _ h2) _ _ h3
theorem headY_length (s : ByteArray) (kd rom ram : Int) : (headY s kd rom ram).length = 336 := by
  unfold headY; rw [List.length_set, List.length_set, List.length_set]; exact titleB_length s _
/-- The image but for the sum of the whole, and the whole image. -/
def imageL (s : ByteArray) (kd rom ram : Int) (l : List Int) : List Int := (headY s kd rom ram).set 333 (sumTo (headY s kd rom ram) 25) ++ l
theorem imageL_length (s : ByteArray) (kd rom ram : Int) (l : List Int) : (imageL s kd rom ram l).length = 336 + l.length := by
  unfold imageL; rw [List.length_append, List.length_set, headY_length]
theorem imageL_bytes (s : ByteArray) (kd rom ram : Int) (l : List Int) (h1 : 0 ≤ kd ∧ kd ≤ 255) (h2 : 0 ≤ rom ∧ rom ≤ 255) (h3 : 0 ≤ ram ∧ ram ≤ 255) (hl : bytes l) : bytes (imageL s kd rom ram l) := by
  intro x hx
  rcases List.mem_append.mp hx with q | q
  · exact bytes_set (headY_bytes s kd rom ram h1 h2 h3) _ _ (sumTo_byte _ _) x q
  · exact hl x q
end Go.Proofs.Ytmlpijlnchnabaa.Pure
