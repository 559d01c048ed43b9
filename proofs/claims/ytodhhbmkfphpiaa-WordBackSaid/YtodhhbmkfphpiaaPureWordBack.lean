/- The plain law of WordBack: what was joined is split, what was written is read. -/
import Derived.Test.YtodhhbmkfphpiaaNum
import Derived.Test.YtodhhbmkfphpiaaG32
import Derived.Test.YtodhhbmkfphpiaaPure01
namespace Go.Proofs.Ytodhhbmkfphpiaa.Pure
open Go.RowKit Go.Proofs.Ytodhhbmkfphpiaa.G Go.Proofs.Ytodhhbmkfphpiaa.Hand
open Go.Proofs.YtodhhbmkfphpiaaW.PrintWords Go.Proofs.YtodhhbmkfphpiaaW.PrintLast Go.Proofs.YtodhhbmkfphpiaaW.PrintMore
set_option maxRecDepth 100000
set_option linter.unusedVariables false
/-- Two digits, read behind a number: the number goes up by 256. -/
theorem hex_digits : ∀ v : Fin 256, ((word_Hex8.f (v.val : Int)).any fun s => s.data.toList.length == 2 && ((word_digit.f 5 ((s.data.toList.getD 0 0).toNat : Int)) == some ((v.val : Int) / 16, true) && (word_digit.f 5 ((s.data.toList.getD 1 0).toNat : Int)) == some ((v.val : Int) % 16, true))) = true := by decide +kernel
theorem hex_back (x : Int) (h : 0 ≤ x ∧ x ≤ 255) : ∃ c d : UInt8, ∃ s : ByteArray, word_Hex8.f x = some s ∧ s.data.toList = [c, d] ∧ s.size = 2 ∧ word_digit.f 5 (c.toNat : Int) = some (x / 16, true) ∧ word_digit.f 5 (d.toNat : Int) = some (x % 16, true) := by
  obtain ⟨v, rfl⟩ := byte_fin h
  have h1 := hex_digits v
  cases e : word_Hex8.f (v.val : Int) with
  | none => rw [e] at h1; simp at h1
  | some s =>
    rw [e] at h1
    obtain ⟨⟨l⟩⟩ := s
    match l, h1, e with
    | [c, d], h1, e =>
      simp at h1
      exact ⟨c, d, _, rfl, rfl, rfl, h1.2.1, h1.2.2⟩
    | [], h1, _ =>
      simp at h1
      exact absurd (show (0 : Nat) = 2 from h1.1) (by omega)
    | [_], h1, _ =>
      simp at h1
      exact absurd (show (1 : Nat) = 2 from h1.1) (by omega)
    | _ :: _ :: _ :: l, h1, _ =>
      simp at h1
      exact absurd (show l.length + 3 = 2 from h1.1) (by omega)
theorem read_two (c d : UInt8) (x w : Int) (l : List UInt8) (hx : 0 ≤ x ∧ x ≤ 255) (hw : 0 ≤ w ∧ w ≤ 255) (h1 : word_digit.f 5 (c.toNat : Int) = some (x / 16, true)) (h2 : word_digit.f 5 (d.toNat : Int) = some (x % 16, true)) :
    word_Read.l (c :: d :: l) w = word_Read.l l (w * 256 + x) := by
  have a1 : IntKind.u16.wrap (w * 16) = w * 16 := by rw [IntKind.wrap_u16]; omega
  have a2 := u16_or16 w (x / 16) (by omega) (by omega) (by omega) (by omega)
  have a3 : IntKind.u16.wrap ((w * 16 + x / 16) * 16) = (w * 16 + x / 16) * 16 := by rw [IntKind.wrap_u16]; omega
  have a4 := u16_or16 (w * 16 + x / 16) (x % 16) (by omega) (by omega) (by omega) (by omega)
  have a5 : (w * 16 + x / 16) * 16 + x % 16 = w * 256 + x := by clear a1 a2 a3 a4; omega
  simp only [word_Read.l, h1, h2, Option.bind_some, if_true, a1, a2, a3, a4, a5]
theorem WordBack (a0 a1 : Int) (w0 : (Lit.int .u8 a0).wf = true) (w1 : (Lit.int .u8 a1).wf = true) : ∃ k, whirligiglaw01_WordBack.f k a0 a1 = some true := by
  have b0 := u8_bd w0
  have b1 := u8_bd w1
  obtain ⟨c, d, s, hs, hl, hz, g1, g2⟩ := hex_back a0 b0
  obtain ⟨c', d', s', hs', hl', hz', g1', g2'⟩ := hex_back a1 b1
  have u0 : IntKind.u16.wrap a0 = a0 := by rw [IntKind.wrap_u16]; omega
  have u1 : IntKind.u16.wrap a1 = a1 := by rw [IntKind.wrap_u16]; omega
  have u2 : IntKind.u16.wrap (a0 * 256) = a0 * 256 := by rw [IntKind.wrap_u16]; omega
  have o := u16_or256 a0 a1 (by omega) (by omega) (by omega) (by omega)
  have e1 : (a0 * 256 + a1) / 256 % 256 = a0 := by clear u0 u1 u2 o; omega
  have e2 : (a0 * 256 + a1) % 256 = a1 := by clear u0 u1 u2 o; omega
  have hsz : (s ++ s').size = 4 := by rw [ByteArray.size_append]; omega
  have hdl : (s ++ s').data.toList = c :: d :: c' :: d' :: [] := by
    rw [ByteArray.data_append, Array.toList_append, hl, hl']; rfl
  have r4 : word_Read.f (s ++ s') 4 = some (a0 * 256 + a1, 0) := by
    unfold word_Read.f
    rw [if_neg (by omega), if_neg (by omega), if_pos (by omega), hdl, read_two c d a0 0 _ b0 (by omega) g1 g2, read_two c' d' a1 _ _ b1 (by omega) g1' g2']
    simp [word_Read.l]
  have r2 : word_Read.f s' 2 = some (a1, 0) := by
    unfold word_Read.f
    rw [if_neg (by omega), if_neg (by omega), if_pos (by omega), hl', read_two c' d' a1 0 _ b1 (by omega) g1' g2']
    simp [word_Read.l]
  refine ⟨90, ?_⟩
  unfold whirligiglaw01_WordBack.f word_Join.f word_Split.f word_Hex16.f
  rw [shown_is, u0, u1, u2, o]
  simp only [Option.bind_some, e1, e2, hs, hs', hz, hz']
  have hle : (2 : Nat) + 2 ≤ 9223372036854775807 := by omega
  rw [if_pos hle]
  simp only [Option.bind_some, r4, r2, if_true]
  simp
end Go.Proofs.Ytodhhbmkfphpiaa.Pure
