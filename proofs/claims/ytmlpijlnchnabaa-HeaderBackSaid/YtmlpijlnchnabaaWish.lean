/- A string and a slice of bytes among a struct's fields, opened. -/
import Derived.Test.YtmlpijlnchnabaaFrame
import Derived.Test.YtmlpijlnchnabaaBytes
import Derived.Deep.Slices
namespace Go.Proofs.Ytmlpijlnchnabaa.Wish
open Go.RowKit Go.Proofs.Ytmlpijlnchnabaa.G
open Go.Proofs.YtmlpijlnchnabaaW.PrintWords Go.Proofs.YtmlpijlnchnabaaW.PrintLast Go.Proofs.YtmlpijlnchnabaaW.PrintMore
theorem cell_string {H : Type} {enc : TypeId × Value → H} {P : Program} {w : World} {base : Nat} {spare : Nat → Bool} {held : Bool} {t : TypeId} {c : Value} (ht : P.underlying t = some .string)
    (h : ∃ (n : Nat) (y : DataW H × List MemPlace), DataW.trod enc P w base spare held n t [c] = some y) : ∃ s : ByteArray, c = .string s ∧ s.size ≤ 9223372036854775807 := by
  obtain ⟨n, y, h⟩ := h
  obtain ⟨s, e, _, hm⟩ := DataW.trod_string ht h
  simp at e
  exact ⟨s, e, hm⟩
theorem cell_bytes {H : Type} {enc : TypeId × Value → H} {w : World} {base : Nat} {spare : Nat → Bool} {held : Bool} {c : Value}
    (h : ∃ (n : Nat) (y : DataW H × List MemPlace), DataW.trod enc Try.prog w base spare held n 22 [c] = some y) :
    ∃ (A : Option Addr) (l : List Int) (cap : Nat), c = .slice A l.length cap ∧ Kd.C (Kd.int .u8) w A l.length l ∧ l.length ≤ cap ∧ l.length ≤ 9223372036854775807 ∧ ∀ x ∈ l, 0 ≤ x ∧ x ≤ 255 := by
  obtain ⟨n, ⟨d, p⟩, h⟩ := h
  have hv : ∃ a len cap, c = .slice a len cap := by
    rcases Go.Deep.open_slice1 Try.underlying22 (by kernel_rfl) h with ⟨e, _⟩ | ⟨a', len', cap', m, n, V, D, Pl, e, _⟩
    · simp at e; exact ⟨_, _, _, e⟩
    · simp at e; exact ⟨_, _, _, e⟩
  obtain ⟨a, len, cap, rfl⟩ := hv
  exact Pairs.open_bytes ⟨a, len, cap, rfl⟩ ⟨n, h⟩
end Go.Proofs.Ytmlpijlnchnabaa.Wish
