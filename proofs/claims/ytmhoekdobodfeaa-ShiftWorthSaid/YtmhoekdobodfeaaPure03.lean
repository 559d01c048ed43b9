/- The plain laws of the shifts: what the printed Lean functions answer, byte by byte (the kernel goes through the 256 bytes). -/
import Derived.Test.YtmhoekdobodfeaaG13
import Derived.Test.YtmhoekdobodfeaaHDo
import Derived.Test.YtmhoekdobodfeaaG7
import Derived.Test.YtmhoekdobodfeaaNum
namespace Go.Proofs.Ytmhoekdobodfeaa.Pure
open Go.RowKit Go.Proofs.Ytmhoekdobodfeaa.G Go.Proofs.Ytmhoekdobodfeaa.Hand
open Go.Proofs.YtmhoekdobodfeaaW.PrintWords
set_option maxRecDepth 100000
set_option linter.unusedVariables false

theorem op_is (x : Int) : whirligigref02_Op.f x = some (x % 8) := by
  unfold whirligigref02_Op.f wrap64
  rcases tmod8 x with h | ⟨h, h'⟩
  · rw [if_neg (by omega), h]
  · rw [if_pos (by omega), h]
    congr 1
    omega

theorem shown_is : whirligiglaw03_shown.f 90 = some true := by decide +kernel

/-- What shift.Do hangs on: the operation's number modulo 8, the byte, the carry. -/
theorem do_is (x v : Int) (z n h c : Bool) : shift_Do.f x v z n h c = shift_Do.f (x % 8) v false false false c := by
  have e : (x % 8) % 8 = x % 8 := by omega
  unfold shift_Do.f
  rw [and7, and7, e]
theorem refdo_is (k : Nat) (x v : Int) (z n h c : Bool) : whirligigref03_Do.f k x v z n h c = whirligigref03_Do.f k (x % 8) v z n h c := by
  have e : (x % 8) % 8 = x % 8 := by omega
  unfold whirligigref03_Do.f
  rw [op_is, op_is, e]
theorem do_all : ∀ m : Fin 8, ∀ v : Fin 256, ∀ c : Bool, ∃ r, shift_Do.f (m.val : Int) (v.val : Int) false false false c = some r ∧ ∀ z n h : Bool, whirligigref03_Do.f 90 (m.val : Int) (v.val : Int) z n h c = some r := by
  have key : ∀ m : Fin 8, ∀ v : Fin 256, ∀ c : Bool, (shift_Do.f (m.val : Int) (v.val : Int) false false false c).isSome ∧ ∀ z n h : Bool, whirligigref03_Do.f 90 (m.val : Int) (v.val : Int) z n h c = shift_Do.f (m.val : Int) (v.val : Int) false false false c := by decide +kernel
  intro m v c
  obtain ⟨h1, h2⟩ := key m v c
  obtain ⟨r, hr⟩ := Option.isSome_iff_exists.mp h1
  exact ⟨r, hr, fun z n h => (h2 z n h).trans hr⟩
end Go.Proofs.Ytmhoekdobodfeaa.Pure
