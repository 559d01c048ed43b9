/- The plain law of ShiftWorth: what the shifts are worth. -/
import Derived.Test.YtmhoekdobodfeaaNum
import Derived.Test.YtmhoekdobodfeaaG25
import Derived.Test.YtmhoekdobodfeaaPure03
namespace Go.Proofs.Ytmhoekdobodfeaa.Pure
open Go.RowKit Go.Proofs.Ytmhoekdobodfeaa.G Go.Proofs.Ytmhoekdobodfeaa.Hand
open Go.Proofs.YtmhoekdobodfeaaW.PrintWords Go.Proofs.YtmhoekdobodfeaaW.PrintLast Go.Proofs.YtmhoekdobodfeaaW.PrintMore
set_option maxRecDepth 100000
set_option linter.unusedVariables false
theorem worth_all : ∀ m : Fin 8, ∀ v : Fin 256, ∀ z n h c : Bool, whirligiglaw03_ShiftWorth.f 90 (v.val : Int) (m.val : Int) z n h c = some true := by
  have key : ∀ m : Fin 8, ∀ v : Fin 256, ∀ c : Bool, whirligiglaw03_ShiftWorth.f 90 (v.val : Int) (m.val : Int) false false false c = some true := by decide +kernel
  intro m v z n h c
  rw [← key m v c]
  rfl
theorem set_is (k : Nat) (x v : Int) : shift_Set.f k x v = shift_Set.f k (x % 8) v := by
  have e : (x % 8) % 8 = x % 8 := by omega
  unfold shift_Set.f
  rw [and7, and7, e]
theorem res_is (k : Nat) (x v : Int) : shift_Res.f k x v = shift_Res.f k (x % 8) v := by
  have e : (x % 8) % 8 = x % 8 := by omega
  unfold shift_Res.f
  rw [and7, and7, e]
theorem test_is (x v : Int) (z n h c : Bool) : shift_Test.f x v z n h c = shift_Test.f (x % 8) v z n h c := by
  have e : (x % 8) % 8 = x % 8 := by omega
  unfold shift_Test.f
  rw [and7, and7, e]
theorem j1_is (k : Nat) (x0 x1 : Int) (x7 : Bool) (x8 x10 x12 x16 x18 x19 : Int) (a b c d e f g h i j l m : Bool) :
    whirligiglaw03_ShiftWorth.j1 k x0 x1 x7 x8 x10 x12 x16 x18 x19 a b c d e f g h i j l m = whirligiglaw03_ShiftWorth.j1 k x0 (x1 % 8) x7 x8 x10 x12 x16 x18 x19 a b c d e f g h i j l m := by
  cases k with
  | zero => rfl
  | succ k =>
    simp only [whirligiglaw03_ShiftWorth.j1]
    rw [set_is k x1, res_is k x1]
    simp only [test_is x1]
theorem j0_is (k : Nat) (x0 x1 : Int) (x7 : Bool) (x8 x10 x12 x16 x18 : Int) (a b c d e f g h i j l m : Bool) :
    whirligiglaw03_ShiftWorth.j0 k x0 x1 x7 x8 x10 x12 x16 x18 a b c d e f g h i j l m = whirligiglaw03_ShiftWorth.j0 k x0 (x1 % 8) x7 x8 x10 x12 x16 x18 a b c d e f g h i j l m := by
  cases k with
  | zero => rfl
  | succ k =>
    simp only [whirligiglaw03_ShiftWorth.j0]
    rw [j1_is k x0 x1 x7 x8 x10 x12 x16 x18 1, j1_is k x0 x1 x7 x8 x10 x12 x16 x18 0]
theorem ShiftWorth (a0 a1 : Int) (z n h c : Bool) (w0 : (Lit.int .u8 a0).wf = true) (w1 : (Lit.int .i64 a1).wf = true) : ∃ k, whirligiglaw03_ShiftWorth.f k a0 a1 z n h c = some true := by
  obtain ⟨v, rfl⟩ := u8_of w0
  obtain ⟨m, hm⟩ := eight a1
  refine ⟨90, ?_⟩
  rw [← worth_all m v z n h c, ← hm]
  unfold whirligiglaw03_ShiftWorth.f
  simp only [j0_is 90 _ a1]
end Go.Proofs.Ytmhoekdobodfeaa.Pure
