/- The plain law of WordPuts: a bit is put as the document says, and no other one changes. -/
import Derived.Test.YtodhhbmkfphpiaaNum
import Derived.Test.YtodhhbmkfphpiaaG14
import Derived.Test.YtodhhbmkfphpiaaPure01
namespace Go.Proofs.Ytodhhbmkfphpiaa.Pure
open Go.RowKit Go.Proofs.Ytodhhbmkfphpiaa.G Go.Proofs.Ytodhhbmkfphpiaa.Hand
open Go.Proofs.YtodhhbmkfphpiaaW.PrintWords Go.Proofs.YtodhhbmkfphpiaaW.PrintLast Go.Proofs.YtodhhbmkfphpiaaW.PrintMore
set_option maxRecDepth 100000
set_option linter.unusedVariables false
theorem refput_out (v n : Int) (on : Bool) (k : Nat) (h : n < 0 ∨ 7 < n) : whirligigref01_Put.f k v n on = whirligigref01_Put.f k v (-1) on := by
  unfold whirligigref01_Put.f
  rw [if_pos (show (-1 : Int) < 0 by omega)]
  rcases h with h | h
  · rw [if_pos h]; cases k <;> simp [whirligigref01_Put.j0]
  · rw [if_neg (by omega)]; cases k <;> simp [whirligigref01_Put.j0]; omega
theorem put_out (v n : Int) (on : Bool) (k : Nat) (h : n < 0 ∨ 7 < n) : word_Put.f k v n on = word_Put.f k v (-1) on := by
  unfold word_Put.f
  rw [if_pos (show (-1 : Int) < 0 by omega)]
  rcases h with h | h
  · rw [if_pos h]; cases k <;> simp [word_Put.j0]
  · rw [if_neg (by omega)]; cases k <;> simp [word_Put.j0]; omega
theorem loop_out (v n : Int) (on u : Bool) (w : Int) (h : n < 0 ∨ 7 < n) : ∀ (k : Nat) (j : Int), 0 ≤ j → whirligiglaw01_WordPuts.l0 k v n on u w j = whirligiglaw01_WordPuts.l0 k v (-1) on u w j := by
  intro k
  induction k with
  | zero => intro j _; rfl
  | succ k ih =>
    intro j hj
    simp only [whirligiglaw01_WordPuts.l0]
    by_cases h8 : j < 8
    · rw [if_pos h8, if_pos h8, if_neg (by omega), if_neg (by omega)]
      have e : wrap64 (j + 1) = j + 1 := wrap64_in (by omega)
      rw [e, ih (j + 1) (by omega)]
    · rw [if_neg h8, if_neg h8, refput_out v n on k h]
theorem puts_in : ∀ m : Fin 8, ∀ v : Fin 256, ∀ b : Bool, whirligiglaw01_WordPuts.f 90 (v.val : Int) (m.val : Int) b = some true := by decide +kernel
theorem puts_out : ∀ v : Fin 256, ∀ b : Bool, whirligiglaw01_WordPuts.f 90 (v.val : Int) (-1) b = some true := by decide +kernel
theorem WordPuts (a0 a1 : Int) (on : Bool) (w0 : (Lit.int .u8 a0).wf = true) (w1 : (Lit.int .i64 a1).wf = true) : ∃ k, whirligiglaw01_WordPuts.f k a0 a1 on = some true := by
  obtain ⟨v, rfl⟩ := u8_of w0
  refine ⟨90, ?_⟩
  by_cases h : a1 < 0 ∨ 7 < a1
  · rw [← puts_out v on]
    unfold whirligiglaw01_WordPuts.f
    rw [put_out _ _ _ _ h]
    congr 1
    funext t
    congr 1
    funext s
    exact loop_out _ _ _ _ _ h _ _ (by omega)
  · obtain ⟨m, rfl⟩ : ∃ m : Fin 8, a1 = (m.val : Int) := ⟨⟨a1.toNat, by omega⟩, by show a1 = (a1.toNat : Int); omega⟩
    exact puts_in m v on
end Go.Proofs.Ytodhhbmkfphpiaa.Pure
