/- So many seconds later: the clock that ticks so often. -/
import Derived.Test.YtkfjofkocccefaaNum
import Derived.Test.YtkfjofkocccefaaPure09
import Derived.Test.YtkfjofkocccefaaHRun
namespace Go.Proofs.Ytkfjofkocccefaa.Pure
open Go.RowKit Go.Proofs.Ytkfjofkocccefaa.G Go.Proofs.Ytkfjofkocccefaa.Hand
open Go.Proofs.YtkfjofkocccefaaW.PrintWords Go.Proofs.YtkfjofkocccefaaW.PrintLast Go.Proofs.YtkfjofkocccefaaW.PrintMore
set_option maxRecDepth 100000
set_option linter.unusedVariables false
/-- So many ticks. -/
def it : Nat → C → C
  | 0, c => c
  | n + 1, c => it n (tk c)
theorem it_ok : ∀ (n : Nat) {c : C}, okC c → okC (it n c)
  | 0, _, h => h
  | n + 1, _, h => it_ok n (tk_ok h)
theorem it_stay : ∀ (n : Nat) {c : C}, tk c = c → it n c = c
  | 0, _, _ => rfl
  | n + 1, c, h => by show it n (tk c) = c; rw [h]; exact it_stay n h
theorem it_add : ∀ (a b : Nat) (c : C), it (a + b) c = it b (it a c)
  | 0, b, c => by rw [Nat.zero_add]; rfl
  | a + 1, b, c => by rw [show a + 1 + b = (a + b) + 1 by omega]; exact it_add a b (tk c)
def fl (c : C) (e : Int) : Int × Int × Int × Int × Bool × Bool × Int := (c.1, c.2.1, c.2.2.1, c.2.2.2.1, c.2.2.2.2.1, c.2.2.2.2.2, e)
theorem tick_ok (c : C) (h : okC c) : clock_Tick.f c.1 c.2.1 c.2.2.1 c.2.2.2.1 c.2.2.2.2.1 c.2.2.2.2.2 = some (tk c) := by
  have := tick_prog c h.wide
  rwa [nm_of h] at this
theorem run_l (n : Int) (hn : n ≤ 100000) : ∀ (j k : Nat) (i : Int) (c : C), 0 ≤ i → n - i = (j : Int) → j < k → okC c →
    clock_Run.l0 k n i c.1 c.2.1 c.2.2.1 c.2.2.2.1 c.2.2.2.2.1 c.2.2.2.2.2 = some (fl (it j c) 0) := by
  intro j
  induction j with
  | zero =>
    intro k i c hi hj hk hc
    obtain ⟨k, rfl⟩ : ∃ q, k = q + 1 := ⟨k - 1, by omega⟩
    simp only [clock_Run.l0]
    rw [if_neg (by omega)]
    rfl
  | succ j ih =>
    intro k i c hi hj hk hc
    obtain ⟨k, rfl⟩ : ∃ q, k = q + 1 := ⟨k - 1, by omega⟩
    simp only [clock_Run.l0]
    rw [if_pos (by omega), tick_ok c hc]
    simp only [Option.bind_some]
    have hw : wrap64 (i + 1) = i + 1 := by unfold wrap64; omega
    rw [hw]
    split
    · rename_i hq
      simp only [Bool.and_eq_true, beq_iff_eq] at hq
      obtain ⟨q1, q2, q3, q4, q5, q6⟩ := hq
      have e : tk c = c := by
        refine Prod.ext q1 (Prod.ext q2 (Prod.ext q3 (Prod.ext q4 (Prod.ext q5 q6))))
      rw [it_stay (j + 1) e]
      rfl
    · exact ih k (i + 1) (tk c) (by omega) (by omega) (by omega) (tk_ok hc)
theorem run_prog (k : Nat) (n : Int) (c : C) (h : wide c) (h0 : 0 ≤ n) (h1 : n ≤ 100000) (hk : n.toNat + 1 < k) :
    clock_Run.f k c.1 c.2.1 c.2.2.1 c.2.2.2.1 c.2.2.2.2.1 c.2.2.2.2.2 n = some (fl (it n.toNat (nm c)) 0) := by
  obtain ⟨k, rfl⟩ : ∃ q, k = q + 1 := ⟨k - 1, by omega⟩
  unfold clock_Run.f
  simp only [clock_Run.j0]
  rw [if_neg (by omega), if_neg (by simp; omega), norm_prog c h]
  simp only [Option.bind_some]
  exact run_l n h1 n.toNat k 0 (nm c) (by omega) (by omega) (by omega) (nm_ok c)
theorem run_refuse (k : Nat) (n : Int) (c : C) (h : n < 0 ∨ n > 100000) (hk : 1 ≤ k) :
    clock_Run.f k c.1 c.2.1 c.2.2.1 c.2.2.2.1 c.2.2.2.2.1 c.2.2.2.2.2 n = some (0, 0, 0, 0, false, false, 1) := by
  obtain ⟨k, rfl⟩ : ∃ q, k = q + 1 := ⟨k - 1, by omega⟩
  unfold clock_Run.f
  simp only [clock_Run.j0]
  by_cases c0 : n < 0
  · rw [if_pos c0, if_pos trivial]
  · rw [if_neg c0, if_pos (by simp; omega)]
end Go.Proofs.Ytkfjofkocccefaa.Pure
