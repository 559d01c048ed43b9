/- The plain law of ClockRuns. -/
import Derived.Test.YtkfjofkocccefaaNum
import Derived.Test.YtkfjofkocccefaaG15
import Derived.Test.YtkfjofkocccefaaPure09
import Derived.Test.YtkfjofkocccefaaPureClockR
import Derived.Test.YtkfjofkocccefaaPureClockRun
namespace Go.Proofs.Ytkfjofkocccefaa.Pure
open Go.RowKit Go.Proofs.Ytkfjofkocccefaa.G Go.Proofs.Ytkfjofkocccefaa.Hand
open Go.Proofs.YtkfjofkocccefaaW.PrintWords Go.Proofs.YtkfjofkocccefaaW.PrintLast Go.Proofs.YtkfjofkocccefaaW.PrintMore
set_option maxRecDepth 100000
set_option linter.unusedVariables false
theorem tick_ref_ok (k : Nat) (hk : 4 ≤ k) (c : C) (h : okC c) : whirligigref09_Tick.f k c.1 c.2.1 c.2.2.1 c.2.2.2.1 c.2.2.2.2.1 c.2.2.2.2.2 = some (tk c) := by
  have := tick_ref k hk c h.wide
  rwa [nm_of h] at this
theorem rrun_l (n : Int) (hn : n ≤ 100000) : ∀ (j k : Nat) (i : Int) (c : C), 0 ≤ i → n - i = (j : Int) → j + 5 < k → okC c →
    whirligigref09_Run.l0 k n i c.1 c.2.1 c.2.2.1 c.2.2.2.1 c.2.2.2.2.1 c.2.2.2.2.2 = some (fl (it j c) 0) := by
  intro j
  induction j with
  | zero =>
    intro k i c hi hj hk hc
    obtain ⟨k, rfl⟩ : ∃ q, k = q + 1 := ⟨k - 1, by omega⟩
    simp only [whirligigref09_Run.l0]
    rw [if_neg (by omega)]
    rfl
  | succ j ih =>
    intro k i c hi hj hk hc
    obtain ⟨k, rfl⟩ : ∃ q, k = q + 1 := ⟨k - 1, by omega⟩
    simp only [whirligigref09_Run.l0]
    rw [if_pos (by omega), tick_ref_ok k (by omega) c hc]
    simp only [Option.bind_some]
    have hw : wrap64 (i + 1) = i + 1 := by unfold wrap64; omega
    rw [hw]
    exact ih k (i + 1) (tk c) (by omega) (by omega) (by omega) (tk_ok hc)
theorem rrun_prog (k : Nat) (n : Int) (c : C) (h : wide c) (h0 : 0 ≤ n) (h1 : n ≤ 100000) (hk : n.toNat + 6 < k) :
    whirligigref09_Run.f k c.1 c.2.1 c.2.2.1 c.2.2.2.1 c.2.2.2.2.1 c.2.2.2.2.2 n = some (fl (it n.toNat (nm c)) 0) := by
  obtain ⟨k, rfl⟩ : ∃ q, k = q + 1 := ⟨k - 1, by omega⟩
  unfold whirligigref09_Run.f
  simp only [whirligigref09_Run.j0]
  rw [if_neg (by omega), if_neg (by simp; omega), norm_ref c h]
  simp only [Option.bind_some]
  exact rrun_l n h1 n.toNat k 0 (nm c) (by omega) (by omega) (by omega) (nm_ok c)
theorem rrun_refuse (k : Nat) (n : Int) (c : C) (h : n < 0 ∨ n > 100000) (hk : 1 ≤ k) :
    whirligigref09_Run.f k c.1 c.2.1 c.2.2.1 c.2.2.2.1 c.2.2.2.2.1 c.2.2.2.2.2 n = some (0, 0, 0, 0, false, false, 1) := by
  obtain ⟨k, rfl⟩ : ∃ q, k = q + 1 := ⟨k - 1, by omega⟩
  unfold whirligigref09_Run.f
  simp only [whirligigref09_Run.j0]
  by_cases c0 : n < 0
  · rw [if_pos c0, if_pos trivial]
  · rw [if_neg c0, if_pos (by simp; omega)]
theorem ClockRuns (s m h d : Int) (ht cy : Bool) (n : Int) (w0 : (Lit.int .u8 s).wf = true) (w1 : (Lit.int .u8 m).wf = true) (w2 : (Lit.int .u8 h).wf = true) (w3 : (Lit.int .u16 d).wf = true) (w4 : (Lit.int .i64 n).wf = true) : ∃ k, whirligiglaw09_ClockRuns.f k s m h d ht cy n = some true := by
  have hw : wide (s, m, h, d, ht, cy) := ⟨u8_bd w0, u8_bd w1, u8_bd w2, u16_bd w3⟩
  by_cases hn : n < 0 ∨ n > 100000
  · have e1 := run_refuse 5 n (s, m, h, d, ht, cy) hn (by omega)
    have e2 := rrun_refuse 5 n (s, m, h, d, ht, cy) hn (by omega)
    dsimp only at e1 e2
    refine ⟨5, ?_⟩
    unfold whirligiglaw09_ClockRuns.f
    rw [shown_is, e1, e2]
    rfl
  · refine ⟨n.toNat + 7, ?_⟩
    have e1 := run_prog (n.toNat + 7) n _ hw (by omega) (by omega) (by omega)
    have e2 := rrun_prog (n.toNat + 7) n _ hw (by omega) (by omega) (by omega)
    dsimp only at e1 e2
    unfold whirligiglaw09_ClockRuns.f
    rw [shown_is, e1, e2]
    simp
end Go.Proofs.Ytkfjofkocccefaa.Pure
