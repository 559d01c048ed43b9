/- The plain law of TimerLoads: what an overflow does, cycle by cycle. -/
import Derived.Test.YtjfpbdecklkldaaNum
import Derived.Test.YtjfpbdecklkldaaG22
import Derived.Test.YtjfpbdecklkldaaPure11
namespace Go.Proofs.Ytjfpbdecklkldaa.Pure
open Go.RowKit Go.Proofs.Ytjfpbdecklkldaa.G Go.Proofs.Ytjfpbdecklkldaa.Hand
open Go.Proofs.YtjfpbdecklkldaaW.PrintWords Go.Proofs.YtjfpbdecklkldaaW.PrintLast Go.Proofs.YtjfpbdecklkldaaW.PrintMore
set_option maxRecDepth 100000
set_option linter.unusedVariables false
theorem hot5 (d : Int) : hot d 5 = decide (d / 8 % 2 = 1) := by
  unfold hot watch
  simp
/-- A step of a counter at 255, before it overflows: the line stays, or falls. -/
theorem step_low (d m : Int) (hd : 0 ≤ d ∧ d ≤ 65535) (h : d % 16 < 12) : stepT d 255 m 5 0 = ((d + 4) % 65536, 255, m, 5, 0) := by
  unfold stepT fellT
  rw [if_neg (by omega), hot5, hot5]
  have : ¬ (decide (d / 8 % 2 = 1) = true ∧ decide ((d + 4) % 65536 / 8 % 2 = 1) = false) := by
    simp; omega
  rw [if_neg this]
theorem step_over (d m : Int) (hd : 0 ≤ d ∧ d ≤ 65535) (h : 12 ≤ d % 16) : stepT d 255 m 5 0 = ((d + 4) % 65536, 0, m, 5, 1) := by
  unfold stepT fellT
  rw [if_neg (by omega), hot5, hot5]
  have : (decide (d / 8 % 2 = 1) = true ∧ decide ((d + 4) % 65536 / 8 % 2 = 1) = false) := by
    simp; omega
  rw [if_pos this, if_pos rfl]
/-- What follows the overflow. -/
theorem after (k : Nat) (d m v : Int) (hk : 5 ≤ k) (hd : 0 ≤ d ∧ d ≤ 65535) (hr : d % 16 < 4) (hm : 0 ≤ m ∧ m ≤ 255) (hv : 0 ≤ v ∧ v ≤ 255) :
    whirligiglaw11_TimerLoads.j2 k m v true false d 0 m 5 1 = some true := by
  obtain ⟨k, rfl⟩ : ∃ j, k = j + 1 := ⟨k - 1, by omega⟩
  have h1 : hot d 5 = false := by rw [hot5]; simp; omega
  have s1 : stepT d 0 m 5 1 = ((d + 4) % 65536, m, m, 5, 2) := by unfold stepT fellT; rw [if_pos rfl, h1]; rfl
  have s2 : stepT d v m 5 0 = ((d + 4) % 65536, v, m, 5, 0) := by unfold stepT fellT; rw [if_neg (by omega), h1]; rfl
  have h2 : hot ((d + 4) % 65536) 5 = hot ((d + 4) % 65536) 5 := rfl
  have p1 := step_prog k d 0 m 5 1 (by omega) hd (by omega) hm (by omega)
  have p2 := step_prog k d v m 5 0 (by omega) hd hv hm (by omega)
  have p3 := step_prog k ((d + 4) % 65536) m m 5 2 (by omega) (by omega) hm hm (by omega)
  rw [s1] at p1
  rw [s2] at p2
  have w1 : timer_Write.f k ((d + 4) % 65536) m m 5 2 65285 v = some ((d + 4) % 65536, m, m, 5, 2) := by
    unfold timer_Write.f
    rw [hot_prog _ _ _ _ _ (by omega) (by omega)]; rfl
  have w2 : timer_Write.f k ((d + 4) % 65536) m m 5 2 65286 v = some ((d + 4) % 65536, v, v, 5, 2) := by
    unfold timer_Write.f
    rw [hot_prog _ _ _ _ _ (by omega) (by omega)]; rfl
  have w3 : timer_Write.f k d 0 m 5 1 65285 v = some (d, v, m, 5, 0) := by
    unfold timer_Write.f
    rw [hot_prog _ _ _ _ _ hd (by omega)]; rfl
  simp only [whirligiglaw11_TimerLoads.j2]
  simp [p1, p2, p3, w1, w2, w3]
theorem loop_end (k : Nat) (n d m v : Int) (hk : 8 ≤ k) (hn : n ≤ 4) (hd : 0 ≤ d ∧ d ≤ 65535) (hr : d % 16 < 4) (hm : 0 ≤ m ∧ m ≤ 255) (hv : 0 ≤ v ∧ v ≤ 255) :
    whirligiglaw11_TimerLoads.l0 k m v true n d 0 m 5 1 = some true := by
  obtain ⟨k, rfl⟩ : ∃ j, k = j + 2 := ⟨k - 2, by omega⟩
  have h := after k d m v (by omega) hd hr hm hv
  have e : timer_Read.f d 0 m 5 1 65285 = some 0 := rfl
  simp only [whirligiglaw11_TimerLoads.l0, whirligiglaw11_TimerLoads.j1]
  rw [if_pos trivial, if_neg (by simp), if_neg (by omega), if_pos trivial, e]
  simp only [Option.bind_some]
  exact h
theorem loop_step (k : Nat) (n d m v : Int) (d' t' s' : Int) (hk : 3 ≤ k) (hn : 0 ≤ n ∧ n < 8) (hd : 0 ≤ d ∧ d ≤ 65535) (hm : 0 ≤ m ∧ m ≤ 255) (hs : stepT d 255 m 5 0 = (d', t', m, 5, s')) :
    whirligiglaw11_TimerLoads.l0 (k + 2) m v true n d 255 m 5 0 = whirligiglaw11_TimerLoads.l0 k m v true (n + 1) d' t' m 5 s' := by
  have p := step_prog k d 255 m 5 0 (by omega) hd (by omega) hm (by omega)
  rw [hs] at p
  have e : wrap64 (n + 1) = n + 1 := wrap64_in (by omega)
  simp only [whirligiglaw11_TimerLoads.l0, whirligiglaw11_TimerLoads.j1]
  rw [if_neg (by omega), if_pos (by simp; omega), p]
  simp [e]
theorem TimerLoads (a0 a1 a2 : Int) (w0 : (Lit.int .u16 a0).wf = true) (w1 : (Lit.int .u8 a1).wf = true) (w2 : (Lit.int .u8 a2).wf = true) : ∃ k, whirligiglaw11_TimerLoads.f k a0 a1 a2 = some true := by
  have bd := u16_bd w0
  have bm := u8_bd w1
  have bv := u8_bd w2
  refine ⟨90, ?_⟩
  unfold whirligiglaw11_TimerLoads.f
  rw [shown_is]
  simp only [Option.bind_some]
  have hr : a0 % 16 < 4 ∨ 4 ≤ a0 % 16 ∧ a0 % 16 < 8 ∨ 8 ≤ a0 % 16 ∧ a0 % 16 < 12 ∨ 12 ≤ a0 % 16 := by omega
  rcases hr with h | h | h | h
  · rw [loop_step 88 0 _ _ _ _ _ _ (by omega) (by omega) bd bm (step_low _ _ bd (by omega)), loop_step 86 _ _ _ _ _ _ _ (by omega) (by omega) (by omega) bm (step_low _ _ (by omega) (by omega)),
      loop_step 84 _ _ _ _ _ _ _ (by omega) (by omega) (by omega) bm (step_low _ _ (by omega) (by omega)), loop_step 82 _ _ _ _ _ _ _ (by omega) (by omega) (by omega) bm (step_over _ _ (by omega) (by omega))]
    exact loop_end 82 _ _ _ _ (by omega) (by omega) (by omega) (by omega) bm bv
  · rw [loop_step 88 0 _ _ _ _ _ _ (by omega) (by omega) bd bm (step_low _ _ bd (by omega)), loop_step 86 _ _ _ _ _ _ _ (by omega) (by omega) (by omega) bm (step_low _ _ (by omega) (by omega)),
      loop_step 84 _ _ _ _ _ _ _ (by omega) (by omega) (by omega) bm (step_over _ _ (by omega) (by omega))]
    exact loop_end 84 _ _ _ _ (by omega) (by omega) (by omega) (by omega) bm bv
  · rw [loop_step 88 0 _ _ _ _ _ _ (by omega) (by omega) bd bm (step_low _ _ bd (by omega)), loop_step 86 _ _ _ _ _ _ _ (by omega) (by omega) (by omega) bm (step_over _ _ (by omega) (by omega))]
    exact loop_end 86 _ _ _ _ (by omega) (by omega) (by omega) (by omega) bm bv
  · rw [loop_step 88 0 _ _ _ _ _ _ (by omega) (by omega) bd bm (step_over _ _ bd (by omega))]
    exact loop_end 88 _ _ _ _ (by omega) (by omega) (by omega) (by omega) bm bv
end Go.Proofs.Ytjfpbdecklkldaa.Pure
