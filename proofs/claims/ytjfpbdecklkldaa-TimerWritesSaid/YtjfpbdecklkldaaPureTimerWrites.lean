/- The plain law of TimerWrites. -/
import Derived.Test.YtjfpbdecklkldaaNum
import Derived.Test.YtjfpbdecklkldaaG15
import Derived.Test.YtjfpbdecklkldaaPureTimerR
namespace Go.Proofs.Ytjfpbdecklkldaa.Pure
open Go.RowKit Go.Proofs.Ytjfpbdecklkldaa.G Go.Proofs.Ytjfpbdecklkldaa.Hand
open Go.Proofs.YtjfpbdecklkldaaW.PrintWords Go.Proofs.YtjfpbdecklkldaaW.PrintLast Go.Proofs.YtjfpbdecklkldaaW.PrintMore
set_option maxRecDepth 100000
set_option linter.unusedVariables false
theorem write_j (k : Nat) (a : Int) (was : Bool) (d t m c s : Int) (hk : 21 ≤ k) (hd : 0 ≤ d ∧ d ≤ 65535) (ht : 0 ≤ t ∧ t ≤ 255) (hc : 0 ≤ c ∧ c ≤ 255) :
    whirligigref11_Write.j0 k a was d t m c s = some (if a = 65284 ∨ a = 65287 then fellT was d t m c s else (d, t, m, c, s)) := by
  obtain ⟨k, rfl⟩ : ∃ j, k = j + 1 := ⟨k - 1, by omega⟩
  simp only [whirligigref11_Write.j0]
  have key : (if was = true then ((whirligigref11_Hot.f k d t m c s).bind fun t187 => (if t187 = true then (some (d, t, m, c, s)) else ((whirligigref11_count.f d t m c s).bind fun bt188 => (some (bt188.1, bt188.2.1, bt188.2.2.1, bt188.2.2.2.1, bt188.2.2.2.2))))) else (some (d, t, m, c, s))) = some (fellT was d t m c s) := by
    cases was with
    | false => rw [if_neg (by simp)]; simp [fellT]
    | true =>
      rw [if_pos rfl, hot_ref k d t m c s (by omega) hd hc]
      simp only [Option.bind_some]
      by_cases h : hot d c = true
      · rw [if_pos h]; simp [fellT, h]
      · have h' : hot d c = false := by simpa using h
        rw [if_neg h, count_ref d t m c s ht true rfl h']
        rfl
  by_cases h1 : a = 65284
  · rw [if_pos h1, if_pos (show a = 65284 ∨ a = 65287 from Or.inl h1)]; exact key
  rw [if_neg h1]
  by_cases h2 : a = 65287
  · rw [if_pos h2, if_pos (show a = 65284 ∨ a = 65287 from Or.inr h2)]; exact key
  rw [if_neg h2, if_neg (show ¬ (a = 65284 ∨ a = 65287) by omega)]
theorem bits7 (v : Int) (h : 0 ≤ v ∧ v ≤ 255) : Go.bits .and .u8 v 7 = Int.tmod v 8 := by
  obtain ⟨x, rfl⟩ := byte_fin h
  rw [(tac_all x).2.2, Int.tmod_eq_emod_of_nonneg h.1]
theorem writes_same (d t m c s a v : Int) (hd : 0 ≤ d ∧ d ≤ 65535) (ht : 0 ≤ t ∧ t ≤ 255) (hm : 0 ≤ m ∧ m ≤ 255) (hc : 0 ≤ c ∧ c ≤ 255) (hv : 0 ≤ v ∧ v ≤ 255) :
    ∃ r, timer_Write.f 90 d t m c s a v = some r ∧ whirligigref11_Write.f 90 d t m c s a v = some r := by
  have e7 := bits7 v hv
  have b7 : 0 ≤ Int.tmod v 8 ∧ Int.tmod v 8 ≤ 255 := by rw [Int.tmod_eq_emod_of_nonneg hv.1]; omega
  unfold timer_Write.f whirligigref11_Write.f
  rw [hot_prog d t m c s hd hc, hot_ref 90 d t m c s (by omega) hd hc, e7]
  simp only [Option.bind_some]
  by_cases h1 : a = 65284
  · rw [if_pos h1, if_pos h1, fell_prog 90 _ 0 t m c s (by omega) (by omega) ht hc, write_j 90 a _ 0 t m c s (by omega) (by omega) ht hc, if_pos (show a = 65284 ∨ a = 65287 from Or.inl h1)]
    exact ⟨_, rfl, rfl⟩
  rw [if_neg h1, if_neg h1]
  by_cases h2 : a = 65287
  · rw [if_pos h2, if_neg (show ¬ a = 65285 by omega), if_neg (show ¬ a = 65286 by omega), if_pos h2, fell_prog 90 _ d t m _ s (by omega) hd ht b7, write_j 90 a _ d t m _ s (by omega) hd ht b7, if_pos (show a = 65284 ∨ a = 65287 from Or.inr h2)]
    exact ⟨_, rfl, rfl⟩
  rw [if_neg h2]
  by_cases h3 : a = 65286
  · rw [if_pos h3, if_neg (show ¬ a = 65285 by omega), if_pos h3]
    by_cases h5 : s = 2
    · rw [if_pos h5, if_pos h5, write_j 90 a _ d v v c s (by omega) hd hv hc, if_neg (show ¬ (a = 65284 ∨ a = 65287) by omega)]
      exact ⟨_, rfl, rfl⟩
    · rw [if_neg h5, if_neg h5, write_j 90 a _ d t v c s (by omega) hd ht hc, if_neg (show ¬ (a = 65284 ∨ a = 65287) by omega)]
      exact ⟨_, rfl, rfl⟩
  rw [if_neg h3]
  by_cases h4 : a = 65285
  · rw [if_pos h4, if_pos h4]
    by_cases h5 : s = 2
    · rw [if_pos h5, if_pos h5, if_neg (show ¬ s = 1 by omega), write_j 90 a _ d t m c s (by omega) hd ht hc, if_neg (show ¬ (a = 65284 ∨ a = 65287) by omega)]
      exact ⟨_, rfl, rfl⟩
    · rw [if_neg h5, if_neg h5]
      by_cases h6 : s = 1
      · rw [if_pos h6, if_pos h6, write_j 90 a _ d v m c 0 (by omega) hd hv hc, if_neg (show ¬ (a = 65284 ∨ a = 65287) by omega)]
        exact ⟨_, rfl, rfl⟩
      · rw [if_neg h6, if_neg h6, write_j 90 a _ d v m c s (by omega) hd hv hc, if_neg (show ¬ (a = 65284 ∨ a = 65287) by omega)]
        exact ⟨_, rfl, rfl⟩
  rw [if_neg h4, if_neg h4, if_neg h3, if_neg h2, write_j 90 a _ d t m c s (by omega) hd ht hc, if_neg (show ¬ (a = 65284 ∨ a = 65287) by omega)]
  exact ⟨_, rfl, rfl⟩
theorem TimerWrites (d t m c s : Int) (a1 a2 : Int) (w0 : (Lit.int .u16 d).wf = true) (w1 : (Lit.int .u8 t).wf = true) (w2 : (Lit.int .u8 m).wf = true) (w3 : (Lit.int .u8 c).wf = true) (w4 : (Lit.int .u8 s).wf = true) (w5 : (Lit.int .u16 a1).wf = true) (w6 : (Lit.int .u8 a2).wf = true) : ∃ k, whirligiglaw11_TimerWrites.f k d t m c s a1 a2 = some true := by
  have bd := u16_bd w0
  have bt := u8_bd w1
  have bm := u8_bd w2
  have bc := u8_bd w3
  have bs := u8_bd w4
  obtain ⟨r, h1, h2⟩ := writes_same d t m c s a1 a2 bd bt bm bc (u8_bd w6)
  refine ⟨90, ?_⟩
  unfold whirligiglaw11_TimerWrites.f
  rw [shown_is, h1, h2]
  simp
end Go.Proofs.Ytjfpbdecklkldaa.Pure
