/- The plain law of TimerDivs: the divider goes on by four a cycle. -/
import Derived.Test.YtjfpbdecklkldaaNum
import Derived.Test.YtjfpbdecklkldaaG16
import Derived.Test.YtjfpbdecklkldaaPure11
namespace Go.Proofs.Ytjfpbdecklkldaa.Pure
open Go.RowKit Go.Proofs.Ytjfpbdecklkldaa.G Go.Proofs.Ytjfpbdecklkldaa.Hand
open Go.Proofs.YtjfpbdecklkldaaW.PrintWords Go.Proofs.YtjfpbdecklkldaaW.PrintLast Go.Proofs.YtjfpbdecklkldaaW.PrintMore
set_option maxRecDepth 100000
set_option linter.unusedVariables false
theorem divs_from (n d0 t0 m c s0 : Int) (hn : 0 ≤ n ∧ n ≤ 65535) (hd : 0 ≤ d0 ∧ d0 ≤ 65535) (hm : 0 ≤ m ∧ m ≤ 255) (hc : 0 ≤ c ∧ c ≤ 255) :
    ∀ (j k : Nat) (i t s : Int), 0 ≤ i → i ≤ n % 2000 → (n % 2000) - i = (j : Int) → j < k → 0 ≤ t ∧ t ≤ 255 →
      whirligiglaw11_TimerDivs.l0 k n true i d0 t0 m c s0 ((d0 + 4 * i) % 65536) t m c s = some true := by
  have en : Int.tmod n 2000 = n % 2000 := Int.tmod_eq_emod_of_nonneg hn.1
  intro j
  induction j with
  | zero =>
    intro k i t s hi hi2 hj hk ht
    obtain ⟨k, rfl⟩ : ∃ q, k = q + 1 := ⟨k - 1, by omega⟩
    simp only [whirligiglaw11_TimerDivs.l0]
    have e : i = n % 2000 := by omega
    have e2 : (d0 + 4 * i) % 65536 = IntKind.u16.wrap (d0 + IntKind.u16.wrap (4 * Int.tmod n 2000)) := by
      rw [en, IntKind.wrap_u16, IntKind.wrap_u16]; omega
    rw [if_neg (by rw [en]; omega), if_pos trivial, if_pos e2, if_pos trivial]
    simp
  | succ j ih =>
    intro k i t s hi hi2 hj hk ht
    obtain ⟨k, rfl⟩ : ∃ q, k = q + 1 := ⟨k - 1, by omega⟩
    simp only [whirligiglaw11_TimerDivs.l0]
    obtain ⟨q1, q2, q3, q4, q5⟩ := step_keeps ((d0 + 4 * i) % 65536) t m c s ht hm
    rw [if_pos (by rw [en]; omega), step_prog k _ t m c s (by omega) (by omega) ht hm hc]
    simp only [Option.bind_some]
    rw [q1, q4, q5]
    have e : ((d0 + 4 * i) % 65536 + 4) % 65536 = (d0 + 4 * (i + 1)) % 65536 := by omega
    have e2 : IntKind.u16.wrap (i + 1) = i + 1 := by rw [IntKind.wrap_u16]; omega
    rw [e, e2]
    exact ih k (i + 1) _ _ (by omega) (by omega) (by omega) (by omega) ⟨q2, q3⟩
theorem TimerDivs (d t m c s : Int) (a1 : Int) (w0 : (Lit.int .u16 d).wf = true) (w1 : (Lit.int .u8 t).wf = true) (w2 : (Lit.int .u8 m).wf = true) (w3 : (Lit.int .u8 c).wf = true) (w4 : (Lit.int .u8 s).wf = true) (w5 : (Lit.int .u16 a1).wf = true) : ∃ k, whirligiglaw11_TimerDivs.f k d t m c s a1 = some true := by
  have bd := u16_bd w0
  have bt := u8_bd w1
  have bm := u8_bd w2
  have bc := u8_bd w3
  have bs := u8_bd w4
  have bn := u16_bd w5
  refine ⟨2100, ?_⟩
  have hs : whirligiglaw11_shown.f 2100 = some true := at_rounds (g := whirligiglaw11_shown.f) whirligiglaw11_shown.mono (show 90 ≤ 2100 by omega) shown_is
  have h := divs_from a1 d t m c s bn bd bm bc (a1 % 2000).toNat 2100 0 t s (by omega) (by omega) (by omega) (by omega) bt
  have e : (d + 4 * 0) % 65536 = d := by omega
  rw [e] at h
  unfold whirligiglaw11_TimerDivs.f
  rw [hs]
  exact h
end Go.Proofs.Ytjfpbdecklkldaa.Pure
