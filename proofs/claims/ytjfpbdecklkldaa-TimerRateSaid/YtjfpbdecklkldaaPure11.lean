/- The timer in plain words: the line, a cycle; what the program's functions come to. -/
import Derived.Test.YtjfpbdecklkldaaNum
import Derived.Test.YtjfpbdecklkldaaG6
import Derived.Test.YtjfpbdecklkldaaG5
namespace Go.Proofs.Ytjfpbdecklkldaa.Pure
open Go.RowKit Go.Proofs.Ytjfpbdecklkldaa.G Go.Proofs.Ytjfpbdecklkldaa.Hand
open Go.Proofs.YtjfpbdecklkldaaW.PrintWords Go.Proofs.YtjfpbdecklkldaaW.PrintLast Go.Proofs.YtjfpbdecklkldaaW.PrintMore
set_option maxRecDepth 100000
set_option linter.unusedVariables false
theorem shown_is : whirligiglaw11_shown.f 90 = some true := by decide +kernel
/-- How far the watched bit stands from the foot, as a power. -/
def watch (c : Int) : Int := if c % 4 = 0 then 512 else if c % 4 = 1 then 8 else if c % 4 = 2 then 32 else 128
/-- The line. -/
def hot (d c : Int) : Bool := decide (c / 4 % 2 = 1) && decide (d / watch c % 2 = 1)
theorem tac_all : ∀ c : Fin 256, word_Bit.f (c.val : Int) 2 = some (decide ((c.val : Int) / 4 % 2 = 1)) ∧ Go.bits .and .u8 (c.val : Int) 3 = (c.val : Int) % 4 ∧ Go.bits .and .u8 (c.val : Int) 7 = (c.val : Int) % 8 := by decide +kernel
theorem u16_and1 (x : Int) (h0 : 0 ≤ x) (h1 : x < 65536) : Go.bits .and .u16 x 1 = x % 2 :=
  bits_mask .u16 16 (by decide) (fun n a b => by rw [IntKind.wrap_u16]; omega) 1 (by decide) x h0 h1
theorem line_is (d p : Int) (n : Int) (hn : n = 9 ∧ p = 512 ∨ n = 3 ∧ p = 8 ∨ n = 5 ∧ p = 32 ∨ n = 7 ∧ p = 128) (h0 : 0 ≤ d) (h1 : d ≤ 65535) : (Go.bits .and .u16 (shr .u16 d n) 1 == 1) = decide (d / p % 2 = 1) := by
  have e : shr .u16 d n = d / p := by
    rcases hn with ⟨rfl, rfl⟩ | ⟨rfl, rfl⟩ | ⟨rfl, rfl⟩ | ⟨rfl, rfl⟩ <;> rfl
  have hb : 0 ≤ d / p ∧ d / p < 65536 := by
    rcases hn with ⟨_, rfl⟩ | ⟨_, rfl⟩ | ⟨_, rfl⟩ | ⟨_, rfl⟩ <;> omega
  rw [e, u16_and1 _ hb.1 hb.2]
  rw [Bool.eq_iff_iff]
  simp
theorem hot_prog (d t m c s : Int) (hd : 0 ≤ d ∧ d ≤ 65535) (hc : 0 ≤ c ∧ c ≤ 255) : timer_Hot.f d t m c s = some (hot d c) := by
  obtain ⟨v, rfl⟩ := byte_fin hc
  obtain ⟨h1, h2, _⟩ := tac_all v
  unfold timer_Hot.f hot watch
  rw [h2, h1]
  simp only [Option.bind_some]
  by_cases c0 : (v.val : Int) % 4 = 0
  · rw [if_pos c0, if_pos c0, line_is d 512 9 (by simp) hd.1 hd.2]
    cases decide ((v.val : Int) / 4 % 2 = 1) <;> rfl
  rw [if_neg c0, if_neg c0]
  by_cases c1 : (v.val : Int) % 4 = 1
  · rw [if_pos c1, if_pos c1, line_is d 8 3 (by simp) hd.1 hd.2]
    cases decide ((v.val : Int) / 4 % 2 = 1) <;> rfl
  rw [if_neg c1, if_neg c1]
  by_cases c2 : (v.val : Int) % 4 = 2
  · rw [if_pos c2, if_pos c2, line_is d 32 5 (by simp) hd.1 hd.2]
    cases decide ((v.val : Int) / 4 % 2 = 1) <;> rfl
  rw [if_neg c2, if_neg c2, if_pos (by omega), line_is d 128 7 (by simp) hd.1 hd.2]
  cases decide ((v.val : Int) / 4 % 2 = 1) <;> rfl
/-- What counting does, where the line fell. -/
def fellT (was : Bool) (d t m c s : Int) : Int × Int × Int × Int × Int :=
  if was = true ∧ hot d c = false then (if t = 255 then (d, 0, m, c, 1) else (d, t + 1, m, c, s)) else (d, t, m, c, s)
theorem fell_prog (k : Nat) (was : Bool) (d t m c s : Int) (hk : 1 ≤ k) (hd : 0 ≤ d ∧ d ≤ 65535) (ht : 0 ≤ t ∧ t ≤ 255) (hc : 0 ≤ c ∧ c ≤ 255) : timer_fell.f k was d t m c s = some (fellT was d t m c s) := by
  obtain ⟨k, rfl⟩ : ∃ j, k = j + 1 := ⟨k - 1, by omega⟩
  unfold timer_fell.f fellT
  cases was with
  | false =>
    rw [if_neg (by simp), if_neg (by simp)]
    simp only [timer_fell.j0]
    rfl
  | true =>
    rw [if_pos rfl, hot_prog d t m c s hd hc]
    simp only [Option.bind_some, timer_fell.j0]
    cases hot d c with
    | true => rfl
    | false =>
      rw [if_neg (show ¬ (false = true) by simp), if_pos (show (True ∧ false = false) from ⟨trivial, rfl⟩)]
      by_cases h : t = 255
      · rw [if_pos (by omega), if_pos h]; subst h; rfl
      · rw [if_neg (by omega), if_neg h, show (t + 1) % 256 = t + 1 by omega]
def stepT (d t m c s : Int) : Int × Int × Int × Int × Int := if s = 1 then fellT (hot d c) ((d + 4) % 65536) m m c 2 else fellT (hot d c) ((d + 4) % 65536) t m c 0
theorem step_prog (k : Nat) (d t m c s : Int) (hk : 1 ≤ k) (hd : 0 ≤ d ∧ d ≤ 65535) (ht : 0 ≤ t ∧ t ≤ 255) (hm : 0 ≤ m ∧ m ≤ 255) (hc : 0 ≤ c ∧ c ≤ 255) :
    timer_Step.f k d t m c s = some ((stepT d t m c s).1, (stepT d t m c s).2.1, (stepT d t m c s).2.2.1, (stepT d t m c s).2.2.2.1, (stepT d t m c s).2.2.2.2, (s == 1)) := by
  have e : IntKind.u16.wrap (d + 4) = (d + 4) % 65536 := IntKind.wrap_u16 _
  unfold timer_Step.f stepT
  rw [hot_prog d t m c s hd hc, e]
  simp only [Option.bind_some]
  by_cases h : s = 1
  · rw [if_pos h, if_pos h, fell_prog k _ _ m m c 2 hk (by omega) hm hc]
    rfl
  · rw [if_neg h, if_neg h, fell_prog k _ _ t m c 0 hk (by omega) ht hc]
    rfl
/-- What a step leaves as it was, and where the rest lies. -/
theorem step_keeps (d t m c s : Int) (ht : 0 ≤ t ∧ t ≤ 255) (hm : 0 ≤ m ∧ m ≤ 255) :
    (stepT d t m c s).1 = (d + 4) % 65536 ∧ 0 ≤ (stepT d t m c s).2.1 ∧ (stepT d t m c s).2.1 ≤ 255 ∧ (stepT d t m c s).2.2.1 = m ∧ (stepT d t m c s).2.2.2.1 = c := by
  unfold stepT fellT
  by_cases h1 : s = 1
  · simp only [if_pos h1]
    split <;> (try split) <;> refine ⟨rfl, ?_, ?_, rfl, rfl⟩ <;> dsimp only <;> omega
  · simp only [if_neg h1]
    split <;> (try split) <;> refine ⟨rfl, ?_, ?_, rfl, rfl⟩ <;> dsimp only <;> omega
end Go.Proofs.Ytjfpbdecklkldaa.Pure
