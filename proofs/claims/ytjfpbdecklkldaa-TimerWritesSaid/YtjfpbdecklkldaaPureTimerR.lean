/- The timer's reference comes to the same plain words. -/
import Derived.Test.YtjfpbdecklkldaaNum
import Derived.Test.YtjfpbdecklkldaaG12
import Derived.Test.YtjfpbdecklkldaaG14
import Derived.Test.YtjfpbdecklkldaaPure11
namespace Go.Proofs.Ytjfpbdecklkldaa.Pure
open Go.RowKit Go.Proofs.Ytjfpbdecklkldaa.G Go.Proofs.Ytjfpbdecklkldaa.Hand
open Go.Proofs.YtjfpbdecklkldaaW.PrintWords Go.Proofs.YtjfpbdecklkldaaW.PrintLast Go.Proofs.YtjfpbdecklkldaaW.PrintMore
set_option maxRecDepth 100000
set_option linter.unusedVariables false
theorem pow_all : whirligigref11_power.f 20 9 = some 512 ∧ whirligigref11_power.f 20 3 = some 8 ∧ whirligigref11_power.f 20 5 = some 32 ∧ whirligigref11_power.f 20 7 = some 128 := by decide +kernel
theorem pow_more (c r : Int) (K : Nat) (h : whirligigref11_power.f K c = some r) : ∀ k, K ≤ k → whirligigref11_power.f k c = some r :=
  fun k hk => at_rounds (g := fun k => whirligigref11_power.f k c) (fun k => whirligigref11_power.mono c k) hk h
theorem bitline (d p : Int) (hd : 0 ≤ d ∧ d ≤ 65535) (hp : 0 < p) : (Int.tmod (wrap64 (Int.tdiv (wrap64 d) p)) 2 == 1) = decide (d / p % 2 = 1) := by
  have h0 : 0 ≤ d / p := Int.ediv_nonneg hd.1 (by omega)
  have h1 : d / p ≤ d := Int.ediv_le_self p hd.1
  rw [wrap64_in (x := d) (by omega), Int.tdiv_eq_ediv_of_nonneg hd.1, wrap64_in (x := d / p) (by omega), Int.tmod_eq_emod_of_nonneg h0]
  rw [Bool.eq_iff_iff]
  simp
theorem hot_ref (k : Nat) (d t m c s : Int) (hk : 20 ≤ k) (hd : 0 ≤ d ∧ d ≤ 65535) (hc : 0 ≤ c ∧ c ≤ 255) : whirligigref11_Hot.f k d t m c s = some (hot d c) := by
  obtain ⟨p9, p3, p5, p7⟩ := pow_all
  have q9 := pow_more _ _ 20 p9 k hk
  have q3 := pow_more _ _ 20 p3 k hk
  have q5 := pow_more _ _ 20 p5 k hk
  have q7 := pow_more _ _ 20 p7 k hk
  have e : Int.tdiv c 4 % 256 % 2 = c / 4 % 2 := by rw [Int.tdiv_eq_ediv_of_nonneg hc.1]; omega
  have e2 : Int.tmod c 4 = c % 4 := Int.tmod_eq_emod_of_nonneg hc.1
  unfold whirligigref11_Hot.f hot watch whirligigref11_Chosen.f
  rw [e, e2]
  by_cases h : c / 4 % 2 = 0
  · have h' : ¬ c / 4 % 2 = 1 := by omega
    rw [if_pos h, decide_eq_false h']; rfl
  · have h' : c / 4 % 2 = 1 := by omega
    rw [if_neg h, decide_eq_true h']
    by_cases c0 : c % 4 = 0
    · rw [if_pos c0, if_pos c0]; simp only [Option.bind_some, q9]; rw [if_neg (by omega), bitline d 512 hd (by omega)]; rfl
    rw [if_neg c0, if_neg c0]
    by_cases c1 : c % 4 = 1
    · rw [if_pos c1, if_pos c1]; simp only [Option.bind_some, q3]; rw [if_neg (by omega), bitline d 8 hd (by omega)]; rfl
    rw [if_neg c1, if_neg c1]
    by_cases c2 : c % 4 = 2
    · rw [if_pos c2, if_pos c2]; simp only [Option.bind_some, q5]; rw [if_neg (by omega), bitline d 32 hd (by omega)]; rfl
    rw [if_neg c2, if_neg c2]; simp only [Option.bind_some, q7]; rw [if_neg (by omega), bitline d 128 hd (by omega)]; rfl
theorem count_ref (d t m c s : Int) (ht : 0 ≤ t ∧ t ≤ 255) (was : Bool) (hw : was = true) (hh : hot d c = false) : whirligigref11_count.f d t m c s = some (fellT was d t m c s) := by
  unfold whirligigref11_count.f fellT
  rw [if_pos (⟨hw, hh⟩ : was = true ∧ hot d c = false)]
  by_cases h : t = 255
  · rw [if_pos h, if_pos h]
  · rw [if_neg h, if_neg h, show (t + 1) % 256 = t + 1 by omega]
theorem div_next (d : Int) (hd : 0 ≤ d ∧ d ≤ 65535) : IntKind.u16.wrap (Int.tmod (wrap64 (wrap64 d + 4)) 65536) = (d + 4) % 65536 := by
  rw [wrap64_in (x := d) (by omega), wrap64_in (by omega), Int.tmod_eq_emod_of_nonneg (by omega), IntKind.wrap_u16]; omega
theorem stepj_ref (k : Nat) (was b : Bool) (d t m c s : Int) (hk : 21 ≤ k) (hd : 0 ≤ d ∧ d ≤ 65535) (ht : 0 ≤ t ∧ t ≤ 255) (hc : 0 ≤ c ∧ c ≤ 255) :
    whirligigref11_Step.j0 k was b d t m c s = some ((fellT was ((d + 4) % 65536) t m c s).1, (fellT was ((d + 4) % 65536) t m c s).2.1, (fellT was ((d + 4) % 65536) t m c s).2.2.1, (fellT was ((d + 4) % 65536) t m c s).2.2.2.1, (fellT was ((d + 4) % 65536) t m c s).2.2.2.2, b) := by
  obtain ⟨k, rfl⟩ : ∃ j, k = j + 1 := ⟨k - 1, by omega⟩
  simp only [whirligigref11_Step.j0]
  rw [div_next d hd]
  cases was with
  | false => rw [if_neg (by simp)]; simp [fellT]
  | true =>
    rw [if_pos rfl, hot_ref k _ t m c s (by omega) (by omega) hc]
    simp only [Option.bind_some]
    by_cases h : hot ((d + 4) % 65536) c = true
    · rw [if_pos h]; simp [fellT, h]
    · have h' : hot ((d + 4) % 65536) c = false := by simpa using h
      rw [if_neg h, count_ref _ t m c s ht true rfl h']
      rfl
theorem step_ref (k : Nat) (d t m c s : Int) (hk : 21 ≤ k) (hd : 0 ≤ d ∧ d ≤ 65535) (ht : 0 ≤ t ∧ t ≤ 255) (hm : 0 ≤ m ∧ m ≤ 255) (hc : 0 ≤ c ∧ c ≤ 255) :
    whirligigref11_Step.f k d t m c s = some ((stepT d t m c s).1, (stepT d t m c s).2.1, (stepT d t m c s).2.2.1, (stepT d t m c s).2.2.2.1, (stepT d t m c s).2.2.2.2, (s == 1)) := by
  unfold whirligigref11_Step.f stepT
  rw [hot_ref k d t m c s (by omega) hd hc]
  simp only [Option.bind_some]
  by_cases h : s = 1
  · rw [if_pos h, if_pos h, stepj_ref k _ _ d m m c 2 hk hd hm hc]
    subst h; rfl
  · rw [if_neg h, if_neg h, stepj_ref k _ _ d t m c 0 hk hd ht hc]
    rw [show (s == 1) = false by simpa using h]
end Go.Proofs.Ytjfpbdecklkldaa.Pure
