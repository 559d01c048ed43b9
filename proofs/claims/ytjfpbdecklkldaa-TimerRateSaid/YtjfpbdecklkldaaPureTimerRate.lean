/- The plain law of TimerRate: the counter counts once while its line comes round. -/
import Derived.Test.YtjfpbdecklkldaaNum
import Derived.Test.YtjfpbdecklkldaaHRate
import Derived.Test.YtjfpbdecklkldaaPure11
namespace Go.Proofs.Ytjfpbdecklkldaa.Pure
open Go.RowKit Go.Proofs.Ytjfpbdecklkldaa.G Go.Proofs.Ytjfpbdecklkldaa.Hand
open Go.Proofs.YtjfpbdecklkldaaW.PrintWords Go.Proofs.YtjfpbdecklkldaaW.PrintLast Go.Proofs.YtjfpbdecklkldaaW.PrintMore
set_option maxRecDepth 100000
set_option linter.unusedVariables false
set_option linter.unusedSimpArgs false
/-- How often the line has come round, i cycles from d0 on. -/
def cnt (d0 c : Int) (i : Nat) : Int := if c / 4 % 2 = 1 then (d0 + 4 * (i : Int)) / (2 * watch c) - d0 / (2 * watch c) else 0
theorem watch_is (c : Int) : watch c = 512 ∨ watch c = 8 ∨ watch c = 32 ∨ watch c = 128 := by
  unfold watch
  split
  · simp
  split
  · simp
  split
  · simp
  · simp
theorem hot_mod (x c : Int) (hx : 0 ≤ x) : hot (x % 65536) c = hot x c := by
  unfold hot
  have e : decide (x % 65536 / watch c % 2 = 1) = decide (x / watch c % 2 = 1) := by
    rw [decide_eq_decide]
    rcases watch_is c with h | h | h | h <;> rw [h] <;> omega
  rw [e]
theorem step_is (kk : Nat) (hk : 1 ≤ kk) (d0 t0 m c : Int) (i : Nat) (hd : 0 ≤ d0 ∧ d0 ≤ 65535) (hm : 0 ≤ m ∧ m ≤ 255) (hc : 0 ≤ c ∧ c ≤ 255) (h0 : 0 ≤ t0 + cnt d0 c i) (h1 : t0 + cnt d0 c i ≤ 254) :
    timer_Step.f kk ((d0 + 4 * (i : Int)) % 65536) (t0 + cnt d0 c i) m c 0 = some ((d0 + 4 * ((i + 1 : Nat) : Int)) % 65536, t0 + cnt d0 c (i + 1), m, c, 0, false) := by
  have hs := step_prog kk ((d0 + 4 * (i : Int)) % 65536) (t0 + cnt d0 c i) m c 0 hk (by omega) (by omega) hm hc
  have e1 : ((d0 + 4 * (i : Int)) % 65536 + 4) % 65536 = (d0 + 4 * ((i + 1 : Nat) : Int)) % 65536 := by omega
  have hstep : stepT ((d0 + 4 * (i : Int)) % 65536) (t0 + cnt d0 c i) m c 0 = ((d0 + 4 * ((i + 1 : Nat) : Int)) % 65536, t0 + cnt d0 c (i + 1), m, c, 0) := by
    unfold stepT
    rw [if_neg (by omega), e1]
    unfold fellT
    rw [hot_mod _ c (by omega), hot_mod _ c (by omega)]
    have e2 : (d0 + 4 * ((i + 1 : Nat) : Int)) = d0 + 4 * (i : Int) + 4 := by omega
    rw [e2]
    unfold hot cnt
    by_cases hb : c / 4 % 2 = 1
    · simp only [hb, decide_true, Bool.true_and, if_true, e2]
      have hx : 0 ≤ d0 + 4 * (i : Int) := by omega
      unfold cnt at h1
      rw [if_pos hb] at h1
      generalize d0 + 4 * (i : Int) = x at hx h1
      by_cases hf : decide (x / watch c % 2 = 1) = true ∧ decide ((x + 4) / watch c % 2 = 1) = false
      · rw [if_pos hf, if_neg (by omega)]
        obtain ⟨f1, f2⟩ := hf
        have f1 := of_decide_eq_true f1
        have f2 := of_decide_eq_false f2
        have e3 : (x + 4) / (2 * watch c) = x / (2 * watch c) + 1 := by
          rcases watch_is c with h | h | h | h <;> rw [h] at f1 f2 ⊢ <;> omega
        rw [e3]
        congr 2
        omega
      · rw [if_neg hf]
        have e3 : (x + 4) / (2 * watch c) = x / (2 * watch c) := by
          have hf2 : ¬ (x / watch c % 2 = 1 ∧ ¬ (x + 4) / watch c % 2 = 1) := by simpa using hf
          rcases watch_is c with h | h | h | h <;> rw [h] at hf2 ⊢ <;> omega
        rw [e3]
    · have hb2 : decide (c / 4 % 2 = 1) = false := decide_eq_false hb
      rw [hb2, if_neg (by simp), if_neg hb, if_neg hb]
  rw [hs, hstep]
  rfl
theorem it_is (kk : Nat) (hk : 1 ≤ kk) (d0 t0 m c : Int) (hd : 0 ≤ d0 ∧ d0 ≤ 65535) (ht : 0 ≤ t0 ∧ t0 ≤ 199) (hm : 0 ≤ m ∧ m ≤ 255) (hc : 0 ≤ c ∧ c ≤ 255) (N : Nat) (hN : cnt d0 c N ≤ 7) :
    ∀ (n i : Nat), i + n = N → rateIt kk n ((d0 + 4 * (i : Int)) % 65536, t0 + cnt d0 c i, m, c, 0) = some ((d0 + 4 * (N : Int)) % 65536, t0 + cnt d0 c N, m, c, 0)
  | 0, i, h => by
    obtain rfl : i = N := by omega
    rfl
  | n + 1, i, h => by
    have hmono : cnt d0 c i ≤ cnt d0 c N ∧ 0 ≤ cnt d0 c i := by
      unfold cnt
      split
      · rcases watch_is c with h' | h' | h' | h' <;> rw [h'] <;> omega
      · omega
    have hs := step_is kk hk d0 t0 m c i hd hm hc (by omega) (by omega)
    unfold rateIt
    dsimp only
    rw [hs]
    simp only [Option.bind_some, if_true]
    exact it_is kk hk d0 t0 m c hd ht hm hc N hN n (i + 1) (by omega)
theorem per_is (c : Int) (hc : 0 ≤ c ∧ c ≤ 255) : ∃ p, whirligiglaw11_period.f c = some p ∧ 4 * p = 2 * watch c ∧ 0 < p ∧ p ≤ 256 := by
  unfold whirligiglaw11_period.f watch
  rw [Int.tmod_eq_emod_of_nonneg hc.1]
  by_cases c0 : c % 4 = 0
  · rw [if_pos c0, if_pos c0]; exact ⟨_, rfl, by omega, by omega, by omega⟩
  rw [if_neg c0, if_neg c0]
  by_cases c1 : c % 4 = 1
  · rw [if_pos c1, if_pos c1]; exact ⟨_, rfl, by omega, by omega, by omega⟩
  rw [if_neg c1, if_neg c1]
  by_cases c2 : c % 4 = 2
  · rw [if_pos c2, if_pos c2]; exact ⟨_, rfl, by omega, by omega, by omega⟩
  rw [if_neg c2, if_neg c2]; exact ⟨_, rfl, by omega, by omega, by omega⟩
theorem and4_all : ∀ c : Fin 256, (Go.bits .and .u8 (c.val : Int) 4 = 0) ↔ ¬ ((c.val : Int) / 4 % 2 = 1) := by decide +kernel
theorem cnt_end (d0 c : Int) (p : Int) (q : Nat) (hp : 4 * p = 2 * watch c) (n : Nat) (hn : (n : Int) = (q : Int) * p) (hc : c / 4 % 2 = 1) : cnt d0 c n = (q : Int) := by
  unfold cnt
  rw [if_pos hc]
  have hw : 0 < 2 * watch c := by rcases watch_is c with h | h | h | h <;> rw [h] <;> omega
  have e : d0 + 4 * (n : Int) = d0 + (2 * watch c) * (q : Int) := by
    rw [hn, ← hp, Int.mul_assoc 4 p (q : Int), Int.mul_comm p (q : Int)]
  rw [e, Int.add_mul_ediv_left _ _ (by omega)]
  omega
theorem TimerRate (d t m c s : Int) (a1 : Int) (w0 : (Lit.int .u16 d).wf = true) (w1 : (Lit.int .u8 t).wf = true) (w2 : (Lit.int .u8 m).wf = true) (w3 : (Lit.int .u8 c).wf = true) (w4 : (Lit.int .u8 s).wf = true) (w5 : (Lit.int .u8 a1).wf = true) : ∃ k, whirligiglaw11_TimerRate.f k d t m c s a1 = some true := by
  have bd := u16_bd w0
  have bt := u8_bd w1
  have bm := u8_bd w2
  have bc := u8_bd w3
  have ba := u8_bd w5
  refine ⟨90, ?_⟩
  obtain ⟨p, hp, hp4, hp0, hp1⟩ := per_is c bc
  have eq : Int.tmod a1 8 = a1 % 8 := Int.tmod_eq_emod_of_nonneg ba.1
  have et : Int.tmod t 200 = t % 200 := Int.tmod_eq_emod_of_nonneg bt.1
  have hq : 0 ≤ a1 % 8 ∧ a1 % 8 ≤ 7 := by omega
  obtain ⟨q, hqe⟩ : ∃ q : Nat, a1 % 8 = (q : Int) := ⟨(a1 % 8).toNat, by omega⟩
  have hmul : 0 ≤ (q : Int) * p ∧ (q : Int) * p ≤ 1792 := by
    have h7 : q ≤ 7 := by omega
    have : q = 0 ∨ q = 1 ∨ q = 2 ∨ q = 3 ∨ q = 4 ∨ q = 5 ∨ q = 6 ∨ q = 7 := by omega
    rcases this with rfl | rfl | rfl | rfl | rfl | rfl | rfl | rfl <;> omega
  have hn : (((q : Int) * p).toNat : Int) = (q : Int) * p := by omega
  unfold whirligiglaw11_TimerRate.f
  rw [shown_is, hp]
  simp only [Option.bind_some]
  rw [eq, et, hqe, wrap64_in (x := (q : Int)) (by omega), wrap64_in (x := (q : Int) * p) (by omega)]
  have hcnt : cnt d c ((q : Int) * p).toNat ≤ 7 := by
    by_cases hb : c / 4 % 2 = 1
    · rw [cnt_end d c p q hp4 _ hn hb]; omega
    · unfold cnt; rw [if_neg hb]; omega
  have hit := it_is 90 (by omega) d (t % 200) m c bd (by omega) bm bc ((q : Int) * p).toNat hcnt ((q : Int) * p).toNat 0 (by omega)
  have e0 : ((d + 4 * ((0 : Nat) : Int)) % 65536, t % 200 + cnt d c 0, m, c, (0 : Int)) = (d, t % 200, m, c, 0) := by
    have z : cnt d c 0 = 0 := by
      unfold cnt
      split
      · rw [show d + 4 * ((0 : Nat) : Int) = d by omega]; omega
      · rfl
    rw [z]
    congr 1
    · omega
    · rw [Int.add_zero]
  rw [e0] at hit
  rw [hit]
  simp only [Option.bind_some]
  rw [if_pos]
  refine ⟨trivial, ?_, trivial⟩
  obtain ⟨v, hv⟩ := byte_fin bc
  have ha := and4_all v
  rw [← hv] at ha
  by_cases hb : c / 4 % 2 = 1
  · rw [if_neg (fun z => (ha.mp z) hb), cnt_end d c p q hp4 _ hn hb, wrap64_in (x := t % 200) (by omega), wrap64_in (by omega)]
  · rw [if_pos (ha.mpr hb)]
    unfold cnt
    rw [if_neg hb, Int.add_zero]
end Go.Proofs.Ytjfpbdecklkldaa.Pure
