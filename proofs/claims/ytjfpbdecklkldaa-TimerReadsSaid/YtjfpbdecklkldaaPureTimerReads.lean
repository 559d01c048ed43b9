/- The plain law of TimerReads. -/
import Derived.Test.YtjfpbdecklkldaaNum
import Derived.Test.YtjfpbdecklkldaaG21
import Derived.Test.YtjfpbdecklkldaaPureTimerR
namespace Go.Proofs.Ytjfpbdecklkldaa.Pure
open Go.RowKit Go.Proofs.Ytjfpbdecklkldaa.G Go.Proofs.Ytjfpbdecklkldaa.Hand
open Go.Proofs.YtjfpbdecklkldaaW.PrintWords Go.Proofs.YtjfpbdecklkldaaW.PrintLast Go.Proofs.YtjfpbdecklkldaaW.PrintMore
set_option maxRecDepth 100000
set_option linter.unusedVariables false
theorem tacs : ∀ c : Fin 256, Go.bits .or .u8 248 (c.val : Int) = (248 + Int.tmod (c.val : Int) 8) % 256 := by decide +kernel
theorem TimerReads (d t m c s : Int) (a1 : Int) (w0 : (Lit.int .u16 d).wf = true) (w1 : (Lit.int .u8 t).wf = true) (w2 : (Lit.int .u8 m).wf = true) (w3 : (Lit.int .u8 c).wf = true) (w4 : (Lit.int .u8 s).wf = true) (w5 : (Lit.int .u16 a1).wf = true) : ∃ k, whirligiglaw11_TimerReads.f k d t m c s a1 = some true := by
  have bd := u16_bd w0
  have bt := u8_bd w1
  have bm := u8_bd w2
  have bc := u8_bd w3
  have bs := u8_bd w4
  have e : (wrap64 (Int.tdiv (wrap64 d) 256)) % 256 = d / 256 % 256 := by rw [wrap64_in (x := d) (by omega), Int.tdiv_eq_ediv_of_nonneg (by omega), wrap64_in (by omega)]
  have e2 : Go.bits .or .u8 248 c = (248 + Int.tmod c 8) % 256 := by
    obtain ⟨v, rfl⟩ := byte_fin bc
    exact tacs v
  refine ⟨90, ?_⟩
  unfold whirligiglaw11_TimerReads.f timer_Read.f whirligigref11_Read.f
  rw [shown_is, e, e2]
  simp only [Option.bind_some, if_true]
  by_cases h1 : a1 = 65284
  · rw [if_pos h1]; simp
  rw [if_neg h1]
  by_cases h2 : a1 = 65285
  · rw [if_pos h2]; simp
  rw [if_neg h2]
  by_cases h3 : a1 = 65286
  · rw [if_pos h3]; simp
  rw [if_neg h3]
  by_cases h4 : a1 = 65287
  · rw [if_pos h4]; simp
  rw [if_neg h4]; simp
end Go.Proofs.Ytjfpbdecklkldaa.Pure
