/- alu.AddWords by hand. -/
import Derived.Test.YtdfpaebbejdjlaaG0
namespace Go.Proofs.Ytdfpaebbejdjlaa.Hand
open Go.RowKit Go.Proofs.Ytdfpaebbejdjlaa.G
open Go.Proofs.YtdfpaebbejdjlaaW.PrintWords Go.Proofs.YtdfpaebbejdjlaaW.PrintLast Go.Proofs.YtdfpaebbejdjlaaW.PrintMore
set_option linter.unusedVariables false
set_option maxRecDepth 100000 in
set_option maxHeartbeats 1000000 in
theorem words_calls (a b : Int) (z n h c : Bool) (w : World) (ha : 0 ≤ a) (ha' : a ≤ 65535) (hb : 0 ≤ b) (hb' : b ≤ 65535) :
    Calls Try.prog 16 #[.int .u16 a, .int .u16 b, .agg #[.bool z, .bool n, .bool h, .bool c]] w fun e w' => e = .returned (.tuple #[.int .u16 (IntKind.u16.wrap (a + b)), .agg #[.bool z, .bool false, .bool (bits .and .u16 (bits .xor .u16 (bits .xor .u16 a b) (IntKind.u16.wrap (a + b))) 4096 != 0), .bool ((a + b) / 65536 != 0)]]) ∧ Below w.heap.size w w' := by
  go_enter Try.func16, Try.ntmps16
  go_wp2
  go_region
  all_goals go_wp2
  all_goals refine bodyPost_ret (v := (.tuple #[.int .u16 (IntKind.u16.wrap (a + b)), .agg #[.bool z, .bool false, .bool (bits .and .u16 (bits .xor .u16 (bits .xor .u16 a b) (IntKind.u16.wrap (a + b))) 4096 != 0), .bool ((a + b) / 65536 != 0)]])) (by simp [results, Try.results16, go_sem]) rfl ⟨rfl, ?_⟩
  all_goals exact below_drew1 (below_alloc (below_alloc (Below.refl _ _) _) _)
def alu_AddWords.f (a0 : Int) (a1 : Int) (a2_0 : Bool) (a2_1 : Bool) (a2_2 : Bool) (a2_3 : Bool) : Option (Int × Bool × Bool × Bool × Bool) :=
  if 0 ≤ a0 ∧ a0 ≤ 65535 ∧ 0 ≤ a1 ∧ a1 ≤ 65535 then some (IntKind.u16.wrap (a0 + a1), a2_0, false, (Go.bits .and .u16 (Go.bits .xor .u16 (Go.bits .xor .u16 a0 a1) (IntKind.u16.wrap (a0 + a1))) 4096 != 0), ((a0 + a1) / 65536 != 0)) else none
theorem alu_AddWords.calls (a0 : Int) (a1 : Int) (a2_0 : Bool) (a2_1 : Bool) (a2_2 : Bool) (a2_3 : Bool) (r1 : Int) (r2 : Bool) (r3 : Bool) (r4 : Bool) (r5 : Bool) (w : World) (h : alu_AddWords.f a0 a1 a2_0 a2_1 a2_2 a2_3 = some (r1, r2, r3, r4, r5)) :
    Calls Try.prog 16 #[.int .u16 a0, .int .u16 a1, .agg #[.bool a2_0, .bool a2_1, .bool a2_2, .bool a2_3]] w fun e w' => e = .returned (.tuple #[.int .u16 r1, .agg #[.bool r2, .bool r3, .bool r4, .bool r5]]) ∧ Below w.heap.size w w' := by
  unfold alu_AddWords.f at h
  by_cases hc : 0 ≤ a0 ∧ a0 ≤ 65535 ∧ 0 ≤ a1 ∧ a1 ≤ 65535
  · rw [if_pos hc] at h
    simp only [Option.some.injEq, Prod.mk.injEq] at h
    obtain ⟨rfl, rfl, rfl, rfl, rfl⟩ := h
    exact words_calls a0 a1 _ _ _ _ w hc.1 hc.2.1 hc.2.2.1 hc.2.2.2
  · rw [if_neg hc] at h
    cases h
end Go.Proofs.Ytdfpaebbejdjlaa.Hand
