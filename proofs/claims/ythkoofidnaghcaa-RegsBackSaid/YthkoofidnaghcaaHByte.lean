/- alu.Byte by hand: four rounds over an array that the function lays. -/
import Derived.Test.YthkoofidnaghcaaG0
namespace Go.Proofs.Ythkoofidnaghcaa.Hand
open Go.RowKit Go.Proofs.Ythkoofidnaghcaa.G
open Go.Proofs.YthkoofidnaghcaaW.PrintWords Go.Proofs.YthkoofidnaghcaaW.PrintLast Go.Proofs.YthkoofidnaghcaaW.PrintMore
set_option linter.unusedVariables false
/-- Flags as a byte. -/
def byteOf (z n h c : Bool) : Int := (if z then 128 else 0) + (if n then 64 else 0) + (if h then 32 else 0) + (if c then 16 else 0)
set_option maxRecDepth 100000 in
set_option maxHeartbeats 8000000 in
theorem byte_calls (z n h c : Bool) (w : World) :
    Calls Try.prog 46 #[.agg #[.bool z, .bool n, .bool h, .bool c]] w fun e w' => e = .returned (.int .u8 (byteOf z n h c)) ∧ Below w.heap.size w w' := by
  have i0 : ∀ z n h c w, (Instr.index 84 (.agg #[.bool z, .int .u8 128, .bool n, .int .u8 64, .bool h, .int .u8 32, .bool c, .int .u8 16]) (.int .i64 0)).run Try.prog w = .ok (.agg #[.bool z, .int .u8 128]) w := fun _ _ _ _ _ => by kernel_rfl
  have i1 : ∀ z n h c w, (Instr.index 84 (.agg #[.bool z, .int .u8 128, .bool n, .int .u8 64, .bool h, .int .u8 32, .bool c, .int .u8 16]) (.int .i64 1)).run Try.prog w = .ok (.agg #[.bool n, .int .u8 64]) w := fun _ _ _ _ _ => by kernel_rfl
  have i2 : ∀ z n h c w, (Instr.index 84 (.agg #[.bool z, .int .u8 128, .bool n, .int .u8 64, .bool h, .int .u8 32, .bool c, .int .u8 16]) (.int .i64 2)).run Try.prog w = .ok (.agg #[.bool h, .int .u8 32]) w := fun _ _ _ _ _ => by kernel_rfl
  have i3 : ∀ z n h c w, (Instr.index 84 (.agg #[.bool z, .int .u8 128, .bool n, .int .u8 64, .bool h, .int .u8 32, .bool c, .int .u8 16]) (.int .i64 3)).run Try.prog w = .ok (.agg #[.bool c, .int .u8 16]) w := fun _ _ _ _ _ => by kernel_rfl
  go_enter Try.func46, Try.ntmps46
  go_wp2
  refine wp_loop_rounds 5 ?_
  rw [rounds_succ]
  go_wp2
  all_goals (rw [rounds_succ]; go_wp2)
  all_goals (rw [rounds_succ]; go_wp2)
  all_goals (rw [rounds_succ]; go_wp2)
  all_goals (rw [rounds_succ]; go_wp2)
  all_goals (try subst_vars)
  all_goals go_ret
  all_goals refine ⟨congrArg (fun x => Ending.returned (.int .u8 x)) (by decide), ?_⟩
  all_goals exact below_alloc (below_alloc (below_alloc (below_alloc (below_alloc (Below.refl _ _) _) _) _) _) _
def alu_Byte.f (a0_0 : Bool) (a0_1 : Bool) (a0_2 : Bool) (a0_3 : Bool) : Option Int := some (byteOf a0_0 a0_1 a0_2 a0_3)
theorem alu_Byte.calls (a0_0 : Bool) (a0_1 : Bool) (a0_2 : Bool) (a0_3 : Bool) (r : Int) (w : World) (h : alu_Byte.f a0_0 a0_1 a0_2 a0_3 = some r) :
    Calls Try.prog 46 #[.agg #[.bool a0_0, .bool a0_1, .bool a0_2, .bool a0_3]] w fun e w' => e = .returned (.int .u8 r) ∧ Below w.heap.size w w' := by
  obtain rfl := Option.some.inj h
  exact byte_calls _ _ _ _ w
end Go.Proofs.Ythkoofidnaghcaa.Hand
