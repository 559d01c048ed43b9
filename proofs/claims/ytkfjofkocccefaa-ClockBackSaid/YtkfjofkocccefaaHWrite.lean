/- The clock's Write, the program's and the reference's, by hand: a register told something; the struct's copies walked in place. -/
import Derived.Test.YtkfjofkocccefaaG2
import Derived.Test.YtkfjofkocccefaaG6
import Derived.Handy
namespace Go.Proofs.Ytkfjofkocccefaa.Hand
open Go.RowKit
open Go.Proofs.Ytkfjofkocccefaa.G
open Go.Proofs.YtkfjofkocccefaaW.PrintWords Go.Proofs.YtkfjofkocccefaaW.PrintLast Go.Proofs.YtkfjofkocccefaaW.PrintMore
set_option linter.unusedVariables false
def clock_Write.f (a0_0 : Int) (a0_1 : Int) (a0_2 : Int) (a0_3 : Int) (a0_4 : Bool) (a0_5 : Bool) (a1 : Int) (a2 : Int) : Option (Int × Int × Int × Int × Bool × Bool × Int) := (clock_Norm.f a0_0 a0_1 a0_2 a0_3 a0_4 a0_5).bind fun bt340 => (if a1 = 8 then ((clock_Norm.f a2 bt340.2.1 bt340.2.2.1 bt340.2.2.2.1 bt340.2.2.2.2.1 bt340.2.2.2.2.2).bind fun bt346 => (some (bt346.1, bt346.2.1, bt346.2.2.1, bt346.2.2.2.1, bt346.2.2.2.2.1, bt346.2.2.2.2.2, 0))) else (if a1 = 9 then ((clock_Norm.f bt340.1 a2 bt340.2.2.1 bt340.2.2.2.1 bt340.2.2.2.2.1 bt340.2.2.2.2.2).bind fun bt352 => (some (bt352.1, bt352.2.1, bt352.2.2.1, bt352.2.2.2.1, bt352.2.2.2.2.1, bt352.2.2.2.2.2, 0))) else (if a1 = 10 then ((clock_Norm.f bt340.1 bt340.2.1 a2 bt340.2.2.2.1 bt340.2.2.2.2.1 bt340.2.2.2.2.2).bind fun bt358 => (some (bt358.1, bt358.2.1, bt358.2.2.1, bt358.2.2.2.1, bt358.2.2.2.2.1, bt358.2.2.2.2.2, 0))) else (if a1 = 11 then ((clock_Norm.f bt340.1 bt340.2.1 bt340.2.2.1 (Go.bits .or .u16 (Go.bits .and .u16 bt340.2.2.2.1 256) (IntKind.u16.wrap (a2))) bt340.2.2.2.2.1 bt340.2.2.2.2.2).bind fun bt364 => (some (bt364.1, bt364.2.1, bt364.2.2.1, bt364.2.2.2.1, bt364.2.2.2.2.1, bt364.2.2.2.2.2, 0))) else (if a1 = 12 then ((clock_Norm.f bt340.1 bt340.2.1 bt340.2.2.1 (Go.bits .or .u16 (Go.bits .and .u16 bt340.2.2.2.1 255) (IntKind.u16.wrap ((IntKind.u16.wrap (Go.bits .and .u8 a2 1)) * 256))) ((Go.bits .and .u8 a2 64) != 0) ((Go.bits .and .u8 a2 128) != 0)).bind fun bt370 => (some (bt370.1, bt370.2.1, bt370.2.2.1, bt370.2.2.2.1, bt370.2.2.2.2.1, bt370.2.2.2.2.2, 0))) else (some (0, 0, 0, 0, false, false, 7)))))))
set_option maxRecDepth 100000 in
set_option maxHeartbeats 4000000 in
theorem clock_Write.calls (a0_0 a0_1 a0_2 a0_3 : Int) (a0_4 a0_5 : Bool) (a1 a2 : Int) (r1 r2 r3 r4 : Int) (r5 r6 : Bool) (r7 : Int) (w : World) (h : clock_Write.f a0_0 a0_1 a0_2 a0_3 a0_4 a0_5 a1 a2 = some (r1, r2, r3, r4, r5, r6, r7)) :
    Calls Try.prog 23 #[.agg #[.int .u8 a0_0, .int .u8 a0_1, .int .u8 a0_2, .int .u16 a0_3, .bool a0_4, .bool a0_5], .int .i64 a1, .int .u8 a2] w fun e w' => e = .returned (.tuple #[.agg #[.int .u8 r1, .int .u8 r2, .int .u8 r3, .int .u16 r4, .bool r5, .bool r6], .int .i64 r7]) ∧ Below w.heap.size w w' := by
  unfold clock_Write.f clock_Norm.f at h
  simp only [Option.bind_some] at h
  by_cases c8 : a1 = 8
  · subst c8
    rw [if_pos rfl] at h
    cases h
    go_enter Try.func23, Try.ntmps23
    go_wp2
    go_returns
    exact ⟨rfl, by go_grown⟩
  rw [if_neg c8] at h
  by_cases c9 : a1 = 9
  · subst c9
    rw [if_pos rfl] at h
    cases h
    go_enter Try.func23, Try.ntmps23
    go_wp2
    go_returns
    exact ⟨rfl, by go_grown⟩
  rw [if_neg c9] at h
  by_cases c10 : a1 = 10
  · subst c10
    rw [if_pos rfl] at h
    cases h
    go_enter Try.func23, Try.ntmps23
    go_wp2
    go_returns
    exact ⟨rfl, by go_grown⟩
  rw [if_neg c10] at h
  by_cases c11 : a1 = 11
  · subst c11
    rw [if_pos rfl] at h
    cases h
    go_enter Try.func23, Try.ntmps23
    go_wp2
    go_returns
    exact ⟨rfl, by go_grown⟩
  rw [if_neg c11] at h
  by_cases c12 : a1 = 12
  · subst c12
    rw [if_pos rfl] at h
    cases h
    go_enter Try.func23, Try.ntmps23
    go_wp2
    go_returns
    exact ⟨rfl, by go_grown⟩
  rw [if_neg c12] at h
  cases h
  go_enter Try.func23, Try.ntmps23
  go_wp2
  go_returns
  exact ⟨rfl, by go_grown⟩
def whirligigref09_Write.f (a0_0 : Int) (a0_1 : Int) (a0_2 : Int) (a0_3 : Int) (a0_4 : Bool) (a0_5 : Bool) (a1 : Int) (a2 : Int) : Option (Int × Int × Int × Int × Bool × Bool × Int) := (whirligigref09_Norm.f a0_0 a0_1 a0_2 a0_3 a0_4 a0_5).bind fun bt378 => (if a1 = 8 then (some (Int.tmod a2 64, bt378.2.1, bt378.2.2.1, bt378.2.2.2.1, bt378.2.2.2.2.1, bt378.2.2.2.2.2, 0)) else (if a1 = 9 then (some (bt378.1, Int.tmod a2 64, bt378.2.2.1, bt378.2.2.2.1, bt378.2.2.2.2.1, bt378.2.2.2.2.2, 0)) else (if a1 = 10 then (some (bt378.1, bt378.2.1, Int.tmod a2 32, bt378.2.2.2.1, bt378.2.2.2.2.1, bt378.2.2.2.2.2, 0)) else (if a1 = 11 then (some (bt378.1, bt378.2.1, bt378.2.2.1, IntKind.u16.wrap ((IntKind.u16.wrap ((IntKind.u16.wrap (Int.tdiv bt378.2.2.2.1 256)) * 256)) + (IntKind.u16.wrap (a2))), bt378.2.2.2.2.1, bt378.2.2.2.2.2, 0)) else (if a1 = 12 then (some (bt378.1, bt378.2.1, bt378.2.2.1, IntKind.u16.wrap ((Int.tmod a0_3 256) + (IntKind.u16.wrap ((IntKind.u16.wrap (Int.tmod a2 2)) * 256))), ((Int.tdiv a2 64) % 2 == 1), decide (a2 ≥ 128), 0)) else (some (0, 0, 0, 0, false, false, 7)))))))
set_option maxRecDepth 100000 in
set_option maxHeartbeats 4000000 in
theorem whirligigref09_Write.calls (a0_0 a0_1 a0_2 a0_3 : Int) (a0_4 a0_5 : Bool) (a1 a2 : Int) (r1 r2 r3 r4 : Int) (r5 r6 : Bool) (r7 : Int) (w : World) (h : whirligigref09_Write.f a0_0 a0_1 a0_2 a0_3 a0_4 a0_5 a1 a2 = some (r1, r2, r3, r4, r5, r6, r7)) :
    Calls Try.prog 24 #[.agg #[.int .u8 a0_0, .int .u8 a0_1, .int .u8 a0_2, .int .u16 a0_3, .bool a0_4, .bool a0_5], .int .i64 a1, .int .u8 a2] w fun e w' => e = .returned (.tuple #[.agg #[.int .u8 r1, .int .u8 r2, .int .u8 r3, .int .u16 r4, .bool r5, .bool r6], .int .i64 r7]) ∧ Below w.heap.size w w' := by
  unfold whirligigref09_Write.f whirligigref09_Norm.f at h
  simp only [Option.bind_some] at h
  by_cases c8 : a1 = 8
  · subst c8
    rw [if_pos rfl] at h
    cases h
    go_enter Try.func24, Try.ntmps24
    go_wp2
    go_returns
    exact ⟨rfl, by go_grown⟩
  rw [if_neg c8] at h
  by_cases c9 : a1 = 9
  · subst c9
    rw [if_pos rfl] at h
    cases h
    go_enter Try.func24, Try.ntmps24
    go_wp2
    go_returns
    exact ⟨rfl, by go_grown⟩
  rw [if_neg c9] at h
  by_cases c10 : a1 = 10
  · subst c10
    rw [if_pos rfl] at h
    cases h
    go_enter Try.func24, Try.ntmps24
    go_wp2
    go_returns
    exact ⟨rfl, by go_grown⟩
  rw [if_neg c10] at h
  by_cases c11 : a1 = 11
  · subst c11
    rw [if_pos rfl] at h
    cases h
    go_enter Try.func24, Try.ntmps24
    go_wp2
    go_returns
    exact ⟨rfl, by go_grown⟩
  rw [if_neg c11] at h
  by_cases c12 : a1 = 12
  · subst c12
    rw [if_pos rfl] at h
    cases h
    go_enter Try.func24, Try.ntmps24
    go_wp2
    go_returns
    exact ⟨rfl, by go_grown⟩
  rw [if_neg c12] at h
  cases h
  go_enter Try.func24, Try.ntmps24
  go_wp2
  go_returns
  exact ⟨rfl, by go_grown⟩
end Go.Proofs.Ytkfjofkocccefaa.Hand
