/- The reference's Bank of the mapper by hand. -/
import Derived.Test.YtkogdocpldfmnaaG0
import Derived.Deep.MidRow
import Derived.Handy
namespace Go.Proofs.Ytkogdocpldfmnaa.Hand
open Go.RowKit
open Go.Proofs.Ytkogdocpldfmnaa.G
open Go.Proofs.YtkogdocpldfmnaaW.PrintWords Go.Proofs.YtkogdocpldfmnaaW.PrintLast Go.Proofs.YtkogdocpldfmnaaW.PrintMore
set_option linter.unusedVariables false
set_option linter.unusedSimpArgs false
set_option maxRecDepth 100000 in
set_option maxHeartbeats 400000 in
theorem rbank1 (a0_0 : Int) (a0_1 : Bool) (a0_2 a0_3 a0_4 : Int) (a0_5 : Bool) (a1 : Int) (c0 : a1 > 32767) (w : World) :
    Calls Try.prog 16 #[.agg #[.int .i64 a0_0, .bool a0_1, .int .u8 a0_2, .int .u8 a0_3, .int .u8 a0_4, .bool a0_5], .int .u16 a1] w fun e w' => e = .returned (.int .i64 (0)) ∧ Below w.heap.size w w' := by
  go_enter Try.func16, Try.ntmps16
  go_wp2
  go_returns
  exact ⟨rfl, by go_grown⟩
set_option maxRecDepth 100000 in
set_option maxHeartbeats 400000 in
theorem rbank2 (a0_0 : Int) (a0_1 : Bool) (a0_2 a0_3 a0_4 : Int) (a0_5 : Bool) (a1 : Int) (c0 : ¬ a1 > 32767)(c1 : a1 > 16383)(cl : wrap64 a0_2 = 0) (w : World) :
    Calls Try.prog 16 #[.agg #[.int .i64 1, .bool a0_1, .int .u8 a0_2, .int .u8 a0_3, .int .u8 a0_4, .bool a0_5], .int .u16 a1] w fun e w' => e = .returned (.int .i64 (wrap64 (wrap64 (32 * wrap64 a0_3) + 1))) ∧ Below w.heap.size w w' := by
  go_enter Try.func16, Try.ntmps16
  go_wp2
  go_returns
  exact ⟨rfl, by go_grown⟩
set_option maxRecDepth 100000 in
set_option maxHeartbeats 400000 in
theorem rbank3 (a0_0 : Int) (a0_1 : Bool) (a0_2 a0_3 a0_4 : Int) (a0_5 : Bool) (a1 : Int) (c0 : ¬ a1 > 32767)(c1 : ¬ a1 > 16383)(cl : wrap64 a0_2 = 0) (w : World) :
    Calls Try.prog 16 #[.agg #[.int .i64 1, .bool a0_1, .int .u8 a0_2, .int .u8 a0_3, .int .u8 a0_4, .bool true], .int .u16 a1] w fun e w' => e = .returned (.int .i64 (wrap64 (32 * wrap64 a0_3))) ∧ Below w.heap.size w w' := by
  go_enter Try.func16, Try.ntmps16
  go_wp2
  go_returns
  exact ⟨rfl, by go_grown⟩
set_option maxRecDepth 100000 in
set_option maxHeartbeats 400000 in
theorem rbank4 (a0_0 : Int) (a0_1 : Bool) (a0_2 a0_3 a0_4 : Int) (a0_5 : Bool) (a1 : Int) (c0 : ¬ a1 > 32767)(c1 : ¬ a1 > 16383)(cl : wrap64 a0_2 = 0) (w : World) :
    Calls Try.prog 16 #[.agg #[.int .i64 1, .bool a0_1, .int .u8 a0_2, .int .u8 a0_3, .int .u8 a0_4, .bool false], .int .u16 a1] w fun e w' => e = .returned (.int .i64 (0)) ∧ Below w.heap.size w w' := by
  go_enter Try.func16, Try.ntmps16
  go_wp2
  go_returns
  exact ⟨rfl, by go_grown⟩
set_option maxRecDepth 100000 in
set_option maxHeartbeats 400000 in
theorem rbank5 (a0_0 : Int) (a0_1 : Bool) (a0_2 a0_3 a0_4 : Int) (a0_5 : Bool) (a1 : Int) (c0 : ¬ a1 > 32767)(c1 : a1 > 16383)(cl : wrap64 a0_2 = 0) (w : World) :
    Calls Try.prog 16 #[.agg #[.int .i64 3, .bool a0_1, .int .u8 a0_2, .int .u8 a0_3, .int .u8 a0_4, .bool a0_5], .int .u16 a1] w fun e w' => e = .returned (.int .i64 (1)) ∧ Below w.heap.size w w' := by
  go_enter Try.func16, Try.ntmps16
  go_wp2
  go_returns
  exact ⟨rfl, by go_grown⟩
set_option maxRecDepth 100000 in
set_option maxHeartbeats 400000 in
theorem rbank6 (a0_0 : Int) (a0_1 : Bool) (a0_2 a0_3 a0_4 : Int) (a0_5 : Bool) (a1 : Int) (c0 : ¬ a1 > 32767)(c1 : ¬ a1 > 16383)(cl : wrap64 a0_2 = 0) (w : World) :
    Calls Try.prog 16 #[.agg #[.int .i64 3, .bool a0_1, .int .u8 a0_2, .int .u8 a0_3, .int .u8 a0_4, .bool a0_5], .int .u16 a1] w fun e w' => e = .returned (.int .i64 (0)) ∧ Below w.heap.size w w' := by
  go_enter Try.func16, Try.ntmps16
  go_wp2
  go_returns
  exact ⟨rfl, by go_grown⟩
set_option maxRecDepth 100000 in
set_option maxHeartbeats 400000 in
theorem rbank7 (a0_0 : Int) (a0_1 : Bool) (a0_2 a0_3 a0_4 : Int) (a0_5 : Bool) (a1 : Int) (c0 : ¬ a1 > 32767)(c1 : a1 > 16383)(cl : wrap64 a0_2 = 0) (w : World) :
    Calls Try.prog 16 #[.agg #[.int .i64 5, .bool a0_1, .int .u8 a0_2, .int .u8 a0_3, .int .u8 a0_4, .bool a0_5], .int .u16 a1] w fun e w' => e = .returned (.int .i64 (wrap64 (wrap64 (256 * wrap64 a0_3) + wrap64 a0_2))) ∧ Below w.heap.size w w' := by
  go_enter Try.func16, Try.ntmps16
  go_wp2
  go_returns
  exact ⟨rfl, by go_grown⟩
set_option maxRecDepth 100000 in
set_option maxHeartbeats 400000 in
theorem rbank8 (a0_0 : Int) (a0_1 : Bool) (a0_2 a0_3 a0_4 : Int) (a0_5 : Bool) (a1 : Int) (c0 : ¬ a1 > 32767)(c1 : ¬ a1 > 16383)(cl : wrap64 a0_2 = 0) (w : World) :
    Calls Try.prog 16 #[.agg #[.int .i64 5, .bool a0_1, .int .u8 a0_2, .int .u8 a0_3, .int .u8 a0_4, .bool a0_5], .int .u16 a1] w fun e w' => e = .returned (.int .i64 (0)) ∧ Below w.heap.size w w' := by
  go_enter Try.func16, Try.ntmps16
  go_wp2
  go_returns
  exact ⟨rfl, by go_grown⟩
set_option maxRecDepth 100000 in
set_option maxHeartbeats 400000 in
theorem rbank9 (a0_0 : Int) (a0_1 : Bool) (a0_2 a0_3 a0_4 : Int) (a0_5 : Bool) (a1 : Int) (c0 : ¬ a1 > 32767)(c1 : a1 > 16383)(cl : wrap64 a0_2 = 0)(k1 : ¬ a0_0 = 1) (k3 : ¬ a0_0 = 3) (k5 : ¬ a0_0 = 5) (w : World) :
    Calls Try.prog 16 #[.agg #[.int .i64 a0_0, .bool a0_1, .int .u8 a0_2, .int .u8 a0_3, .int .u8 a0_4, .bool a0_5], .int .u16 a1] w fun e w' => e = .returned (.int .i64 (1)) ∧ Below w.heap.size w w' := by
  go_enter Try.func16, Try.ntmps16
  go_wp2
  go_returns
  exact ⟨rfl, by go_grown⟩
set_option maxRecDepth 100000 in
set_option maxHeartbeats 400000 in
theorem rbank10 (a0_0 : Int) (a0_1 : Bool) (a0_2 a0_3 a0_4 : Int) (a0_5 : Bool) (a1 : Int) (c0 : ¬ a1 > 32767)(c1 : ¬ a1 > 16383)(cl : wrap64 a0_2 = 0)(k1 : ¬ a0_0 = 1) (k3 : ¬ a0_0 = 3) (k5 : ¬ a0_0 = 5) (w : World) :
    Calls Try.prog 16 #[.agg #[.int .i64 a0_0, .bool a0_1, .int .u8 a0_2, .int .u8 a0_3, .int .u8 a0_4, .bool a0_5], .int .u16 a1] w fun e w' => e = .returned (.int .i64 (0)) ∧ Below w.heap.size w w' := by
  go_enter Try.func16, Try.ntmps16
  go_wp2
  go_returns
  exact ⟨rfl, by go_grown⟩
set_option maxRecDepth 100000 in
set_option maxHeartbeats 400000 in
theorem rbank11 (a0_0 : Int) (a0_1 : Bool) (a0_2 a0_3 a0_4 : Int) (a0_5 : Bool) (a1 : Int) (c0 : ¬ a1 > 32767)(c1 : a1 > 16383)(cl : ¬ wrap64 a0_2 = 0) (w : World) :
    Calls Try.prog 16 #[.agg #[.int .i64 1, .bool a0_1, .int .u8 a0_2, .int .u8 a0_3, .int .u8 a0_4, .bool a0_5], .int .u16 a1] w fun e w' => e = .returned (.int .i64 (wrap64 (wrap64 (32 * wrap64 a0_3) + wrap64 a0_2))) ∧ Below w.heap.size w w' := by
  go_enter Try.func16, Try.ntmps16
  go_wp2
  go_returns
  exact ⟨rfl, by go_grown⟩
set_option maxRecDepth 100000 in
set_option maxHeartbeats 400000 in
theorem rbank12 (a0_0 : Int) (a0_1 : Bool) (a0_2 a0_3 a0_4 : Int) (a0_5 : Bool) (a1 : Int) (c0 : ¬ a1 > 32767)(c1 : ¬ a1 > 16383)(cl : ¬ wrap64 a0_2 = 0) (w : World) :
    Calls Try.prog 16 #[.agg #[.int .i64 1, .bool a0_1, .int .u8 a0_2, .int .u8 a0_3, .int .u8 a0_4, .bool true], .int .u16 a1] w fun e w' => e = .returned (.int .i64 (wrap64 (32 * wrap64 a0_3))) ∧ Below w.heap.size w w' := by
  go_enter Try.func16, Try.ntmps16
  go_wp2
  go_returns
  exact ⟨rfl, by go_grown⟩
set_option maxRecDepth 100000 in
set_option maxHeartbeats 400000 in
theorem rbank13 (a0_0 : Int) (a0_1 : Bool) (a0_2 a0_3 a0_4 : Int) (a0_5 : Bool) (a1 : Int) (c0 : ¬ a1 > 32767)(c1 : ¬ a1 > 16383)(cl : ¬ wrap64 a0_2 = 0) (w : World) :
    Calls Try.prog 16 #[.agg #[.int .i64 1, .bool a0_1, .int .u8 a0_2, .int .u8 a0_3, .int .u8 a0_4, .bool false], .int .u16 a1] w fun e w' => e = .returned (.int .i64 (0)) ∧ Below w.heap.size w w' := by
  go_enter Try.func16, Try.ntmps16
  go_wp2
  go_returns
  exact ⟨rfl, by go_grown⟩
set_option maxRecDepth 100000 in
set_option maxHeartbeats 400000 in
theorem rbank14 (a0_0 : Int) (a0_1 : Bool) (a0_2 a0_3 a0_4 : Int) (a0_5 : Bool) (a1 : Int) (c0 : ¬ a1 > 32767)(c1 : a1 > 16383)(cl : ¬ wrap64 a0_2 = 0) (w : World) :
    Calls Try.prog 16 #[.agg #[.int .i64 3, .bool a0_1, .int .u8 a0_2, .int .u8 a0_3, .int .u8 a0_4, .bool a0_5], .int .u16 a1] w fun e w' => e = .returned (.int .i64 (wrap64 a0_2)) ∧ Below w.heap.size w w' := by
  go_enter Try.func16, Try.ntmps16
  go_wp2
  go_returns
  exact ⟨rfl, by go_grown⟩
set_option maxRecDepth 100000 in
set_option maxHeartbeats 400000 in
theorem rbank15 (a0_0 : Int) (a0_1 : Bool) (a0_2 a0_3 a0_4 : Int) (a0_5 : Bool) (a1 : Int) (c0 : ¬ a1 > 32767)(c1 : ¬ a1 > 16383)(cl : ¬ wrap64 a0_2 = 0) (w : World) :
    Calls Try.prog 16 #[.agg #[.int .i64 3, .bool a0_1, .int .u8 a0_2, .int .u8 a0_3, .int .u8 a0_4, .bool a0_5], .int .u16 a1] w fun e w' => e = .returned (.int .i64 (0)) ∧ Below w.heap.size w w' := by
  go_enter Try.func16, Try.ntmps16
  go_wp2
  go_returns
  exact ⟨rfl, by go_grown⟩
set_option maxRecDepth 100000 in
set_option maxHeartbeats 400000 in
theorem rbank16 (a0_0 : Int) (a0_1 : Bool) (a0_2 a0_3 a0_4 : Int) (a0_5 : Bool) (a1 : Int) (c0 : ¬ a1 > 32767)(c1 : a1 > 16383)(cl : ¬ wrap64 a0_2 = 0) (w : World) :
    Calls Try.prog 16 #[.agg #[.int .i64 5, .bool a0_1, .int .u8 a0_2, .int .u8 a0_3, .int .u8 a0_4, .bool a0_5], .int .u16 a1] w fun e w' => e = .returned (.int .i64 (wrap64 (wrap64 (256 * wrap64 a0_3) + wrap64 a0_2))) ∧ Below w.heap.size w w' := by
  go_enter Try.func16, Try.ntmps16
  go_wp2
  go_returns
  exact ⟨rfl, by go_grown⟩
set_option maxRecDepth 100000 in
set_option maxHeartbeats 400000 in
theorem rbank17 (a0_0 : Int) (a0_1 : Bool) (a0_2 a0_3 a0_4 : Int) (a0_5 : Bool) (a1 : Int) (c0 : ¬ a1 > 32767)(c1 : ¬ a1 > 16383)(cl : ¬ wrap64 a0_2 = 0) (w : World) :
    Calls Try.prog 16 #[.agg #[.int .i64 5, .bool a0_1, .int .u8 a0_2, .int .u8 a0_3, .int .u8 a0_4, .bool a0_5], .int .u16 a1] w fun e w' => e = .returned (.int .i64 (0)) ∧ Below w.heap.size w w' := by
  go_enter Try.func16, Try.ntmps16
  go_wp2
  go_returns
  exact ⟨rfl, by go_grown⟩
set_option maxRecDepth 100000 in
set_option maxHeartbeats 400000 in
theorem rbank18 (a0_0 : Int) (a0_1 : Bool) (a0_2 a0_3 a0_4 : Int) (a0_5 : Bool) (a1 : Int) (c0 : ¬ a1 > 32767)(c1 : a1 > 16383)(cl : ¬ wrap64 a0_2 = 0)(k1 : ¬ a0_0 = 1) (k3 : ¬ a0_0 = 3) (k5 : ¬ a0_0 = 5) (w : World) :
    Calls Try.prog 16 #[.agg #[.int .i64 a0_0, .bool a0_1, .int .u8 a0_2, .int .u8 a0_3, .int .u8 a0_4, .bool a0_5], .int .u16 a1] w fun e w' => e = .returned (.int .i64 (1)) ∧ Below w.heap.size w w' := by
  go_enter Try.func16, Try.ntmps16
  go_wp2
  go_returns
  exact ⟨rfl, by go_grown⟩
set_option maxRecDepth 100000 in
set_option maxHeartbeats 400000 in
theorem rbank19 (a0_0 : Int) (a0_1 : Bool) (a0_2 a0_3 a0_4 : Int) (a0_5 : Bool) (a1 : Int) (c0 : ¬ a1 > 32767)(c1 : ¬ a1 > 16383)(cl : ¬ wrap64 a0_2 = 0)(k1 : ¬ a0_0 = 1) (k3 : ¬ a0_0 = 3) (k5 : ¬ a0_0 = 5) (w : World) :
    Calls Try.prog 16 #[.agg #[.int .i64 a0_0, .bool a0_1, .int .u8 a0_2, .int .u8 a0_3, .int .u8 a0_4, .bool a0_5], .int .u16 a1] w fun e w' => e = .returned (.int .i64 (0)) ∧ Below w.heap.size w w' := by
  go_enter Try.func16, Try.ntmps16
  go_wp2
  go_returns
  exact ⟨rfl, by go_grown⟩
def rbankF (k l h : Int) (md : Bool) (a : Int) : Int :=
  if a > 32767 then 0 else
  if k = 1 then (if a > 16383 then wrap64 (wrap64 (32 * wrap64 h) + (if wrap64 l = 0 then 1 else wrap64 l)) else if md = true then wrap64 (32 * wrap64 h) else 0) else
  if k = 3 then (if a > 16383 then (if wrap64 l = 0 then 1 else wrap64 l) else 0) else
  if k = 5 then (if a > 16383 then wrap64 (wrap64 (256 * wrap64 h) + wrap64 l) else 0) else
  if a > 16383 then 1 else 0
def whirligigref08_Bank.f (a0_0 : Int) (a0_1 : Bool) (a0_2 a0_3 a0_4 : Int) (a0_5 : Bool) (a1 : Int) : Option Int := some (rbankF a0_0 a0_2 a0_3 a0_5 a1)
theorem whirligigref08_Bank.calls (a0_0 : Int) (a0_1 : Bool) (a0_2 a0_3 a0_4 : Int) (a0_5 : Bool) (a1 : Int) (r : Int) (w : World) (hf : whirligigref08_Bank.f a0_0 a0_1 a0_2 a0_3 a0_4 a0_5 a1 = some r) :
    Calls Try.prog 16 #[.agg #[.int .i64 a0_0, .bool a0_1, .int .u8 a0_2, .int .u8 a0_3, .int .u8 a0_4, .bool a0_5], .int .u16 a1] w fun e w' => e = .returned (.int .i64 r) ∧ Below w.heap.size w w' := by
  obtain rfl := Option.some.inj hf
  clear hf
  unfold rbankF
  by_cases c0 : a1 > 32767
  · rw [if_pos c0]; exact rbank1 _ _ _ _ _ _ _ c0 w
  rw [if_neg c0]
  by_cases k1 : a0_0 = 1
  · subst k1
    rw [if_pos rfl]
    by_cases c1 : a1 > 16383
    · rw [if_pos c1]
      by_cases cl : wrap64 a0_2 = 0
      · rw [if_pos cl]; exact rbank2 0 _ _ _ _ _ _ c0 c1 cl w
      · rw [if_neg cl]; exact rbank11 0 _ _ _ _ _ _ c0 c1 cl w
    · rw [if_neg c1]
      cases a0_5 with
      | true =>
        by_cases cl : wrap64 a0_2 = 0
        · exact rbank3 0 _ _ _ _ true _ c0 c1 cl w
        · exact rbank12 0 _ _ _ _ true _ c0 c1 cl w
      | false =>
        by_cases cl : wrap64 a0_2 = 0
        · exact rbank4 0 _ _ _ _ false _ c0 c1 cl w
        · exact rbank13 0 _ _ _ _ false _ c0 c1 cl w
  rw [if_neg k1]
  by_cases k3 : a0_0 = 3
  · subst k3
    rw [if_pos rfl]
    by_cases c1 : a1 > 16383
    · rw [if_pos c1]
      by_cases cl : wrap64 a0_2 = 0
      · rw [if_pos cl]; exact rbank5 0 _ _ _ _ _ _ c0 c1 cl w
      · rw [if_neg cl]; exact rbank14 0 _ _ _ _ _ _ c0 c1 cl w
    · rw [if_neg c1]
      by_cases cl : wrap64 a0_2 = 0
      · exact rbank6 0 _ _ _ _ _ _ c0 c1 cl w
      · exact rbank15 0 _ _ _ _ _ _ c0 c1 cl w
  rw [if_neg k3]
  by_cases k5 : a0_0 = 5
  · subst k5
    rw [if_pos rfl]
    by_cases c1 : a1 > 16383
    · rw [if_pos c1]
      by_cases cl : wrap64 a0_2 = 0
      · exact rbank7 0 _ _ _ _ _ _ c0 c1 cl w
      · exact rbank16 0 _ _ _ _ _ _ c0 c1 cl w
    · rw [if_neg c1]
      by_cases cl : wrap64 a0_2 = 0
      · exact rbank8 0 _ _ _ _ _ _ c0 c1 cl w
      · exact rbank17 0 _ _ _ _ _ _ c0 c1 cl w
  rw [if_neg k5]
  by_cases c1 : a1 > 16383
  · rw [if_pos c1]
    by_cases cl : wrap64 a0_2 = 0
    · exact rbank9 _ _ _ _ _ _ _ c0 c1 cl k1 k3 k5 w
    · exact rbank18 _ _ _ _ _ _ _ c0 c1 cl k1 k3 k5 w
  · rw [if_neg c1]
    by_cases cl : wrap64 a0_2 = 0
    · exact rbank10 _ _ _ _ _ _ _ c0 c1 cl k1 k3 k5 w
    · exact rbank19 _ _ _ _ _ _ _ c0 c1 cl k1 k3 k5 w
end Go.Proofs.Ytkogdocpldfmnaa.Hand
