/- The reference's Write of the mapper by hand. -/
import Derived.Test.YtkogdocpldfmnaaG0
import Derived.Deep.MidRow
import Derived.Handy
namespace Go.Proofs.Ytkogdocpldfmnaa.Hand
open Go.RowKit
open Go.Proofs.Ytkogdocpldfmnaa.G
open Go.Proofs.YtkogdocpldfmnaaW.PrintWords Go.Proofs.YtkogdocpldfmnaaW.PrintLast Go.Proofs.YtkogdocpldfmnaaW.PrintMore
set_option linter.unusedVariables false
set_option linter.unusedSimpArgs false
set_option maxRecDepth 100000 in
set_option maxHeartbeats 400000 in
theorem rwrite_1_r0 (a0_0 : Int) (a0_1 : Bool) (a0_2 a0_3 a0_4 : Int) (a0_5 : Bool) (a1 : Int) (a2 : Int) (b9 : 0 ≤ a1) (b0 : a1 < 8192)  (w : World) :
    Calls Try.prog 14 #[.agg #[.int .i64 1, .bool a0_1, .int .u8 a0_2, .int .u8 a0_3, .int .u8 a0_4, .bool a0_5], .int .u16 a1, .int .u8 a2] w fun e w' => e = .returned (.agg #[.int .i64 1, .bool (Int.tmod (wrap64 a2) 16 == 10), .int .u8 a0_2, .int .u8 a0_3, .int .u8 a0_4, .bool a0_5]) ∧ Below w.heap.size w w' := by
  go_enter Try.func14, Try.ntmps14
  go_wp2
  go_returns
  exact ⟨rfl, by go_grown⟩
set_option maxRecDepth 100000 in
set_option maxHeartbeats 400000 in
theorem rwrite_1_r1 (a0_0 : Int) (a0_1 : Bool) (a0_2 a0_3 a0_4 : Int) (a0_5 : Bool) (a1 : Int) (a2 : Int) (b0 : 8192 ≤ a1) (b1 : a1 < 12288)  (w : World) :
    Calls Try.prog 14 #[.agg #[.int .i64 1, .bool a0_1, .int .u8 a0_2, .int .u8 a0_3, .int .u8 a0_4, .bool a0_5], .int .u16 a1, .int .u8 a2] w fun e w' => e = .returned (.agg #[.int .i64 1, .bool a0_1, .int .u8 (Int.tmod (wrap64 a2) 32 % 256), .int .u8 a0_3, .int .u8 a0_4, .bool a0_5]) ∧ Below w.heap.size w w' := by
  go_enter Try.func14, Try.ntmps14
  go_wp2
  go_returns
  exact ⟨rfl, by go_grown⟩
set_option maxRecDepth 100000 in
set_option maxHeartbeats 400000 in
theorem rwrite_1_r2 (a0_0 : Int) (a0_1 : Bool) (a0_2 a0_3 a0_4 : Int) (a0_5 : Bool) (a1 : Int) (a2 : Int) (b0 : 12288 ≤ a1) (b1 : a1 < 16384)  (w : World) :
    Calls Try.prog 14 #[.agg #[.int .i64 1, .bool a0_1, .int .u8 a0_2, .int .u8 a0_3, .int .u8 a0_4, .bool a0_5], .int .u16 a1, .int .u8 a2] w fun e w' => e = .returned (.agg #[.int .i64 1, .bool a0_1, .int .u8 (Int.tmod (wrap64 a2) 32 % 256), .int .u8 a0_3, .int .u8 a0_4, .bool a0_5]) ∧ Below w.heap.size w w' := by
  go_enter Try.func14, Try.ntmps14
  go_wp2
  go_returns
  exact ⟨rfl, by go_grown⟩
set_option maxRecDepth 100000 in
set_option maxHeartbeats 400000 in
theorem rwrite_1_r3 (a0_0 : Int) (a0_1 : Bool) (a0_2 a0_3 a0_4 : Int) (a0_5 : Bool) (a1 : Int) (a2 : Int) (b0 : 16384 ≤ a1) (b1 : a1 < 24576)  (w : World) :
    Calls Try.prog 14 #[.agg #[.int .i64 1, .bool a0_1, .int .u8 a0_2, .int .u8 a0_3, .int .u8 a0_4, .bool a0_5], .int .u16 a1, .int .u8 a2] w fun e w' => e = .returned (.agg #[.int .i64 1, .bool a0_1, .int .u8 a0_2, .int .u8 (Int.tmod (wrap64 a2) 4 % 256), .int .u8 a0_4, .bool a0_5]) ∧ Below w.heap.size w w' := by
  go_enter Try.func14, Try.ntmps14
  go_wp2
  go_returns
  exact ⟨rfl, by go_grown⟩
set_option maxRecDepth 100000 in
set_option maxHeartbeats 400000 in
theorem rwrite_1_r4 (a0_0 : Int) (a0_1 : Bool) (a0_2 a0_3 a0_4 : Int) (a0_5 : Bool) (a1 : Int) (a2 : Int) (b0 : 24576 ≤ a1) (b1 : a1 < 32768)  (w : World) :
    Calls Try.prog 14 #[.agg #[.int .i64 1, .bool a0_1, .int .u8 a0_2, .int .u8 a0_3, .int .u8 a0_4, .bool a0_5], .int .u16 a1, .int .u8 a2] w fun e w' => e = .returned (.agg #[.int .i64 1, .bool a0_1, .int .u8 a0_2, .int .u8 a0_3, .int .u8 a0_4, .bool (Int.tmod (wrap64 a2) 2 == 1)]) ∧ Below w.heap.size w w' := by
  go_enter Try.func14, Try.ntmps14
  go_wp2
  go_returns
  exact ⟨rfl, by go_grown⟩
set_option maxRecDepth 100000 in
set_option maxHeartbeats 400000 in
theorem rwrite_1_r5 (a0_0 : Int) (a0_1 : Bool) (a0_2 a0_3 a0_4 : Int) (a0_5 : Bool) (a1 : Int) (a2 : Int) (b0 : 32768 ≤ a1) (b9 : a1 ≤ 65535)  (w : World) :
    Calls Try.prog 14 #[.agg #[.int .i64 1, .bool a0_1, .int .u8 a0_2, .int .u8 a0_3, .int .u8 a0_4, .bool a0_5], .int .u16 a1, .int .u8 a2] w fun e w' => e = .returned (.agg #[.int .i64 1, .bool a0_1, .int .u8 a0_2, .int .u8 a0_3, .int .u8 a0_4, .bool a0_5]) ∧ Below w.heap.size w w' := by
  go_enter Try.func14, Try.ntmps14
  go_wp2
  go_returns
  exact ⟨rfl, by go_grown⟩
set_option maxRecDepth 100000 in
set_option maxHeartbeats 400000 in
theorem rwrite_3_r0 (a0_0 : Int) (a0_1 : Bool) (a0_2 a0_3 a0_4 : Int) (a0_5 : Bool) (a1 : Int) (a2 : Int) (b9 : 0 ≤ a1) (b0 : a1 < 8192)  (w : World) :
    Calls Try.prog 14 #[.agg #[.int .i64 3, .bool a0_1, .int .u8 a0_2, .int .u8 a0_3, .int .u8 a0_4, .bool a0_5], .int .u16 a1, .int .u8 a2] w fun e w' => e = .returned (.agg #[.int .i64 3, .bool (Int.tmod (wrap64 a2) 16 == 10), .int .u8 a0_2, .int .u8 a0_3, .int .u8 a0_4, .bool a0_5]) ∧ Below w.heap.size w w' := by
  go_enter Try.func14, Try.ntmps14
  go_wp2
  go_returns
  exact ⟨rfl, by go_grown⟩
set_option maxRecDepth 100000 in
set_option maxHeartbeats 400000 in
theorem rwrite_3_r1 (a0_0 : Int) (a0_1 : Bool) (a0_2 a0_3 a0_4 : Int) (a0_5 : Bool) (a1 : Int) (a2 : Int) (b0 : 8192 ≤ a1) (b1 : a1 < 12288)  (w : World) :
    Calls Try.prog 14 #[.agg #[.int .i64 3, .bool a0_1, .int .u8 a0_2, .int .u8 a0_3, .int .u8 a0_4, .bool a0_5], .int .u16 a1, .int .u8 a2] w fun e w' => e = .returned (.agg #[.int .i64 3, .bool a0_1, .int .u8 (Int.tmod (wrap64 a2) 128 % 256), .int .u8 a0_3, .int .u8 a0_4, .bool a0_5]) ∧ Below w.heap.size w w' := by
  go_enter Try.func14, Try.ntmps14
  go_wp2
  go_returns
  exact ⟨rfl, by go_grown⟩
set_option maxRecDepth 100000 in
set_option maxHeartbeats 400000 in
theorem rwrite_3_r2 (a0_0 : Int) (a0_1 : Bool) (a0_2 a0_3 a0_4 : Int) (a0_5 : Bool) (a1 : Int) (a2 : Int) (b0 : 12288 ≤ a1) (b1 : a1 < 16384)  (w : World) :
    Calls Try.prog 14 #[.agg #[.int .i64 3, .bool a0_1, .int .u8 a0_2, .int .u8 a0_3, .int .u8 a0_4, .bool a0_5], .int .u16 a1, .int .u8 a2] w fun e w' => e = .returned (.agg #[.int .i64 3, .bool a0_1, .int .u8 (Int.tmod (wrap64 a2) 128 % 256), .int .u8 a0_3, .int .u8 a0_4, .bool a0_5]) ∧ Below w.heap.size w w' := by
  go_enter Try.func14, Try.ntmps14
  go_wp2
  go_returns
  exact ⟨rfl, by go_grown⟩
set_option maxRecDepth 100000 in
set_option maxHeartbeats 400000 in
theorem rwrite_3_r3 (a0_0 : Int) (a0_1 : Bool) (a0_2 a0_3 a0_4 : Int) (a0_5 : Bool) (a1 : Int) (a2 : Int) (b0 : 16384 ≤ a1) (b1 : a1 < 24576)  (w : World) :
    Calls Try.prog 14 #[.agg #[.int .i64 3, .bool a0_1, .int .u8 a0_2, .int .u8 a0_3, .int .u8 a0_4, .bool a0_5], .int .u16 a1, .int .u8 a2] w fun e w' => e = .returned (.agg #[.int .i64 3, .bool a0_1, .int .u8 a0_2, .int .u8 a0_3, .int .u8 (Int.tmod (wrap64 a2) 16 % 256), .bool a0_5]) ∧ Below w.heap.size w w' := by
  go_enter Try.func14, Try.ntmps14
  go_wp2
  go_returns
  exact ⟨rfl, by go_grown⟩
set_option maxRecDepth 100000 in
set_option maxHeartbeats 400000 in
theorem rwrite_3_r4 (a0_0 : Int) (a0_1 : Bool) (a0_2 a0_3 a0_4 : Int) (a0_5 : Bool) (a1 : Int) (a2 : Int) (b0 : 24576 ≤ a1) (b1 : a1 < 32768)  (w : World) :
    Calls Try.prog 14 #[.agg #[.int .i64 3, .bool a0_1, .int .u8 a0_2, .int .u8 a0_3, .int .u8 a0_4, .bool a0_5], .int .u16 a1, .int .u8 a2] w fun e w' => e = .returned (.agg #[.int .i64 3, .bool a0_1, .int .u8 a0_2, .int .u8 a0_3, .int .u8 a0_4, .bool a0_5]) ∧ Below w.heap.size w w' := by
  go_enter Try.func14, Try.ntmps14
  go_wp2
  go_returns
  exact ⟨rfl, by go_grown⟩
set_option maxRecDepth 100000 in
set_option maxHeartbeats 400000 in
theorem rwrite_3_r5 (a0_0 : Int) (a0_1 : Bool) (a0_2 a0_3 a0_4 : Int) (a0_5 : Bool) (a1 : Int) (a2 : Int) (b0 : 32768 ≤ a1) (b9 : a1 ≤ 65535)  (w : World) :
    Calls Try.prog 14 #[.agg #[.int .i64 3, .bool a0_1, .int .u8 a0_2, .int .u8 a0_3, .int .u8 a0_4, .bool a0_5], .int .u16 a1, .int .u8 a2] w fun e w' => e = .returned (.agg #[.int .i64 3, .bool a0_1, .int .u8 a0_2, .int .u8 a0_3, .int .u8 a0_4, .bool a0_5]) ∧ Below w.heap.size w w' := by
  go_enter Try.func14, Try.ntmps14
  go_wp2
  go_returns
  exact ⟨rfl, by go_grown⟩
set_option maxRecDepth 100000 in
set_option maxHeartbeats 400000 in
theorem rwrite_5_r0 (a0_0 : Int) (a0_1 : Bool) (a0_2 a0_3 a0_4 : Int) (a0_5 : Bool) (a1 : Int) (a2 : Int) (b9 : 0 ≤ a1) (b0 : a1 < 8192)  (w : World) :
    Calls Try.prog 14 #[.agg #[.int .i64 5, .bool a0_1, .int .u8 a0_2, .int .u8 a0_3, .int .u8 a0_4, .bool a0_5], .int .u16 a1, .int .u8 a2] w fun e w' => e = .returned (.agg #[.int .i64 5, .bool (wrap64 a2 == 10), .int .u8 a0_2, .int .u8 a0_3, .int .u8 a0_4, .bool a0_5]) ∧ Below w.heap.size w w' := by
  go_enter Try.func14, Try.ntmps14
  go_wp2
  go_returns
  exact ⟨rfl, by go_grown⟩
set_option maxRecDepth 100000 in
set_option maxHeartbeats 400000 in
theorem rwrite_5_r1 (a0_0 : Int) (a0_1 : Bool) (a0_2 a0_3 a0_4 : Int) (a0_5 : Bool) (a1 : Int) (a2 : Int) (b0 : 8192 ≤ a1) (b1 : a1 < 12288)  (w : World) :
    Calls Try.prog 14 #[.agg #[.int .i64 5, .bool a0_1, .int .u8 a0_2, .int .u8 a0_3, .int .u8 a0_4, .bool a0_5], .int .u16 a1, .int .u8 a2] w fun e w' => e = .returned (.agg #[.int .i64 5, .bool a0_1, .int .u8 a2, .int .u8 a0_3, .int .u8 a0_4, .bool a0_5]) ∧ Below w.heap.size w w' := by
  go_enter Try.func14, Try.ntmps14
  go_wp2
  go_returns
  exact ⟨rfl, by go_grown⟩
set_option maxRecDepth 100000 in
set_option maxHeartbeats 400000 in
theorem rwrite_5_r2 (a0_0 : Int) (a0_1 : Bool) (a0_2 a0_3 a0_4 : Int) (a0_5 : Bool) (a1 : Int) (a2 : Int) (b0 : 12288 ≤ a1) (b1 : a1 < 16384)  (w : World) :
    Calls Try.prog 14 #[.agg #[.int .i64 5, .bool a0_1, .int .u8 a0_2, .int .u8 a0_3, .int .u8 a0_4, .bool a0_5], .int .u16 a1, .int .u8 a2] w fun e w' => e = .returned (.agg #[.int .i64 5, .bool a0_1, .int .u8 a0_2, .int .u8 (Int.tmod (wrap64 a2) 2 % 256), .int .u8 a0_4, .bool a0_5]) ∧ Below w.heap.size w w' := by
  go_enter Try.func14, Try.ntmps14
  go_wp2
  go_returns
  exact ⟨rfl, by go_grown⟩
set_option maxRecDepth 100000 in
set_option maxHeartbeats 400000 in
theorem rwrite_5_r3 (a0_0 : Int) (a0_1 : Bool) (a0_2 a0_3 a0_4 : Int) (a0_5 : Bool) (a1 : Int) (a2 : Int) (b0 : 16384 ≤ a1) (b1 : a1 < 24576)  (w : World) :
    Calls Try.prog 14 #[.agg #[.int .i64 5, .bool a0_1, .int .u8 a0_2, .int .u8 a0_3, .int .u8 a0_4, .bool a0_5], .int .u16 a1, .int .u8 a2] w fun e w' => e = .returned (.agg #[.int .i64 5, .bool a0_1, .int .u8 a0_2, .int .u8 a0_3, .int .u8 (Int.tmod (wrap64 a2) 16 % 256), .bool a0_5]) ∧ Below w.heap.size w w' := by
  go_enter Try.func14, Try.ntmps14
  go_wp2
  go_returns
  exact ⟨rfl, by go_grown⟩
set_option maxRecDepth 100000 in
set_option maxHeartbeats 400000 in
theorem rwrite_5_r4 (a0_0 : Int) (a0_1 : Bool) (a0_2 a0_3 a0_4 : Int) (a0_5 : Bool) (a1 : Int) (a2 : Int) (b0 : 24576 ≤ a1) (b1 : a1 < 32768)  (w : World) :
    Calls Try.prog 14 #[.agg #[.int .i64 5, .bool a0_1, .int .u8 a0_2, .int .u8 a0_3, .int .u8 a0_4, .bool a0_5], .int .u16 a1, .int .u8 a2] w fun e w' => e = .returned (.agg #[.int .i64 5, .bool a0_1, .int .u8 a0_2, .int .u8 a0_3, .int .u8 a0_4, .bool a0_5]) ∧ Below w.heap.size w w' := by
  go_enter Try.func14, Try.ntmps14
  go_wp2
  go_returns
  exact ⟨rfl, by go_grown⟩
set_option maxRecDepth 100000 in
set_option maxHeartbeats 400000 in
theorem rwrite_5_r5 (a0_0 : Int) (a0_1 : Bool) (a0_2 a0_3 a0_4 : Int) (a0_5 : Bool) (a1 : Int) (a2 : Int) (b0 : 32768 ≤ a1) (b9 : a1 ≤ 65535)  (w : World) :
    Calls Try.prog 14 #[.agg #[.int .i64 5, .bool a0_1, .int .u8 a0_2, .int .u8 a0_3, .int .u8 a0_4, .bool a0_5], .int .u16 a1, .int .u8 a2] w fun e w' => e = .returned (.agg #[.int .i64 5, .bool a0_1, .int .u8 a0_2, .int .u8 a0_3, .int .u8 a0_4, .bool a0_5]) ∧ Below w.heap.size w w' := by
  go_enter Try.func14, Try.ntmps14
  go_wp2
  go_returns
  exact ⟨rfl, by go_grown⟩
set_option maxRecDepth 100000 in
set_option maxHeartbeats 400000 in
theorem rwrite_a0_0_r0 (a0_0 : Int) (a0_1 : Bool) (a0_2 a0_3 a0_4 : Int) (a0_5 : Bool) (a1 : Int) (a2 : Int) (b9 : 0 ≤ a1) (b0 : a1 < 8192) (k1 : ¬ a0_0 = 1) (k3 : ¬ a0_0 = 3) (k5 : ¬ a0_0 = 5) (w : World) :
    Calls Try.prog 14 #[.agg #[.int .i64 a0_0, .bool a0_1, .int .u8 a0_2, .int .u8 a0_3, .int .u8 a0_4, .bool a0_5], .int .u16 a1, .int .u8 a2] w fun e w' => e = .returned (.agg #[.int .i64 a0_0, .bool a0_1, .int .u8 a0_2, .int .u8 a0_3, .int .u8 a0_4, .bool a0_5]) ∧ Below w.heap.size w w' := by
  go_enter Try.func14, Try.ntmps14
  go_wp2
  go_returns
  exact ⟨rfl, by go_grown⟩
set_option maxRecDepth 100000 in
set_option maxHeartbeats 400000 in
theorem rwrite_a0_0_r1 (a0_0 : Int) (a0_1 : Bool) (a0_2 a0_3 a0_4 : Int) (a0_5 : Bool) (a1 : Int) (a2 : Int) (b0 : 8192 ≤ a1) (b1 : a1 < 12288) (k1 : ¬ a0_0 = 1) (k3 : ¬ a0_0 = 3) (k5 : ¬ a0_0 = 5) (w : World) :
    Calls Try.prog 14 #[.agg #[.int .i64 a0_0, .bool a0_1, .int .u8 a0_2, .int .u8 a0_3, .int .u8 a0_4, .bool a0_5], .int .u16 a1, .int .u8 a2] w fun e w' => e = .returned (.agg #[.int .i64 a0_0, .bool a0_1, .int .u8 a0_2, .int .u8 a0_3, .int .u8 a0_4, .bool a0_5]) ∧ Below w.heap.size w w' := by
  go_enter Try.func14, Try.ntmps14
  go_wp2
  go_returns
  exact ⟨rfl, by go_grown⟩
set_option maxRecDepth 100000 in
set_option maxHeartbeats 400000 in
theorem rwrite_a0_0_r2 (a0_0 : Int) (a0_1 : Bool) (a0_2 a0_3 a0_4 : Int) (a0_5 : Bool) (a1 : Int) (a2 : Int) (b0 : 12288 ≤ a1) (b1 : a1 < 16384) (k1 : ¬ a0_0 = 1) (k3 : ¬ a0_0 = 3) (k5 : ¬ a0_0 = 5) (w : World) :
    Calls Try.prog 14 #[.agg #[.int .i64 a0_0, .bool a0_1, .int .u8 a0_2, .int .u8 a0_3, .int .u8 a0_4, .bool a0_5], .int .u16 a1, .int .u8 a2] w fun e w' => e = .returned (.agg #[.int .i64 a0_0, .bool a0_1, .int .u8 a0_2, .int .u8 a0_3, .int .u8 a0_4, .bool a0_5]) ∧ Below w.heap.size w w' := by
  go_enter Try.func14, Try.ntmps14
  go_wp2
  go_returns
  exact ⟨rfl, by go_grown⟩
set_option maxRecDepth 100000 in
set_option maxHeartbeats 400000 in
theorem rwrite_a0_0_r3 (a0_0 : Int) (a0_1 : Bool) (a0_2 a0_3 a0_4 : Int) (a0_5 : Bool) (a1 : Int) (a2 : Int) (b0 : 16384 ≤ a1) (b1 : a1 < 24576) (k1 : ¬ a0_0 = 1) (k3 : ¬ a0_0 = 3) (k5 : ¬ a0_0 = 5) (w : World) :
    Calls Try.prog 14 #[.agg #[.int .i64 a0_0, .bool a0_1, .int .u8 a0_2, .int .u8 a0_3, .int .u8 a0_4, .bool a0_5], .int .u16 a1, .int .u8 a2] w fun e w' => e = .returned (.agg #[.int .i64 a0_0, .bool a0_1, .int .u8 a0_2, .int .u8 a0_3, .int .u8 a0_4, .bool a0_5]) ∧ Below w.heap.size w w' := by
  go_enter Try.func14, Try.ntmps14
  go_wp2
  go_returns
  exact ⟨rfl, by go_grown⟩
set_option maxRecDepth 100000 in
set_option maxHeartbeats 400000 in
theorem rwrite_a0_0_r4 (a0_0 : Int) (a0_1 : Bool) (a0_2 a0_3 a0_4 : Int) (a0_5 : Bool) (a1 : Int) (a2 : Int) (b0 : 24576 ≤ a1) (b1 : a1 < 32768) (k1 : ¬ a0_0 = 1) (k3 : ¬ a0_0 = 3) (k5 : ¬ a0_0 = 5) (w : World) :
    Calls Try.prog 14 #[.agg #[.int .i64 a0_0, .bool a0_1, .int .u8 a0_2, .int .u8 a0_3, .int .u8 a0_4, .bool a0_5], .int .u16 a1, .int .u8 a2] w fun e w' => e = .returned (.agg #[.int .i64 a0_0, .bool a0_1, .int .u8 a0_2, .int .u8 a0_3, .int .u8 a0_4, .bool a0_5]) ∧ Below w.heap.size w w' := by
  go_enter Try.func14, Try.ntmps14
  go_wp2
  go_returns
  exact ⟨rfl, by go_grown⟩
set_option maxRecDepth 100000 in
set_option maxHeartbeats 400000 in
theorem rwrite_a0_0_r5 (a0_0 : Int) (a0_1 : Bool) (a0_2 a0_3 a0_4 : Int) (a0_5 : Bool) (a1 : Int) (a2 : Int) (b0 : 32768 ≤ a1) (b9 : a1 ≤ 65535) (k1 : ¬ a0_0 = 1) (k3 : ¬ a0_0 = 3) (k5 : ¬ a0_0 = 5) (w : World) :
    Calls Try.prog 14 #[.agg #[.int .i64 a0_0, .bool a0_1, .int .u8 a0_2, .int .u8 a0_3, .int .u8 a0_4, .bool a0_5], .int .u16 a1, .int .u8 a2] w fun e w' => e = .returned (.agg #[.int .i64 a0_0, .bool a0_1, .int .u8 a0_2, .int .u8 a0_3, .int .u8 a0_4, .bool a0_5]) ∧ Below w.heap.size w w' := by
  go_enter Try.func14, Try.ntmps14
  go_wp2
  go_returns
  exact ⟨rfl, by go_grown⟩
def rwriteF (a0_0 : Int) (a0_1 : Bool) (a0_2 a0_3 a0_4 : Int) (a0_5 : Bool) (a1 a2 : Int) : Int × Bool × Int × Int × Int × Bool :=
  if a0_0 = 1 then (if a1 < 8192 then (a0_0, (Int.tmod (wrap64 a2) 16 == 10), a0_2, a0_3, a0_4, a0_5) else if a1 < 12288 then (a0_0, a0_1, (Int.tmod (wrap64 a2) 32 % 256), a0_3, a0_4, a0_5) else if a1 < 16384 then (a0_0, a0_1, (Int.tmod (wrap64 a2) 32 % 256), a0_3, a0_4, a0_5) else if a1 < 24576 then (a0_0, a0_1, a0_2, (Int.tmod (wrap64 a2) 4 % 256), a0_4, a0_5) else if a1 < 32768 then (a0_0, a0_1, a0_2, a0_3, a0_4, (Int.tmod (wrap64 a2) 2 == 1)) else (a0_0, a0_1, a0_2, a0_3, a0_4, a0_5)) else
  if a0_0 = 3 then (if a1 < 8192 then (a0_0, (Int.tmod (wrap64 a2) 16 == 10), a0_2, a0_3, a0_4, a0_5) else if a1 < 12288 then (a0_0, a0_1, (Int.tmod (wrap64 a2) 128 % 256), a0_3, a0_4, a0_5) else if a1 < 16384 then (a0_0, a0_1, (Int.tmod (wrap64 a2) 128 % 256), a0_3, a0_4, a0_5) else if a1 < 24576 then (a0_0, a0_1, a0_2, a0_3, (Int.tmod (wrap64 a2) 16 % 256), a0_5) else if a1 < 32768 then (a0_0, a0_1, a0_2, a0_3, a0_4, a0_5) else (a0_0, a0_1, a0_2, a0_3, a0_4, a0_5)) else
  if a0_0 = 5 then (if a1 < 8192 then (a0_0, (wrap64 a2 == 10), a0_2, a0_3, a0_4, a0_5) else if a1 < 12288 then (a0_0, a0_1, a2, a0_3, a0_4, a0_5) else if a1 < 16384 then (a0_0, a0_1, a0_2, (Int.tmod (wrap64 a2) 2 % 256), a0_4, a0_5) else if a1 < 24576 then (a0_0, a0_1, a0_2, a0_3, (Int.tmod (wrap64 a2) 16 % 256), a0_5) else if a1 < 32768 then (a0_0, a0_1, a0_2, a0_3, a0_4, a0_5) else (a0_0, a0_1, a0_2, a0_3, a0_4, a0_5)) else
  (a0_0, a0_1, a0_2, a0_3, a0_4, a0_5)
def whirligigref08_Write.f (a0_0 : Int) (a0_1 : Bool) (a0_2 a0_3 a0_4 : Int) (a0_5 : Bool) (a1 a2 : Int) : Option (Int × Bool × Int × Int × Int × Bool) := if 0 ≤ a1 ∧ a1 ≤ 65535 then some (rwriteF a0_0 a0_1 a0_2 a0_3 a0_4 a0_5 a1 a2) else none
theorem whirligigref08_Write.calls (a0_0 : Int) (a0_1 : Bool) (a0_2 a0_3 a0_4 : Int) (a0_5 : Bool) (a1 a2 : Int) (r1 : Int) (r2 : Bool) (r3 r4 r5 : Int) (r6 : Bool) (w : World) (hf : whirligigref08_Write.f a0_0 a0_1 a0_2 a0_3 a0_4 a0_5 a1 a2 = some (r1, r2, r3, r4, r5, r6)) :
    Calls Try.prog 14 #[.agg #[.int .i64 a0_0, .bool a0_1, .int .u8 a0_2, .int .u8 a0_3, .int .u8 a0_4, .bool a0_5], .int .u16 a1, .int .u8 a2] w fun e w' => e = .returned (.agg #[.int .i64 r1, .bool r2, .int .u8 r3, .int .u8 r4, .int .u8 r5, .bool r6]) ∧ Below w.heap.size w w' := by
  unfold whirligigref08_Write.f at hf
  by_cases hb : 0 ≤ a1 ∧ a1 ≤ 65535
  case neg => rw [if_neg hb] at hf; exact absurd hf (by simp)
  rw [if_pos hb] at hf
  obtain ⟨hb1, hb2⟩ := hb
  replace hf := Option.some.inj hf
  unfold rwriteF at hf
  by_cases k1 : a0_0 = 1
  · subst k1
    rw [if_pos rfl] at hf
    by_cases d0 : a1 < 8192
    · rw [if_pos d0] at hf; cases hf; exact rwrite_1_r0 0 _ _ _ _ _ _ _ (by omega) d0 w
    rw [if_neg d0] at hf
    by_cases d1 : a1 < 12288
    · rw [if_pos d1] at hf; cases hf; exact rwrite_1_r1 0 _ _ _ _ _ _ _ (by omega) d1 w
    rw [if_neg d1] at hf
    by_cases d2 : a1 < 16384
    · rw [if_pos d2] at hf; cases hf; exact rwrite_1_r2 0 _ _ _ _ _ _ _ (by omega) d2 w
    rw [if_neg d2] at hf
    by_cases d3 : a1 < 24576
    · rw [if_pos d3] at hf; cases hf; exact rwrite_1_r3 0 _ _ _ _ _ _ _ (by omega) d3 w
    rw [if_neg d3] at hf
    by_cases d4 : a1 < 32768
    · rw [if_pos d4] at hf; cases hf; exact rwrite_1_r4 0 _ _ _ _ _ _ _ (by omega) d4 w
    rw [if_neg d4] at hf
    cases hf
    exact rwrite_1_r5 0 _ _ _ _ _ _ _ (by omega) (by omega) w
  rw [if_neg k1] at hf
  by_cases k3 : a0_0 = 3
  · subst k3
    rw [if_pos rfl] at hf
    by_cases d0 : a1 < 8192
    · rw [if_pos d0] at hf; cases hf; exact rwrite_3_r0 0 _ _ _ _ _ _ _ (by omega) d0 w
    rw [if_neg d0] at hf
    by_cases d1 : a1 < 12288
    · rw [if_pos d1] at hf; cases hf; exact rwrite_3_r1 0 _ _ _ _ _ _ _ (by omega) d1 w
    rw [if_neg d1] at hf
    by_cases d2 : a1 < 16384
    · rw [if_pos d2] at hf; cases hf; exact rwrite_3_r2 0 _ _ _ _ _ _ _ (by omega) d2 w
    rw [if_neg d2] at hf
    by_cases d3 : a1 < 24576
    · rw [if_pos d3] at hf; cases hf; exact rwrite_3_r3 0 _ _ _ _ _ _ _ (by omega) d3 w
    rw [if_neg d3] at hf
    by_cases d4 : a1 < 32768
    · rw [if_pos d4] at hf; cases hf; exact rwrite_3_r4 0 _ _ _ _ _ _ _ (by omega) d4 w
    rw [if_neg d4] at hf
    cases hf
    exact rwrite_3_r5 0 _ _ _ _ _ _ _ (by omega) (by omega) w
  rw [if_neg k3] at hf
  by_cases k5 : a0_0 = 5
  · subst k5
    rw [if_pos rfl] at hf
    by_cases d0 : a1 < 8192
    · rw [if_pos d0] at hf; cases hf; exact rwrite_5_r0 0 _ _ _ _ _ _ _ (by omega) d0 w
    rw [if_neg d0] at hf
    by_cases d1 : a1 < 12288
    · rw [if_pos d1] at hf; cases hf; exact rwrite_5_r1 0 _ _ _ _ _ _ _ (by omega) d1 w
    rw [if_neg d1] at hf
    by_cases d2 : a1 < 16384
    · rw [if_pos d2] at hf; cases hf; exact rwrite_5_r2 0 _ _ _ _ _ _ _ (by omega) d2 w
    rw [if_neg d2] at hf
    by_cases d3 : a1 < 24576
    · rw [if_pos d3] at hf; cases hf; exact rwrite_5_r3 0 _ _ _ _ _ _ _ (by omega) d3 w
    rw [if_neg d3] at hf
    by_cases d4 : a1 < 32768
    · rw [if_pos d4] at hf; cases hf; exact rwrite_5_r4 0 _ _ _ _ _ _ _ (by omega) d4 w
    rw [if_neg d4] at hf
    cases hf
    exact rwrite_5_r5 0 _ _ _ _ _ _ _ (by omega) (by omega) w
  rw [if_neg k5] at hf
  cases hf
  by_cases d0 : a1 < 8192
  · exact rwrite_a0_0_r0 _ _ _ _ _ _ _ _ (by omega) d0 k1 k3 k5 w
  by_cases d1 : a1 < 12288
  · exact rwrite_a0_0_r1 _ _ _ _ _ _ _ _ (by omega) d1 k1 k3 k5 w
  by_cases d2 : a1 < 16384
  · exact rwrite_a0_0_r2 _ _ _ _ _ _ _ _ (by omega) d2 k1 k3 k5 w
  by_cases d3 : a1 < 24576
  · exact rwrite_a0_0_r3 _ _ _ _ _ _ _ _ (by omega) d3 k1 k3 k5 w
  by_cases d4 : a1 < 32768
  · exact rwrite_a0_0_r4 _ _ _ _ _ _ _ _ (by omega) d4 k1 k3 k5 w
  exact rwrite_a0_0_r5 _ _ _ _ _ _ _ _ (by omega) (by omega) k1 k3 k5 w
end Go.Proofs.Ytkogdocpldfmnaa.Hand
