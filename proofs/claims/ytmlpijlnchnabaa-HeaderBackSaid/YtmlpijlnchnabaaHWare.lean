/- header.ware by hand: what a kind of cartridge holds. -/
import Derived.Test.YtmlpijlnchnabaaG0
import Derived.Handy
namespace Go.Proofs.Ytmlpijlnchnabaa.Hand
open Go.RowKit
open Go.Proofs.Ytmlpijlnchnabaa.G
open Go.Proofs.YtmlpijlnchnabaaW.PrintWords Go.Proofs.YtmlpijlnchnabaaW.PrintLast Go.Proofs.YtmlpijlnchnabaaW.PrintMore
set_option linter.unusedVariables false
set_option linter.unusedSimpArgs false
/-- A kind: its mapper; has it a RAM, a battery, a clock; is there such a kind? -/
def wareT (k : Int) : Int × Bool × Bool × Bool × Bool :=
  if k = 0 then (0, false, false, false, true) else
  if k = 1 then (1, false, false, false, true) else
  if k = 2 then (1, true, false, false, true) else
  if k = 3 then (1, true, true, false, true) else
  if k = 8 then (0, true, false, false, true) else
  if k = 9 then (0, true, true, false, true) else
  if k = 15 then (3, false, true, true, true) else
  if k = 16 then (3, true, true, true, true) else
  if k = 17 then (3, false, false, false, true) else
  if k = 18 then (3, true, false, false, true) else
  if k = 19 then (3, true, true, false, true) else
  if k = 25 then (5, false, false, false, true) else
  if k = 26 then (5, true, false, false, true) else
  if k = 27 then (5, true, true, false, true) else
  if k = 28 then (5, false, false, false, true) else
  if k = 29 then (5, true, false, false, true) else
  if k = 30 then (5, true, true, false, true) else
  (0, false, false, false, false)
set_option maxRecDepth 100000 in
set_option maxHeartbeats 2000000 in
theorem ware_0 (w : World) : Calls Try.prog 21 #[.int .u8 0] w fun e' w' => e' = .returned (.tuple #[.agg #[.string ⟨#[]⟩, .int .u8 0, .int .i64 0, .bool false, .bool false, .bool false, .int .i64 0, .int .i64 0, .int .u8 0, .int .u16 0], .bool true]) ∧ Below w.heap.size w w' := by
  go_enter Try.func21, Try.ntmps21
  go_wp2
  refine bodyPost_ret (v := .tuple #[.agg #[.string ⟨#[]⟩, .int .u8 0, .int .i64 0, .bool false, .bool false, .bool false, .int .i64 0, .int .i64 0, .int .u8 0, .int .u16 0], .bool true]) (by simp [results, Try.results21, go_sem]) rfl ⟨rfl, by go_grown⟩
set_option maxRecDepth 100000 in
set_option maxHeartbeats 2000000 in
theorem ware_1 (w : World) : Calls Try.prog 21 #[.int .u8 1] w fun e' w' => e' = .returned (.tuple #[.agg #[.string ⟨#[]⟩, .int .u8 1, .int .i64 1, .bool false, .bool false, .bool false, .int .i64 0, .int .i64 0, .int .u8 0, .int .u16 0], .bool true]) ∧ Below w.heap.size w w' := by
  go_enter Try.func21, Try.ntmps21
  go_wp2
  refine bodyPost_ret (v := .tuple #[.agg #[.string ⟨#[]⟩, .int .u8 1, .int .i64 1, .bool false, .bool false, .bool false, .int .i64 0, .int .i64 0, .int .u8 0, .int .u16 0], .bool true]) (by simp [results, Try.results21, go_sem]) rfl ⟨rfl, by go_grown⟩
set_option maxRecDepth 100000 in
set_option maxHeartbeats 2000000 in
theorem ware_2 (w : World) : Calls Try.prog 21 #[.int .u8 2] w fun e' w' => e' = .returned (.tuple #[.agg #[.string ⟨#[]⟩, .int .u8 2, .int .i64 1, .bool true, .bool false, .bool false, .int .i64 0, .int .i64 0, .int .u8 0, .int .u16 0], .bool true]) ∧ Below w.heap.size w w' := by
  go_enter Try.func21, Try.ntmps21
  go_wp2
  refine bodyPost_ret (v := .tuple #[.agg #[.string ⟨#[]⟩, .int .u8 2, .int .i64 1, .bool true, .bool false, .bool false, .int .i64 0, .int .i64 0, .int .u8 0, .int .u16 0], .bool true]) (by simp [results, Try.results21, go_sem]) rfl ⟨rfl, by go_grown⟩
set_option maxRecDepth 100000 in
set_option maxHeartbeats 2000000 in
theorem ware_3 (w : World) : Calls Try.prog 21 #[.int .u8 3] w fun e' w' => e' = .returned (.tuple #[.agg #[.string ⟨#[]⟩, .int .u8 3, .int .i64 1, .bool true, .bool true, .bool false, .int .i64 0, .int .i64 0, .int .u8 0, .int .u16 0], .bool true]) ∧ Below w.heap.size w w' := by
  go_enter Try.func21, Try.ntmps21
  go_wp2
  refine bodyPost_ret (v := .tuple #[.agg #[.string ⟨#[]⟩, .int .u8 3, .int .i64 1, .bool true, .bool true, .bool false, .int .i64 0, .int .i64 0, .int .u8 0, .int .u16 0], .bool true]) (by simp [results, Try.results21, go_sem]) rfl ⟨rfl, by go_grown⟩
set_option maxRecDepth 100000 in
set_option maxHeartbeats 2000000 in
theorem ware_8 (w : World) : Calls Try.prog 21 #[.int .u8 8] w fun e' w' => e' = .returned (.tuple #[.agg #[.string ⟨#[]⟩, .int .u8 8, .int .i64 0, .bool true, .bool false, .bool false, .int .i64 0, .int .i64 0, .int .u8 0, .int .u16 0], .bool true]) ∧ Below w.heap.size w w' := by
  go_enter Try.func21, Try.ntmps21
  go_wp2
  refine bodyPost_ret (v := .tuple #[.agg #[.string ⟨#[]⟩, .int .u8 8, .int .i64 0, .bool true, .bool false, .bool false, .int .i64 0, .int .i64 0, .int .u8 0, .int .u16 0], .bool true]) (by simp [results, Try.results21, go_sem]) rfl ⟨rfl, by go_grown⟩
set_option maxRecDepth 100000 in
set_option maxHeartbeats 2000000 in
theorem ware_9 (w : World) : Calls Try.prog 21 #[.int .u8 9] w fun e' w' => e' = .returned (.tuple #[.agg #[.string ⟨#[]⟩, .int .u8 9, .int .i64 0, .bool true, .bool true, .bool false, .int .i64 0, .int .i64 0, .int .u8 0, .int .u16 0], .bool true]) ∧ Below w.heap.size w w' := by
  go_enter Try.func21, Try.ntmps21
  go_wp2
  refine bodyPost_ret (v := .tuple #[.agg #[.string ⟨#[]⟩, .int .u8 9, .int .i64 0, .bool true, .bool true, .bool false, .int .i64 0, .int .i64 0, .int .u8 0, .int .u16 0], .bool true]) (by simp [results, Try.results21, go_sem]) rfl ⟨rfl, by go_grown⟩
set_option maxRecDepth 100000 in
set_option maxHeartbeats 2000000 in
theorem ware_15 (w : World) : Calls Try.prog 21 #[.int .u8 15] w fun e' w' => e' = .returned (.tuple #[.agg #[.string ⟨#[]⟩, .int .u8 15, .int .i64 3, .bool false, .bool true, .bool true, .int .i64 0, .int .i64 0, .int .u8 0, .int .u16 0], .bool true]) ∧ Below w.heap.size w w' := by
  go_enter Try.func21, Try.ntmps21
  go_wp2
  refine bodyPost_ret (v := .tuple #[.agg #[.string ⟨#[]⟩, .int .u8 15, .int .i64 3, .bool false, .bool true, .bool true, .int .i64 0, .int .i64 0, .int .u8 0, .int .u16 0], .bool true]) (by simp [results, Try.results21, go_sem]) rfl ⟨rfl, by go_grown⟩
set_option maxRecDepth 100000 in
set_option maxHeartbeats 2000000 in
theorem ware_16 (w : World) : Calls Try.prog 21 #[.int .u8 16] w fun e' w' => e' = .returned (.tuple #[.agg #[.string ⟨#[]⟩, .int .u8 16, .int .i64 3, .bool true, .bool true, .bool true, .int .i64 0, .int .i64 0, .int .u8 0, .int .u16 0], .bool true]) ∧ Below w.heap.size w w' := by
  go_enter Try.func21, Try.ntmps21
  go_wp2
  refine bodyPost_ret (v := .tuple #[.agg #[.string ⟨#[]⟩, .int .u8 16, .int .i64 3, .bool true, .bool true, .bool true, .int .i64 0, .int .i64 0, .int .u8 0, .int .u16 0], .bool true]) (by simp [results, Try.results21, go_sem]) rfl ⟨rfl, by go_grown⟩
set_option maxRecDepth 100000 in
set_option maxHeartbeats 2000000 in
theorem ware_17 (w : World) : Calls Try.prog 21 #[.int .u8 17] w fun e' w' => e' = .returned (.tuple #[.agg #[.string ⟨#[]⟩, .int .u8 17, .int .i64 3, .bool false, .bool false, .bool false, .int .i64 0, .int .i64 0, .int .u8 0, .int .u16 0], .bool true]) ∧ Below w.heap.size w w' := by
  go_enter Try.func21, Try.ntmps21
  go_wp2
  refine bodyPost_ret (v := .tuple #[.agg #[.string ⟨#[]⟩, .int .u8 17, .int .i64 3, .bool false, .bool false, .bool false, .int .i64 0, .int .i64 0, .int .u8 0, .int .u16 0], .bool true]) (by simp [results, Try.results21, go_sem]) rfl ⟨rfl, by go_grown⟩
set_option maxRecDepth 100000 in
set_option maxHeartbeats 2000000 in
theorem ware_18 (w : World) : Calls Try.prog 21 #[.int .u8 18] w fun e' w' => e' = .returned (.tuple #[.agg #[.string ⟨#[]⟩, .int .u8 18, .int .i64 3, .bool true, .bool false, .bool false, .int .i64 0, .int .i64 0, .int .u8 0, .int .u16 0], .bool true]) ∧ Below w.heap.size w w' := by
  go_enter Try.func21, Try.ntmps21
  go_wp2
  refine bodyPost_ret (v := .tuple #[.agg #[.string ⟨#[]⟩, .int .u8 18, .int .i64 3, .bool true, .bool false, .bool false, .int .i64 0, .int .i64 0, .int .u8 0, .int .u16 0], .bool true]) (by simp [results, Try.results21, go_sem]) rfl ⟨rfl, by go_grown⟩
set_option maxRecDepth 100000 in
set_option maxHeartbeats 2000000 in
theorem ware_19 (w : World) : Calls Try.prog 21 #[.int .u8 19] w fun e' w' => e' = .returned (.tuple #[.agg #[.string ⟨#[]⟩, .int .u8 19, .int .i64 3, .bool true, .bool true, .bool false, .int .i64 0, .int .i64 0, .int .u8 0, .int .u16 0], .bool true]) ∧ Below w.heap.size w w' := by
  go_enter Try.func21, Try.ntmps21
  go_wp2
  refine bodyPost_ret (v := .tuple #[.agg #[.string ⟨#[]⟩, .int .u8 19, .int .i64 3, .bool true, .bool true, .bool false, .int .i64 0, .int .i64 0, .int .u8 0, .int .u16 0], .bool true]) (by simp [results, Try.results21, go_sem]) rfl ⟨rfl, by go_grown⟩
set_option maxRecDepth 100000 in
set_option maxHeartbeats 2000000 in
theorem ware_25 (w : World) : Calls Try.prog 21 #[.int .u8 25] w fun e' w' => e' = .returned (.tuple #[.agg #[.string ⟨#[]⟩, .int .u8 25, .int .i64 5, .bool false, .bool false, .bool false, .int .i64 0, .int .i64 0, .int .u8 0, .int .u16 0], .bool true]) ∧ Below w.heap.size w w' := by
  go_enter Try.func21, Try.ntmps21
  go_wp2
  refine bodyPost_ret (v := .tuple #[.agg #[.string ⟨#[]⟩, .int .u8 25, .int .i64 5, .bool false, .bool false, .bool false, .int .i64 0, .int .i64 0, .int .u8 0, .int .u16 0], .bool true]) (by simp [results, Try.results21, go_sem]) rfl ⟨rfl, by go_grown⟩
set_option maxRecDepth 100000 in
set_option maxHeartbeats 2000000 in
theorem ware_26 (w : World) : Calls Try.prog 21 #[.int .u8 26] w fun e' w' => e' = .returned (.tuple #[.agg #[.string ⟨#[]⟩, .int .u8 26, .int .i64 5, .bool true, .bool false, .bool false, .int .i64 0, .int .i64 0, .int .u8 0, .int .u16 0], .bool true]) ∧ Below w.heap.size w w' := by
  go_enter Try.func21, Try.ntmps21
  go_wp2
  refine bodyPost_ret (v := .tuple #[.agg #[.string ⟨#[]⟩, .int .u8 26, .int .i64 5, .bool true, .bool false, .bool false, .int .i64 0, .int .i64 0, .int .u8 0, .int .u16 0], .bool true]) (by simp [results, Try.results21, go_sem]) rfl ⟨rfl, by go_grown⟩
set_option maxRecDepth 100000 in
set_option maxHeartbeats 2000000 in
theorem ware_27 (w : World) : Calls Try.prog 21 #[.int .u8 27] w fun e' w' => e' = .returned (.tuple #[.agg #[.string ⟨#[]⟩, .int .u8 27, .int .i64 5, .bool true, .bool true, .bool false, .int .i64 0, .int .i64 0, .int .u8 0, .int .u16 0], .bool true]) ∧ Below w.heap.size w w' := by
  go_enter Try.func21, Try.ntmps21
  go_wp2
  refine bodyPost_ret (v := .tuple #[.agg #[.string ⟨#[]⟩, .int .u8 27, .int .i64 5, .bool true, .bool true, .bool false, .int .i64 0, .int .i64 0, .int .u8 0, .int .u16 0], .bool true]) (by simp [results, Try.results21, go_sem]) rfl ⟨rfl, by go_grown⟩
set_option maxRecDepth 100000 in
set_option maxHeartbeats 2000000 in
theorem ware_28 (w : World) : Calls Try.prog 21 #[.int .u8 28] w fun e' w' => e' = .returned (.tuple #[.agg #[.string ⟨#[]⟩, .int .u8 28, .int .i64 5, .bool false, .bool false, .bool false, .int .i64 0, .int .i64 0, .int .u8 0, .int .u16 0], .bool true]) ∧ Below w.heap.size w w' := by
  go_enter Try.func21, Try.ntmps21
  go_wp2
  refine bodyPost_ret (v := .tuple #[.agg #[.string ⟨#[]⟩, .int .u8 28, .int .i64 5, .bool false, .bool false, .bool false, .int .i64 0, .int .i64 0, .int .u8 0, .int .u16 0], .bool true]) (by simp [results, Try.results21, go_sem]) rfl ⟨rfl, by go_grown⟩
set_option maxRecDepth 100000 in
set_option maxHeartbeats 2000000 in
theorem ware_29 (w : World) : Calls Try.prog 21 #[.int .u8 29] w fun e' w' => e' = .returned (.tuple #[.agg #[.string ⟨#[]⟩, .int .u8 29, .int .i64 5, .bool true, .bool false, .bool false, .int .i64 0, .int .i64 0, .int .u8 0, .int .u16 0], .bool true]) ∧ Below w.heap.size w w' := by
  go_enter Try.func21, Try.ntmps21
  go_wp2
  refine bodyPost_ret (v := .tuple #[.agg #[.string ⟨#[]⟩, .int .u8 29, .int .i64 5, .bool true, .bool false, .bool false, .int .i64 0, .int .i64 0, .int .u8 0, .int .u16 0], .bool true]) (by simp [results, Try.results21, go_sem]) rfl ⟨rfl, by go_grown⟩
set_option maxRecDepth 100000 in
set_option maxHeartbeats 2000000 in
theorem ware_30 (w : World) : Calls Try.prog 21 #[.int .u8 30] w fun e' w' => e' = .returned (.tuple #[.agg #[.string ⟨#[]⟩, .int .u8 30, .int .i64 5, .bool true, .bool true, .bool false, .int .i64 0, .int .i64 0, .int .u8 0, .int .u16 0], .bool true]) ∧ Below w.heap.size w w' := by
  go_enter Try.func21, Try.ntmps21
  go_wp2
  refine bodyPost_ret (v := .tuple #[.agg #[.string ⟨#[]⟩, .int .u8 30, .int .i64 5, .bool true, .bool true, .bool false, .int .i64 0, .int .i64 0, .int .u8 0, .int .u16 0], .bool true]) (by simp [results, Try.results21, go_sem]) rfl ⟨rfl, by go_grown⟩
set_option maxRecDepth 100000 in
set_option maxHeartbeats 2000000 in
theorem ware_no_a (k : Int) (h0 : (k == 0) = false) (h8 : (k == 8) = false) (h9 : (k == 9) = false) (g0 : decide (k ≥ 1) = true) (g1 : decide (k ≤ 3) = false) (g2 : decide (k ≥ 15) = false) (g4 : decide (k ≥ 25) = false) (w : World) : Calls Try.prog 21 #[.int .u8 k] w fun e' w' => e' = .returned (.tuple #[.agg #[.string ⟨#[]⟩, .int .u8 0, .int .i64 0, .bool false, .bool false, .bool false, .int .i64 0, .int .i64 0, .int .u8 0, .int .u16 0], .bool false]) ∧ Below w.heap.size w w' := by
  go_enter Try.func21, Try.ntmps21
  go_wp2
  refine bodyPost_ret (v := .tuple #[.agg #[.string ⟨#[]⟩, .int .u8 0, .int .i64 0, .bool false, .bool false, .bool false, .int .i64 0, .int .i64 0, .int .u8 0, .int .u16 0], .bool false]) (by simp [results, Try.results21, go_sem]) rfl ⟨rfl, by go_grown⟩
set_option maxRecDepth 100000 in
set_option maxHeartbeats 2000000 in
theorem ware_no_b (k : Int) (h0 : (k == 0) = false) (h8 : (k == 8) = false) (h9 : (k == 9) = false) (g0 : decide (k ≥ 1) = true) (g1 : decide (k ≤ 3) = false) (g2 : decide (k ≥ 15) = true) (g3 : decide (k ≤ 19) = false) (g4 : decide (k ≥ 25) = false) (w : World) : Calls Try.prog 21 #[.int .u8 k] w fun e' w' => e' = .returned (.tuple #[.agg #[.string ⟨#[]⟩, .int .u8 0, .int .i64 0, .bool false, .bool false, .bool false, .int .i64 0, .int .i64 0, .int .u8 0, .int .u16 0], .bool false]) ∧ Below w.heap.size w w' := by
  go_enter Try.func21, Try.ntmps21
  go_wp2
  refine bodyPost_ret (v := .tuple #[.agg #[.string ⟨#[]⟩, .int .u8 0, .int .i64 0, .bool false, .bool false, .bool false, .int .i64 0, .int .i64 0, .int .u8 0, .int .u16 0], .bool false]) (by simp [results, Try.results21, go_sem]) rfl ⟨rfl, by go_grown⟩
set_option maxRecDepth 100000 in
set_option maxHeartbeats 2000000 in
theorem ware_no_c (k : Int) (h0 : (k == 0) = false) (h8 : (k == 8) = false) (h9 : (k == 9) = false) (g0 : decide (k ≥ 1) = true) (g1 : decide (k ≤ 3) = false) (g2 : decide (k ≥ 15) = true) (g3 : decide (k ≤ 19) = false) (g4 : decide (k ≥ 25) = true) (g5 : decide (k ≤ 30) = false) (w : World) : Calls Try.prog 21 #[.int .u8 k] w fun e' w' => e' = .returned (.tuple #[.agg #[.string ⟨#[]⟩, .int .u8 0, .int .i64 0, .bool false, .bool false, .bool false, .int .i64 0, .int .i64 0, .int .u8 0, .int .u16 0], .bool false]) ∧ Below w.heap.size w w' := by
  go_enter Try.func21, Try.ntmps21
  go_wp2
  refine bodyPost_ret (v := .tuple #[.agg #[.string ⟨#[]⟩, .int .u8 0, .int .i64 0, .bool false, .bool false, .bool false, .int .i64 0, .int .i64 0, .int .u8 0, .int .u16 0], .bool false]) (by simp [results, Try.results21, go_sem]) rfl ⟨rfl, by go_grown⟩
theorem header_ware.calls (k : Int) (hk : 0 ≤ k ∧ k ≤ 255) (w : World) : Calls Try.prog 21 #[.int .u8 k] w fun e' w' => e' = .returned (.tuple #[.agg #[.string ⟨#[]⟩, .int .u8 (if (wareT k).2.2.2.2 = true then k else 0), .int .i64 (wareT k).1, .bool (wareT k).2.1, .bool (wareT k).2.2.1, .bool (wareT k).2.2.2.1, .int .i64 0, .int .i64 0, .int .u8 0, .int .u16 0], .bool (wareT k).2.2.2.2]) ∧ Below w.heap.size w w' := by
  by_cases c0 : k = 0
  · subst c0; exact ware_0 w
  by_cases c1 : k = 1
  · subst c1; exact ware_1 w
  by_cases c2 : k = 2
  · subst c2; exact ware_2 w
  by_cases c3 : k = 3
  · subst c3; exact ware_3 w
  by_cases c8 : k = 8
  · subst c8; exact ware_8 w
  by_cases c9 : k = 9
  · subst c9; exact ware_9 w
  by_cases c15 : k = 15
  · subst c15; exact ware_15 w
  by_cases c16 : k = 16
  · subst c16; exact ware_16 w
  by_cases c17 : k = 17
  · subst c17; exact ware_17 w
  by_cases c18 : k = 18
  · subst c18; exact ware_18 w
  by_cases c19 : k = 19
  · subst c19; exact ware_19 w
  by_cases c25 : k = 25
  · subst c25; exact ware_25 w
  by_cases c26 : k = 26
  · subst c26; exact ware_26 w
  by_cases c27 : k = 27
  · subst c27; exact ware_27 w
  by_cases c28 : k = 28
  · subst c28; exact ware_28 w
  by_cases c29 : k = 29
  · subst c29; exact ware_29 w
  by_cases c30 : k = 30
  · subst c30; exact ware_30 w
  have e : wareT k = (0, false, false, false, false) := by unfold wareT; rw [if_neg c0, if_neg c1, if_neg c2, if_neg c3, if_neg c8, if_neg c9, if_neg c15, if_neg c16, if_neg c17, if_neg c18, if_neg c19, if_neg c25, if_neg c26, if_neg c27, if_neg c28, if_neg c29, if_neg c30]
  rw [e]
  have h0 : (k == 0) = false := beq_eq_false_iff_ne.mpr c0
  have h8 : (k == 8) = false := beq_eq_false_iff_ne.mpr c8
  have h9 : (k == 9) = false := beq_eq_false_iff_ne.mpr c9
  have g0 : decide (k ≥ 1) = true := decide_eq_true (by omega)
  have g1 : decide (k ≤ 3) = false := decide_eq_false (by omega)
  by_cases d15 : k ≥ 15
  · by_cases d25 : k ≥ 25
    · exact ware_no_c k h0 h8 h9 g0 g1 (decide_eq_true d15) (decide_eq_false (by omega)) (decide_eq_true d25) (decide_eq_false (by omega)) w
    · exact ware_no_b k h0 h8 h9 g0 g1 (decide_eq_true d15) (decide_eq_false (by omega)) (decide_eq_false d25) w
  · exact ware_no_a k h0 h8 h9 g0 g1 (decide_eq_false d15) (decide_eq_false (by omega)) w
end Go.Proofs.Ytmlpijlnchnabaa.Hand
