/- The mapper's chips by hand: which chip a kind has, and what each of its methods comes to. -/
import Derived.Test.YtkogdocpldfmnaaG0
import Derived.Deep.MidRow
import Derived.Deep.RegionHeld3
import Derived.Deep.QuietTactic
import Derived.BigQuiet
import Derived.Handy
namespace Go.Proofs.Ytkogdocpldfmnaa.Hand
open Go.RowKit
open Go.Proofs.Ytkogdocpldfmnaa.G
open Go.Proofs.YtkogdocpldfmnaaW.PrintWords Go.Proofs.YtkogdocpldfmnaaW.PrintLast Go.Proofs.YtkogdocpldfmnaaW.PrintMore
set_option linter.unusedVariables false
set_option linter.unusedSimpArgs false
set_option maxRecDepth 100000 in
set_option maxHeartbeats 400000 in
theorem of1   (w : World) :
    Calls Try.prog 23 #[.int .i64 1] w fun e' w' => e' = .returned (.iface 53 (.agg #[])) ∧ w' = w := by
  go_enter Try.func23, Try.ntmps23
  go_wp2
  go_returns
  exact ⟨rfl, rfl⟩
set_option maxRecDepth 100000 in
set_option maxHeartbeats 400000 in
theorem of3   (w : World) :
    Calls Try.prog 23 #[.int .i64 3] w fun e' w' => e' = .returned (.iface 54 (.agg #[])) ∧ w' = w := by
  go_enter Try.func23, Try.ntmps23
  go_wp2
  go_returns
  exact ⟨rfl, rfl⟩
set_option maxRecDepth 100000 in
set_option maxHeartbeats 400000 in
theorem of5   (w : World) :
    Calls Try.prog 23 #[.int .i64 5] w fun e' w' => e' = .returned (.iface 55 (.agg #[])) ∧ w' = w := by
  go_enter Try.func23, Try.ntmps23
  go_wp2
  go_returns
  exact ⟨rfl, rfl⟩
set_option maxRecDepth 100000 in
set_option maxHeartbeats 400000 in
theorem of0 (k : Int) (h1 : ¬ k = 1) (h3 : ¬ k = 3) (h5 : ¬ k = 5) (w : World) :
    Calls Try.prog 23 #[.int .i64 k] w fun e' w' => e' = .returned (.iface 56 (.agg #[])) ∧ w' = w := by
  go_enter Try.func23, Try.ntmps23
  go_wp2
  go_returns
  exact ⟨rfl, rfl⟩
def leastF (l : Int) : Int := if wrap64 l < 1 then 1 else wrap64 l
set_option maxRecDepth 100000 in
set_option maxHeartbeats 400000 in
theorem least_lo (l : Int) (hl : wrap64 l < 1) (w : World) :
    Calls Try.prog 45 #[.int .u8 l] w fun e' w' => e' = .returned (.int .i64 1) ∧ w' = w := by
  go_enter Try.func45, Try.ntmps45
  go_wp2
  go_returns
  exact ⟨rfl, rfl⟩
set_option maxRecDepth 100000 in
set_option maxHeartbeats 400000 in
theorem least_hi (l : Int) (hl : ¬ wrap64 l < 1) (w : World) :
    Calls Try.prog 45 #[.int .u8 l] w fun e' w' => e' = .returned (.int .i64 (wrap64 l)) ∧ w' = w := by
  go_enter Try.func45, Try.ntmps45
  go_wp2
  go_returns
  exact ⟨rfl, rfl⟩
theorem least_all (l : Int) (w : World) : Calls Try.prog 45 #[.int .u8 l] w fun e' w' => e' = .returned (.int .i64 (leastF l)) ∧ w' = w := by
  unfold leastF
  by_cases hl : wrap64 l < 1
  · rw [if_pos hl]; exact least_lo l hl w
  · rw [if_neg hl]; exact least_hi l hl w
set_option maxRecDepth 100000 in
set_option maxHeartbeats 400000 in
theorem low_first1 (k : Int) (o : Bool) (l h r : Int)  (w : World) :
    Calls Try.prog 42 #[.agg #[], .agg #[.int .i64 k, .bool o, .int .u8 l, .int .u8 h, .int .u8 r, .bool true]] w fun e' w' => e' = .returned (.int .i64 (wrap64 (32 * wrap64 h))) ∧ Below w.heap.size w w' := by
  go_enter Try.func42, Try.ntmps42
  go_wp2
  go_returns
  exact ⟨rfl, by go_grown⟩
set_option maxRecDepth 100000 in
set_option maxHeartbeats 400000 in
theorem low_first0 (k : Int) (o : Bool) (l h r : Int)  (w : World) :
    Calls Try.prog 42 #[.agg #[], .agg #[.int .i64 k, .bool o, .int .u8 l, .int .u8 h, .int .u8 r, .bool false]] w fun e' w' => e' = .returned (.int .i64 0) ∧ Below w.heap.size w w' := by
  go_enter Try.func42, Try.ntmps42
  go_wp2
  go_returns
  exact ⟨rfl, by go_grown⟩
set_option maxRecDepth 100000 in
set_option maxHeartbeats 400000 in
theorem low_third (k : Int) (o : Bool) (l h r : Int) (md : Bool)  (w : World) :
    Calls Try.prog 48 #[.agg #[], .agg #[.int .i64 k, .bool o, .int .u8 l, .int .u8 h, .int .u8 r, .bool md]] w fun e' w' => e' = .returned (.int .i64 0) ∧ Below w.heap.size w w' := by
  go_enter Try.func48, Try.ntmps48
  go_wp2
  go_returns
  exact ⟨rfl, by go_grown⟩
set_option maxRecDepth 100000 in
set_option maxHeartbeats 400000 in
theorem low_fifth (k : Int) (o : Bool) (l h r : Int) (md : Bool)  (w : World) :
    Calls Try.prog 52 #[.agg #[], .agg #[.int .i64 k, .bool o, .int .u8 l, .int .u8 h, .int .u8 r, .bool md]] w fun e' w' => e' = .returned (.int .i64 0) ∧ Below w.heap.size w w' := by
  go_enter Try.func52, Try.ntmps52
  go_wp2
  go_returns
  exact ⟨rfl, by go_grown⟩
set_option maxRecDepth 100000 in
set_option maxHeartbeats 400000 in
theorem low_plain (k : Int) (o : Bool) (l h r : Int) (md : Bool)  (w : World) :
    Calls Try.prog 56 #[.agg #[], .agg #[.int .i64 k, .bool o, .int .u8 l, .int .u8 h, .int .u8 r, .bool md]] w fun e' w' => e' = .returned (.int .i64 0) ∧ Below w.heap.size w w' := by
  go_enter Try.func56, Try.ntmps56
  go_wp2
  go_returns
  exact ⟨rfl, by go_grown⟩
set_option maxRecDepth 100000 in
set_option maxHeartbeats 400000 in
theorem high_plain (k : Int) (o : Bool) (l h r : Int) (md : Bool)  (w : World) :
    Calls Try.prog 55 #[.agg #[], .agg #[.int .i64 k, .bool o, .int .u8 l, .int .u8 h, .int .u8 r, .bool md]] w fun e' w' => e' = .returned (.int .i64 1) ∧ Below w.heap.size w w' := by
  go_enter Try.func55, Try.ntmps55
  go_wp2
  go_returns
  exact ⟨rfl, by go_grown⟩
set_option maxRecDepth 100000 in
set_option maxHeartbeats 400000 in
theorem high_fifth (k : Int) (o : Bool) (l h r : Int) (md : Bool)  (w : World) :
    Calls Try.prog 51 #[.agg #[], .agg #[.int .i64 k, .bool o, .int .u8 l, .int .u8 h, .int .u8 r, .bool md]] w fun e' w' => e' = .returned (.int .i64 (wrap64 (wrap64 (256 * wrap64 h) + wrap64 l))) ∧ Below w.heap.size w w' := by
  go_enter Try.func51, Try.ntmps51
  go_wp2
  go_returns
  exact ⟨rfl, by go_grown⟩
set_option maxRecDepth 100000 in
set_option maxHeartbeats 400000 in
theorem high_third1 (k : Int) (o : Bool) (l h r : Int) (md : Bool) (hl : wrap64 l < 1) (w : World) :
    Calls Try.prog 47 #[.agg #[], .agg #[.int .i64 k, .bool o, .int .u8 l, .int .u8 h, .int .u8 r, .bool md]] w fun e' w' => e' = .returned (.int .i64 1) ∧ Below w.heap.size w w' := by
  go_enter Try.func47, Try.ntmps47
  go_wp2
  go_returns
  exact ⟨rfl, by go_grown⟩
set_option maxRecDepth 100000 in
set_option maxHeartbeats 400000 in
theorem high_third2 (k : Int) (o : Bool) (l h r : Int) (md : Bool) (hl : ¬ wrap64 l < 1) (w : World) :
    Calls Try.prog 47 #[.agg #[], .agg #[.int .i64 k, .bool o, .int .u8 l, .int .u8 h, .int .u8 r, .bool md]] w fun e' w' => e' = .returned (.int .i64 (wrap64 l)) ∧ Below w.heap.size w w' := by
  go_enter Try.func47, Try.ntmps47
  go_wp2
  go_returns
  exact ⟨rfl, by go_grown⟩
set_option maxRecDepth 100000 in
set_option maxHeartbeats 400000 in
theorem high_first (k : Int) (o : Bool) (l h r : Int) (md : Bool)  (w : World) :
    Calls Try.prog 41 #[.agg #[], .agg #[.int .i64 k, .bool o, .int .u8 l, .int .u8 h, .int .u8 r, .bool md]] w fun e' w' => e' = .returned (.int .i64 (wrap64 (wrap64 (32 * wrap64 h) + leastF l))) ∧ Below w.heap.size w w' := by
  go_enter Try.func41, Try.ntmps41
  go_wp2
  go_quiet ((go_at_call 45; exact Calls.quiet_of_same (least_all l _)))
  go_wp2
  go_returns
  exact ⟨rfl, by repeat (first | exact Below.refl _ _ | apply below_alloc | apply pw_below_drewN | apply below_drew1)⟩
theorem high_third (k : Int) (o : Bool) (l h r : Int) (md : Bool) (w : World) : Calls Try.prog 47 #[.agg #[], .agg #[.int .i64 k, .bool o, .int .u8 l, .int .u8 h, .int .u8 r, .bool md]] w fun e' w' => e' = .returned (.int .i64 (leastF l)) ∧ Below w.heap.size w w' := by
  unfold leastF
  by_cases hl : wrap64 l < 1
  · rw [if_pos hl]; exact high_third1 k o l h r md hl w
  · rw [if_neg hl]; exact high_third2 k o l h r md hl w
set_option maxRecDepth 100000 in
set_option maxHeartbeats 400000 in
theorem ram_plain (k : Int) (o : Bool) (l h r : Int) (md : Bool)  (w : World) :
    Calls Try.prog 57 #[.agg #[], .agg #[.int .i64 k, .bool o, .int .u8 l, .int .u8 h, .int .u8 r, .bool md]] w fun e' w' => e' = .returned (.tuple #[.int .i64 0, .bool true]) ∧ Below w.heap.size w w' := by
  go_enter Try.func57, Try.ntmps57
  go_wp2
  go_returns
  exact ⟨rfl, by go_grown⟩
set_option maxRecDepth 100000 in
set_option maxHeartbeats 400000 in
theorem ram_fifth (k : Int) (o : Bool) (l h r : Int) (md : Bool)  (w : World) :
    Calls Try.prog 53 #[.agg #[], .agg #[.int .i64 k, .bool o, .int .u8 l, .int .u8 h, .int .u8 r, .bool md]] w fun e' w' => e' = .returned (.tuple #[.int .i64 (wrap64 r), .bool o]) ∧ Below w.heap.size w w' := by
  go_enter Try.func53, Try.ntmps53
  go_wp2
  go_quiet (fail)
  go_wp2
  go_returns
  exact ⟨rfl, by repeat (first | exact Below.refl _ _ | apply below_alloc | apply pw_below_drewN | apply below_drew1)⟩
set_option maxRecDepth 100000 in
set_option maxHeartbeats 400000 in
theorem ram_first1 (k : Int) (o : Bool) (l h r : Int)  (w : World) :
    Calls Try.prog 43 #[.agg #[], .agg #[.int .i64 k, .bool o, .int .u8 l, .int .u8 h, .int .u8 r, .bool true]] w fun e' w' => e' = .returned (.tuple #[.int .i64 (wrap64 h), .bool o]) ∧ Below w.heap.size w w' := by
  go_enter Try.func43, Try.ntmps43
  go_wp2
  go_quiet (fail)
  go_wp2
  go_returns
  exact ⟨rfl, by repeat (first | exact Below.refl _ _ | apply below_alloc | apply pw_below_drewN | apply below_drew1)⟩
set_option maxRecDepth 100000 in
set_option maxHeartbeats 400000 in
theorem ram_first0 (k : Int) (o : Bool) (l h r : Int)  (w : World) :
    Calls Try.prog 43 #[.agg #[], .agg #[.int .i64 k, .bool o, .int .u8 l, .int .u8 h, .int .u8 r, .bool false]] w fun e' w' => e' = .returned (.tuple #[.int .i64 0, .bool o]) ∧ Below w.heap.size w w' := by
  go_enter Try.func43, Try.ntmps43
  go_wp2
  go_quiet (fail)
  go_wp2
  go_returns
  exact ⟨rfl, by repeat (first | exact Below.refl _ _ | apply below_alloc | apply pw_below_drewN | apply below_drew1)⟩
set_option maxRecDepth 100000 in
set_option maxHeartbeats 400000 in
theorem ram_third0 (k : Int) (l h r : Int) (md : Bool)  (w : World) :
    Calls Try.prog 49 #[.agg #[], .agg #[.int .i64 k, .bool false, .int .u8 l, .int .u8 h, .int .u8 r, .bool md]] w fun e' w' => e' = .returned (.tuple #[.int .i64 (wrap64 r), .bool false]) ∧ Below w.heap.size w w' := by
  go_enter Try.func49, Try.ntmps49
  go_wp2
  go_quiet (fail)
  go_wp2
  go_returns
  exact ⟨rfl, by repeat (first | exact Below.refl _ _ | apply below_alloc | apply pw_below_drewN | apply below_drew1)⟩
set_option maxRecDepth 100000 in
set_option maxHeartbeats 400000 in
theorem ram_third1 (k : Int) (l h r : Int) (md : Bool)  (w : World) :
    Calls Try.prog 49 #[.agg #[], .agg #[.int .i64 k, .bool true, .int .u8 l, .int .u8 h, .int .u8 r, .bool md]] w fun e' w' => e' = .returned (.tuple #[.int .i64 (wrap64 r), .bool (decide (r < 8))]) ∧ Below w.heap.size w w' := by
  go_enter Try.func49, Try.ntmps49
  go_wp2
  go_quiet (fail)
  go_wp2
  go_returns
  exact ⟨rfl, by repeat (first | exact Below.refl _ _ | apply below_alloc | apply pw_below_drewN | apply below_drew1)⟩
set_option maxRecDepth 100000 in
set_option maxHeartbeats 400000 in
theorem write_first0 (k p v : Int) (o : Bool) (l h r : Int) (md : Bool) (hp : wrap64 (Int.tdiv p 2) = 0) (w : World) :
    Calls Try.prog 44 #[.agg #[], .agg #[.int .i64 k, .bool o, .int .u8 l, .int .u8 h, .int .u8 r, .bool md], .int .i64 p, .int .u8 v] w fun e' w' => e' = .returned (.agg #[.int .i64 k, .bool ((Go.bits .and .u8 v 15) == 10), .int .u8 l, .int .u8 h, .int .u8 r, .bool md]) ∧ Below w.heap.size w w' := by
  go_enter Try.func44, Try.ntmps44
  go_wp2
  go_returns
  exact ⟨rfl, by go_grown⟩
set_option maxRecDepth 100000 in
set_option maxHeartbeats 400000 in
theorem write_first1 (k p v : Int) (o : Bool) (l h r : Int) (md : Bool) (hp : wrap64 (Int.tdiv p 2) = 1) (w : World) :
    Calls Try.prog 44 #[.agg #[], .agg #[.int .i64 k, .bool o, .int .u8 l, .int .u8 h, .int .u8 r, .bool md], .int .i64 p, .int .u8 v] w fun e' w' => e' = .returned (.agg #[.int .i64 k, .bool o, .int .u8 (Go.bits .and .u8 v 31), .int .u8 h, .int .u8 r, .bool md]) ∧ Below w.heap.size w w' := by
  go_enter Try.func44, Try.ntmps44
  go_wp2
  go_returns
  exact ⟨rfl, by go_grown⟩
set_option maxRecDepth 100000 in
set_option maxHeartbeats 400000 in
theorem write_first2 (k p v : Int) (o : Bool) (l h r : Int) (md : Bool) (hp : wrap64 (Int.tdiv p 2) = 2) (w : World) :
    Calls Try.prog 44 #[.agg #[], .agg #[.int .i64 k, .bool o, .int .u8 l, .int .u8 h, .int .u8 r, .bool md], .int .i64 p, .int .u8 v] w fun e' w' => e' = .returned (.agg #[.int .i64 k, .bool o, .int .u8 l, .int .u8 (Go.bits .and .u8 v 3), .int .u8 r, .bool md]) ∧ Below w.heap.size w w' := by
  go_enter Try.func44, Try.ntmps44
  go_wp2
  go_returns
  exact ⟨rfl, by go_grown⟩
set_option maxRecDepth 100000 in
set_option maxHeartbeats 400000 in
theorem write_first3 (k p v : Int) (o : Bool) (l h r : Int) (md : Bool) (hp : wrap64 (Int.tdiv p 2) = 3) (w : World) :
    Calls Try.prog 44 #[.agg #[], .agg #[.int .i64 k, .bool o, .int .u8 l, .int .u8 h, .int .u8 r, .bool md], .int .i64 p, .int .u8 v] w fun e' w' => e' = .returned (.agg #[.int .i64 k, .bool o, .int .u8 l, .int .u8 h, .int .u8 r, .bool ((Go.bits .and .u8 v 1) == 1)]) ∧ Below w.heap.size w w' := by
  go_enter Try.func44, Try.ntmps44
  go_wp2
  go_returns
  exact ⟨rfl, by go_grown⟩
set_option maxRecDepth 100000 in
set_option maxHeartbeats 400000 in
theorem write_first_no (k p v : Int) (o : Bool) (l h r : Int) (md : Bool) (h0 : ¬ wrap64 (Int.tdiv p 2) = 0) (h1 : ¬ wrap64 (Int.tdiv p 2) = 1) (h2 : ¬ wrap64 (Int.tdiv p 2) = 2) (h3 : ¬ wrap64 (Int.tdiv p 2) = 3) (w : World) :
    Calls Try.prog 44 #[.agg #[], .agg #[.int .i64 k, .bool o, .int .u8 l, .int .u8 h, .int .u8 r, .bool md], .int .i64 p, .int .u8 v] w fun e' w' => e' = .returned (.agg #[.int .i64 k, .bool o, .int .u8 l, .int .u8 h, .int .u8 r, .bool md]) ∧ Below w.heap.size w w' := by
  go_enter Try.func44, Try.ntmps44
  have e0 : (wrap64 (Int.tdiv p 2) == 0) = false := by simpa using h0
  have e1 : (wrap64 (Int.tdiv p 2) == 1) = false := by simpa using h1
  have e2 : (wrap64 (Int.tdiv p 2) == 2) = false := by simpa using h2
  have e3 : (wrap64 (Int.tdiv p 2) == 3) = false := by simpa using h3
  go_wp2
  go_returns
  exact ⟨rfl, by go_grown⟩
set_option maxRecDepth 100000 in
set_option maxHeartbeats 400000 in
theorem write_third0 (k p v : Int) (o : Bool) (l h r : Int) (md : Bool) (hp : wrap64 (Int.tdiv p 2) = 0) (w : World) :
    Calls Try.prog 50 #[.agg #[], .agg #[.int .i64 k, .bool o, .int .u8 l, .int .u8 h, .int .u8 r, .bool md], .int .i64 p, .int .u8 v] w fun e' w' => e' = .returned (.agg #[.int .i64 k, .bool ((Go.bits .and .u8 v 15) == 10), .int .u8 l, .int .u8 h, .int .u8 r, .bool md]) ∧ Below w.heap.size w w' := by
  go_enter Try.func50, Try.ntmps50
  go_wp2
  go_returns
  exact ⟨rfl, by go_grown⟩
set_option maxRecDepth 100000 in
set_option maxHeartbeats 400000 in
theorem write_third1 (k p v : Int) (o : Bool) (l h r : Int) (md : Bool) (hp : wrap64 (Int.tdiv p 2) = 1) (w : World) :
    Calls Try.prog 50 #[.agg #[], .agg #[.int .i64 k, .bool o, .int .u8 l, .int .u8 h, .int .u8 r, .bool md], .int .i64 p, .int .u8 v] w fun e' w' => e' = .returned (.agg #[.int .i64 k, .bool o, .int .u8 (Go.bits .and .u8 v 127), .int .u8 h, .int .u8 r, .bool md]) ∧ Below w.heap.size w w' := by
  go_enter Try.func50, Try.ntmps50
  go_wp2
  go_returns
  exact ⟨rfl, by go_grown⟩
set_option maxRecDepth 100000 in
set_option maxHeartbeats 400000 in
theorem write_third2 (k p v : Int) (o : Bool) (l h r : Int) (md : Bool) (hp : wrap64 (Int.tdiv p 2) = 2) (w : World) :
    Calls Try.prog 50 #[.agg #[], .agg #[.int .i64 k, .bool o, .int .u8 l, .int .u8 h, .int .u8 r, .bool md], .int .i64 p, .int .u8 v] w fun e' w' => e' = .returned (.agg #[.int .i64 k, .bool o, .int .u8 l, .int .u8 h, .int .u8 (Go.bits .and .u8 v 15), .bool md]) ∧ Below w.heap.size w w' := by
  go_enter Try.func50, Try.ntmps50
  go_wp2
  go_returns
  exact ⟨rfl, by go_grown⟩
set_option maxRecDepth 100000 in
set_option maxHeartbeats 400000 in
theorem write_third_no (k p v : Int) (o : Bool) (l h r : Int) (md : Bool) (h0 : ¬ wrap64 (Int.tdiv p 2) = 0) (h1 : ¬ wrap64 (Int.tdiv p 2) = 1) (h2 : ¬ wrap64 (Int.tdiv p 2) = 2) (w : World) :
    Calls Try.prog 50 #[.agg #[], .agg #[.int .i64 k, .bool o, .int .u8 l, .int .u8 h, .int .u8 r, .bool md], .int .i64 p, .int .u8 v] w fun e' w' => e' = .returned (.agg #[.int .i64 k, .bool o, .int .u8 l, .int .u8 h, .int .u8 r, .bool md]) ∧ Below w.heap.size w w' := by
  go_enter Try.func50, Try.ntmps50
  have e0 : (wrap64 (Int.tdiv p 2) == 0) = false := by simpa using h0
  have e1 : (wrap64 (Int.tdiv p 2) == 1) = false := by simpa using h1
  have e2 : (wrap64 (Int.tdiv p 2) == 2) = false := by simpa using h2
  go_wp2
  go_returns
  exact ⟨rfl, by go_grown⟩
set_option maxRecDepth 100000 in
set_option maxHeartbeats 400000 in
theorem write_fifth0 (k p v : Int) (o : Bool) (l h r : Int) (md : Bool) (hp : p = 0) (w : World) :
    Calls Try.prog 54 #[.agg #[], .agg #[.int .i64 k, .bool o, .int .u8 l, .int .u8 h, .int .u8 r, .bool md], .int .i64 p, .int .u8 v] w fun e' w' => e' = .returned (.agg #[.int .i64 k, .bool (v == 10), .int .u8 l, .int .u8 h, .int .u8 r, .bool md]) ∧ Below w.heap.size w w' := by
  go_enter Try.func54, Try.ntmps54
  go_wp2
  go_returns
  exact ⟨rfl, by go_grown⟩
set_option maxRecDepth 100000 in
set_option maxHeartbeats 400000 in
theorem write_fifth1 (k p v : Int) (o : Bool) (l h r : Int) (md : Bool) (hp : p = 1) (w : World) :
    Calls Try.prog 54 #[.agg #[], .agg #[.int .i64 k, .bool o, .int .u8 l, .int .u8 h, .int .u8 r, .bool md], .int .i64 p, .int .u8 v] w fun e' w' => e' = .returned (.agg #[.int .i64 k, .bool (v == 10), .int .u8 l, .int .u8 h, .int .u8 r, .bool md]) ∧ Below w.heap.size w w' := by
  go_enter Try.func54, Try.ntmps54
  go_wp2
  go_returns
  exact ⟨rfl, by go_grown⟩
set_option maxRecDepth 100000 in
set_option maxHeartbeats 400000 in
theorem write_fifth2 (k p v : Int) (o : Bool) (l h r : Int) (md : Bool) (hp : p = 2) (w : World) :
    Calls Try.prog 54 #[.agg #[], .agg #[.int .i64 k, .bool o, .int .u8 l, .int .u8 h, .int .u8 r, .bool md], .int .i64 p, .int .u8 v] w fun e' w' => e' = .returned (.agg #[.int .i64 k, .bool o, .int .u8 v, .int .u8 h, .int .u8 r, .bool md]) ∧ Below w.heap.size w w' := by
  go_enter Try.func54, Try.ntmps54
  go_wp2
  go_returns
  exact ⟨rfl, by go_grown⟩
set_option maxRecDepth 100000 in
set_option maxHeartbeats 400000 in
theorem write_fifth3 (k p v : Int) (o : Bool) (l h r : Int) (md : Bool) (hp : p = 3) (w : World) :
    Calls Try.prog 54 #[.agg #[], .agg #[.int .i64 k, .bool o, .int .u8 l, .int .u8 h, .int .u8 r, .bool md], .int .i64 p, .int .u8 v] w fun e' w' => e' = .returned (.agg #[.int .i64 k, .bool o, .int .u8 l, .int .u8 (Go.bits .and .u8 v 1), .int .u8 r, .bool md]) ∧ Below w.heap.size w w' := by
  go_enter Try.func54, Try.ntmps54
  go_wp2
  go_returns
  exact ⟨rfl, by go_grown⟩
set_option maxRecDepth 100000 in
set_option maxHeartbeats 400000 in
theorem write_fifth4 (k p v : Int) (o : Bool) (l h r : Int) (md : Bool) (hp : p = 4) (w : World) :
    Calls Try.prog 54 #[.agg #[], .agg #[.int .i64 k, .bool o, .int .u8 l, .int .u8 h, .int .u8 r, .bool md], .int .i64 p, .int .u8 v] w fun e' w' => e' = .returned (.agg #[.int .i64 k, .bool o, .int .u8 l, .int .u8 h, .int .u8 (Go.bits .and .u8 v 15), .bool md]) ∧ Below w.heap.size w w' := by
  go_enter Try.func54, Try.ntmps54
  go_wp2
  go_returns
  exact ⟨rfl, by go_grown⟩
set_option maxRecDepth 100000 in
set_option maxHeartbeats 400000 in
theorem write_fifth5 (k p v : Int) (o : Bool) (l h r : Int) (md : Bool) (hp : p = 5) (w : World) :
    Calls Try.prog 54 #[.agg #[], .agg #[.int .i64 k, .bool o, .int .u8 l, .int .u8 h, .int .u8 r, .bool md], .int .i64 p, .int .u8 v] w fun e' w' => e' = .returned (.agg #[.int .i64 k, .bool o, .int .u8 l, .int .u8 h, .int .u8 (Go.bits .and .u8 v 15), .bool md]) ∧ Below w.heap.size w w' := by
  go_enter Try.func54, Try.ntmps54
  go_wp2
  go_returns
  exact ⟨rfl, by go_grown⟩
set_option maxRecDepth 100000 in
set_option maxHeartbeats 400000 in
theorem write_fifth_no (k p v : Int) (o : Bool) (l h r : Int) (md : Bool) (h0 : ¬ p = 0) (h1 : ¬ p = 1) (h2 : ¬ p = 2) (h3 : ¬ p = 3) (h4 : ¬ p = 4) (h5 : ¬ p = 5) (w : World) :
    Calls Try.prog 54 #[.agg #[], .agg #[.int .i64 k, .bool o, .int .u8 l, .int .u8 h, .int .u8 r, .bool md], .int .i64 p, .int .u8 v] w fun e' w' => e' = .returned (.agg #[.int .i64 k, .bool o, .int .u8 l, .int .u8 h, .int .u8 r, .bool md]) ∧ Below w.heap.size w w' := by
  go_enter Try.func54, Try.ntmps54
  have e0 : (p == 0) = false := by simpa using h0
  have e1 : (p == 1) = false := by simpa using h1
  have e2 : (p == 2) = false := by simpa using h2
  have e3 : (p == 3) = false := by simpa using h3
  have e4 : (p == 4) = false := by simpa using h4
  have e5 : (p == 5) = false := by simpa using h5
  go_wp2
  go_returns
  exact ⟨rfl, by go_grown⟩
set_option maxRecDepth 100000 in
set_option maxHeartbeats 400000 in
theorem write_plain (k p v : Int) (o : Bool) (l h r : Int) (md : Bool)  (w : World) :
    Calls Try.prog 58 #[.agg #[], .agg #[.int .i64 k, .bool o, .int .u8 l, .int .u8 h, .int .u8 r, .bool md], .int .i64 p, .int .u8 v] w fun e' w' => e' = .returned (.agg #[.int .i64 k, .bool o, .int .u8 l, .int .u8 h, .int .u8 r, .bool md]) ∧ Below w.heap.size w w' := by
  go_enter Try.func58, Try.ntmps58
  go_wp2
  go_returns
  exact ⟨rfl, by go_grown⟩
end Go.Proofs.Ytkogdocpldfmnaa.Hand
