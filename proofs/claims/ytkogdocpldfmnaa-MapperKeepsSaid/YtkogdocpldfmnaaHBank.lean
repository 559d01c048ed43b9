/- The mapper's Bank by hand: the chip asked through its interface. -/
import Derived.Test.YtkogdocpldfmnaaHChips
import Derived.Test.YtkogdocpldfmnaaG3
namespace Go.Proofs.Ytkogdocpldfmnaa.Hand
open Go.RowKit
open Go.Proofs.Ytkogdocpldfmnaa.G
open Go.Proofs.YtkogdocpldfmnaaW.PrintWords Go.Proofs.YtkogdocpldfmnaaW.PrintLast Go.Proofs.YtkogdocpldfmnaaW.PrintMore
set_option linter.unusedVariables false
set_option linter.unusedSimpArgs false
set_option maxRecDepth 100000 in
set_option maxHeartbeats 400000 in
theorem bank_low1 (k : Int) (o : Bool) (l h r : Int) (md : Bool) (a : Int)  (hp : a / 16384 = 0) (w : World) :
    Calls Try.prog 15 #[.agg #[.int .i64 1, .bool o, .int .u8 l, .int .u8 h, .int .u8 r, .bool true], .int .u16 a] w fun e' w' => e' = .returned (.int .i64 (wrap64 (32 * wrap64 h))) ∧ Below w.heap.size w w' := by
  go_enter Try.func15, Try.ntmps15
  go_wp2
  have bk := blk_new w (.cells #[.int .i64 1, .bool o, .int .u8 l, .int .u8 h, .int .u8 r, .bool true] 24)
  have hB := below_alloc (Below.refl w.heap.size w) (.cells #[.int .i64 1, .bool o, .int .u8 l, .int .u8 h, .int .u8 r, .bool true] 24)
  generalize w.alloc (.cells #[.int .i64 1, .bool o, .int .u8 l, .int .u8 h, .int .u8 r, .bool true] 24) = W at bk hB ⊢
  have BK := Aside0.mk bk
  have HB := Aside0.mk hB
  clear bk hB
  have c0 : W.cell? ⟨w.heap.size, 0, none⟩ = some (.int .i64 1) := (blk_cell BK.out 0).trans rfl
  have c1 : W.cell? ⟨w.heap.size, 1, none⟩ = some (.bool o) := (blk_cell BK.out 1).trans rfl
  have c2 : W.cell? ⟨w.heap.size, 2, none⟩ = some (.int .u8 l) := (blk_cell BK.out 2).trans rfl
  have c3 : W.cell? ⟨w.heap.size, 3, none⟩ = some (.int .u8 h) := (blk_cell BK.out 3).trans rfl
  have c4 : W.cell? ⟨w.heap.size, 4, none⟩ = some (.int .u8 r) := (blk_cell BK.out 4).trans rfl
  have c5 : W.cell? ⟨w.heap.size, 5, none⟩ = some (.bool true) := (blk_cell BK.out 5).trans rfl
  go_region_held3 (fun w' => w'.cell? ⟨w.heap.size, 0, none⟩ = some (.int .i64 1) ∧ w'.cell? ⟨w.heap.size, 1, none⟩ = some (.bool o) ∧ w'.cell? ⟨w.heap.size, 2, none⟩ = some (.int .u8 l) ∧ w'.cell? ⟨w.heap.size, 3, none⟩ = some (.int .u8 h) ∧ w'.cell? ⟨w.heap.size, 4, none⟩ = some (.int .u8 r) ∧ w'.cell? ⟨w.heap.size, 5, none⟩ = some (.bool true)) (go_keep)
    (first | (go_at_call 23; ((with_reducible refine (of1 _).mono ?_)); rintro e' w2 ⟨rfl, rfl⟩)
           | (go_at_call 42; ((with_reducible refine (low_first1 1 o l h r _).mono ?_)); rintro e' w2 ⟨rfl, hb⟩; have n0 := Aside0.mk (blk_below (blk_drew BK.out) hb); have n1 := Aside0.mk (below_step (below_drew1 HB.out) hb); clear hb; have d0 : w2.cell? ⟨w.heap.size, 0, none⟩ = some (.int .i64 1) := (blk_cell n0.out 0).trans rfl; have d1 : w2.cell? ⟨w.heap.size, 1, none⟩ = some (.bool o) := (blk_cell n0.out 1).trans rfl; have d2 : w2.cell? ⟨w.heap.size, 2, none⟩ = some (.int .u8 l) := (blk_cell n0.out 2).trans rfl; have d3 : w2.cell? ⟨w.heap.size, 3, none⟩ = some (.int .u8 h) := (blk_cell n0.out 3).trans rfl; have d4 : w2.cell? ⟨w.heap.size, 4, none⟩ = some (.int .u8 r) := (blk_cell n0.out 4).trans rfl; have d5 : w2.cell? ⟨w.heap.size, 5, none⟩ = some (.bool true) := (blk_cell n0.out 5).trans rfl))
  rename_i hHeld
  clear hHeld
  go_wp2
  go_returns
  exact ⟨rfl, n1.out⟩
set_option maxRecDepth 100000 in
set_option maxHeartbeats 400000 in
theorem bank_low2 (k : Int) (o : Bool) (l h r : Int) (md : Bool) (a : Int)  (hp : a / 16384 = 0) (w : World) :
    Calls Try.prog 15 #[.agg #[.int .i64 1, .bool o, .int .u8 l, .int .u8 h, .int .u8 r, .bool false], .int .u16 a] w fun e' w' => e' = .returned (.int .i64 (0)) ∧ Below w.heap.size w w' := by
  go_enter Try.func15, Try.ntmps15
  go_wp2
  have bk := blk_new w (.cells #[.int .i64 1, .bool o, .int .u8 l, .int .u8 h, .int .u8 r, .bool false] 24)
  have hB := below_alloc (Below.refl w.heap.size w) (.cells #[.int .i64 1, .bool o, .int .u8 l, .int .u8 h, .int .u8 r, .bool false] 24)
  generalize w.alloc (.cells #[.int .i64 1, .bool o, .int .u8 l, .int .u8 h, .int .u8 r, .bool false] 24) = W at bk hB ⊢
  have BK := Aside0.mk bk
  have HB := Aside0.mk hB
  clear bk hB
  have c0 : W.cell? ⟨w.heap.size, 0, none⟩ = some (.int .i64 1) := (blk_cell BK.out 0).trans rfl
  have c1 : W.cell? ⟨w.heap.size, 1, none⟩ = some (.bool o) := (blk_cell BK.out 1).trans rfl
  have c2 : W.cell? ⟨w.heap.size, 2, none⟩ = some (.int .u8 l) := (blk_cell BK.out 2).trans rfl
  have c3 : W.cell? ⟨w.heap.size, 3, none⟩ = some (.int .u8 h) := (blk_cell BK.out 3).trans rfl
  have c4 : W.cell? ⟨w.heap.size, 4, none⟩ = some (.int .u8 r) := (blk_cell BK.out 4).trans rfl
  have c5 : W.cell? ⟨w.heap.size, 5, none⟩ = some (.bool false) := (blk_cell BK.out 5).trans rfl
  go_region_held3 (fun w' => w'.cell? ⟨w.heap.size, 0, none⟩ = some (.int .i64 1) ∧ w'.cell? ⟨w.heap.size, 1, none⟩ = some (.bool o) ∧ w'.cell? ⟨w.heap.size, 2, none⟩ = some (.int .u8 l) ∧ w'.cell? ⟨w.heap.size, 3, none⟩ = some (.int .u8 h) ∧ w'.cell? ⟨w.heap.size, 4, none⟩ = some (.int .u8 r) ∧ w'.cell? ⟨w.heap.size, 5, none⟩ = some (.bool false)) (go_keep)
    (first | (go_at_call 23; ((with_reducible refine (of1 _).mono ?_)); rintro e' w2 ⟨rfl, rfl⟩)
           | (go_at_call 42; ((with_reducible refine (low_first0 1 o l h r _).mono ?_)); rintro e' w2 ⟨rfl, hb⟩; have n0 := Aside0.mk (blk_below (blk_drew BK.out) hb); have n1 := Aside0.mk (below_step (below_drew1 HB.out) hb); clear hb; have d0 : w2.cell? ⟨w.heap.size, 0, none⟩ = some (.int .i64 1) := (blk_cell n0.out 0).trans rfl; have d1 : w2.cell? ⟨w.heap.size, 1, none⟩ = some (.bool o) := (blk_cell n0.out 1).trans rfl; have d2 : w2.cell? ⟨w.heap.size, 2, none⟩ = some (.int .u8 l) := (blk_cell n0.out 2).trans rfl; have d3 : w2.cell? ⟨w.heap.size, 3, none⟩ = some (.int .u8 h) := (blk_cell n0.out 3).trans rfl; have d4 : w2.cell? ⟨w.heap.size, 4, none⟩ = some (.int .u8 r) := (blk_cell n0.out 4).trans rfl; have d5 : w2.cell? ⟨w.heap.size, 5, none⟩ = some (.bool false) := (blk_cell n0.out 5).trans rfl))
  rename_i hHeld
  clear hHeld
  go_wp2
  go_returns
  exact ⟨rfl, n1.out⟩
set_option maxRecDepth 100000 in
set_option maxHeartbeats 400000 in
theorem bank_low3 (k : Int) (o : Bool) (l h r : Int) (md : Bool) (a : Int)  (hp : a / 16384 = 0) (w : World) :
    Calls Try.prog 15 #[.agg #[.int .i64 3, .bool o, .int .u8 l, .int .u8 h, .int .u8 r, .bool md], .int .u16 a] w fun e' w' => e' = .returned (.int .i64 (0)) ∧ Below w.heap.size w w' := by
  go_enter Try.func15, Try.ntmps15
  go_wp2
  have bk := blk_new w (.cells #[.int .i64 3, .bool o, .int .u8 l, .int .u8 h, .int .u8 r, .bool md] 24)
  have hB := below_alloc (Below.refl w.heap.size w) (.cells #[.int .i64 3, .bool o, .int .u8 l, .int .u8 h, .int .u8 r, .bool md] 24)
  generalize w.alloc (.cells #[.int .i64 3, .bool o, .int .u8 l, .int .u8 h, .int .u8 r, .bool md] 24) = W at bk hB ⊢
  have BK := Aside0.mk bk
  have HB := Aside0.mk hB
  clear bk hB
  have c0 : W.cell? ⟨w.heap.size, 0, none⟩ = some (.int .i64 3) := (blk_cell BK.out 0).trans rfl
  have c1 : W.cell? ⟨w.heap.size, 1, none⟩ = some (.bool o) := (blk_cell BK.out 1).trans rfl
  have c2 : W.cell? ⟨w.heap.size, 2, none⟩ = some (.int .u8 l) := (blk_cell BK.out 2).trans rfl
  have c3 : W.cell? ⟨w.heap.size, 3, none⟩ = some (.int .u8 h) := (blk_cell BK.out 3).trans rfl
  have c4 : W.cell? ⟨w.heap.size, 4, none⟩ = some (.int .u8 r) := (blk_cell BK.out 4).trans rfl
  have c5 : W.cell? ⟨w.heap.size, 5, none⟩ = some (.bool md) := (blk_cell BK.out 5).trans rfl
  go_region_held3 (fun w' => w'.cell? ⟨w.heap.size, 0, none⟩ = some (.int .i64 3) ∧ w'.cell? ⟨w.heap.size, 1, none⟩ = some (.bool o) ∧ w'.cell? ⟨w.heap.size, 2, none⟩ = some (.int .u8 l) ∧ w'.cell? ⟨w.heap.size, 3, none⟩ = some (.int .u8 h) ∧ w'.cell? ⟨w.heap.size, 4, none⟩ = some (.int .u8 r) ∧ w'.cell? ⟨w.heap.size, 5, none⟩ = some (.bool md)) (go_keep)
    (first | (go_at_call 23; ((with_reducible refine (of3 _).mono ?_)); rintro e' w2 ⟨rfl, rfl⟩)
           | (go_at_call 48; ((with_reducible refine (low_third 3 o l h r md _).mono ?_)); rintro e' w2 ⟨rfl, hb⟩; have n0 := Aside0.mk (blk_below (blk_drew BK.out) hb); have n1 := Aside0.mk (below_step (below_drew1 HB.out) hb); clear hb; have d0 : w2.cell? ⟨w.heap.size, 0, none⟩ = some (.int .i64 3) := (blk_cell n0.out 0).trans rfl; have d1 : w2.cell? ⟨w.heap.size, 1, none⟩ = some (.bool o) := (blk_cell n0.out 1).trans rfl; have d2 : w2.cell? ⟨w.heap.size, 2, none⟩ = some (.int .u8 l) := (blk_cell n0.out 2).trans rfl; have d3 : w2.cell? ⟨w.heap.size, 3, none⟩ = some (.int .u8 h) := (blk_cell n0.out 3).trans rfl; have d4 : w2.cell? ⟨w.heap.size, 4, none⟩ = some (.int .u8 r) := (blk_cell n0.out 4).trans rfl; have d5 : w2.cell? ⟨w.heap.size, 5, none⟩ = some (.bool md) := (blk_cell n0.out 5).trans rfl))
  rename_i hHeld
  clear hHeld
  go_wp2
  go_returns
  exact ⟨rfl, n1.out⟩
set_option maxRecDepth 100000 in
set_option maxHeartbeats 400000 in
theorem bank_low5 (k : Int) (o : Bool) (l h r : Int) (md : Bool) (a : Int)  (hp : a / 16384 = 0) (w : World) :
    Calls Try.prog 15 #[.agg #[.int .i64 5, .bool o, .int .u8 l, .int .u8 h, .int .u8 r, .bool md], .int .u16 a] w fun e' w' => e' = .returned (.int .i64 (0)) ∧ Below w.heap.size w w' := by
  go_enter Try.func15, Try.ntmps15
  go_wp2
  have bk := blk_new w (.cells #[.int .i64 5, .bool o, .int .u8 l, .int .u8 h, .int .u8 r, .bool md] 24)
  have hB := below_alloc (Below.refl w.heap.size w) (.cells #[.int .i64 5, .bool o, .int .u8 l, .int .u8 h, .int .u8 r, .bool md] 24)
  generalize w.alloc (.cells #[.int .i64 5, .bool o, .int .u8 l, .int .u8 h, .int .u8 r, .bool md] 24) = W at bk hB ⊢
  have BK := Aside0.mk bk
  have HB := Aside0.mk hB
  clear bk hB
  have c0 : W.cell? ⟨w.heap.size, 0, none⟩ = some (.int .i64 5) := (blk_cell BK.out 0).trans rfl
  have c1 : W.cell? ⟨w.heap.size, 1, none⟩ = some (.bool o) := (blk_cell BK.out 1).trans rfl
  have c2 : W.cell? ⟨w.heap.size, 2, none⟩ = some (.int .u8 l) := (blk_cell BK.out 2).trans rfl
  have c3 : W.cell? ⟨w.heap.size, 3, none⟩ = some (.int .u8 h) := (blk_cell BK.out 3).trans rfl
  have c4 : W.cell? ⟨w.heap.size, 4, none⟩ = some (.int .u8 r) := (blk_cell BK.out 4).trans rfl
  have c5 : W.cell? ⟨w.heap.size, 5, none⟩ = some (.bool md) := (blk_cell BK.out 5).trans rfl
  go_region_held3 (fun w' => w'.cell? ⟨w.heap.size, 0, none⟩ = some (.int .i64 5) ∧ w'.cell? ⟨w.heap.size, 1, none⟩ = some (.bool o) ∧ w'.cell? ⟨w.heap.size, 2, none⟩ = some (.int .u8 l) ∧ w'.cell? ⟨w.heap.size, 3, none⟩ = some (.int .u8 h) ∧ w'.cell? ⟨w.heap.size, 4, none⟩ = some (.int .u8 r) ∧ w'.cell? ⟨w.heap.size, 5, none⟩ = some (.bool md)) (go_keep)
    (first | (go_at_call 23; ((with_reducible refine (of5 _).mono ?_)); rintro e' w2 ⟨rfl, rfl⟩)
           | (go_at_call 52; ((with_reducible refine (low_fifth 5 o l h r md _).mono ?_)); rintro e' w2 ⟨rfl, hb⟩; have n0 := Aside0.mk (blk_below (blk_drew BK.out) hb); have n1 := Aside0.mk (below_step (below_drew1 HB.out) hb); clear hb; have d0 : w2.cell? ⟨w.heap.size, 0, none⟩ = some (.int .i64 5) := (blk_cell n0.out 0).trans rfl; have d1 : w2.cell? ⟨w.heap.size, 1, none⟩ = some (.bool o) := (blk_cell n0.out 1).trans rfl; have d2 : w2.cell? ⟨w.heap.size, 2, none⟩ = some (.int .u8 l) := (blk_cell n0.out 2).trans rfl; have d3 : w2.cell? ⟨w.heap.size, 3, none⟩ = some (.int .u8 h) := (blk_cell n0.out 3).trans rfl; have d4 : w2.cell? ⟨w.heap.size, 4, none⟩ = some (.int .u8 r) := (blk_cell n0.out 4).trans rfl; have d5 : w2.cell? ⟨w.heap.size, 5, none⟩ = some (.bool md) := (blk_cell n0.out 5).trans rfl))
  rename_i hHeld
  clear hHeld
  go_wp2
  go_returns
  exact ⟨rfl, n1.out⟩
set_option maxRecDepth 100000 in
set_option maxHeartbeats 400000 in
theorem bank_low0 (k : Int) (o : Bool) (l h r : Int) (md : Bool) (a : Int) (h1 : ¬ k = 1) (h3 : ¬ k = 3) (h5 : ¬ k = 5) (hp : a / 16384 = 0) (w : World) :
    Calls Try.prog 15 #[.agg #[.int .i64 k, .bool o, .int .u8 l, .int .u8 h, .int .u8 r, .bool md], .int .u16 a] w fun e' w' => e' = .returned (.int .i64 (0)) ∧ Below w.heap.size w w' := by
  go_enter Try.func15, Try.ntmps15
  go_wp2
  have bk := blk_new w (.cells #[.int .i64 k, .bool o, .int .u8 l, .int .u8 h, .int .u8 r, .bool md] 24)
  have hB := below_alloc (Below.refl w.heap.size w) (.cells #[.int .i64 k, .bool o, .int .u8 l, .int .u8 h, .int .u8 r, .bool md] 24)
  generalize w.alloc (.cells #[.int .i64 k, .bool o, .int .u8 l, .int .u8 h, .int .u8 r, .bool md] 24) = W at bk hB ⊢
  have BK := Aside0.mk bk
  have HB := Aside0.mk hB
  clear bk hB
  have c0 : W.cell? ⟨w.heap.size, 0, none⟩ = some (.int .i64 k) := (blk_cell BK.out 0).trans rfl
  have c1 : W.cell? ⟨w.heap.size, 1, none⟩ = some (.bool o) := (blk_cell BK.out 1).trans rfl
  have c2 : W.cell? ⟨w.heap.size, 2, none⟩ = some (.int .u8 l) := (blk_cell BK.out 2).trans rfl
  have c3 : W.cell? ⟨w.heap.size, 3, none⟩ = some (.int .u8 h) := (blk_cell BK.out 3).trans rfl
  have c4 : W.cell? ⟨w.heap.size, 4, none⟩ = some (.int .u8 r) := (blk_cell BK.out 4).trans rfl
  have c5 : W.cell? ⟨w.heap.size, 5, none⟩ = some (.bool md) := (blk_cell BK.out 5).trans rfl
  go_region_held3 (fun w' => w'.cell? ⟨w.heap.size, 0, none⟩ = some (.int .i64 k) ∧ w'.cell? ⟨w.heap.size, 1, none⟩ = some (.bool o) ∧ w'.cell? ⟨w.heap.size, 2, none⟩ = some (.int .u8 l) ∧ w'.cell? ⟨w.heap.size, 3, none⟩ = some (.int .u8 h) ∧ w'.cell? ⟨w.heap.size, 4, none⟩ = some (.int .u8 r) ∧ w'.cell? ⟨w.heap.size, 5, none⟩ = some (.bool md)) (go_keep)
    (first | (go_at_call 23; ((with_reducible refine (of0 k h1 h3 h5 _).mono ?_)); rintro e' w2 ⟨rfl, rfl⟩)
           | (go_at_call 56; ((with_reducible refine (low_plain k o l h r md _).mono ?_)); rintro e' w2 ⟨rfl, hb⟩; have n0 := Aside0.mk (blk_below (blk_drew BK.out) hb); have n1 := Aside0.mk (below_step (below_drew1 HB.out) hb); clear hb; have d0 : w2.cell? ⟨w.heap.size, 0, none⟩ = some (.int .i64 k) := (blk_cell n0.out 0).trans rfl; have d1 : w2.cell? ⟨w.heap.size, 1, none⟩ = some (.bool o) := (blk_cell n0.out 1).trans rfl; have d2 : w2.cell? ⟨w.heap.size, 2, none⟩ = some (.int .u8 l) := (blk_cell n0.out 2).trans rfl; have d3 : w2.cell? ⟨w.heap.size, 3, none⟩ = some (.int .u8 h) := (blk_cell n0.out 3).trans rfl; have d4 : w2.cell? ⟨w.heap.size, 4, none⟩ = some (.int .u8 r) := (blk_cell n0.out 4).trans rfl; have d5 : w2.cell? ⟨w.heap.size, 5, none⟩ = some (.bool md) := (blk_cell n0.out 5).trans rfl))
  rename_i hHeld
  clear hHeld
  go_wp2
  go_returns
  exact ⟨rfl, n1.out⟩
set_option maxRecDepth 100000 in
set_option maxHeartbeats 400000 in
theorem bank_high1 (k : Int) (o : Bool) (l h r : Int) (md : Bool) (a : Int)  (hp : a / 16384 = 1) (w : World) :
    Calls Try.prog 15 #[.agg #[.int .i64 1, .bool o, .int .u8 l, .int .u8 h, .int .u8 r, .bool md], .int .u16 a] w fun e' w' => e' = .returned (.int .i64 (wrap64 (wrap64 (32 * wrap64 h) + leastF l))) ∧ Below w.heap.size w w' := by
  go_enter Try.func15, Try.ntmps15
  go_wp2
  have bk := blk_new w (.cells #[.int .i64 1, .bool o, .int .u8 l, .int .u8 h, .int .u8 r, .bool md] 24)
  have hB := below_alloc (Below.refl w.heap.size w) (.cells #[.int .i64 1, .bool o, .int .u8 l, .int .u8 h, .int .u8 r, .bool md] 24)
  generalize w.alloc (.cells #[.int .i64 1, .bool o, .int .u8 l, .int .u8 h, .int .u8 r, .bool md] 24) = W at bk hB ⊢
  have BK := Aside0.mk bk
  have HB := Aside0.mk hB
  clear bk hB
  have c0 : W.cell? ⟨w.heap.size, 0, none⟩ = some (.int .i64 1) := (blk_cell BK.out 0).trans rfl
  have c1 : W.cell? ⟨w.heap.size, 1, none⟩ = some (.bool o) := (blk_cell BK.out 1).trans rfl
  have c2 : W.cell? ⟨w.heap.size, 2, none⟩ = some (.int .u8 l) := (blk_cell BK.out 2).trans rfl
  have c3 : W.cell? ⟨w.heap.size, 3, none⟩ = some (.int .u8 h) := (blk_cell BK.out 3).trans rfl
  have c4 : W.cell? ⟨w.heap.size, 4, none⟩ = some (.int .u8 r) := (blk_cell BK.out 4).trans rfl
  have c5 : W.cell? ⟨w.heap.size, 5, none⟩ = some (.bool md) := (blk_cell BK.out 5).trans rfl
  go_region_held3 (fun w' => w'.cell? ⟨w.heap.size, 0, none⟩ = some (.int .i64 1) ∧ w'.cell? ⟨w.heap.size, 1, none⟩ = some (.bool o) ∧ w'.cell? ⟨w.heap.size, 2, none⟩ = some (.int .u8 l) ∧ w'.cell? ⟨w.heap.size, 3, none⟩ = some (.int .u8 h) ∧ w'.cell? ⟨w.heap.size, 4, none⟩ = some (.int .u8 r) ∧ w'.cell? ⟨w.heap.size, 5, none⟩ = some (.bool md)) (go_keep)
    (first | (go_at_call 23; ((with_reducible refine (of1 _).mono ?_)); rintro e' w2 ⟨rfl, rfl⟩)
           | (go_at_call 41; ((with_reducible refine (high_first 1 o l h r md _).mono ?_)); rintro e' w2 ⟨rfl, hb⟩; have n0 := Aside0.mk (blk_below (blk_drew BK.out) hb); have n1 := Aside0.mk (below_step (below_drew1 HB.out) hb); clear hb; have d0 : w2.cell? ⟨w.heap.size, 0, none⟩ = some (.int .i64 1) := (blk_cell n0.out 0).trans rfl; have d1 : w2.cell? ⟨w.heap.size, 1, none⟩ = some (.bool o) := (blk_cell n0.out 1).trans rfl; have d2 : w2.cell? ⟨w.heap.size, 2, none⟩ = some (.int .u8 l) := (blk_cell n0.out 2).trans rfl; have d3 : w2.cell? ⟨w.heap.size, 3, none⟩ = some (.int .u8 h) := (blk_cell n0.out 3).trans rfl; have d4 : w2.cell? ⟨w.heap.size, 4, none⟩ = some (.int .u8 r) := (blk_cell n0.out 4).trans rfl; have d5 : w2.cell? ⟨w.heap.size, 5, none⟩ = some (.bool md) := (blk_cell n0.out 5).trans rfl))
  rename_i hHeld
  clear hHeld
  go_wp2
  go_returns
  exact ⟨rfl, n1.out⟩
set_option maxRecDepth 100000 in
set_option maxHeartbeats 400000 in
theorem bank_high3 (k : Int) (o : Bool) (l h r : Int) (md : Bool) (a : Int)  (hp : a / 16384 = 1) (w : World) :
    Calls Try.prog 15 #[.agg #[.int .i64 3, .bool o, .int .u8 l, .int .u8 h, .int .u8 r, .bool md], .int .u16 a] w fun e' w' => e' = .returned (.int .i64 (leastF l)) ∧ Below w.heap.size w w' := by
  go_enter Try.func15, Try.ntmps15
  go_wp2
  have bk := blk_new w (.cells #[.int .i64 3, .bool o, .int .u8 l, .int .u8 h, .int .u8 r, .bool md] 24)
  have hB := below_alloc (Below.refl w.heap.size w) (.cells #[.int .i64 3, .bool o, .int .u8 l, .int .u8 h, .int .u8 r, .bool md] 24)
  generalize w.alloc (.cells #[.int .i64 3, .bool o, .int .u8 l, .int .u8 h, .int .u8 r, .bool md] 24) = W at bk hB ⊢
  have BK := Aside0.mk bk
  have HB := Aside0.mk hB
  clear bk hB
  have c0 : W.cell? ⟨w.heap.size, 0, none⟩ = some (.int .i64 3) := (blk_cell BK.out 0).trans rfl
  have c1 : W.cell? ⟨w.heap.size, 1, none⟩ = some (.bool o) := (blk_cell BK.out 1).trans rfl
  have c2 : W.cell? ⟨w.heap.size, 2, none⟩ = some (.int .u8 l) := (blk_cell BK.out 2).trans rfl
  have c3 : W.cell? ⟨w.heap.size, 3, none⟩ = some (.int .u8 h) := (blk_cell BK.out 3).trans rfl
  have c4 : W.cell? ⟨w.heap.size, 4, none⟩ = some (.int .u8 r) := (blk_cell BK.out 4).trans rfl
  have c5 : W.cell? ⟨w.heap.size, 5, none⟩ = some (.bool md) := (blk_cell BK.out 5).trans rfl
  go_region_held3 (fun w' => w'.cell? ⟨w.heap.size, 0, none⟩ = some (.int .i64 3) ∧ w'.cell? ⟨w.heap.size, 1, none⟩ = some (.bool o) ∧ w'.cell? ⟨w.heap.size, 2, none⟩ = some (.int .u8 l) ∧ w'.cell? ⟨w.heap.size, 3, none⟩ = some (.int .u8 h) ∧ w'.cell? ⟨w.heap.size, 4, none⟩ = some (.int .u8 r) ∧ w'.cell? ⟨w.heap.size, 5, none⟩ = some (.bool md)) (go_keep)
    (first | (go_at_call 23; ((with_reducible refine (of3 _).mono ?_)); rintro e' w2 ⟨rfl, rfl⟩)
           | (go_at_call 47; ((with_reducible refine (high_third 3 o l h r md _).mono ?_)); rintro e' w2 ⟨rfl, hb⟩; have n0 := Aside0.mk (blk_below (blk_drew BK.out) hb); have n1 := Aside0.mk (below_step (below_drew1 HB.out) hb); clear hb; have d0 : w2.cell? ⟨w.heap.size, 0, none⟩ = some (.int .i64 3) := (blk_cell n0.out 0).trans rfl; have d1 : w2.cell? ⟨w.heap.size, 1, none⟩ = some (.bool o) := (blk_cell n0.out 1).trans rfl; have d2 : w2.cell? ⟨w.heap.size, 2, none⟩ = some (.int .u8 l) := (blk_cell n0.out 2).trans rfl; have d3 : w2.cell? ⟨w.heap.size, 3, none⟩ = some (.int .u8 h) := (blk_cell n0.out 3).trans rfl; have d4 : w2.cell? ⟨w.heap.size, 4, none⟩ = some (.int .u8 r) := (blk_cell n0.out 4).trans rfl; have d5 : w2.cell? ⟨w.heap.size, 5, none⟩ = some (.bool md) := (blk_cell n0.out 5).trans rfl))
  rename_i hHeld
  clear hHeld
  go_wp2
  go_returns
  exact ⟨rfl, n1.out⟩
set_option maxRecDepth 100000 in
set_option maxHeartbeats 400000 in
theorem bank_high5 (k : Int) (o : Bool) (l h r : Int) (md : Bool) (a : Int)  (hp : a / 16384 = 1) (w : World) :
    Calls Try.prog 15 #[.agg #[.int .i64 5, .bool o, .int .u8 l, .int .u8 h, .int .u8 r, .bool md], .int .u16 a] w fun e' w' => e' = .returned (.int .i64 (wrap64 (wrap64 (256 * wrap64 h) + wrap64 l))) ∧ Below w.heap.size w w' := by
  go_enter Try.func15, Try.ntmps15
  go_wp2
  have bk := blk_new w (.cells #[.int .i64 5, .bool o, .int .u8 l, .int .u8 h, .int .u8 r, .bool md] 24)
  have hB := below_alloc (Below.refl w.heap.size w) (.cells #[.int .i64 5, .bool o, .int .u8 l, .int .u8 h, .int .u8 r, .bool md] 24)
  generalize w.alloc (.cells #[.int .i64 5, .bool o, .int .u8 l, .int .u8 h, .int .u8 r, .bool md] 24) = W at bk hB ⊢
  have BK := Aside0.mk bk
  have HB := Aside0.mk hB
  clear bk hB
  have c0 : W.cell? ⟨w.heap.size, 0, none⟩ = some (.int .i64 5) := (blk_cell BK.out 0).trans rfl
  have c1 : W.cell? ⟨w.heap.size, 1, none⟩ = some (.bool o) := (blk_cell BK.out 1).trans rfl
  have c2 : W.cell? ⟨w.heap.size, 2, none⟩ = some (.int .u8 l) := (blk_cell BK.out 2).trans rfl
  have c3 : W.cell? ⟨w.heap.size, 3, none⟩ = some (.int .u8 h) := (blk_cell BK.out 3).trans rfl
  have c4 : W.cell? ⟨w.heap.size, 4, none⟩ = some (.int .u8 r) := (blk_cell BK.out 4).trans rfl
  have c5 : W.cell? ⟨w.heap.size, 5, none⟩ = some (.bool md) := (blk_cell BK.out 5).trans rfl
  go_region_held3 (fun w' => w'.cell? ⟨w.heap.size, 0, none⟩ = some (.int .i64 5) ∧ w'.cell? ⟨w.heap.size, 1, none⟩ = some (.bool o) ∧ w'.cell? ⟨w.heap.size, 2, none⟩ = some (.int .u8 l) ∧ w'.cell? ⟨w.heap.size, 3, none⟩ = some (.int .u8 h) ∧ w'.cell? ⟨w.heap.size, 4, none⟩ = some (.int .u8 r) ∧ w'.cell? ⟨w.heap.size, 5, none⟩ = some (.bool md)) (go_keep)
    (first | (go_at_call 23; ((with_reducible refine (of5 _).mono ?_)); rintro e' w2 ⟨rfl, rfl⟩)
           | (go_at_call 51; ((with_reducible refine (high_fifth 5 o l h r md _).mono ?_)); rintro e' w2 ⟨rfl, hb⟩; have n0 := Aside0.mk (blk_below (blk_drew BK.out) hb); have n1 := Aside0.mk (below_step (below_drew1 HB.out) hb); clear hb; have d0 : w2.cell? ⟨w.heap.size, 0, none⟩ = some (.int .i64 5) := (blk_cell n0.out 0).trans rfl; have d1 : w2.cell? ⟨w.heap.size, 1, none⟩ = some (.bool o) := (blk_cell n0.out 1).trans rfl; have d2 : w2.cell? ⟨w.heap.size, 2, none⟩ = some (.int .u8 l) := (blk_cell n0.out 2).trans rfl; have d3 : w2.cell? ⟨w.heap.size, 3, none⟩ = some (.int .u8 h) := (blk_cell n0.out 3).trans rfl; have d4 : w2.cell? ⟨w.heap.size, 4, none⟩ = some (.int .u8 r) := (blk_cell n0.out 4).trans rfl; have d5 : w2.cell? ⟨w.heap.size, 5, none⟩ = some (.bool md) := (blk_cell n0.out 5).trans rfl))
  rename_i hHeld
  clear hHeld
  go_wp2
  go_returns
  exact ⟨rfl, n1.out⟩
set_option maxRecDepth 100000 in
set_option maxHeartbeats 400000 in
theorem bank_high0 (k : Int) (o : Bool) (l h r : Int) (md : Bool) (a : Int) (h1 : ¬ k = 1) (h3 : ¬ k = 3) (h5 : ¬ k = 5) (hp : a / 16384 = 1) (w : World) :
    Calls Try.prog 15 #[.agg #[.int .i64 k, .bool o, .int .u8 l, .int .u8 h, .int .u8 r, .bool md], .int .u16 a] w fun e' w' => e' = .returned (.int .i64 (1)) ∧ Below w.heap.size w w' := by
  go_enter Try.func15, Try.ntmps15
  go_wp2
  have bk := blk_new w (.cells #[.int .i64 k, .bool o, .int .u8 l, .int .u8 h, .int .u8 r, .bool md] 24)
  have hB := below_alloc (Below.refl w.heap.size w) (.cells #[.int .i64 k, .bool o, .int .u8 l, .int .u8 h, .int .u8 r, .bool md] 24)
  generalize w.alloc (.cells #[.int .i64 k, .bool o, .int .u8 l, .int .u8 h, .int .u8 r, .bool md] 24) = W at bk hB ⊢
  have BK := Aside0.mk bk
  have HB := Aside0.mk hB
  clear bk hB
  have c0 : W.cell? ⟨w.heap.size, 0, none⟩ = some (.int .i64 k) := (blk_cell BK.out 0).trans rfl
  have c1 : W.cell? ⟨w.heap.size, 1, none⟩ = some (.bool o) := (blk_cell BK.out 1).trans rfl
  have c2 : W.cell? ⟨w.heap.size, 2, none⟩ = some (.int .u8 l) := (blk_cell BK.out 2).trans rfl
  have c3 : W.cell? ⟨w.heap.size, 3, none⟩ = some (.int .u8 h) := (blk_cell BK.out 3).trans rfl
  have c4 : W.cell? ⟨w.heap.size, 4, none⟩ = some (.int .u8 r) := (blk_cell BK.out 4).trans rfl
  have c5 : W.cell? ⟨w.heap.size, 5, none⟩ = some (.bool md) := (blk_cell BK.out 5).trans rfl
  go_region_held3 (fun w' => w'.cell? ⟨w.heap.size, 0, none⟩ = some (.int .i64 k) ∧ w'.cell? ⟨w.heap.size, 1, none⟩ = some (.bool o) ∧ w'.cell? ⟨w.heap.size, 2, none⟩ = some (.int .u8 l) ∧ w'.cell? ⟨w.heap.size, 3, none⟩ = some (.int .u8 h) ∧ w'.cell? ⟨w.heap.size, 4, none⟩ = some (.int .u8 r) ∧ w'.cell? ⟨w.heap.size, 5, none⟩ = some (.bool md)) (go_keep)
    (first | (go_at_call 23; ((with_reducible refine (of0 k h1 h3 h5 _).mono ?_)); rintro e' w2 ⟨rfl, rfl⟩)
           | (go_at_call 55; ((with_reducible refine (high_plain k o l h r md _).mono ?_)); rintro e' w2 ⟨rfl, hb⟩; have n0 := Aside0.mk (blk_below (blk_drew BK.out) hb); have n1 := Aside0.mk (below_step (below_drew1 HB.out) hb); clear hb; have d0 : w2.cell? ⟨w.heap.size, 0, none⟩ = some (.int .i64 k) := (blk_cell n0.out 0).trans rfl; have d1 : w2.cell? ⟨w.heap.size, 1, none⟩ = some (.bool o) := (blk_cell n0.out 1).trans rfl; have d2 : w2.cell? ⟨w.heap.size, 2, none⟩ = some (.int .u8 l) := (blk_cell n0.out 2).trans rfl; have d3 : w2.cell? ⟨w.heap.size, 3, none⟩ = some (.int .u8 h) := (blk_cell n0.out 3).trans rfl; have d4 : w2.cell? ⟨w.heap.size, 4, none⟩ = some (.int .u8 r) := (blk_cell n0.out 4).trans rfl; have d5 : w2.cell? ⟨w.heap.size, 5, none⟩ = some (.bool md) := (blk_cell n0.out 5).trans rfl))
  rename_i hHeld
  clear hHeld
  go_wp2
  go_returns
  exact ⟨rfl, n1.out⟩
set_option maxRecDepth 100000 in
set_option maxHeartbeats 400000 in
theorem bank_no (k : Int) (o : Bool) (l h r : Int) (md : Bool) (a : Int) (h0 : ¬ a / 16384 = 0) (h1 : ¬ a / 16384 = 1) (w : World) :
    Calls Try.prog 15 #[.agg #[.int .i64 k, .bool o, .int .u8 l, .int .u8 h, .int .u8 r, .bool md], .int .u16 a] w fun e' w' => e' = .returned (.int .i64 0) ∧ Below w.heap.size w w' := by
  go_enter Try.func15, Try.ntmps15
  go_wp2
  go_returns
  exact ⟨rfl, by go_grown⟩
def bankF (k l h : Int) (md : Bool) (q : Int) : Int :=
  if q = 0 then (if k = 1 then (if md = true then wrap64 (32 * wrap64 h) else 0) else 0)
  else if q = 1 then (if k = 1 then wrap64 (wrap64 (32 * wrap64 h) + leastF l) else if k = 3 then leastF l else if k = 5 then wrap64 (wrap64 (256 * wrap64 h) + wrap64 l) else 1)
  else 0
def mapper_Bank.f (a0_0 : Int) (a0_1 : Bool) (a0_2 a0_3 a0_4 : Int) (a0_5 : Bool) (a1 : Int) : Option Int := some (bankF a0_0 a0_2 a0_3 a0_5 (a1 / 16384))
theorem mapper_Bank.calls (a0_0 : Int) (a0_1 : Bool) (a0_2 a0_3 a0_4 : Int) (a0_5 : Bool) (a1 : Int) (r : Int) (w : World) (hf : mapper_Bank.f a0_0 a0_1 a0_2 a0_3 a0_4 a0_5 a1 = some r) :
    Calls Try.prog 15 #[.agg #[.int .i64 a0_0, .bool a0_1, .int .u8 a0_2, .int .u8 a0_3, .int .u8 a0_4, .bool a0_5], .int .u16 a1] w fun e w' => e = .returned (.int .i64 r) ∧ Below w.heap.size w w' := by
  obtain rfl := Option.some.inj hf
  clear hf
  unfold bankF
  by_cases q0 : a1 / 16384 = 0
  · rw [if_pos q0]
    by_cases k1 : a0_0 = 1
    · subst k1
      rw [if_pos rfl]
      cases a0_5 with
      | true => exact bank_low1 0 _ _ _ _ true _ q0 w
      | false => exact bank_low2 0 _ _ _ _ false _ q0 w
    rw [if_neg k1]
    by_cases k3 : a0_0 = 3
    · subst k3; exact bank_low3 0 _ _ _ _ _ _ q0 w
    by_cases k5 : a0_0 = 5
    · subst k5; exact bank_low5 0 _ _ _ _ _ _ q0 w
    exact bank_low0 _ _ _ _ _ _ _ k1 k3 k5 q0 w
  rw [if_neg q0]
  by_cases q1 : a1 / 16384 = 1
  · rw [if_pos q1]
    by_cases k1 : a0_0 = 1
    · subst k1
      rw [if_pos rfl]
      exact bank_high1 0 _ _ _ _ _ _ q1 w
    rw [if_neg k1]
    by_cases k3 : a0_0 = 3
    · subst k3
      rw [if_pos rfl]
      exact bank_high3 0 _ _ _ _ _ _ q1 w
    rw [if_neg k3]
    by_cases k5 : a0_0 = 5
    · subst k5
      rw [if_pos rfl]
      exact bank_high5 0 _ _ _ _ _ _ q1 w
    rw [if_neg k5]
    exact bank_high0 _ _ _ _ _ _ _ k1 k3 k5 q1 w
  rw [if_neg q1]
  exact bank_no _ _ _ _ _ _ _ q0 q1 w
end Go.Proofs.Ytkogdocpldfmnaa.Hand
