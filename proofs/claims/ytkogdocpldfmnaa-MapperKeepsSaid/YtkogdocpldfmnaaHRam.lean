/- The mapper's Ram by hand: the chip asked through its interface. -/
import Derived.Test.YtkogdocpldfmnaaHChips
import Derived.Test.YtkogdocpldfmnaaG3
namespace Go.Proofs.Ytkogdocpldfmnaa.Hand
open Go.RowKit
open Go.Proofs.Ytkogdocpldfmnaa.G
open Go.Proofs.YtkogdocpldfmnaaW.PrintWords Go.Proofs.YtkogdocpldfmnaaW.PrintLast Go.Proofs.YtkogdocpldfmnaaW.PrintMore
set_option linter.unusedVariables false
set_option linter.unusedSimpArgs false
def ramR (b : Int) (ok : Bool) (a s : Int) : Int :=
  if s < 1 then -1 else if ¬ a / 8192 = 5 then -1 else if ok = true then Int.tmod (wrap64 (wrap64 (wrap64 (b * 8192) + a) - 40960)) s else -1
def ramZ (ok : Bool) (a s : Int) : Int :=
  if s < 1 then -1 else if ¬ a / 8192 = 5 then -1 else if ok = true then (a - 40960) % s else -1
set_option maxRecDepth 100000 in
set_option maxHeartbeats 400000 in
theorem ram1a_true_a (k : Int) (o : Bool) (l h r : Int) (md : Bool) (a : Int) (s : Int)   (hs : s < 1) (w : World) :
    Calls Try.prog 17 #[.agg #[.int .i64 1, .bool true, .int .u8 l, .int .u8 h, .int .u8 r, .bool true], .int .u16 a, .int .i64 s] w fun e' w' => e' = .returned (.int .i64 (-1)) ∧ Below w.heap.size w w' := by
  go_enter Try.func17, Try.ntmps17
  go_wp2
  have bk := blk_new w (.cells #[.int .i64 1, .bool true, .int .u8 l, .int .u8 h, .int .u8 r, .bool true] 24)
  have hB := below_alloc (Below.refl w.heap.size w) (.cells #[.int .i64 1, .bool true, .int .u8 l, .int .u8 h, .int .u8 r, .bool true] 24)
  generalize w.alloc (.cells #[.int .i64 1, .bool true, .int .u8 l, .int .u8 h, .int .u8 r, .bool true] 24) = W at bk hB ⊢
  have BK := Aside0.mk bk
  have HB := Aside0.mk hB
  clear bk hB
  have c0 : W.cell? ⟨w.heap.size, 0, none⟩ = some (.int .i64 1) := (blk_cell BK.out 0).trans rfl
  have c1 : W.cell? ⟨w.heap.size, 1, none⟩ = some (.bool true) := (blk_cell BK.out 1).trans rfl
  have c2 : W.cell? ⟨w.heap.size, 2, none⟩ = some (.int .u8 l) := (blk_cell BK.out 2).trans rfl
  have c3 : W.cell? ⟨w.heap.size, 3, none⟩ = some (.int .u8 h) := (blk_cell BK.out 3).trans rfl
  have c4 : W.cell? ⟨w.heap.size, 4, none⟩ = some (.int .u8 r) := (blk_cell BK.out 4).trans rfl
  have c5 : W.cell? ⟨w.heap.size, 5, none⟩ = some (.bool true) := (blk_cell BK.out 5).trans rfl
  go_region_held3 (fun w' => w'.cell? ⟨w.heap.size, 0, none⟩ = some (.int .i64 1) ∧ w'.cell? ⟨w.heap.size, 1, none⟩ = some (.bool true) ∧ w'.cell? ⟨w.heap.size, 2, none⟩ = some (.int .u8 l) ∧ w'.cell? ⟨w.heap.size, 3, none⟩ = some (.int .u8 h) ∧ w'.cell? ⟨w.heap.size, 4, none⟩ = some (.int .u8 r) ∧ w'.cell? ⟨w.heap.size, 5, none⟩ = some (.bool true)) (go_keep)
    (first | (go_at_call 23; ((with_reducible refine (of1 _).mono ?_)); rintro e' w2 ⟨rfl, rfl⟩)
           | (go_at_call 43; ((with_reducible refine (ram_first1 1 true l h r _).mono ?_)); rintro e' w2 ⟨rfl, hb⟩; have n0 := Aside0.mk (blk_below (blk_drew BK.out) hb); have n1 := Aside0.mk (below_step (below_drew1 HB.out) hb); clear hb; have d0 : w2.cell? ⟨w.heap.size, 0, none⟩ = some (.int .i64 1) := (blk_cell n0.out 0).trans rfl; have d1 : w2.cell? ⟨w.heap.size, 1, none⟩ = some (.bool true) := (blk_cell n0.out 1).trans rfl; have d2 : w2.cell? ⟨w.heap.size, 2, none⟩ = some (.int .u8 l) := (blk_cell n0.out 2).trans rfl; have d3 : w2.cell? ⟨w.heap.size, 3, none⟩ = some (.int .u8 h) := (blk_cell n0.out 3).trans rfl; have d4 : w2.cell? ⟨w.heap.size, 4, none⟩ = some (.int .u8 r) := (blk_cell n0.out 4).trans rfl; have d5 : w2.cell? ⟨w.heap.size, 5, none⟩ = some (.bool true) := (blk_cell n0.out 5).trans rfl))
  rename_i hHeld
  clear hHeld
  go_wp2
  go_returns
  exact ⟨rfl, n1.out⟩
set_option maxRecDepth 100000 in
set_option maxHeartbeats 400000 in
theorem ram1a_true_b (k : Int) (o : Bool) (l h r : Int) (md : Bool) (a : Int) (s : Int)   (hs : ¬ s < 1) (hi : ¬ a / 8192 = 5) (w : World) :
    Calls Try.prog 17 #[.agg #[.int .i64 1, .bool true, .int .u8 l, .int .u8 h, .int .u8 r, .bool true], .int .u16 a, .int .i64 s] w fun e' w' => e' = .returned (.int .i64 (-1)) ∧ Below w.heap.size w w' := by
  go_enter Try.func17, Try.ntmps17
  go_wp2
  have bk := blk_new w (.cells #[.int .i64 1, .bool true, .int .u8 l, .int .u8 h, .int .u8 r, .bool true] 24)
  have hB := below_alloc (Below.refl w.heap.size w) (.cells #[.int .i64 1, .bool true, .int .u8 l, .int .u8 h, .int .u8 r, .bool true] 24)
  generalize w.alloc (.cells #[.int .i64 1, .bool true, .int .u8 l, .int .u8 h, .int .u8 r, .bool true] 24) = W at bk hB ⊢
  have BK := Aside0.mk bk
  have HB := Aside0.mk hB
  clear bk hB
  have c0 : W.cell? ⟨w.heap.size, 0, none⟩ = some (.int .i64 1) := (blk_cell BK.out 0).trans rfl
  have c1 : W.cell? ⟨w.heap.size, 1, none⟩ = some (.bool true) := (blk_cell BK.out 1).trans rfl
  have c2 : W.cell? ⟨w.heap.size, 2, none⟩ = some (.int .u8 l) := (blk_cell BK.out 2).trans rfl
  have c3 : W.cell? ⟨w.heap.size, 3, none⟩ = some (.int .u8 h) := (blk_cell BK.out 3).trans rfl
  have c4 : W.cell? ⟨w.heap.size, 4, none⟩ = some (.int .u8 r) := (blk_cell BK.out 4).trans rfl
  have c5 : W.cell? ⟨w.heap.size, 5, none⟩ = some (.bool true) := (blk_cell BK.out 5).trans rfl
  go_region_held3 (fun w' => w'.cell? ⟨w.heap.size, 0, none⟩ = some (.int .i64 1) ∧ w'.cell? ⟨w.heap.size, 1, none⟩ = some (.bool true) ∧ w'.cell? ⟨w.heap.size, 2, none⟩ = some (.int .u8 l) ∧ w'.cell? ⟨w.heap.size, 3, none⟩ = some (.int .u8 h) ∧ w'.cell? ⟨w.heap.size, 4, none⟩ = some (.int .u8 r) ∧ w'.cell? ⟨w.heap.size, 5, none⟩ = some (.bool true)) (go_keep)
    (first | (go_at_call 23; ((with_reducible refine (of1 _).mono ?_)); rintro e' w2 ⟨rfl, rfl⟩)
           | (go_at_call 43; ((with_reducible refine (ram_first1 1 true l h r _).mono ?_)); rintro e' w2 ⟨rfl, hb⟩; have n0 := Aside0.mk (blk_below (blk_drew BK.out) hb); have n1 := Aside0.mk (below_step (below_drew1 HB.out) hb); clear hb; have d0 : w2.cell? ⟨w.heap.size, 0, none⟩ = some (.int .i64 1) := (blk_cell n0.out 0).trans rfl; have d1 : w2.cell? ⟨w.heap.size, 1, none⟩ = some (.bool true) := (blk_cell n0.out 1).trans rfl; have d2 : w2.cell? ⟨w.heap.size, 2, none⟩ = some (.int .u8 l) := (blk_cell n0.out 2).trans rfl; have d3 : w2.cell? ⟨w.heap.size, 3, none⟩ = some (.int .u8 h) := (blk_cell n0.out 3).trans rfl; have d4 : w2.cell? ⟨w.heap.size, 4, none⟩ = some (.int .u8 r) := (blk_cell n0.out 4).trans rfl; have d5 : w2.cell? ⟨w.heap.size, 5, none⟩ = some (.bool true) := (blk_cell n0.out 5).trans rfl))
  rename_i hHeld
  clear hHeld
  go_wp2
  go_returns
  exact ⟨rfl, n1.out⟩
set_option maxRecDepth 100000 in
set_option maxHeartbeats 400000 in
theorem ram1a_true_c (k : Int) (o : Bool) (l h r : Int) (md : Bool) (a : Int) (s : Int)   (hs : ¬ s < 1) (hi : a / 8192 = 5) (w : World) :
    Calls Try.prog 17 #[.agg #[.int .i64 1, .bool true, .int .u8 l, .int .u8 h, .int .u8 r, .bool true], .int .u16 a, .int .i64 s] w fun e' w' => e' = .returned (.int .i64 (Int.tmod (wrap64 (wrap64 (wrap64 (wrap64 h * 8192) + a) - 40960)) s)) ∧ Below w.heap.size w w' := by
  go_enter Try.func17, Try.ntmps17
  go_wp2
  have bk := blk_new w (.cells #[.int .i64 1, .bool true, .int .u8 l, .int .u8 h, .int .u8 r, .bool true] 24)
  have hB := below_alloc (Below.refl w.heap.size w) (.cells #[.int .i64 1, .bool true, .int .u8 l, .int .u8 h, .int .u8 r, .bool true] 24)
  generalize w.alloc (.cells #[.int .i64 1, .bool true, .int .u8 l, .int .u8 h, .int .u8 r, .bool true] 24) = W at bk hB ⊢
  have BK := Aside0.mk bk
  have HB := Aside0.mk hB
  clear bk hB
  have c0 : W.cell? ⟨w.heap.size, 0, none⟩ = some (.int .i64 1) := (blk_cell BK.out 0).trans rfl
  have c1 : W.cell? ⟨w.heap.size, 1, none⟩ = some (.bool true) := (blk_cell BK.out 1).trans rfl
  have c2 : W.cell? ⟨w.heap.size, 2, none⟩ = some (.int .u8 l) := (blk_cell BK.out 2).trans rfl
  have c3 : W.cell? ⟨w.heap.size, 3, none⟩ = some (.int .u8 h) := (blk_cell BK.out 3).trans rfl
  have c4 : W.cell? ⟨w.heap.size, 4, none⟩ = some (.int .u8 r) := (blk_cell BK.out 4).trans rfl
  have c5 : W.cell? ⟨w.heap.size, 5, none⟩ = some (.bool true) := (blk_cell BK.out 5).trans rfl
  go_region_held3 (fun w' => w'.cell? ⟨w.heap.size, 0, none⟩ = some (.int .i64 1) ∧ w'.cell? ⟨w.heap.size, 1, none⟩ = some (.bool true) ∧ w'.cell? ⟨w.heap.size, 2, none⟩ = some (.int .u8 l) ∧ w'.cell? ⟨w.heap.size, 3, none⟩ = some (.int .u8 h) ∧ w'.cell? ⟨w.heap.size, 4, none⟩ = some (.int .u8 r) ∧ w'.cell? ⟨w.heap.size, 5, none⟩ = some (.bool true)) (go_keep)
    (first | (go_at_call 23; ((with_reducible refine (of1 _).mono ?_)); rintro e' w2 ⟨rfl, rfl⟩)
           | (go_at_call 43; ((with_reducible refine (ram_first1 1 true l h r _).mono ?_)); rintro e' w2 ⟨rfl, hb⟩; have n0 := Aside0.mk (blk_below (blk_drew BK.out) hb); have n1 := Aside0.mk (below_step (below_drew1 HB.out) hb); clear hb; have d0 : w2.cell? ⟨w.heap.size, 0, none⟩ = some (.int .i64 1) := (blk_cell n0.out 0).trans rfl; have d1 : w2.cell? ⟨w.heap.size, 1, none⟩ = some (.bool true) := (blk_cell n0.out 1).trans rfl; have d2 : w2.cell? ⟨w.heap.size, 2, none⟩ = some (.int .u8 l) := (blk_cell n0.out 2).trans rfl; have d3 : w2.cell? ⟨w.heap.size, 3, none⟩ = some (.int .u8 h) := (blk_cell n0.out 3).trans rfl; have d4 : w2.cell? ⟨w.heap.size, 4, none⟩ = some (.int .u8 r) := (blk_cell n0.out 4).trans rfl; have d5 : w2.cell? ⟨w.heap.size, 5, none⟩ = some (.bool true) := (blk_cell n0.out 5).trans rfl))
  rename_i hHeld
  clear hHeld
  go_wp2
  go_returns
  exact ⟨rfl, n1.out⟩
theorem ram1a_true (k : Int) (o : Bool) (l h r : Int) (md : Bool) (a : Int) (s : Int)   (w : World) :
    Calls Try.prog 17 #[.agg #[.int .i64 1, .bool true, .int .u8 l, .int .u8 h, .int .u8 r, .bool true], .int .u16 a, .int .i64 s] w fun e' w' => e' = .returned (.int .i64 (ramR (wrap64 h) true a s)) ∧ Below w.heap.size w w' := by
  unfold ramR
  by_cases hs : s < 1
  · rw [if_pos hs]; exact ram1a_true_a k o l h r md a s  hs w
  rw [if_neg hs]
  by_cases hi : a / 8192 = 5
  · rw [if_neg (by simpa using hi), if_pos rfl]; exact ram1a_true_c k o l h r md a s  hs hi w
  · rw [if_pos hi]; exact ram1a_true_b k o l h r md a s  hs hi w
set_option maxRecDepth 100000 in
set_option maxHeartbeats 400000 in
theorem ram1b_true_a (k : Int) (o : Bool) (l h r : Int) (md : Bool) (a : Int) (s : Int)   (hs : s < 1) (w : World) :
    Calls Try.prog 17 #[.agg #[.int .i64 1, .bool true, .int .u8 l, .int .u8 h, .int .u8 r, .bool false], .int .u16 a, .int .i64 s] w fun e' w' => e' = .returned (.int .i64 (-1)) ∧ Below w.heap.size w w' := by
  go_enter Try.func17, Try.ntmps17
  go_wp2
  have bk := blk_new w (.cells #[.int .i64 1, .bool true, .int .u8 l, .int .u8 h, .int .u8 r, .bool false] 24)
  have hB := below_alloc (Below.refl w.heap.size w) (.cells #[.int .i64 1, .bool true, .int .u8 l, .int .u8 h, .int .u8 r, .bool false] 24)
  generalize w.alloc (.cells #[.int .i64 1, .bool true, .int .u8 l, .int .u8 h, .int .u8 r, .bool false] 24) = W at bk hB ⊢
  have BK := Aside0.mk bk
  have HB := Aside0.mk hB
  clear bk hB
  have c0 : W.cell? ⟨w.heap.size, 0, none⟩ = some (.int .i64 1) := (blk_cell BK.out 0).trans rfl
  have c1 : W.cell? ⟨w.heap.size, 1, none⟩ = some (.bool true) := (blk_cell BK.out 1).trans rfl
  have c2 : W.cell? ⟨w.heap.size, 2, none⟩ = some (.int .u8 l) := (blk_cell BK.out 2).trans rfl
  have c3 : W.cell? ⟨w.heap.size, 3, none⟩ = some (.int .u8 h) := (blk_cell BK.out 3).trans rfl
  have c4 : W.cell? ⟨w.heap.size, 4, none⟩ = some (.int .u8 r) := (blk_cell BK.out 4).trans rfl
  have c5 : W.cell? ⟨w.heap.size, 5, none⟩ = some (.bool false) := (blk_cell BK.out 5).trans rfl
  go_region_held3 (fun w' => w'.cell? ⟨w.heap.size, 0, none⟩ = some (.int .i64 1) ∧ w'.cell? ⟨w.heap.size, 1, none⟩ = some (.bool true) ∧ w'.cell? ⟨w.heap.size, 2, none⟩ = some (.int .u8 l) ∧ w'.cell? ⟨w.heap.size, 3, none⟩ = some (.int .u8 h) ∧ w'.cell? ⟨w.heap.size, 4, none⟩ = some (.int .u8 r) ∧ w'.cell? ⟨w.heap.size, 5, none⟩ = some (.bool false)) (go_keep)
    (first | (go_at_call 23; ((with_reducible refine (of1 _).mono ?_)); rintro e' w2 ⟨rfl, rfl⟩)
           | (go_at_call 43; ((with_reducible refine (ram_first0 1 true l h r _).mono ?_)); rintro e' w2 ⟨rfl, hb⟩; have n0 := Aside0.mk (blk_below (blk_drew BK.out) hb); have n1 := Aside0.mk (below_step (below_drew1 HB.out) hb); clear hb; have d0 : w2.cell? ⟨w.heap.size, 0, none⟩ = some (.int .i64 1) := (blk_cell n0.out 0).trans rfl; have d1 : w2.cell? ⟨w.heap.size, 1, none⟩ = some (.bool true) := (blk_cell n0.out 1).trans rfl; have d2 : w2.cell? ⟨w.heap.size, 2, none⟩ = some (.int .u8 l) := (blk_cell n0.out 2).trans rfl; have d3 : w2.cell? ⟨w.heap.size, 3, none⟩ = some (.int .u8 h) := (blk_cell n0.out 3).trans rfl; have d4 : w2.cell? ⟨w.heap.size, 4, none⟩ = some (.int .u8 r) := (blk_cell n0.out 4).trans rfl; have d5 : w2.cell? ⟨w.heap.size, 5, none⟩ = some (.bool false) := (blk_cell n0.out 5).trans rfl))
  rename_i hHeld
  clear hHeld
  go_wp2
  go_returns
  exact ⟨rfl, n1.out⟩
set_option maxRecDepth 100000 in
set_option maxHeartbeats 400000 in
theorem ram1b_true_b (k : Int) (o : Bool) (l h r : Int) (md : Bool) (a : Int) (s : Int)   (hs : ¬ s < 1) (hi : ¬ a / 8192 = 5) (w : World) :
    Calls Try.prog 17 #[.agg #[.int .i64 1, .bool true, .int .u8 l, .int .u8 h, .int .u8 r, .bool false], .int .u16 a, .int .i64 s] w fun e' w' => e' = .returned (.int .i64 (-1)) ∧ Below w.heap.size w w' := by
  go_enter Try.func17, Try.ntmps17
  go_wp2
  have bk := blk_new w (.cells #[.int .i64 1, .bool true, .int .u8 l, .int .u8 h, .int .u8 r, .bool false] 24)
  have hB := below_alloc (Below.refl w.heap.size w) (.cells #[.int .i64 1, .bool true, .int .u8 l, .int .u8 h, .int .u8 r, .bool false] 24)
  generalize w.alloc (.cells #[.int .i64 1, .bool true, .int .u8 l, .int .u8 h, .int .u8 r, .bool false] 24) = W at bk hB ⊢
  have BK := Aside0.mk bk
  have HB := Aside0.mk hB
  clear bk hB
  have c0 : W.cell? ⟨w.heap.size, 0, none⟩ = some (.int .i64 1) := (blk_cell BK.out 0).trans rfl
  have c1 : W.cell? ⟨w.heap.size, 1, none⟩ = some (.bool true) := (blk_cell BK.out 1).trans rfl
  have c2 : W.cell? ⟨w.heap.size, 2, none⟩ = some (.int .u8 l) := (blk_cell BK.out 2).trans rfl
  have c3 : W.cell? ⟨w.heap.size, 3, none⟩ = some (.int .u8 h) := (blk_cell BK.out 3).trans rfl
  have c4 : W.cell? ⟨w.heap.size, 4, none⟩ = some (.int .u8 r) := (blk_cell BK.out 4).trans rfl
  have c5 : W.cell? ⟨w.heap.size, 5, none⟩ = some (.bool false) := (blk_cell BK.out 5).trans rfl
  go_region_held3 (fun w' => w'.cell? ⟨w.heap.size, 0, none⟩ = some (.int .i64 1) ∧ w'.cell? ⟨w.heap.size, 1, none⟩ = some (.bool true) ∧ w'.cell? ⟨w.heap.size, 2, none⟩ = some (.int .u8 l) ∧ w'.cell? ⟨w.heap.size, 3, none⟩ = some (.int .u8 h) ∧ w'.cell? ⟨w.heap.size, 4, none⟩ = some (.int .u8 r) ∧ w'.cell? ⟨w.heap.size, 5, none⟩ = some (.bool false)) (go_keep)
    (first | (go_at_call 23; ((with_reducible refine (of1 _).mono ?_)); rintro e' w2 ⟨rfl, rfl⟩)
           | (go_at_call 43; ((with_reducible refine (ram_first0 1 true l h r _).mono ?_)); rintro e' w2 ⟨rfl, hb⟩; have n0 := Aside0.mk (blk_below (blk_drew BK.out) hb); have n1 := Aside0.mk (below_step (below_drew1 HB.out) hb); clear hb; have d0 : w2.cell? ⟨w.heap.size, 0, none⟩ = some (.int .i64 1) := (blk_cell n0.out 0).trans rfl; have d1 : w2.cell? ⟨w.heap.size, 1, none⟩ = some (.bool true) := (blk_cell n0.out 1).trans rfl; have d2 : w2.cell? ⟨w.heap.size, 2, none⟩ = some (.int .u8 l) := (blk_cell n0.out 2).trans rfl; have d3 : w2.cell? ⟨w.heap.size, 3, none⟩ = some (.int .u8 h) := (blk_cell n0.out 3).trans rfl; have d4 : w2.cell? ⟨w.heap.size, 4, none⟩ = some (.int .u8 r) := (blk_cell n0.out 4).trans rfl; have d5 : w2.cell? ⟨w.heap.size, 5, none⟩ = some (.bool false) := (blk_cell n0.out 5).trans rfl))
  rename_i hHeld
  clear hHeld
  go_wp2
  go_returns
  exact ⟨rfl, n1.out⟩
set_option maxRecDepth 100000 in
set_option maxHeartbeats 400000 in
theorem ram1b_true_c (k : Int) (o : Bool) (l h r : Int) (md : Bool) (a : Int) (s : Int)   (hs : ¬ s < 1) (hi : a / 8192 = 5) (w : World) :
    Calls Try.prog 17 #[.agg #[.int .i64 1, .bool true, .int .u8 l, .int .u8 h, .int .u8 r, .bool false], .int .u16 a, .int .i64 s] w fun e' w' => e' = .returned (.int .i64 ((a - 40960) % s)) ∧ Below w.heap.size w w' := by
  go_enter Try.func17, Try.ntmps17
  go_wp2
  have bk := blk_new w (.cells #[.int .i64 1, .bool true, .int .u8 l, .int .u8 h, .int .u8 r, .bool false] 24)
  have hB := below_alloc (Below.refl w.heap.size w) (.cells #[.int .i64 1, .bool true, .int .u8 l, .int .u8 h, .int .u8 r, .bool false] 24)
  generalize w.alloc (.cells #[.int .i64 1, .bool true, .int .u8 l, .int .u8 h, .int .u8 r, .bool false] 24) = W at bk hB ⊢
  have BK := Aside0.mk bk
  have HB := Aside0.mk hB
  clear bk hB
  have c0 : W.cell? ⟨w.heap.size, 0, none⟩ = some (.int .i64 1) := (blk_cell BK.out 0).trans rfl
  have c1 : W.cell? ⟨w.heap.size, 1, none⟩ = some (.bool true) := (blk_cell BK.out 1).trans rfl
  have c2 : W.cell? ⟨w.heap.size, 2, none⟩ = some (.int .u8 l) := (blk_cell BK.out 2).trans rfl
  have c3 : W.cell? ⟨w.heap.size, 3, none⟩ = some (.int .u8 h) := (blk_cell BK.out 3).trans rfl
  have c4 : W.cell? ⟨w.heap.size, 4, none⟩ = some (.int .u8 r) := (blk_cell BK.out 4).trans rfl
  have c5 : W.cell? ⟨w.heap.size, 5, none⟩ = some (.bool false) := (blk_cell BK.out 5).trans rfl
  go_region_held3 (fun w' => w'.cell? ⟨w.heap.size, 0, none⟩ = some (.int .i64 1) ∧ w'.cell? ⟨w.heap.size, 1, none⟩ = some (.bool true) ∧ w'.cell? ⟨w.heap.size, 2, none⟩ = some (.int .u8 l) ∧ w'.cell? ⟨w.heap.size, 3, none⟩ = some (.int .u8 h) ∧ w'.cell? ⟨w.heap.size, 4, none⟩ = some (.int .u8 r) ∧ w'.cell? ⟨w.heap.size, 5, none⟩ = some (.bool false)) (go_keep)
    (first | (go_at_call 23; ((with_reducible refine (of1 _).mono ?_)); rintro e' w2 ⟨rfl, rfl⟩)
           | (go_at_call 43; ((with_reducible refine (ram_first0 1 true l h r _).mono ?_)); rintro e' w2 ⟨rfl, hb⟩; have n0 := Aside0.mk (blk_below (blk_drew BK.out) hb); have n1 := Aside0.mk (below_step (below_drew1 HB.out) hb); clear hb; have d0 : w2.cell? ⟨w.heap.size, 0, none⟩ = some (.int .i64 1) := (blk_cell n0.out 0).trans rfl; have d1 : w2.cell? ⟨w.heap.size, 1, none⟩ = some (.bool true) := (blk_cell n0.out 1).trans rfl; have d2 : w2.cell? ⟨w.heap.size, 2, none⟩ = some (.int .u8 l) := (blk_cell n0.out 2).trans rfl; have d3 : w2.cell? ⟨w.heap.size, 3, none⟩ = some (.int .u8 h) := (blk_cell n0.out 3).trans rfl; have d4 : w2.cell? ⟨w.heap.size, 4, none⟩ = some (.int .u8 r) := (blk_cell n0.out 4).trans rfl; have d5 : w2.cell? ⟨w.heap.size, 5, none⟩ = some (.bool false) := (blk_cell n0.out 5).trans rfl))
  rename_i hHeld
  clear hHeld
  go_wp2
  go_returns
  exact ⟨rfl, n1.out⟩
theorem ram1b_true (k : Int) (o : Bool) (l h r : Int) (md : Bool) (a : Int) (s : Int)   (w : World) :
    Calls Try.prog 17 #[.agg #[.int .i64 1, .bool true, .int .u8 l, .int .u8 h, .int .u8 r, .bool false], .int .u16 a, .int .i64 s] w fun e' w' => e' = .returned (.int .i64 (ramZ true a s)) ∧ Below w.heap.size w w' := by
  unfold ramZ
  by_cases hs : s < 1
  · rw [if_pos hs]; exact ram1b_true_a k o l h r md a s  hs w
  rw [if_neg hs]
  by_cases hi : a / 8192 = 5
  · rw [if_neg (by simpa using hi), if_pos rfl]; exact ram1b_true_c k o l h r md a s  hs hi w
  · rw [if_pos hi]; exact ram1b_true_b k o l h r md a s  hs hi w
set_option maxRecDepth 100000 in
set_option maxHeartbeats 400000 in
theorem ram5_true_a (k : Int) (o : Bool) (l h r : Int) (md : Bool) (a : Int) (s : Int)   (hs : s < 1) (w : World) :
    Calls Try.prog 17 #[.agg #[.int .i64 5, .bool true, .int .u8 l, .int .u8 h, .int .u8 r, .bool md], .int .u16 a, .int .i64 s] w fun e' w' => e' = .returned (.int .i64 (-1)) ∧ Below w.heap.size w w' := by
  go_enter Try.func17, Try.ntmps17
  go_wp2
  have bk := blk_new w (.cells #[.int .i64 5, .bool true, .int .u8 l, .int .u8 h, .int .u8 r, .bool md] 24)
  have hB := below_alloc (Below.refl w.heap.size w) (.cells #[.int .i64 5, .bool true, .int .u8 l, .int .u8 h, .int .u8 r, .bool md] 24)
  generalize w.alloc (.cells #[.int .i64 5, .bool true, .int .u8 l, .int .u8 h, .int .u8 r, .bool md] 24) = W at bk hB ⊢
  have BK := Aside0.mk bk
  have HB := Aside0.mk hB
  clear bk hB
  have c0 : W.cell? ⟨w.heap.size, 0, none⟩ = some (.int .i64 5) := (blk_cell BK.out 0).trans rfl
  have c1 : W.cell? ⟨w.heap.size, 1, none⟩ = some (.bool true) := (blk_cell BK.out 1).trans rfl
  have c2 : W.cell? ⟨w.heap.size, 2, none⟩ = some (.int .u8 l) := (blk_cell BK.out 2).trans rfl
  have c3 : W.cell? ⟨w.heap.size, 3, none⟩ = some (.int .u8 h) := (blk_cell BK.out 3).trans rfl
  have c4 : W.cell? ⟨w.heap.size, 4, none⟩ = some (.int .u8 r) := (blk_cell BK.out 4).trans rfl
  have c5 : W.cell? ⟨w.heap.size, 5, none⟩ = some (.bool md) := (blk_cell BK.out 5).trans rfl
  go_region_held3 (fun w' => w'.cell? ⟨w.heap.size, 0, none⟩ = some (.int .i64 5) ∧ w'.cell? ⟨w.heap.size, 1, none⟩ = some (.bool true) ∧ w'.cell? ⟨w.heap.size, 2, none⟩ = some (.int .u8 l) ∧ w'.cell? ⟨w.heap.size, 3, none⟩ = some (.int .u8 h) ∧ w'.cell? ⟨w.heap.size, 4, none⟩ = some (.int .u8 r) ∧ w'.cell? ⟨w.heap.size, 5, none⟩ = some (.bool md)) (go_keep)
    (first | (go_at_call 23; ((with_reducible refine (of5 _).mono ?_)); rintro e' w2 ⟨rfl, rfl⟩)
           | (go_at_call 53; ((with_reducible refine (ram_fifth 5 true l h r md _).mono ?_)); rintro e' w2 ⟨rfl, hb⟩; have n0 := Aside0.mk (blk_below (blk_drew BK.out) hb); have n1 := Aside0.mk (below_step (below_drew1 HB.out) hb); clear hb; have d0 : w2.cell? ⟨w.heap.size, 0, none⟩ = some (.int .i64 5) := (blk_cell n0.out 0).trans rfl; have d1 : w2.cell? ⟨w.heap.size, 1, none⟩ = some (.bool true) := (blk_cell n0.out 1).trans rfl; have d2 : w2.cell? ⟨w.heap.size, 2, none⟩ = some (.int .u8 l) := (blk_cell n0.out 2).trans rfl; have d3 : w2.cell? ⟨w.heap.size, 3, none⟩ = some (.int .u8 h) := (blk_cell n0.out 3).trans rfl; have d4 : w2.cell? ⟨w.heap.size, 4, none⟩ = some (.int .u8 r) := (blk_cell n0.out 4).trans rfl; have d5 : w2.cell? ⟨w.heap.size, 5, none⟩ = some (.bool md) := (blk_cell n0.out 5).trans rfl))
  rename_i hHeld
  clear hHeld
  go_wp2
  go_returns
  exact ⟨rfl, n1.out⟩
set_option maxRecDepth 100000 in
set_option maxHeartbeats 400000 in
theorem ram5_true_b (k : Int) (o : Bool) (l h r : Int) (md : Bool) (a : Int) (s : Int)   (hs : ¬ s < 1) (hi : ¬ a / 8192 = 5) (w : World) :
    Calls Try.prog 17 #[.agg #[.int .i64 5, .bool true, .int .u8 l, .int .u8 h, .int .u8 r, .bool md], .int .u16 a, .int .i64 s] w fun e' w' => e' = .returned (.int .i64 (-1)) ∧ Below w.heap.size w w' := by
  go_enter Try.func17, Try.ntmps17
  go_wp2
  have bk := blk_new w (.cells #[.int .i64 5, .bool true, .int .u8 l, .int .u8 h, .int .u8 r, .bool md] 24)
  have hB := below_alloc (Below.refl w.heap.size w) (.cells #[.int .i64 5, .bool true, .int .u8 l, .int .u8 h, .int .u8 r, .bool md] 24)
  generalize w.alloc (.cells #[.int .i64 5, .bool true, .int .u8 l, .int .u8 h, .int .u8 r, .bool md] 24) = W at bk hB ⊢
  have BK := Aside0.mk bk
  have HB := Aside0.mk hB
  clear bk hB
  have c0 : W.cell? ⟨w.heap.size, 0, none⟩ = some (.int .i64 5) := (blk_cell BK.out 0).trans rfl
  have c1 : W.cell? ⟨w.heap.size, 1, none⟩ = some (.bool true) := (blk_cell BK.out 1).trans rfl
  have c2 : W.cell? ⟨w.heap.size, 2, none⟩ = some (.int .u8 l) := (blk_cell BK.out 2).trans rfl
  have c3 : W.cell? ⟨w.heap.size, 3, none⟩ = some (.int .u8 h) := (blk_cell BK.out 3).trans rfl
  have c4 : W.cell? ⟨w.heap.size, 4, none⟩ = some (.int .u8 r) := (blk_cell BK.out 4).trans rfl
  have c5 : W.cell? ⟨w.heap.size, 5, none⟩ = some (.bool md) := (blk_cell BK.out 5).trans rfl
  go_region_held3 (fun w' => w'.cell? ⟨w.heap.size, 0, none⟩ = some (.int .i64 5) ∧ w'.cell? ⟨w.heap.size, 1, none⟩ = some (.bool true) ∧ w'.cell? ⟨w.heap.size, 2, none⟩ = some (.int .u8 l) ∧ w'.cell? ⟨w.heap.size, 3, none⟩ = some (.int .u8 h) ∧ w'.cell? ⟨w.heap.size, 4, none⟩ = some (.int .u8 r) ∧ w'.cell? ⟨w.heap.size, 5, none⟩ = some (.bool md)) (go_keep)
    (first | (go_at_call 23; ((with_reducible refine (of5 _).mono ?_)); rintro e' w2 ⟨rfl, rfl⟩)
           | (go_at_call 53; ((with_reducible refine (ram_fifth 5 true l h r md _).mono ?_)); rintro e' w2 ⟨rfl, hb⟩; have n0 := Aside0.mk (blk_below (blk_drew BK.out) hb); have n1 := Aside0.mk (below_step (below_drew1 HB.out) hb); clear hb; have d0 : w2.cell? ⟨w.heap.size, 0, none⟩ = some (.int .i64 5) := (blk_cell n0.out 0).trans rfl; have d1 : w2.cell? ⟨w.heap.size, 1, none⟩ = some (.bool true) := (blk_cell n0.out 1).trans rfl; have d2 : w2.cell? ⟨w.heap.size, 2, none⟩ = some (.int .u8 l) := (blk_cell n0.out 2).trans rfl; have d3 : w2.cell? ⟨w.heap.size, 3, none⟩ = some (.int .u8 h) := (blk_cell n0.out 3).trans rfl; have d4 : w2.cell? ⟨w.heap.size, 4, none⟩ = some (.int .u8 r) := (blk_cell n0.out 4).trans rfl; have d5 : w2.cell? ⟨w.heap.size, 5, none⟩ = some (.bool md) := (blk_cell n0.out 5).trans rfl))
  rename_i hHeld
  clear hHeld
  go_wp2
  go_returns
  exact ⟨rfl, n1.out⟩
set_option maxRecDepth 100000 in
set_option maxHeartbeats 400000 in
theorem ram5_true_c (k : Int) (o : Bool) (l h r : Int) (md : Bool) (a : Int) (s : Int)   (hs : ¬ s < 1) (hi : a / 8192 = 5) (w : World) :
    Calls Try.prog 17 #[.agg #[.int .i64 5, .bool true, .int .u8 l, .int .u8 h, .int .u8 r, .bool md], .int .u16 a, .int .i64 s] w fun e' w' => e' = .returned (.int .i64 (Int.tmod (wrap64 (wrap64 (wrap64 (wrap64 r * 8192) + a) - 40960)) s)) ∧ Below w.heap.size w w' := by
  go_enter Try.func17, Try.ntmps17
  go_wp2
  have bk := blk_new w (.cells #[.int .i64 5, .bool true, .int .u8 l, .int .u8 h, .int .u8 r, .bool md] 24)
  have hB := below_alloc (Below.refl w.heap.size w) (.cells #[.int .i64 5, .bool true, .int .u8 l, .int .u8 h, .int .u8 r, .bool md] 24)
  generalize w.alloc (.cells #[.int .i64 5, .bool true, .int .u8 l, .int .u8 h, .int .u8 r, .bool md] 24) = W at bk hB ⊢
  have BK := Aside0.mk bk
  have HB := Aside0.mk hB
  clear bk hB
  have c0 : W.cell? ⟨w.heap.size, 0, none⟩ = some (.int .i64 5) := (blk_cell BK.out 0).trans rfl
  have c1 : W.cell? ⟨w.heap.size, 1, none⟩ = some (.bool true) := (blk_cell BK.out 1).trans rfl
  have c2 : W.cell? ⟨w.heap.size, 2, none⟩ = some (.int .u8 l) := (blk_cell BK.out 2).trans rfl
  have c3 : W.cell? ⟨w.heap.size, 3, none⟩ = some (.int .u8 h) := (blk_cell BK.out 3).trans rfl
  have c4 : W.cell? ⟨w.heap.size, 4, none⟩ = some (.int .u8 r) := (blk_cell BK.out 4).trans rfl
  have c5 : W.cell? ⟨w.heap.size, 5, none⟩ = some (.bool md) := (blk_cell BK.out 5).trans rfl
  go_region_held3 (fun w' => w'.cell? ⟨w.heap.size, 0, none⟩ = some (.int .i64 5) ∧ w'.cell? ⟨w.heap.size, 1, none⟩ = some (.bool true) ∧ w'.cell? ⟨w.heap.size, 2, none⟩ = some (.int .u8 l) ∧ w'.cell? ⟨w.heap.size, 3, none⟩ = some (.int .u8 h) ∧ w'.cell? ⟨w.heap.size, 4, none⟩ = some (.int .u8 r) ∧ w'.cell? ⟨w.heap.size, 5, none⟩ = some (.bool md)) (go_keep)
    (first | (go_at_call 23; ((with_reducible refine (of5 _).mono ?_)); rintro e' w2 ⟨rfl, rfl⟩)
           | (go_at_call 53; ((with_reducible refine (ram_fifth 5 true l h r md _).mono ?_)); rintro e' w2 ⟨rfl, hb⟩; have n0 := Aside0.mk (blk_below (blk_drew BK.out) hb); have n1 := Aside0.mk (below_step (below_drew1 HB.out) hb); clear hb; have d0 : w2.cell? ⟨w.heap.size, 0, none⟩ = some (.int .i64 5) := (blk_cell n0.out 0).trans rfl; have d1 : w2.cell? ⟨w.heap.size, 1, none⟩ = some (.bool true) := (blk_cell n0.out 1).trans rfl; have d2 : w2.cell? ⟨w.heap.size, 2, none⟩ = some (.int .u8 l) := (blk_cell n0.out 2).trans rfl; have d3 : w2.cell? ⟨w.heap.size, 3, none⟩ = some (.int .u8 h) := (blk_cell n0.out 3).trans rfl; have d4 : w2.cell? ⟨w.heap.size, 4, none⟩ = some (.int .u8 r) := (blk_cell n0.out 4).trans rfl; have d5 : w2.cell? ⟨w.heap.size, 5, none⟩ = some (.bool md) := (blk_cell n0.out 5).trans rfl))
  rename_i hHeld
  clear hHeld
  go_wp2
  go_returns
  exact ⟨rfl, n1.out⟩
theorem ram5_true (k : Int) (o : Bool) (l h r : Int) (md : Bool) (a : Int) (s : Int)   (w : World) :
    Calls Try.prog 17 #[.agg #[.int .i64 5, .bool true, .int .u8 l, .int .u8 h, .int .u8 r, .bool md], .int .u16 a, .int .i64 s] w fun e' w' => e' = .returned (.int .i64 (ramR (wrap64 r) true a s)) ∧ Below w.heap.size w w' := by
  unfold ramR
  by_cases hs : s < 1
  · rw [if_pos hs]; exact ram5_true_a k o l h r md a s  hs w
  rw [if_neg hs]
  by_cases hi : a / 8192 = 5
  · rw [if_neg (by simpa using hi), if_pos rfl]; exact ram5_true_c k o l h r md a s  hs hi w
  · rw [if_pos hi]; exact ram5_true_b k o l h r md a s  hs hi w
set_option maxRecDepth 100000 in
set_option maxHeartbeats 400000 in
theorem ram1a_false_a (k : Int) (o : Bool) (l h r : Int) (md : Bool) (a : Int) (s : Int)   (hs : s < 1) (w : World) :
    Calls Try.prog 17 #[.agg #[.int .i64 1, .bool false, .int .u8 l, .int .u8 h, .int .u8 r, .bool true], .int .u16 a, .int .i64 s] w fun e' w' => e' = .returned (.int .i64 (-1)) ∧ Below w.heap.size w w' := by
  go_enter Try.func17, Try.ntmps17
  go_wp2
  have bk := blk_new w (.cells #[.int .i64 1, .bool false, .int .u8 l, .int .u8 h, .int .u8 r, .bool true] 24)
  have hB := below_alloc (Below.refl w.heap.size w) (.cells #[.int .i64 1, .bool false, .int .u8 l, .int .u8 h, .int .u8 r, .bool true] 24)
  generalize w.alloc (.cells #[.int .i64 1, .bool false, .int .u8 l, .int .u8 h, .int .u8 r, .bool true] 24) = W at bk hB ⊢
  have BK := Aside0.mk bk
  have HB := Aside0.mk hB
  clear bk hB
  have c0 : W.cell? ⟨w.heap.size, 0, none⟩ = some (.int .i64 1) := (blk_cell BK.out 0).trans rfl
  have c1 : W.cell? ⟨w.heap.size, 1, none⟩ = some (.bool false) := (blk_cell BK.out 1).trans rfl
  have c2 : W.cell? ⟨w.heap.size, 2, none⟩ = some (.int .u8 l) := (blk_cell BK.out 2).trans rfl
  have c3 : W.cell? ⟨w.heap.size, 3, none⟩ = some (.int .u8 h) := (blk_cell BK.out 3).trans rfl
  have c4 : W.cell? ⟨w.heap.size, 4, none⟩ = some (.int .u8 r) := (blk_cell BK.out 4).trans rfl
  have c5 : W.cell? ⟨w.heap.size, 5, none⟩ = some (.bool true) := (blk_cell BK.out 5).trans rfl
  go_region_held3 (fun w' => w'.cell? ⟨w.heap.size, 0, none⟩ = some (.int .i64 1) ∧ w'.cell? ⟨w.heap.size, 1, none⟩ = some (.bool false) ∧ w'.cell? ⟨w.heap.size, 2, none⟩ = some (.int .u8 l) ∧ w'.cell? ⟨w.heap.size, 3, none⟩ = some (.int .u8 h) ∧ w'.cell? ⟨w.heap.size, 4, none⟩ = some (.int .u8 r) ∧ w'.cell? ⟨w.heap.size, 5, none⟩ = some (.bool true)) (go_keep)
    (first | (go_at_call 23; ((with_reducible refine (of1 _).mono ?_)); rintro e' w2 ⟨rfl, rfl⟩)
           | (go_at_call 43; ((with_reducible refine (ram_first1 1 false l h r _).mono ?_)); rintro e' w2 ⟨rfl, hb⟩; have n0 := Aside0.mk (blk_below (blk_drew BK.out) hb); have n1 := Aside0.mk (below_step (below_drew1 HB.out) hb); clear hb; have d0 : w2.cell? ⟨w.heap.size, 0, none⟩ = some (.int .i64 1) := (blk_cell n0.out 0).trans rfl; have d1 : w2.cell? ⟨w.heap.size, 1, none⟩ = some (.bool false) := (blk_cell n0.out 1).trans rfl; have d2 : w2.cell? ⟨w.heap.size, 2, none⟩ = some (.int .u8 l) := (blk_cell n0.out 2).trans rfl; have d3 : w2.cell? ⟨w.heap.size, 3, none⟩ = some (.int .u8 h) := (blk_cell n0.out 3).trans rfl; have d4 : w2.cell? ⟨w.heap.size, 4, none⟩ = some (.int .u8 r) := (blk_cell n0.out 4).trans rfl; have d5 : w2.cell? ⟨w.heap.size, 5, none⟩ = some (.bool true) := (blk_cell n0.out 5).trans rfl))
  rename_i hHeld
  clear hHeld
  go_wp2
  go_returns
  exact ⟨rfl, n1.out⟩
set_option maxRecDepth 100000 in
set_option maxHeartbeats 400000 in
theorem ram1a_false_b (k : Int) (o : Bool) (l h r : Int) (md : Bool) (a : Int) (s : Int)   (hs : ¬ s < 1) (hi : ¬ a / 8192 = 5) (w : World) :
    Calls Try.prog 17 #[.agg #[.int .i64 1, .bool false, .int .u8 l, .int .u8 h, .int .u8 r, .bool true], .int .u16 a, .int .i64 s] w fun e' w' => e' = .returned (.int .i64 (-1)) ∧ Below w.heap.size w w' := by
  go_enter Try.func17, Try.ntmps17
  go_wp2
  have bk := blk_new w (.cells #[.int .i64 1, .bool false, .int .u8 l, .int .u8 h, .int .u8 r, .bool true] 24)
  have hB := below_alloc (Below.refl w.heap.size w) (.cells #[.int .i64 1, .bool false, .int .u8 l, .int .u8 h, .int .u8 r, .bool true] 24)
  generalize w.alloc (.cells #[.int .i64 1, .bool false, .int .u8 l, .int .u8 h, .int .u8 r, .bool true] 24) = W at bk hB ⊢
  have BK := Aside0.mk bk
  have HB := Aside0.mk hB
  clear bk hB
  have c0 : W.cell? ⟨w.heap.size, 0, none⟩ = some (.int .i64 1) := (blk_cell BK.out 0).trans rfl
  have c1 : W.cell? ⟨w.heap.size, 1, none⟩ = some (.bool false) := (blk_cell BK.out 1).trans rfl
  have c2 : W.cell? ⟨w.heap.size, 2, none⟩ = some (.int .u8 l) := (blk_cell BK.out 2).trans rfl
  have c3 : W.cell? ⟨w.heap.size, 3, none⟩ = some (.int .u8 h) := (blk_cell BK.out 3).trans rfl
  have c4 : W.cell? ⟨w.heap.size, 4, none⟩ = some (.int .u8 r) := (blk_cell BK.out 4).trans rfl
  have c5 : W.cell? ⟨w.heap.size, 5, none⟩ = some (.bool true) := (blk_cell BK.out 5).trans rfl
  go_region_held3 (fun w' => w'.cell? ⟨w.heap.size, 0, none⟩ = some (.int .i64 1) ∧ w'.cell? ⟨w.heap.size, 1, none⟩ = some (.bool false) ∧ w'.cell? ⟨w.heap.size, 2, none⟩ = some (.int .u8 l) ∧ w'.cell? ⟨w.heap.size, 3, none⟩ = some (.int .u8 h) ∧ w'.cell? ⟨w.heap.size, 4, none⟩ = some (.int .u8 r) ∧ w'.cell? ⟨w.heap.size, 5, none⟩ = some (.bool true)) (go_keep)
    (first | (go_at_call 23; ((with_reducible refine (of1 _).mono ?_)); rintro e' w2 ⟨rfl, rfl⟩)
           | (go_at_call 43; ((with_reducible refine (ram_first1 1 false l h r _).mono ?_)); rintro e' w2 ⟨rfl, hb⟩; have n0 := Aside0.mk (blk_below (blk_drew BK.out) hb); have n1 := Aside0.mk (below_step (below_drew1 HB.out) hb); clear hb; have d0 : w2.cell? ⟨w.heap.size, 0, none⟩ = some (.int .i64 1) := (blk_cell n0.out 0).trans rfl; have d1 : w2.cell? ⟨w.heap.size, 1, none⟩ = some (.bool false) := (blk_cell n0.out 1).trans rfl; have d2 : w2.cell? ⟨w.heap.size, 2, none⟩ = some (.int .u8 l) := (blk_cell n0.out 2).trans rfl; have d3 : w2.cell? ⟨w.heap.size, 3, none⟩ = some (.int .u8 h) := (blk_cell n0.out 3).trans rfl; have d4 : w2.cell? ⟨w.heap.size, 4, none⟩ = some (.int .u8 r) := (blk_cell n0.out 4).trans rfl; have d5 : w2.cell? ⟨w.heap.size, 5, none⟩ = some (.bool true) := (blk_cell n0.out 5).trans rfl))
  rename_i hHeld
  clear hHeld
  go_wp2
  go_returns
  exact ⟨rfl, n1.out⟩
set_option maxRecDepth 100000 in
set_option maxHeartbeats 400000 in
theorem ram1a_false_c (k : Int) (o : Bool) (l h r : Int) (md : Bool) (a : Int) (s : Int)   (hs : ¬ s < 1) (hi : a / 8192 = 5) (w : World) :
    Calls Try.prog 17 #[.agg #[.int .i64 1, .bool false, .int .u8 l, .int .u8 h, .int .u8 r, .bool true], .int .u16 a, .int .i64 s] w fun e' w' => e' = .returned (.int .i64 (-1)) ∧ Below w.heap.size w w' := by
  go_enter Try.func17, Try.ntmps17
  go_wp2
  have bk := blk_new w (.cells #[.int .i64 1, .bool false, .int .u8 l, .int .u8 h, .int .u8 r, .bool true] 24)
  have hB := below_alloc (Below.refl w.heap.size w) (.cells #[.int .i64 1, .bool false, .int .u8 l, .int .u8 h, .int .u8 r, .bool true] 24)
  generalize w.alloc (.cells #[.int .i64 1, .bool false, .int .u8 l, .int .u8 h, .int .u8 r, .bool true] 24) = W at bk hB ⊢
  have BK := Aside0.mk bk
  have HB := Aside0.mk hB
  clear bk hB
  have c0 : W.cell? ⟨w.heap.size, 0, none⟩ = some (.int .i64 1) := (blk_cell BK.out 0).trans rfl
  have c1 : W.cell? ⟨w.heap.size, 1, none⟩ = some (.bool false) := (blk_cell BK.out 1).trans rfl
  have c2 : W.cell? ⟨w.heap.size, 2, none⟩ = some (.int .u8 l) := (blk_cell BK.out 2).trans rfl
  have c3 : W.cell? ⟨w.heap.size, 3, none⟩ = some (.int .u8 h) := (blk_cell BK.out 3).trans rfl
  have c4 : W.cell? ⟨w.heap.size, 4, none⟩ = some (.int .u8 r) := (blk_cell BK.out 4).trans rfl
  have c5 : W.cell? ⟨w.heap.size, 5, none⟩ = some (.bool true) := (blk_cell BK.out 5).trans rfl
  go_region_held3 (fun w' => w'.cell? ⟨w.heap.size, 0, none⟩ = some (.int .i64 1) ∧ w'.cell? ⟨w.heap.size, 1, none⟩ = some (.bool false) ∧ w'.cell? ⟨w.heap.size, 2, none⟩ = some (.int .u8 l) ∧ w'.cell? ⟨w.heap.size, 3, none⟩ = some (.int .u8 h) ∧ w'.cell? ⟨w.heap.size, 4, none⟩ = some (.int .u8 r) ∧ w'.cell? ⟨w.heap.size, 5, none⟩ = some (.bool true)) (go_keep)
    (first | (go_at_call 23; ((with_reducible refine (of1 _).mono ?_)); rintro e' w2 ⟨rfl, rfl⟩)
           | (go_at_call 43; ((with_reducible refine (ram_first1 1 false l h r _).mono ?_)); rintro e' w2 ⟨rfl, hb⟩; have n0 := Aside0.mk (blk_below (blk_drew BK.out) hb); have n1 := Aside0.mk (below_step (below_drew1 HB.out) hb); clear hb; have d0 : w2.cell? ⟨w.heap.size, 0, none⟩ = some (.int .i64 1) := (blk_cell n0.out 0).trans rfl; have d1 : w2.cell? ⟨w.heap.size, 1, none⟩ = some (.bool false) := (blk_cell n0.out 1).trans rfl; have d2 : w2.cell? ⟨w.heap.size, 2, none⟩ = some (.int .u8 l) := (blk_cell n0.out 2).trans rfl; have d3 : w2.cell? ⟨w.heap.size, 3, none⟩ = some (.int .u8 h) := (blk_cell n0.out 3).trans rfl; have d4 : w2.cell? ⟨w.heap.size, 4, none⟩ = some (.int .u8 r) := (blk_cell n0.out 4).trans rfl; have d5 : w2.cell? ⟨w.heap.size, 5, none⟩ = some (.bool true) := (blk_cell n0.out 5).trans rfl))
  rename_i hHeld
  clear hHeld
  go_wp2
  go_returns
  exact ⟨rfl, n1.out⟩
theorem ram1a_false (k : Int) (o : Bool) (l h r : Int) (md : Bool) (a : Int) (s : Int)   (w : World) :
    Calls Try.prog 17 #[.agg #[.int .i64 1, .bool false, .int .u8 l, .int .u8 h, .int .u8 r, .bool true], .int .u16 a, .int .i64 s] w fun e' w' => e' = .returned (.int .i64 (ramR (wrap64 h) false a s)) ∧ Below w.heap.size w w' := by
  unfold ramR
  by_cases hs : s < 1
  · rw [if_pos hs]; exact ram1a_false_a k o l h r md a s  hs w
  rw [if_neg hs]
  by_cases hi : a / 8192 = 5
  · rw [if_neg (by simpa using hi), if_neg (by simp)]; exact ram1a_false_c k o l h r md a s  hs hi w
  · rw [if_pos hi]; exact ram1a_false_b k o l h r md a s  hs hi w
set_option maxRecDepth 100000 in
set_option maxHeartbeats 400000 in
theorem ram1b_false_a (k : Int) (o : Bool) (l h r : Int) (md : Bool) (a : Int) (s : Int)   (hs : s < 1) (w : World) :
    Calls Try.prog 17 #[.agg #[.int .i64 1, .bool false, .int .u8 l, .int .u8 h, .int .u8 r, .bool false], .int .u16 a, .int .i64 s] w fun e' w' => e' = .returned (.int .i64 (-1)) ∧ Below w.heap.size w w' := by
  go_enter Try.func17, Try.ntmps17
  go_wp2
  have bk := blk_new w (.cells #[.int .i64 1, .bool false, .int .u8 l, .int .u8 h, .int .u8 r, .bool false] 24)
  have hB := below_alloc (Below.refl w.heap.size w) (.cells #[.int .i64 1, .bool false, .int .u8 l, .int .u8 h, .int .u8 r, .bool false] 24)
  generalize w.alloc (.cells #[.int .i64 1, .bool false, .int .u8 l, .int .u8 h, .int .u8 r, .bool false] 24) = W at bk hB ⊢
  have BK := Aside0.mk bk
  have HB := Aside0.mk hB
  clear bk hB
  have c0 : W.cell? ⟨w.heap.size, 0, none⟩ = some (.int .i64 1) := (blk_cell BK.out 0).trans rfl
  have c1 : W.cell? ⟨w.heap.size, 1, none⟩ = some (.bool false) := (blk_cell BK.out 1).trans rfl
  have c2 : W.cell? ⟨w.heap.size, 2, none⟩ = some (.int .u8 l) := (blk_cell BK.out 2).trans rfl
  have c3 : W.cell? ⟨w.heap.size, 3, none⟩ = some (.int .u8 h) := (blk_cell BK.out 3).trans rfl
  have c4 : W.cell? ⟨w.heap.size, 4, none⟩ = some (.int .u8 r) := (blk_cell BK.out 4).trans rfl
  have c5 : W.cell? ⟨w.heap.size, 5, none⟩ = some (.bool false) := (blk_cell BK.out 5).trans rfl
  go_region_held3 (fun w' => w'.cell? ⟨w.heap.size, 0, none⟩ = some (.int .i64 1) ∧ w'.cell? ⟨w.heap.size, 1, none⟩ = some (.bool false) ∧ w'.cell? ⟨w.heap.size, 2, none⟩ = some (.int .u8 l) ∧ w'.cell? ⟨w.heap.size, 3, none⟩ = some (.int .u8 h) ∧ w'.cell? ⟨w.heap.size, 4, none⟩ = some (.int .u8 r) ∧ w'.cell? ⟨w.heap.size, 5, none⟩ = some (.bool false)) (go_keep)
    (first | (go_at_call 23; ((with_reducible refine (of1 _).mono ?_)); rintro e' w2 ⟨rfl, rfl⟩)
           | (go_at_call 43; ((with_reducible refine (ram_first0 1 false l h r _).mono ?_)); rintro e' w2 ⟨rfl, hb⟩; have n0 := Aside0.mk (blk_below (blk_drew BK.out) hb); have n1 := Aside0.mk (below_step (below_drew1 HB.out) hb); clear hb; have d0 : w2.cell? ⟨w.heap.size, 0, none⟩ = some (.int .i64 1) := (blk_cell n0.out 0).trans rfl; have d1 : w2.cell? ⟨w.heap.size, 1, none⟩ = some (.bool false) := (blk_cell n0.out 1).trans rfl; have d2 : w2.cell? ⟨w.heap.size, 2, none⟩ = some (.int .u8 l) := (blk_cell n0.out 2).trans rfl; have d3 : w2.cell? ⟨w.heap.size, 3, none⟩ = some (.int .u8 h) := (blk_cell n0.out 3).trans rfl; have d4 : w2.cell? ⟨w.heap.size, 4, none⟩ = some (.int .u8 r) := (blk_cell n0.out 4).trans rfl; have d5 : w2.cell? ⟨w.heap.size, 5, none⟩ = some (.bool false) := (blk_cell n0.out 5).trans rfl))
  rename_i hHeld
  clear hHeld
  go_wp2
  go_returns
  exact ⟨rfl, n1.out⟩
set_option maxRecDepth 100000 in
set_option maxHeartbeats 400000 in
theorem ram1b_false_b (k : Int) (o : Bool) (l h r : Int) (md : Bool) (a : Int) (s : Int)   (hs : ¬ s < 1) (hi : ¬ a / 8192 = 5) (w : World) :
    Calls Try.prog 17 #[.agg #[.int .i64 1, .bool false, .int .u8 l, .int .u8 h, .int .u8 r, .bool false], .int .u16 a, .int .i64 s] w fun e' w' => e' = .returned (.int .i64 (-1)) ∧ Below w.heap.size w w' := by
  go_enter Try.func17, Try.ntmps17
  go_wp2
  have bk := blk_new w (.cells #[.int .i64 1, .bool false, .int .u8 l, .int .u8 h, .int .u8 r, .bool false] 24)
  have hB := below_alloc (Below.refl w.heap.size w) (.cells #[.int .i64 1, .bool false, .int .u8 l, .int .u8 h, .int .u8 r, .bool false] 24)
  generalize w.alloc (.cells #[.int .i64 1, .bool false, .int .u8 l, .int .u8 h, .int .u8 r, .bool false] 24) = W at bk hB ⊢
  have BK := Aside0.mk bk
  have HB := Aside0.mk hB
  clear bk hB
  have c0 : W.cell? ⟨w.heap.size, 0, none⟩ = some (.int .i64 1) := (blk_cell BK.out 0).trans rfl
  have c1 : W.cell? ⟨w.heap.size, 1, none⟩ = some (.bool false) := (blk_cell BK.out 1).trans rfl
  have c2 : W.cell? ⟨w.heap.size, 2, none⟩ = some (.int .u8 l) := (blk_cell BK.out 2).trans rfl
  have c3 : W.cell? ⟨w.heap.size, 3, none⟩ = some (.int .u8 h) := (blk_cell BK.out 3).trans rfl
  have c4 : W.cell? ⟨w.heap.size, 4, none⟩ = some (.int .u8 r) := (blk_cell BK.out 4).trans rfl
  have c5 : W.cell? ⟨w.heap.size, 5, none⟩ = some (.bool false) := (blk_cell BK.out 5).trans rfl
  go_region_held3 (fun w' => w'.cell? ⟨w.heap.size, 0, none⟩ = some (.int .i64 1) ∧ w'.cell? ⟨w.heap.size, 1, none⟩ = some (.bool false) ∧ w'.cell? ⟨w.heap.size, 2, none⟩ = some (.int .u8 l) ∧ w'.cell? ⟨w.heap.size, 3, none⟩ = some (.int .u8 h) ∧ w'.cell? ⟨w.heap.size, 4, none⟩ = some (.int .u8 r) ∧ w'.cell? ⟨w.heap.size, 5, none⟩ = some (.bool false)) (go_keep)
    (first | (go_at_call 23; ((with_reducible refine (of1 _).mono ?_)); rintro e' w2 ⟨rfl, rfl⟩)
           | (go_at_call 43; ((with_reducible refine (ram_first0 1 false l h r _).mono ?_)); rintro e' w2 ⟨rfl, hb⟩; have n0 := Aside0.mk (blk_below (blk_drew BK.out) hb); have n1 := Aside0.mk (below_step (below_drew1 HB.out) hb); clear hb; have d0 : w2.cell? ⟨w.heap.size, 0, none⟩ = some (.int .i64 1) := (blk_cell n0.out 0).trans rfl; have d1 : w2.cell? ⟨w.heap.size, 1, none⟩ = some (.bool false) := (blk_cell n0.out 1).trans rfl; have d2 : w2.cell? ⟨w.heap.size, 2, none⟩ = some (.int .u8 l) := (blk_cell n0.out 2).trans rfl; have d3 : w2.cell? ⟨w.heap.size, 3, none⟩ = some (.int .u8 h) := (blk_cell n0.out 3).trans rfl; have d4 : w2.cell? ⟨w.heap.size, 4, none⟩ = some (.int .u8 r) := (blk_cell n0.out 4).trans rfl; have d5 : w2.cell? ⟨w.heap.size, 5, none⟩ = some (.bool false) := (blk_cell n0.out 5).trans rfl))
  rename_i hHeld
  clear hHeld
  go_wp2
  go_returns
  exact ⟨rfl, n1.out⟩
set_option maxRecDepth 100000 in
set_option maxHeartbeats 400000 in
theorem ram1b_false_c (k : Int) (o : Bool) (l h r : Int) (md : Bool) (a : Int) (s : Int)   (hs : ¬ s < 1) (hi : a / 8192 = 5) (w : World) :
    Calls Try.prog 17 #[.agg #[.int .i64 1, .bool false, .int .u8 l, .int .u8 h, .int .u8 r, .bool false], .int .u16 a, .int .i64 s] w fun e' w' => e' = .returned (.int .i64 (-1)) ∧ Below w.heap.size w w' := by
  go_enter Try.func17, Try.ntmps17
  go_wp2
  have bk := blk_new w (.cells #[.int .i64 1, .bool false, .int .u8 l, .int .u8 h, .int .u8 r, .bool false] 24)
  have hB := below_alloc (Below.refl w.heap.size w) (.cells #[.int .i64 1, .bool false, .int .u8 l, .int .u8 h, .int .u8 r, .bool false] 24)
  generalize w.alloc (.cells #[.int .i64 1, .bool false, .int .u8 l, .int .u8 h, .int .u8 r, .bool false] 24) = W at bk hB ⊢
  have BK := Aside0.mk bk
  have HB := Aside0.mk hB
  clear bk hB
  have c0 : W.cell? ⟨w.heap.size, 0, none⟩ = some (.int .i64 1) := (blk_cell BK.out 0).trans rfl
  have c1 : W.cell? ⟨w.heap.size, 1, none⟩ = some (.bool false) := (blk_cell BK.out 1).trans rfl
  have c2 : W.cell? ⟨w.heap.size, 2, none⟩ = some (.int .u8 l) := (blk_cell BK.out 2).trans rfl
  have c3 : W.cell? ⟨w.heap.size, 3, none⟩ = some (.int .u8 h) := (blk_cell BK.out 3).trans rfl
  have c4 : W.cell? ⟨w.heap.size, 4, none⟩ = some (.int .u8 r) := (blk_cell BK.out 4).trans rfl
  have c5 : W.cell? ⟨w.heap.size, 5, none⟩ = some (.bool false) := (blk_cell BK.out 5).trans rfl
  go_region_held3 (fun w' => w'.cell? ⟨w.heap.size, 0, none⟩ = some (.int .i64 1) ∧ w'.cell? ⟨w.heap.size, 1, none⟩ = some (.bool false) ∧ w'.cell? ⟨w.heap.size, 2, none⟩ = some (.int .u8 l) ∧ w'.cell? ⟨w.heap.size, 3, none⟩ = some (.int .u8 h) ∧ w'.cell? ⟨w.heap.size, 4, none⟩ = some (.int .u8 r) ∧ w'.cell? ⟨w.heap.size, 5, none⟩ = some (.bool false)) (go_keep)
    (first | (go_at_call 23; ((with_reducible refine (of1 _).mono ?_)); rintro e' w2 ⟨rfl, rfl⟩)
           | (go_at_call 43; ((with_reducible refine (ram_first0 1 false l h r _).mono ?_)); rintro e' w2 ⟨rfl, hb⟩; have n0 := Aside0.mk (blk_below (blk_drew BK.out) hb); have n1 := Aside0.mk (below_step (below_drew1 HB.out) hb); clear hb; have d0 : w2.cell? ⟨w.heap.size, 0, none⟩ = some (.int .i64 1) := (blk_cell n0.out 0).trans rfl; have d1 : w2.cell? ⟨w.heap.size, 1, none⟩ = some (.bool false) := (blk_cell n0.out 1).trans rfl; have d2 : w2.cell? ⟨w.heap.size, 2, none⟩ = some (.int .u8 l) := (blk_cell n0.out 2).trans rfl; have d3 : w2.cell? ⟨w.heap.size, 3, none⟩ = some (.int .u8 h) := (blk_cell n0.out 3).trans rfl; have d4 : w2.cell? ⟨w.heap.size, 4, none⟩ = some (.int .u8 r) := (blk_cell n0.out 4).trans rfl; have d5 : w2.cell? ⟨w.heap.size, 5, none⟩ = some (.bool false) := (blk_cell n0.out 5).trans rfl))
  rename_i hHeld
  clear hHeld
  go_wp2
  go_returns
  exact ⟨rfl, n1.out⟩
theorem ram1b_false (k : Int) (o : Bool) (l h r : Int) (md : Bool) (a : Int) (s : Int)   (w : World) :
    Calls Try.prog 17 #[.agg #[.int .i64 1, .bool false, .int .u8 l, .int .u8 h, .int .u8 r, .bool false], .int .u16 a, .int .i64 s] w fun e' w' => e' = .returned (.int .i64 (ramZ false a s)) ∧ Below w.heap.size w w' := by
  unfold ramZ
  by_cases hs : s < 1
  · rw [if_pos hs]; exact ram1b_false_a k o l h r md a s  hs w
  rw [if_neg hs]
  by_cases hi : a / 8192 = 5
  · rw [if_neg (by simpa using hi), if_neg (by simp)]; exact ram1b_false_c k o l h r md a s  hs hi w
  · rw [if_pos hi]; exact ram1b_false_b k o l h r md a s  hs hi w
set_option maxRecDepth 100000 in
set_option maxHeartbeats 400000 in
theorem ram5_false_a (k : Int) (o : Bool) (l h r : Int) (md : Bool) (a : Int) (s : Int)   (hs : s < 1) (w : World) :
    Calls Try.prog 17 #[.agg #[.int .i64 5, .bool false, .int .u8 l, .int .u8 h, .int .u8 r, .bool md], .int .u16 a, .int .i64 s] w fun e' w' => e' = .returned (.int .i64 (-1)) ∧ Below w.heap.size w w' := by
  go_enter Try.func17, Try.ntmps17
  go_wp2
  have bk := blk_new w (.cells #[.int .i64 5, .bool false, .int .u8 l, .int .u8 h, .int .u8 r, .bool md] 24)
  have hB := below_alloc (Below.refl w.heap.size w) (.cells #[.int .i64 5, .bool false, .int .u8 l, .int .u8 h, .int .u8 r, .bool md] 24)
  generalize w.alloc (.cells #[.int .i64 5, .bool false, .int .u8 l, .int .u8 h, .int .u8 r, .bool md] 24) = W at bk hB ⊢
  have BK := Aside0.mk bk
  have HB := Aside0.mk hB
  clear bk hB
  have c0 : W.cell? ⟨w.heap.size, 0, none⟩ = some (.int .i64 5) := (blk_cell BK.out 0).trans rfl
  have c1 : W.cell? ⟨w.heap.size, 1, none⟩ = some (.bool false) := (blk_cell BK.out 1).trans rfl
  have c2 : W.cell? ⟨w.heap.size, 2, none⟩ = some (.int .u8 l) := (blk_cell BK.out 2).trans rfl
  have c3 : W.cell? ⟨w.heap.size, 3, none⟩ = some (.int .u8 h) := (blk_cell BK.out 3).trans rfl
  have c4 : W.cell? ⟨w.heap.size, 4, none⟩ = some (.int .u8 r) := (blk_cell BK.out 4).trans rfl
  have c5 : W.cell? ⟨w.heap.size, 5, none⟩ = some (.bool md) := (blk_cell BK.out 5).trans rfl
  go_region_held3 (fun w' => w'.cell? ⟨w.heap.size, 0, none⟩ = some (.int .i64 5) ∧ w'.cell? ⟨w.heap.size, 1, none⟩ = some (.bool false) ∧ w'.cell? ⟨w.heap.size, 2, none⟩ = some (.int .u8 l) ∧ w'.cell? ⟨w.heap.size, 3, none⟩ = some (.int .u8 h) ∧ w'.cell? ⟨w.heap.size, 4, none⟩ = some (.int .u8 r) ∧ w'.cell? ⟨w.heap.size, 5, none⟩ = some (.bool md)) (go_keep)
    (first | (go_at_call 23; ((with_reducible refine (of5 _).mono ?_)); rintro e' w2 ⟨rfl, rfl⟩)
           | (go_at_call 53; ((with_reducible refine (ram_fifth 5 false l h r md _).mono ?_)); rintro e' w2 ⟨rfl, hb⟩; have n0 := Aside0.mk (blk_below (blk_drew BK.out) hb); have n1 := Aside0.mk (below_step (below_drew1 HB.out) hb); clear hb; have d0 : w2.cell? ⟨w.heap.size, 0, none⟩ = some (.int .i64 5) := (blk_cell n0.out 0).trans rfl; have d1 : w2.cell? ⟨w.heap.size, 1, none⟩ = some (.bool false) := (blk_cell n0.out 1).trans rfl; have d2 : w2.cell? ⟨w.heap.size, 2, none⟩ = some (.int .u8 l) := (blk_cell n0.out 2).trans rfl; have d3 : w2.cell? ⟨w.heap.size, 3, none⟩ = some (.int .u8 h) := (blk_cell n0.out 3).trans rfl; have d4 : w2.cell? ⟨w.heap.size, 4, none⟩ = some (.int .u8 r) := (blk_cell n0.out 4).trans rfl; have d5 : w2.cell? ⟨w.heap.size, 5, none⟩ = some (.bool md) := (blk_cell n0.out 5).trans rfl))
  rename_i hHeld
  clear hHeld
  go_wp2
  go_returns
  exact ⟨rfl, n1.out⟩
set_option maxRecDepth 100000 in
set_option maxHeartbeats 400000 in
theorem ram5_false_b (k : Int) (o : Bool) (l h r : Int) (md : Bool) (a : Int) (s : Int)   (hs : ¬ s < 1) (hi : ¬ a / 8192 = 5) (w : World) :
    Calls Try.prog 17 #[.agg #[.int .i64 5, .bool false, .int .u8 l, .int .u8 h, .int .u8 r, .bool md], .int .u16 a, .int .i64 s] w fun e' w' => e' = .returned (.int .i64 (-1)) ∧ Below w.heap.size w w' := by
  go_enter Try.func17, Try.ntmps17
  go_wp2
  have bk := blk_new w (.cells #[.int .i64 5, .bool false, .int .u8 l, .int .u8 h, .int .u8 r, .bool md] 24)
  have hB := below_alloc (Below.refl w.heap.size w) (.cells #[.int .i64 5, .bool false, .int .u8 l, .int .u8 h, .int .u8 r, .bool md] 24)
  generalize w.alloc (.cells #[.int .i64 5, .bool false, .int .u8 l, .int .u8 h, .int .u8 r, .bool md] 24) = W at bk hB ⊢
  have BK := Aside0.mk bk
  have HB := Aside0.mk hB
  clear bk hB
  have c0 : W.cell? ⟨w.heap.size, 0, none⟩ = some (.int .i64 5) := (blk_cell BK.out 0).trans rfl
  have c1 : W.cell? ⟨w.heap.size, 1, none⟩ = some (.bool false) := (blk_cell BK.out 1).trans rfl
  have c2 : W.cell? ⟨w.heap.size, 2, none⟩ = some (.int .u8 l) := (blk_cell BK.out 2).trans rfl
  have c3 : W.cell? ⟨w.heap.size, 3, none⟩ = some (.int .u8 h) := (blk_cell BK.out 3).trans rfl
  have c4 : W.cell? ⟨w.heap.size, 4, none⟩ = some (.int .u8 r) := (blk_cell BK.out 4).trans rfl
  have c5 : W.cell? ⟨w.heap.size, 5, none⟩ = some (.bool md) := (blk_cell BK.out 5).trans rfl
  go_region_held3 (fun w' => w'.cell? ⟨w.heap.size, 0, none⟩ = some (.int .i64 5) ∧ w'.cell? ⟨w.heap.size, 1, none⟩ = some (.bool false) ∧ w'.cell? ⟨w.heap.size, 2, none⟩ = some (.int .u8 l) ∧ w'.cell? ⟨w.heap.size, 3, none⟩ = some (.int .u8 h) ∧ w'.cell? ⟨w.heap.size, 4, none⟩ = some (.int .u8 r) ∧ w'.cell? ⟨w.heap.size, 5, none⟩ = some (.bool md)) (go_keep)
    (first | (go_at_call 23; ((with_reducible refine (of5 _).mono ?_)); rintro e' w2 ⟨rfl, rfl⟩)
           | (go_at_call 53; ((with_reducible refine (ram_fifth 5 false l h r md _).mono ?_)); rintro e' w2 ⟨rfl, hb⟩; have n0 := Aside0.mk (blk_below (blk_drew BK.out) hb); have n1 := Aside0.mk (below_step (below_drew1 HB.out) hb); clear hb; have d0 : w2.cell? ⟨w.heap.size, 0, none⟩ = some (.int .i64 5) := (blk_cell n0.out 0).trans rfl; have d1 : w2.cell? ⟨w.heap.size, 1, none⟩ = some (.bool false) := (blk_cell n0.out 1).trans rfl; have d2 : w2.cell? ⟨w.heap.size, 2, none⟩ = some (.int .u8 l) := (blk_cell n0.out 2).trans rfl; have d3 : w2.cell? ⟨w.heap.size, 3, none⟩ = some (.int .u8 h) := (blk_cell n0.out 3).trans rfl; have d4 : w2.cell? ⟨w.heap.size, 4, none⟩ = some (.int .u8 r) := (blk_cell n0.out 4).trans rfl; have d5 : w2.cell? ⟨w.heap.size, 5, none⟩ = some (.bool md) := (blk_cell n0.out 5).trans rfl))
  rename_i hHeld
  clear hHeld
  go_wp2
  go_returns
  exact ⟨rfl, n1.out⟩
set_option maxRecDepth 100000 in
set_option maxHeartbeats 400000 in
theorem ram5_false_c (k : Int) (o : Bool) (l h r : Int) (md : Bool) (a : Int) (s : Int)   (hs : ¬ s < 1) (hi : a / 8192 = 5) (w : World) :
    Calls Try.prog 17 #[.agg #[.int .i64 5, .bool false, .int .u8 l, .int .u8 h, .int .u8 r, .bool md], .int .u16 a, .int .i64 s] w fun e' w' => e' = .returned (.int .i64 (-1)) ∧ Below w.heap.size w w' := by
  go_enter Try.func17, Try.ntmps17
  go_wp2
  have bk := blk_new w (.cells #[.int .i64 5, .bool false, .int .u8 l, .int .u8 h, .int .u8 r, .bool md] 24)
  have hB := below_alloc (Below.refl w.heap.size w) (.cells #[.int .i64 5, .bool false, .int .u8 l, .int .u8 h, .int .u8 r, .bool md] 24)
  generalize w.alloc (.cells #[.int .i64 5, .bool false, .int .u8 l, .int .u8 h, .int .u8 r, .bool md] 24) = W at bk hB ⊢
  have BK := Aside0.mk bk
  have HB := Aside0.mk hB
  clear bk hB
  have c0 : W.cell? ⟨w.heap.size, 0, none⟩ = some (.int .i64 5) := (blk_cell BK.out 0).trans rfl
  have c1 : W.cell? ⟨w.heap.size, 1, none⟩ = some (.bool false) := (blk_cell BK.out 1).trans rfl
  have c2 : W.cell? ⟨w.heap.size, 2, none⟩ = some (.int .u8 l) := (blk_cell BK.out 2).trans rfl
  have c3 : W.cell? ⟨w.heap.size, 3, none⟩ = some (.int .u8 h) := (blk_cell BK.out 3).trans rfl
  have c4 : W.cell? ⟨w.heap.size, 4, none⟩ = some (.int .u8 r) := (blk_cell BK.out 4).trans rfl
  have c5 : W.cell? ⟨w.heap.size, 5, none⟩ = some (.bool md) := (blk_cell BK.out 5).trans rfl
  go_region_held3 (fun w' => w'.cell? ⟨w.heap.size, 0, none⟩ = some (.int .i64 5) ∧ w'.cell? ⟨w.heap.size, 1, none⟩ = some (.bool false) ∧ w'.cell? ⟨w.heap.size, 2, none⟩ = some (.int .u8 l) ∧ w'.cell? ⟨w.heap.size, 3, none⟩ = some (.int .u8 h) ∧ w'.cell? ⟨w.heap.size, 4, none⟩ = some (.int .u8 r) ∧ w'.cell? ⟨w.heap.size, 5, none⟩ = some (.bool md)) (go_keep)
    (first | (go_at_call 23; ((with_reducible refine (of5 _).mono ?_)); rintro e' w2 ⟨rfl, rfl⟩)
           | (go_at_call 53; ((with_reducible refine (ram_fifth 5 false l h r md _).mono ?_)); rintro e' w2 ⟨rfl, hb⟩; have n0 := Aside0.mk (blk_below (blk_drew BK.out) hb); have n1 := Aside0.mk (below_step (below_drew1 HB.out) hb); clear hb; have d0 : w2.cell? ⟨w.heap.size, 0, none⟩ = some (.int .i64 5) := (blk_cell n0.out 0).trans rfl; have d1 : w2.cell? ⟨w.heap.size, 1, none⟩ = some (.bool false) := (blk_cell n0.out 1).trans rfl; have d2 : w2.cell? ⟨w.heap.size, 2, none⟩ = some (.int .u8 l) := (blk_cell n0.out 2).trans rfl; have d3 : w2.cell? ⟨w.heap.size, 3, none⟩ = some (.int .u8 h) := (blk_cell n0.out 3).trans rfl; have d4 : w2.cell? ⟨w.heap.size, 4, none⟩ = some (.int .u8 r) := (blk_cell n0.out 4).trans rfl; have d5 : w2.cell? ⟨w.heap.size, 5, none⟩ = some (.bool md) := (blk_cell n0.out 5).trans rfl))
  rename_i hHeld
  clear hHeld
  go_wp2
  go_returns
  exact ⟨rfl, n1.out⟩
theorem ram5_false (k : Int) (o : Bool) (l h r : Int) (md : Bool) (a : Int) (s : Int)   (w : World) :
    Calls Try.prog 17 #[.agg #[.int .i64 5, .bool false, .int .u8 l, .int .u8 h, .int .u8 r, .bool md], .int .u16 a, .int .i64 s] w fun e' w' => e' = .returned (.int .i64 (ramR (wrap64 r) false a s)) ∧ Below w.heap.size w w' := by
  unfold ramR
  by_cases hs : s < 1
  · rw [if_pos hs]; exact ram5_false_a k o l h r md a s  hs w
  rw [if_neg hs]
  by_cases hi : a / 8192 = 5
  · rw [if_neg (by simpa using hi), if_neg (by simp)]; exact ram5_false_c k o l h r md a s  hs hi w
  · rw [if_pos hi]; exact ram5_false_b k o l h r md a s  hs hi w
set_option maxRecDepth 100000 in
set_option maxHeartbeats 400000 in
theorem ram3_false_a (k : Int) (o : Bool) (l h r : Int) (md : Bool) (a : Int) (s : Int)   (hs : s < 1) (w : World) :
    Calls Try.prog 17 #[.agg #[.int .i64 3, .bool false, .int .u8 l, .int .u8 h, .int .u8 r, .bool md], .int .u16 a, .int .i64 s] w fun e' w' => e' = .returned (.int .i64 (-1)) ∧ Below w.heap.size w w' := by
  go_enter Try.func17, Try.ntmps17
  go_wp2
  have bk := blk_new w (.cells #[.int .i64 3, .bool false, .int .u8 l, .int .u8 h, .int .u8 r, .bool md] 24)
  have hB := below_alloc (Below.refl w.heap.size w) (.cells #[.int .i64 3, .bool false, .int .u8 l, .int .u8 h, .int .u8 r, .bool md] 24)
  generalize w.alloc (.cells #[.int .i64 3, .bool false, .int .u8 l, .int .u8 h, .int .u8 r, .bool md] 24) = W at bk hB ⊢
  have BK := Aside0.mk bk
  have HB := Aside0.mk hB
  clear bk hB
  have c0 : W.cell? ⟨w.heap.size, 0, none⟩ = some (.int .i64 3) := (blk_cell BK.out 0).trans rfl
  have c1 : W.cell? ⟨w.heap.size, 1, none⟩ = some (.bool false) := (blk_cell BK.out 1).trans rfl
  have c2 : W.cell? ⟨w.heap.size, 2, none⟩ = some (.int .u8 l) := (blk_cell BK.out 2).trans rfl
  have c3 : W.cell? ⟨w.heap.size, 3, none⟩ = some (.int .u8 h) := (blk_cell BK.out 3).trans rfl
  have c4 : W.cell? ⟨w.heap.size, 4, none⟩ = some (.int .u8 r) := (blk_cell BK.out 4).trans rfl
  have c5 : W.cell? ⟨w.heap.size, 5, none⟩ = some (.bool md) := (blk_cell BK.out 5).trans rfl
  go_region_held3 (fun w' => w'.cell? ⟨w.heap.size, 0, none⟩ = some (.int .i64 3) ∧ w'.cell? ⟨w.heap.size, 1, none⟩ = some (.bool false) ∧ w'.cell? ⟨w.heap.size, 2, none⟩ = some (.int .u8 l) ∧ w'.cell? ⟨w.heap.size, 3, none⟩ = some (.int .u8 h) ∧ w'.cell? ⟨w.heap.size, 4, none⟩ = some (.int .u8 r) ∧ w'.cell? ⟨w.heap.size, 5, none⟩ = some (.bool md)) (go_keep)
    (first | (go_at_call 23; ((with_reducible refine (of3 _).mono ?_)); rintro e' w2 ⟨rfl, rfl⟩)
           | (go_at_call 49; ((with_reducible refine (ram_third0 3 l h r md _).mono ?_)); rintro e' w2 ⟨rfl, hb⟩; have n0 := Aside0.mk (blk_below (blk_drew BK.out) hb); have n1 := Aside0.mk (below_step (below_drew1 HB.out) hb); clear hb; have d0 : w2.cell? ⟨w.heap.size, 0, none⟩ = some (.int .i64 3) := (blk_cell n0.out 0).trans rfl; have d1 : w2.cell? ⟨w.heap.size, 1, none⟩ = some (.bool false) := (blk_cell n0.out 1).trans rfl; have d2 : w2.cell? ⟨w.heap.size, 2, none⟩ = some (.int .u8 l) := (blk_cell n0.out 2).trans rfl; have d3 : w2.cell? ⟨w.heap.size, 3, none⟩ = some (.int .u8 h) := (blk_cell n0.out 3).trans rfl; have d4 : w2.cell? ⟨w.heap.size, 4, none⟩ = some (.int .u8 r) := (blk_cell n0.out 4).trans rfl; have d5 : w2.cell? ⟨w.heap.size, 5, none⟩ = some (.bool md) := (blk_cell n0.out 5).trans rfl))
  rename_i hHeld
  clear hHeld
  go_wp2
  go_returns
  exact ⟨rfl, n1.out⟩
set_option maxRecDepth 100000 in
set_option maxHeartbeats 400000 in
theorem ram3_false_b (k : Int) (o : Bool) (l h r : Int) (md : Bool) (a : Int) (s : Int)   (hs : ¬ s < 1) (hi : ¬ a / 8192 = 5) (w : World) :
    Calls Try.prog 17 #[.agg #[.int .i64 3, .bool false, .int .u8 l, .int .u8 h, .int .u8 r, .bool md], .int .u16 a, .int .i64 s] w fun e' w' => e' = .returned (.int .i64 (-1)) ∧ Below w.heap.size w w' := by
  go_enter Try.func17, Try.ntmps17
  go_wp2
  have bk := blk_new w (.cells #[.int .i64 3, .bool false, .int .u8 l, .int .u8 h, .int .u8 r, .bool md] 24)
  have hB := below_alloc (Below.refl w.heap.size w) (.cells #[.int .i64 3, .bool false, .int .u8 l, .int .u8 h, .int .u8 r, .bool md] 24)
  generalize w.alloc (.cells #[.int .i64 3, .bool false, .int .u8 l, .int .u8 h, .int .u8 r, .bool md] 24) = W at bk hB ⊢
  have BK := Aside0.mk bk
  have HB := Aside0.mk hB
  clear bk hB
  have c0 : W.cell? ⟨w.heap.size, 0, none⟩ = some (.int .i64 3) := (blk_cell BK.out 0).trans rfl
  have c1 : W.cell? ⟨w.heap.size, 1, none⟩ = some (.bool false) := (blk_cell BK.out 1).trans rfl
  have c2 : W.cell? ⟨w.heap.size, 2, none⟩ = some (.int .u8 l) := (blk_cell BK.out 2).trans rfl
  have c3 : W.cell? ⟨w.heap.size, 3, none⟩ = some (.int .u8 h) := (blk_cell BK.out 3).trans rfl
  have c4 : W.cell? ⟨w.heap.size, 4, none⟩ = some (.int .u8 r) := (blk_cell BK.out 4).trans rfl
  have c5 : W.cell? ⟨w.heap.size, 5, none⟩ = some (.bool md) := (blk_cell BK.out 5).trans rfl
  go_region_held3 (fun w' => w'.cell? ⟨w.heap.size, 0, none⟩ = some (.int .i64 3) ∧ w'.cell? ⟨w.heap.size, 1, none⟩ = some (.bool false) ∧ w'.cell? ⟨w.heap.size, 2, none⟩ = some (.int .u8 l) ∧ w'.cell? ⟨w.heap.size, 3, none⟩ = some (.int .u8 h) ∧ w'.cell? ⟨w.heap.size, 4, none⟩ = some (.int .u8 r) ∧ w'.cell? ⟨w.heap.size, 5, none⟩ = some (.bool md)) (go_keep)
    (first | (go_at_call 23; ((with_reducible refine (of3 _).mono ?_)); rintro e' w2 ⟨rfl, rfl⟩)
           | (go_at_call 49; ((with_reducible refine (ram_third0 3 l h r md _).mono ?_)); rintro e' w2 ⟨rfl, hb⟩; have n0 := Aside0.mk (blk_below (blk_drew BK.out) hb); have n1 := Aside0.mk (below_step (below_drew1 HB.out) hb); clear hb; have d0 : w2.cell? ⟨w.heap.size, 0, none⟩ = some (.int .i64 3) := (blk_cell n0.out 0).trans rfl; have d1 : w2.cell? ⟨w.heap.size, 1, none⟩ = some (.bool false) := (blk_cell n0.out 1).trans rfl; have d2 : w2.cell? ⟨w.heap.size, 2, none⟩ = some (.int .u8 l) := (blk_cell n0.out 2).trans rfl; have d3 : w2.cell? ⟨w.heap.size, 3, none⟩ = some (.int .u8 h) := (blk_cell n0.out 3).trans rfl; have d4 : w2.cell? ⟨w.heap.size, 4, none⟩ = some (.int .u8 r) := (blk_cell n0.out 4).trans rfl; have d5 : w2.cell? ⟨w.heap.size, 5, none⟩ = some (.bool md) := (blk_cell n0.out 5).trans rfl))
  rename_i hHeld
  clear hHeld
  go_wp2
  go_returns
  exact ⟨rfl, n1.out⟩
set_option maxRecDepth 100000 in
set_option maxHeartbeats 400000 in
theorem ram3_false_c (k : Int) (o : Bool) (l h r : Int) (md : Bool) (a : Int) (s : Int)   (hs : ¬ s < 1) (hi : a / 8192 = 5) (w : World) :
    Calls Try.prog 17 #[.agg #[.int .i64 3, .bool false, .int .u8 l, .int .u8 h, .int .u8 r, .bool md], .int .u16 a, .int .i64 s] w fun e' w' => e' = .returned (.int .i64 (-1)) ∧ Below w.heap.size w w' := by
  go_enter Try.func17, Try.ntmps17
  go_wp2
  have bk := blk_new w (.cells #[.int .i64 3, .bool false, .int .u8 l, .int .u8 h, .int .u8 r, .bool md] 24)
  have hB := below_alloc (Below.refl w.heap.size w) (.cells #[.int .i64 3, .bool false, .int .u8 l, .int .u8 h, .int .u8 r, .bool md] 24)
  generalize w.alloc (.cells #[.int .i64 3, .bool false, .int .u8 l, .int .u8 h, .int .u8 r, .bool md] 24) = W at bk hB ⊢
  have BK := Aside0.mk bk
  have HB := Aside0.mk hB
  clear bk hB
  have c0 : W.cell? ⟨w.heap.size, 0, none⟩ = some (.int .i64 3) := (blk_cell BK.out 0).trans rfl
  have c1 : W.cell? ⟨w.heap.size, 1, none⟩ = some (.bool false) := (blk_cell BK.out 1).trans rfl
  have c2 : W.cell? ⟨w.heap.size, 2, none⟩ = some (.int .u8 l) := (blk_cell BK.out 2).trans rfl
  have c3 : W.cell? ⟨w.heap.size, 3, none⟩ = some (.int .u8 h) := (blk_cell BK.out 3).trans rfl
  have c4 : W.cell? ⟨w.heap.size, 4, none⟩ = some (.int .u8 r) := (blk_cell BK.out 4).trans rfl
  have c5 : W.cell? ⟨w.heap.size, 5, none⟩ = some (.bool md) := (blk_cell BK.out 5).trans rfl
  go_region_held3 (fun w' => w'.cell? ⟨w.heap.size, 0, none⟩ = some (.int .i64 3) ∧ w'.cell? ⟨w.heap.size, 1, none⟩ = some (.bool false) ∧ w'.cell? ⟨w.heap.size, 2, none⟩ = some (.int .u8 l) ∧ w'.cell? ⟨w.heap.size, 3, none⟩ = some (.int .u8 h) ∧ w'.cell? ⟨w.heap.size, 4, none⟩ = some (.int .u8 r) ∧ w'.cell? ⟨w.heap.size, 5, none⟩ = some (.bool md)) (go_keep)
    (first | (go_at_call 23; ((with_reducible refine (of3 _).mono ?_)); rintro e' w2 ⟨rfl, rfl⟩)
           | (go_at_call 49; ((with_reducible refine (ram_third0 3 l h r md _).mono ?_)); rintro e' w2 ⟨rfl, hb⟩; have n0 := Aside0.mk (blk_below (blk_drew BK.out) hb); have n1 := Aside0.mk (below_step (below_drew1 HB.out) hb); clear hb; have d0 : w2.cell? ⟨w.heap.size, 0, none⟩ = some (.int .i64 3) := (blk_cell n0.out 0).trans rfl; have d1 : w2.cell? ⟨w.heap.size, 1, none⟩ = some (.bool false) := (blk_cell n0.out 1).trans rfl; have d2 : w2.cell? ⟨w.heap.size, 2, none⟩ = some (.int .u8 l) := (blk_cell n0.out 2).trans rfl; have d3 : w2.cell? ⟨w.heap.size, 3, none⟩ = some (.int .u8 h) := (blk_cell n0.out 3).trans rfl; have d4 : w2.cell? ⟨w.heap.size, 4, none⟩ = some (.int .u8 r) := (blk_cell n0.out 4).trans rfl; have d5 : w2.cell? ⟨w.heap.size, 5, none⟩ = some (.bool md) := (blk_cell n0.out 5).trans rfl))
  rename_i hHeld
  clear hHeld
  go_wp2
  go_returns
  exact ⟨rfl, n1.out⟩
theorem ram3_false (k : Int) (o : Bool) (l h r : Int) (md : Bool) (a : Int) (s : Int)   (w : World) :
    Calls Try.prog 17 #[.agg #[.int .i64 3, .bool false, .int .u8 l, .int .u8 h, .int .u8 r, .bool md], .int .u16 a, .int .i64 s] w fun e' w' => e' = .returned (.int .i64 (ramR (wrap64 r) false a s)) ∧ Below w.heap.size w w' := by
  unfold ramR
  by_cases hs : s < 1
  · rw [if_pos hs]; exact ram3_false_a k o l h r md a s  hs w
  rw [if_neg hs]
  by_cases hi : a / 8192 = 5
  · rw [if_neg (by simpa using hi), if_neg (by simp)]; exact ram3_false_c k o l h r md a s  hs hi w
  · rw [if_pos hi]; exact ram3_false_b k o l h r md a s  hs hi w
set_option maxRecDepth 100000 in
set_option maxHeartbeats 400000 in
theorem ram3_lo_a (k : Int) (o : Bool) (l h r : Int) (md : Bool) (a : Int) (s : Int)  (hr : r < 8) (hs : s < 1) (w : World) :
    Calls Try.prog 17 #[.agg #[.int .i64 3, .bool true, .int .u8 l, .int .u8 h, .int .u8 r, .bool md], .int .u16 a, .int .i64 s] w fun e' w' => e' = .returned (.int .i64 (-1)) ∧ Below w.heap.size w w' := by
  go_enter Try.func17, Try.ntmps17
  have hrb : decide (r < 8) = true := by simpa using hr
  go_wp2
  have bk := blk_new w (.cells #[.int .i64 3, .bool true, .int .u8 l, .int .u8 h, .int .u8 r, .bool md] 24)
  have hB := below_alloc (Below.refl w.heap.size w) (.cells #[.int .i64 3, .bool true, .int .u8 l, .int .u8 h, .int .u8 r, .bool md] 24)
  generalize w.alloc (.cells #[.int .i64 3, .bool true, .int .u8 l, .int .u8 h, .int .u8 r, .bool md] 24) = W at bk hB ⊢
  have BK := Aside0.mk bk
  have HB := Aside0.mk hB
  clear bk hB
  have c0 : W.cell? ⟨w.heap.size, 0, none⟩ = some (.int .i64 3) := (blk_cell BK.out 0).trans rfl
  have c1 : W.cell? ⟨w.heap.size, 1, none⟩ = some (.bool true) := (blk_cell BK.out 1).trans rfl
  have c2 : W.cell? ⟨w.heap.size, 2, none⟩ = some (.int .u8 l) := (blk_cell BK.out 2).trans rfl
  have c3 : W.cell? ⟨w.heap.size, 3, none⟩ = some (.int .u8 h) := (blk_cell BK.out 3).trans rfl
  have c4 : W.cell? ⟨w.heap.size, 4, none⟩ = some (.int .u8 r) := (blk_cell BK.out 4).trans rfl
  have c5 : W.cell? ⟨w.heap.size, 5, none⟩ = some (.bool md) := (blk_cell BK.out 5).trans rfl
  go_region_held3 (fun w' => w'.cell? ⟨w.heap.size, 0, none⟩ = some (.int .i64 3) ∧ w'.cell? ⟨w.heap.size, 1, none⟩ = some (.bool true) ∧ w'.cell? ⟨w.heap.size, 2, none⟩ = some (.int .u8 l) ∧ w'.cell? ⟨w.heap.size, 3, none⟩ = some (.int .u8 h) ∧ w'.cell? ⟨w.heap.size, 4, none⟩ = some (.int .u8 r) ∧ w'.cell? ⟨w.heap.size, 5, none⟩ = some (.bool md)) (go_keep)
    (first | (go_at_call 23; ((with_reducible refine (of3 _).mono ?_)); rintro e' w2 ⟨rfl, rfl⟩)
           | (go_at_call 49; ((with_reducible refine (ram_third1 3 l h r md _).mono ?_)); rintro e' w2 ⟨rfl, hb⟩; have n0 := Aside0.mk (blk_below (blk_drew BK.out) hb); have n1 := Aside0.mk (below_step (below_drew1 HB.out) hb); clear hb; have d0 : w2.cell? ⟨w.heap.size, 0, none⟩ = some (.int .i64 3) := (blk_cell n0.out 0).trans rfl; have d1 : w2.cell? ⟨w.heap.size, 1, none⟩ = some (.bool true) := (blk_cell n0.out 1).trans rfl; have d2 : w2.cell? ⟨w.heap.size, 2, none⟩ = some (.int .u8 l) := (blk_cell n0.out 2).trans rfl; have d3 : w2.cell? ⟨w.heap.size, 3, none⟩ = some (.int .u8 h) := (blk_cell n0.out 3).trans rfl; have d4 : w2.cell? ⟨w.heap.size, 4, none⟩ = some (.int .u8 r) := (blk_cell n0.out 4).trans rfl; have d5 : w2.cell? ⟨w.heap.size, 5, none⟩ = some (.bool md) := (blk_cell n0.out 5).trans rfl))
  rename_i hHeld
  clear hHeld
  go_wp2
  go_returns
  exact ⟨rfl, n1.out⟩
set_option maxRecDepth 100000 in
set_option maxHeartbeats 400000 in
theorem ram3_lo_b (k : Int) (o : Bool) (l h r : Int) (md : Bool) (a : Int) (s : Int)  (hr : r < 8) (hs : ¬ s < 1) (hi : ¬ a / 8192 = 5) (w : World) :
    Calls Try.prog 17 #[.agg #[.int .i64 3, .bool true, .int .u8 l, .int .u8 h, .int .u8 r, .bool md], .int .u16 a, .int .i64 s] w fun e' w' => e' = .returned (.int .i64 (-1)) ∧ Below w.heap.size w w' := by
  go_enter Try.func17, Try.ntmps17
  have hrb : decide (r < 8) = true := by simpa using hr
  go_wp2
  have bk := blk_new w (.cells #[.int .i64 3, .bool true, .int .u8 l, .int .u8 h, .int .u8 r, .bool md] 24)
  have hB := below_alloc (Below.refl w.heap.size w) (.cells #[.int .i64 3, .bool true, .int .u8 l, .int .u8 h, .int .u8 r, .bool md] 24)
  generalize w.alloc (.cells #[.int .i64 3, .bool true, .int .u8 l, .int .u8 h, .int .u8 r, .bool md] 24) = W at bk hB ⊢
  have BK := Aside0.mk bk
  have HB := Aside0.mk hB
  clear bk hB
  have c0 : W.cell? ⟨w.heap.size, 0, none⟩ = some (.int .i64 3) := (blk_cell BK.out 0).trans rfl
  have c1 : W.cell? ⟨w.heap.size, 1, none⟩ = some (.bool true) := (blk_cell BK.out 1).trans rfl
  have c2 : W.cell? ⟨w.heap.size, 2, none⟩ = some (.int .u8 l) := (blk_cell BK.out 2).trans rfl
  have c3 : W.cell? ⟨w.heap.size, 3, none⟩ = some (.int .u8 h) := (blk_cell BK.out 3).trans rfl
  have c4 : W.cell? ⟨w.heap.size, 4, none⟩ = some (.int .u8 r) := (blk_cell BK.out 4).trans rfl
  have c5 : W.cell? ⟨w.heap.size, 5, none⟩ = some (.bool md) := (blk_cell BK.out 5).trans rfl
  go_region_held3 (fun w' => w'.cell? ⟨w.heap.size, 0, none⟩ = some (.int .i64 3) ∧ w'.cell? ⟨w.heap.size, 1, none⟩ = some (.bool true) ∧ w'.cell? ⟨w.heap.size, 2, none⟩ = some (.int .u8 l) ∧ w'.cell? ⟨w.heap.size, 3, none⟩ = some (.int .u8 h) ∧ w'.cell? ⟨w.heap.size, 4, none⟩ = some (.int .u8 r) ∧ w'.cell? ⟨w.heap.size, 5, none⟩ = some (.bool md)) (go_keep)
    (first | (go_at_call 23; ((with_reducible refine (of3 _).mono ?_)); rintro e' w2 ⟨rfl, rfl⟩)
           | (go_at_call 49; ((with_reducible refine (ram_third1 3 l h r md _).mono ?_)); rintro e' w2 ⟨rfl, hb⟩; have n0 := Aside0.mk (blk_below (blk_drew BK.out) hb); have n1 := Aside0.mk (below_step (below_drew1 HB.out) hb); clear hb; have d0 : w2.cell? ⟨w.heap.size, 0, none⟩ = some (.int .i64 3) := (blk_cell n0.out 0).trans rfl; have d1 : w2.cell? ⟨w.heap.size, 1, none⟩ = some (.bool true) := (blk_cell n0.out 1).trans rfl; have d2 : w2.cell? ⟨w.heap.size, 2, none⟩ = some (.int .u8 l) := (blk_cell n0.out 2).trans rfl; have d3 : w2.cell? ⟨w.heap.size, 3, none⟩ = some (.int .u8 h) := (blk_cell n0.out 3).trans rfl; have d4 : w2.cell? ⟨w.heap.size, 4, none⟩ = some (.int .u8 r) := (blk_cell n0.out 4).trans rfl; have d5 : w2.cell? ⟨w.heap.size, 5, none⟩ = some (.bool md) := (blk_cell n0.out 5).trans rfl))
  rename_i hHeld
  clear hHeld
  go_wp2
  go_returns
  exact ⟨rfl, n1.out⟩
set_option maxRecDepth 100000 in
set_option maxHeartbeats 400000 in
theorem ram3_lo_c (k : Int) (o : Bool) (l h r : Int) (md : Bool) (a : Int) (s : Int)  (hr : r < 8) (hs : ¬ s < 1) (hi : a / 8192 = 5) (w : World) :
    Calls Try.prog 17 #[.agg #[.int .i64 3, .bool true, .int .u8 l, .int .u8 h, .int .u8 r, .bool md], .int .u16 a, .int .i64 s] w fun e' w' => e' = .returned (.int .i64 (Int.tmod (wrap64 (wrap64 (wrap64 (wrap64 r * 8192) + a) - 40960)) s)) ∧ Below w.heap.size w w' := by
  go_enter Try.func17, Try.ntmps17
  have hrb : decide (r < 8) = true := by simpa using hr
  go_wp2
  have bk := blk_new w (.cells #[.int .i64 3, .bool true, .int .u8 l, .int .u8 h, .int .u8 r, .bool md] 24)
  have hB := below_alloc (Below.refl w.heap.size w) (.cells #[.int .i64 3, .bool true, .int .u8 l, .int .u8 h, .int .u8 r, .bool md] 24)
  generalize w.alloc (.cells #[.int .i64 3, .bool true, .int .u8 l, .int .u8 h, .int .u8 r, .bool md] 24) = W at bk hB ⊢
  have BK := Aside0.mk bk
  have HB := Aside0.mk hB
  clear bk hB
  have c0 : W.cell? ⟨w.heap.size, 0, none⟩ = some (.int .i64 3) := (blk_cell BK.out 0).trans rfl
  have c1 : W.cell? ⟨w.heap.size, 1, none⟩ = some (.bool true) := (blk_cell BK.out 1).trans rfl
  have c2 : W.cell? ⟨w.heap.size, 2, none⟩ = some (.int .u8 l) := (blk_cell BK.out 2).trans rfl
  have c3 : W.cell? ⟨w.heap.size, 3, none⟩ = some (.int .u8 h) := (blk_cell BK.out 3).trans rfl
  have c4 : W.cell? ⟨w.heap.size, 4, none⟩ = some (.int .u8 r) := (blk_cell BK.out 4).trans rfl
  have c5 : W.cell? ⟨w.heap.size, 5, none⟩ = some (.bool md) := (blk_cell BK.out 5).trans rfl
  go_region_held3 (fun w' => w'.cell? ⟨w.heap.size, 0, none⟩ = some (.int .i64 3) ∧ w'.cell? ⟨w.heap.size, 1, none⟩ = some (.bool true) ∧ w'.cell? ⟨w.heap.size, 2, none⟩ = some (.int .u8 l) ∧ w'.cell? ⟨w.heap.size, 3, none⟩ = some (.int .u8 h) ∧ w'.cell? ⟨w.heap.size, 4, none⟩ = some (.int .u8 r) ∧ w'.cell? ⟨w.heap.size, 5, none⟩ = some (.bool md)) (go_keep)
    (first | (go_at_call 23; ((with_reducible refine (of3 _).mono ?_)); rintro e' w2 ⟨rfl, rfl⟩)
           | (go_at_call 49; ((with_reducible refine (ram_third1 3 l h r md _).mono ?_)); rintro e' w2 ⟨rfl, hb⟩; have n0 := Aside0.mk (blk_below (blk_drew BK.out) hb); have n1 := Aside0.mk (below_step (below_drew1 HB.out) hb); clear hb; have d0 : w2.cell? ⟨w.heap.size, 0, none⟩ = some (.int .i64 3) := (blk_cell n0.out 0).trans rfl; have d1 : w2.cell? ⟨w.heap.size, 1, none⟩ = some (.bool true) := (blk_cell n0.out 1).trans rfl; have d2 : w2.cell? ⟨w.heap.size, 2, none⟩ = some (.int .u8 l) := (blk_cell n0.out 2).trans rfl; have d3 : w2.cell? ⟨w.heap.size, 3, none⟩ = some (.int .u8 h) := (blk_cell n0.out 3).trans rfl; have d4 : w2.cell? ⟨w.heap.size, 4, none⟩ = some (.int .u8 r) := (blk_cell n0.out 4).trans rfl; have d5 : w2.cell? ⟨w.heap.size, 5, none⟩ = some (.bool md) := (blk_cell n0.out 5).trans rfl))
  rename_i hHeld
  clear hHeld
  go_wp2
  go_returns
  exact ⟨rfl, n1.out⟩
theorem ram3_lo (k : Int) (o : Bool) (l h r : Int) (md : Bool) (a : Int) (s : Int)  (hr : r < 8) (w : World) :
    Calls Try.prog 17 #[.agg #[.int .i64 3, .bool true, .int .u8 l, .int .u8 h, .int .u8 r, .bool md], .int .u16 a, .int .i64 s] w fun e' w' => e' = .returned (.int .i64 (ramR (wrap64 r) true a s)) ∧ Below w.heap.size w w' := by
  unfold ramR
  by_cases hs : s < 1
  · rw [if_pos hs]; exact ram3_lo_a k o l h r md a s hr hs w
  rw [if_neg hs]
  by_cases hi : a / 8192 = 5
  · rw [if_neg (by simpa using hi), if_pos rfl]; exact ram3_lo_c k o l h r md a s hr hs hi w
  · rw [if_pos hi]; exact ram3_lo_b k o l h r md a s hr hs hi w
set_option maxRecDepth 100000 in
set_option maxHeartbeats 400000 in
theorem ram3_hi_a (k : Int) (o : Bool) (l h r : Int) (md : Bool) (a : Int) (s : Int)  (hr : ¬ r < 8) (hs : s < 1) (w : World) :
    Calls Try.prog 17 #[.agg #[.int .i64 3, .bool true, .int .u8 l, .int .u8 h, .int .u8 r, .bool md], .int .u16 a, .int .i64 s] w fun e' w' => e' = .returned (.int .i64 (-1)) ∧ Below w.heap.size w w' := by
  go_enter Try.func17, Try.ntmps17
  have hrb : decide (r < 8) = false := by simpa using hr
  go_wp2
  have bk := blk_new w (.cells #[.int .i64 3, .bool true, .int .u8 l, .int .u8 h, .int .u8 r, .bool md] 24)
  have hB := below_alloc (Below.refl w.heap.size w) (.cells #[.int .i64 3, .bool true, .int .u8 l, .int .u8 h, .int .u8 r, .bool md] 24)
  generalize w.alloc (.cells #[.int .i64 3, .bool true, .int .u8 l, .int .u8 h, .int .u8 r, .bool md] 24) = W at bk hB ⊢
  have BK := Aside0.mk bk
  have HB := Aside0.mk hB
  clear bk hB
  have c0 : W.cell? ⟨w.heap.size, 0, none⟩ = some (.int .i64 3) := (blk_cell BK.out 0).trans rfl
  have c1 : W.cell? ⟨w.heap.size, 1, none⟩ = some (.bool true) := (blk_cell BK.out 1).trans rfl
  have c2 : W.cell? ⟨w.heap.size, 2, none⟩ = some (.int .u8 l) := (blk_cell BK.out 2).trans rfl
  have c3 : W.cell? ⟨w.heap.size, 3, none⟩ = some (.int .u8 h) := (blk_cell BK.out 3).trans rfl
  have c4 : W.cell? ⟨w.heap.size, 4, none⟩ = some (.int .u8 r) := (blk_cell BK.out 4).trans rfl
  have c5 : W.cell? ⟨w.heap.size, 5, none⟩ = some (.bool md) := (blk_cell BK.out 5).trans rfl
  go_region_held3 (fun w' => w'.cell? ⟨w.heap.size, 0, none⟩ = some (.int .i64 3) ∧ w'.cell? ⟨w.heap.size, 1, none⟩ = some (.bool true) ∧ w'.cell? ⟨w.heap.size, 2, none⟩ = some (.int .u8 l) ∧ w'.cell? ⟨w.heap.size, 3, none⟩ = some (.int .u8 h) ∧ w'.cell? ⟨w.heap.size, 4, none⟩ = some (.int .u8 r) ∧ w'.cell? ⟨w.heap.size, 5, none⟩ = some (.bool md)) (go_keep)
    (first | (go_at_call 23; ((with_reducible refine (of3 _).mono ?_)); rintro e' w2 ⟨rfl, rfl⟩)
           | (go_at_call 49; ((with_reducible refine (ram_third1 3 l h r md _).mono ?_)); rintro e' w2 ⟨rfl, hb⟩; have n0 := Aside0.mk (blk_below (blk_drew BK.out) hb); have n1 := Aside0.mk (below_step (below_drew1 HB.out) hb); clear hb; have d0 : w2.cell? ⟨w.heap.size, 0, none⟩ = some (.int .i64 3) := (blk_cell n0.out 0).trans rfl; have d1 : w2.cell? ⟨w.heap.size, 1, none⟩ = some (.bool true) := (blk_cell n0.out 1).trans rfl; have d2 : w2.cell? ⟨w.heap.size, 2, none⟩ = some (.int .u8 l) := (blk_cell n0.out 2).trans rfl; have d3 : w2.cell? ⟨w.heap.size, 3, none⟩ = some (.int .u8 h) := (blk_cell n0.out 3).trans rfl; have d4 : w2.cell? ⟨w.heap.size, 4, none⟩ = some (.int .u8 r) := (blk_cell n0.out 4).trans rfl; have d5 : w2.cell? ⟨w.heap.size, 5, none⟩ = some (.bool md) := (blk_cell n0.out 5).trans rfl))
  rename_i hHeld
  clear hHeld
  go_wp2
  go_returns
  exact ⟨rfl, n1.out⟩
set_option maxRecDepth 100000 in
set_option maxHeartbeats 400000 in
theorem ram3_hi_b (k : Int) (o : Bool) (l h r : Int) (md : Bool) (a : Int) (s : Int)  (hr : ¬ r < 8) (hs : ¬ s < 1) (hi : ¬ a / 8192 = 5) (w : World) :
    Calls Try.prog 17 #[.agg #[.int .i64 3, .bool true, .int .u8 l, .int .u8 h, .int .u8 r, .bool md], .int .u16 a, .int .i64 s] w fun e' w' => e' = .returned (.int .i64 (-1)) ∧ Below w.heap.size w w' := by
  go_enter Try.func17, Try.ntmps17
  have hrb : decide (r < 8) = false := by simpa using hr
  go_wp2
  have bk := blk_new w (.cells #[.int .i64 3, .bool true, .int .u8 l, .int .u8 h, .int .u8 r, .bool md] 24)
  have hB := below_alloc (Below.refl w.heap.size w) (.cells #[.int .i64 3, .bool true, .int .u8 l, .int .u8 h, .int .u8 r, .bool md] 24)
  generalize w.alloc (.cells #[.int .i64 3, .bool true, .int .u8 l, .int .u8 h, .int .u8 r, .bool md] 24) = W at bk hB ⊢
  have BK := Aside0.mk bk
  have HB := Aside0.mk hB
  clear bk hB
  have c0 : W.cell? ⟨w.heap.size, 0, none⟩ = some (.int .i64 3) := (blk_cell BK.out 0).trans rfl
  have c1 : W.cell? ⟨w.heap.size, 1, none⟩ = some (.bool true) := (blk_cell BK.out 1).trans rfl
  have c2 : W.cell? ⟨w.heap.size, 2, none⟩ = some (.int .u8 l) := (blk_cell BK.out 2).trans rfl
  have c3 : W.cell? ⟨w.heap.size, 3, none⟩ = some (.int .u8 h) := (blk_cell BK.out 3).trans rfl
  have c4 : W.cell? ⟨w.heap.size, 4, none⟩ = some (.int .u8 r) := (blk_cell BK.out 4).trans rfl
  have c5 : W.cell? ⟨w.heap.size, 5, none⟩ = some (.bool md) := (blk_cell BK.out 5).trans rfl
  go_region_held3 (fun w' => w'.cell? ⟨w.heap.size, 0, none⟩ = some (.int .i64 3) ∧ w'.cell? ⟨w.heap.size, 1, none⟩ = some (.bool true) ∧ w'.cell? ⟨w.heap.size, 2, none⟩ = some (.int .u8 l) ∧ w'.cell? ⟨w.heap.size, 3, none⟩ = some (.int .u8 h) ∧ w'.cell? ⟨w.heap.size, 4, none⟩ = some (.int .u8 r) ∧ w'.cell? ⟨w.heap.size, 5, none⟩ = some (.bool md)) (go_keep)
    (first | (go_at_call 23; ((with_reducible refine (of3 _).mono ?_)); rintro e' w2 ⟨rfl, rfl⟩)
           | (go_at_call 49; ((with_reducible refine (ram_third1 3 l h r md _).mono ?_)); rintro e' w2 ⟨rfl, hb⟩; have n0 := Aside0.mk (blk_below (blk_drew BK.out) hb); have n1 := Aside0.mk (below_step (below_drew1 HB.out) hb); clear hb; have d0 : w2.cell? ⟨w.heap.size, 0, none⟩ = some (.int .i64 3) := (blk_cell n0.out 0).trans rfl; have d1 : w2.cell? ⟨w.heap.size, 1, none⟩ = some (.bool true) := (blk_cell n0.out 1).trans rfl; have d2 : w2.cell? ⟨w.heap.size, 2, none⟩ = some (.int .u8 l) := (blk_cell n0.out 2).trans rfl; have d3 : w2.cell? ⟨w.heap.size, 3, none⟩ = some (.int .u8 h) := (blk_cell n0.out 3).trans rfl; have d4 : w2.cell? ⟨w.heap.size, 4, none⟩ = some (.int .u8 r) := (blk_cell n0.out 4).trans rfl; have d5 : w2.cell? ⟨w.heap.size, 5, none⟩ = some (.bool md) := (blk_cell n0.out 5).trans rfl))
  rename_i hHeld
  clear hHeld
  go_wp2
  go_returns
  exact ⟨rfl, n1.out⟩
set_option maxRecDepth 100000 in
set_option maxHeartbeats 400000 in
theorem ram3_hi_c (k : Int) (o : Bool) (l h r : Int) (md : Bool) (a : Int) (s : Int)  (hr : ¬ r < 8) (hs : ¬ s < 1) (hi : a / 8192 = 5) (w : World) :
    Calls Try.prog 17 #[.agg #[.int .i64 3, .bool true, .int .u8 l, .int .u8 h, .int .u8 r, .bool md], .int .u16 a, .int .i64 s] w fun e' w' => e' = .returned (.int .i64 (-1)) ∧ Below w.heap.size w w' := by
  go_enter Try.func17, Try.ntmps17
  have hrb : decide (r < 8) = false := by simpa using hr
  go_wp2
  have bk := blk_new w (.cells #[.int .i64 3, .bool true, .int .u8 l, .int .u8 h, .int .u8 r, .bool md] 24)
  have hB := below_alloc (Below.refl w.heap.size w) (.cells #[.int .i64 3, .bool true, .int .u8 l, .int .u8 h, .int .u8 r, .bool md] 24)
  generalize w.alloc (.cells #[.int .i64 3, .bool true, .int .u8 l, .int .u8 h, .int .u8 r, .bool md] 24) = W at bk hB ⊢
  have BK := Aside0.mk bk
  have HB := Aside0.mk hB
  clear bk hB
  have c0 : W.cell? ⟨w.heap.size, 0, none⟩ = some (.int .i64 3) := (blk_cell BK.out 0).trans rfl
  have c1 : W.cell? ⟨w.heap.size, 1, none⟩ = some (.bool true) := (blk_cell BK.out 1).trans rfl
  have c2 : W.cell? ⟨w.heap.size, 2, none⟩ = some (.int .u8 l) := (blk_cell BK.out 2).trans rfl
  have c3 : W.cell? ⟨w.heap.size, 3, none⟩ = some (.int .u8 h) := (blk_cell BK.out 3).trans rfl
  have c4 : W.cell? ⟨w.heap.size, 4, none⟩ = some (.int .u8 r) := (blk_cell BK.out 4).trans rfl
  have c5 : W.cell? ⟨w.heap.size, 5, none⟩ = some (.bool md) := (blk_cell BK.out 5).trans rfl
  go_region_held3 (fun w' => w'.cell? ⟨w.heap.size, 0, none⟩ = some (.int .i64 3) ∧ w'.cell? ⟨w.heap.size, 1, none⟩ = some (.bool true) ∧ w'.cell? ⟨w.heap.size, 2, none⟩ = some (.int .u8 l) ∧ w'.cell? ⟨w.heap.size, 3, none⟩ = some (.int .u8 h) ∧ w'.cell? ⟨w.heap.size, 4, none⟩ = some (.int .u8 r) ∧ w'.cell? ⟨w.heap.size, 5, none⟩ = some (.bool md)) (go_keep)
    (first | (go_at_call 23; ((with_reducible refine (of3 _).mono ?_)); rintro e' w2 ⟨rfl, rfl⟩)
           | (go_at_call 49; ((with_reducible refine (ram_third1 3 l h r md _).mono ?_)); rintro e' w2 ⟨rfl, hb⟩; have n0 := Aside0.mk (blk_below (blk_drew BK.out) hb); have n1 := Aside0.mk (below_step (below_drew1 HB.out) hb); clear hb; have d0 : w2.cell? ⟨w.heap.size, 0, none⟩ = some (.int .i64 3) := (blk_cell n0.out 0).trans rfl; have d1 : w2.cell? ⟨w.heap.size, 1, none⟩ = some (.bool true) := (blk_cell n0.out 1).trans rfl; have d2 : w2.cell? ⟨w.heap.size, 2, none⟩ = some (.int .u8 l) := (blk_cell n0.out 2).trans rfl; have d3 : w2.cell? ⟨w.heap.size, 3, none⟩ = some (.int .u8 h) := (blk_cell n0.out 3).trans rfl; have d4 : w2.cell? ⟨w.heap.size, 4, none⟩ = some (.int .u8 r) := (blk_cell n0.out 4).trans rfl; have d5 : w2.cell? ⟨w.heap.size, 5, none⟩ = some (.bool md) := (blk_cell n0.out 5).trans rfl))
  rename_i hHeld
  clear hHeld
  go_wp2
  go_returns
  exact ⟨rfl, n1.out⟩
theorem ram3_hi (k : Int) (o : Bool) (l h r : Int) (md : Bool) (a : Int) (s : Int)  (hr : ¬ r < 8) (w : World) :
    Calls Try.prog 17 #[.agg #[.int .i64 3, .bool true, .int .u8 l, .int .u8 h, .int .u8 r, .bool md], .int .u16 a, .int .i64 s] w fun e' w' => e' = .returned (.int .i64 (ramR (wrap64 r) false a s)) ∧ Below w.heap.size w w' := by
  unfold ramR
  by_cases hs : s < 1
  · rw [if_pos hs]; exact ram3_hi_a k o l h r md a s hr hs w
  rw [if_neg hs]
  by_cases hi : a / 8192 = 5
  · rw [if_neg (by simpa using hi), if_neg (by simp)]; exact ram3_hi_c k o l h r md a s hr hs hi w
  · rw [if_pos hi]; exact ram3_hi_b k o l h r md a s hr hs hi w
set_option maxRecDepth 100000 in
set_option maxHeartbeats 400000 in
theorem ram0_a (k : Int) (o : Bool) (l h r : Int) (md : Bool) (a : Int) (s : Int) (h1 : ¬ k = 1) (h3 : ¬ k = 3) (h5 : ¬ k = 5)  (hs : s < 1) (w : World) :
    Calls Try.prog 17 #[.agg #[.int .i64 k, .bool o, .int .u8 l, .int .u8 h, .int .u8 r, .bool md], .int .u16 a, .int .i64 s] w fun e' w' => e' = .returned (.int .i64 (-1)) ∧ Below w.heap.size w w' := by
  go_enter Try.func17, Try.ntmps17
  go_wp2
  have bk := blk_new w (.cells #[.int .i64 k, .bool o, .int .u8 l, .int .u8 h, .int .u8 r, .bool md] 24)
  have hB := below_alloc (Below.refl w.heap.size w) (.cells #[.int .i64 k, .bool o, .int .u8 l, .int .u8 h, .int .u8 r, .bool md] 24)
  generalize w.alloc (.cells #[.int .i64 k, .bool o, .int .u8 l, .int .u8 h, .int .u8 r, .bool md] 24) = W at bk hB ⊢
  have BK := Aside0.mk bk
  have HB := Aside0.mk hB
  clear bk hB
  have c0 : W.cell? ⟨w.heap.size, 0, none⟩ = some (.int .i64 k) := (blk_cell BK.out 0).trans rfl
  have c1 : W.cell? ⟨w.heap.size, 1, none⟩ = some (.bool o) := (blk_cell BK.out 1).trans rfl
  have c2 : W.cell? ⟨w.heap.size, 2, none⟩ = some (.int .u8 l) := (blk_cell BK.out 2).trans rfl
  have c3 : W.cell? ⟨w.heap.size, 3, none⟩ = some (.int .u8 h) := (blk_cell BK.out 3).trans rfl
  have c4 : W.cell? ⟨w.heap.size, 4, none⟩ = some (.int .u8 r) := (blk_cell BK.out 4).trans rfl
  have c5 : W.cell? ⟨w.heap.size, 5, none⟩ = some (.bool md) := (blk_cell BK.out 5).trans rfl
  go_region_held3 (fun w' => w'.cell? ⟨w.heap.size, 0, none⟩ = some (.int .i64 k) ∧ w'.cell? ⟨w.heap.size, 1, none⟩ = some (.bool o) ∧ w'.cell? ⟨w.heap.size, 2, none⟩ = some (.int .u8 l) ∧ w'.cell? ⟨w.heap.size, 3, none⟩ = some (.int .u8 h) ∧ w'.cell? ⟨w.heap.size, 4, none⟩ = some (.int .u8 r) ∧ w'.cell? ⟨w.heap.size, 5, none⟩ = some (.bool md)) (go_keep)
    (first | (go_at_call 23; ((with_reducible refine (of0 k h1 h3 h5 _).mono ?_)); rintro e' w2 ⟨rfl, rfl⟩)
           | (go_at_call 57; ((with_reducible refine (ram_plain k o l h r md _).mono ?_)); rintro e' w2 ⟨rfl, hb⟩; have n0 := Aside0.mk (blk_below (blk_drew BK.out) hb); have n1 := Aside0.mk (below_step (below_drew1 HB.out) hb); clear hb; have d0 : w2.cell? ⟨w.heap.size, 0, none⟩ = some (.int .i64 k) := (blk_cell n0.out 0).trans rfl; have d1 : w2.cell? ⟨w.heap.size, 1, none⟩ = some (.bool o) := (blk_cell n0.out 1).trans rfl; have d2 : w2.cell? ⟨w.heap.size, 2, none⟩ = some (.int .u8 l) := (blk_cell n0.out 2).trans rfl; have d3 : w2.cell? ⟨w.heap.size, 3, none⟩ = some (.int .u8 h) := (blk_cell n0.out 3).trans rfl; have d4 : w2.cell? ⟨w.heap.size, 4, none⟩ = some (.int .u8 r) := (blk_cell n0.out 4).trans rfl; have d5 : w2.cell? ⟨w.heap.size, 5, none⟩ = some (.bool md) := (blk_cell n0.out 5).trans rfl))
  rename_i hHeld
  clear hHeld
  go_wp2
  go_returns
  exact ⟨rfl, n1.out⟩
set_option maxRecDepth 100000 in
set_option maxHeartbeats 400000 in
theorem ram0_b (k : Int) (o : Bool) (l h r : Int) (md : Bool) (a : Int) (s : Int) (h1 : ¬ k = 1) (h3 : ¬ k = 3) (h5 : ¬ k = 5)  (hs : ¬ s < 1) (hi : ¬ a / 8192 = 5) (w : World) :
    Calls Try.prog 17 #[.agg #[.int .i64 k, .bool o, .int .u8 l, .int .u8 h, .int .u8 r, .bool md], .int .u16 a, .int .i64 s] w fun e' w' => e' = .returned (.int .i64 (-1)) ∧ Below w.heap.size w w' := by
  go_enter Try.func17, Try.ntmps17
  go_wp2
  have bk := blk_new w (.cells #[.int .i64 k, .bool o, .int .u8 l, .int .u8 h, .int .u8 r, .bool md] 24)
  have hB := below_alloc (Below.refl w.heap.size w) (.cells #[.int .i64 k, .bool o, .int .u8 l, .int .u8 h, .int .u8 r, .bool md] 24)
  generalize w.alloc (.cells #[.int .i64 k, .bool o, .int .u8 l, .int .u8 h, .int .u8 r, .bool md] 24) = W at bk hB ⊢
  have BK := Aside0.mk bk
  have HB := Aside0.mk hB
  clear bk hB
  have c0 : W.cell? ⟨w.heap.size, 0, none⟩ = some (.int .i64 k) := (blk_cell BK.out 0).trans rfl
  have c1 : W.cell? ⟨w.heap.size, 1, none⟩ = some (.bool o) := (blk_cell BK.out 1).trans rfl
  have c2 : W.cell? ⟨w.heap.size, 2, none⟩ = some (.int .u8 l) := (blk_cell BK.out 2).trans rfl
  have c3 : W.cell? ⟨w.heap.size, 3, none⟩ = some (.int .u8 h) := (blk_cell BK.out 3).trans rfl
  have c4 : W.cell? ⟨w.heap.size, 4, none⟩ = some (.int .u8 r) := (blk_cell BK.out 4).trans rfl
  have c5 : W.cell? ⟨w.heap.size, 5, none⟩ = some (.bool md) := (blk_cell BK.out 5).trans rfl
  go_region_held3 (fun w' => w'.cell? ⟨w.heap.size, 0, none⟩ = some (.int .i64 k) ∧ w'.cell? ⟨w.heap.size, 1, none⟩ = some (.bool o) ∧ w'.cell? ⟨w.heap.size, 2, none⟩ = some (.int .u8 l) ∧ w'.cell? ⟨w.heap.size, 3, none⟩ = some (.int .u8 h) ∧ w'.cell? ⟨w.heap.size, 4, none⟩ = some (.int .u8 r) ∧ w'.cell? ⟨w.heap.size, 5, none⟩ = some (.bool md)) (go_keep)
    (first | (go_at_call 23; ((with_reducible refine (of0 k h1 h3 h5 _).mono ?_)); rintro e' w2 ⟨rfl, rfl⟩)
           | (go_at_call 57; ((with_reducible refine (ram_plain k o l h r md _).mono ?_)); rintro e' w2 ⟨rfl, hb⟩; have n0 := Aside0.mk (blk_below (blk_drew BK.out) hb); have n1 := Aside0.mk (below_step (below_drew1 HB.out) hb); clear hb; have d0 : w2.cell? ⟨w.heap.size, 0, none⟩ = some (.int .i64 k) := (blk_cell n0.out 0).trans rfl; have d1 : w2.cell? ⟨w.heap.size, 1, none⟩ = some (.bool o) := (blk_cell n0.out 1).trans rfl; have d2 : w2.cell? ⟨w.heap.size, 2, none⟩ = some (.int .u8 l) := (blk_cell n0.out 2).trans rfl; have d3 : w2.cell? ⟨w.heap.size, 3, none⟩ = some (.int .u8 h) := (blk_cell n0.out 3).trans rfl; have d4 : w2.cell? ⟨w.heap.size, 4, none⟩ = some (.int .u8 r) := (blk_cell n0.out 4).trans rfl; have d5 : w2.cell? ⟨w.heap.size, 5, none⟩ = some (.bool md) := (blk_cell n0.out 5).trans rfl))
  rename_i hHeld
  clear hHeld
  go_wp2
  go_returns
  exact ⟨rfl, n1.out⟩
set_option maxRecDepth 100000 in
set_option maxHeartbeats 400000 in
theorem ram0_c (k : Int) (o : Bool) (l h r : Int) (md : Bool) (a : Int) (s : Int) (h1 : ¬ k = 1) (h3 : ¬ k = 3) (h5 : ¬ k = 5)  (hs : ¬ s < 1) (hi : a / 8192 = 5) (w : World) :
    Calls Try.prog 17 #[.agg #[.int .i64 k, .bool o, .int .u8 l, .int .u8 h, .int .u8 r, .bool md], .int .u16 a, .int .i64 s] w fun e' w' => e' = .returned (.int .i64 ((a - 40960) % s)) ∧ Below w.heap.size w w' := by
  go_enter Try.func17, Try.ntmps17
  go_wp2
  have bk := blk_new w (.cells #[.int .i64 k, .bool o, .int .u8 l, .int .u8 h, .int .u8 r, .bool md] 24)
  have hB := below_alloc (Below.refl w.heap.size w) (.cells #[.int .i64 k, .bool o, .int .u8 l, .int .u8 h, .int .u8 r, .bool md] 24)
  generalize w.alloc (.cells #[.int .i64 k, .bool o, .int .u8 l, .int .u8 h, .int .u8 r, .bool md] 24) = W at bk hB ⊢
  have BK := Aside0.mk bk
  have HB := Aside0.mk hB
  clear bk hB
  have c0 : W.cell? ⟨w.heap.size, 0, none⟩ = some (.int .i64 k) := (blk_cell BK.out 0).trans rfl
  have c1 : W.cell? ⟨w.heap.size, 1, none⟩ = some (.bool o) := (blk_cell BK.out 1).trans rfl
  have c2 : W.cell? ⟨w.heap.size, 2, none⟩ = some (.int .u8 l) := (blk_cell BK.out 2).trans rfl
  have c3 : W.cell? ⟨w.heap.size, 3, none⟩ = some (.int .u8 h) := (blk_cell BK.out 3).trans rfl
  have c4 : W.cell? ⟨w.heap.size, 4, none⟩ = some (.int .u8 r) := (blk_cell BK.out 4).trans rfl
  have c5 : W.cell? ⟨w.heap.size, 5, none⟩ = some (.bool md) := (blk_cell BK.out 5).trans rfl
  go_region_held3 (fun w' => w'.cell? ⟨w.heap.size, 0, none⟩ = some (.int .i64 k) ∧ w'.cell? ⟨w.heap.size, 1, none⟩ = some (.bool o) ∧ w'.cell? ⟨w.heap.size, 2, none⟩ = some (.int .u8 l) ∧ w'.cell? ⟨w.heap.size, 3, none⟩ = some (.int .u8 h) ∧ w'.cell? ⟨w.heap.size, 4, none⟩ = some (.int .u8 r) ∧ w'.cell? ⟨w.heap.size, 5, none⟩ = some (.bool md)) (go_keep)
    (first | (go_at_call 23; ((with_reducible refine (of0 k h1 h3 h5 _).mono ?_)); rintro e' w2 ⟨rfl, rfl⟩)
           | (go_at_call 57; ((with_reducible refine (ram_plain k o l h r md _).mono ?_)); rintro e' w2 ⟨rfl, hb⟩; have n0 := Aside0.mk (blk_below (blk_drew BK.out) hb); have n1 := Aside0.mk (below_step (below_drew1 HB.out) hb); clear hb; have d0 : w2.cell? ⟨w.heap.size, 0, none⟩ = some (.int .i64 k) := (blk_cell n0.out 0).trans rfl; have d1 : w2.cell? ⟨w.heap.size, 1, none⟩ = some (.bool o) := (blk_cell n0.out 1).trans rfl; have d2 : w2.cell? ⟨w.heap.size, 2, none⟩ = some (.int .u8 l) := (blk_cell n0.out 2).trans rfl; have d3 : w2.cell? ⟨w.heap.size, 3, none⟩ = some (.int .u8 h) := (blk_cell n0.out 3).trans rfl; have d4 : w2.cell? ⟨w.heap.size, 4, none⟩ = some (.int .u8 r) := (blk_cell n0.out 4).trans rfl; have d5 : w2.cell? ⟨w.heap.size, 5, none⟩ = some (.bool md) := (blk_cell n0.out 5).trans rfl))
  rename_i hHeld
  clear hHeld
  go_wp2
  go_returns
  exact ⟨rfl, n1.out⟩
theorem ram0 (k : Int) (o : Bool) (l h r : Int) (md : Bool) (a : Int) (s : Int) (h1 : ¬ k = 1) (h3 : ¬ k = 3) (h5 : ¬ k = 5)  (w : World) :
    Calls Try.prog 17 #[.agg #[.int .i64 k, .bool o, .int .u8 l, .int .u8 h, .int .u8 r, .bool md], .int .u16 a, .int .i64 s] w fun e' w' => e' = .returned (.int .i64 (ramZ true a s)) ∧ Below w.heap.size w w' := by
  unfold ramZ
  by_cases hs : s < 1
  · rw [if_pos hs]; exact ram0_a k o l h r md a s h1 h3 h5 hs w
  rw [if_neg hs]
  by_cases hi : a / 8192 = 5
  · rw [if_neg (by simpa using hi), if_pos rfl]; exact ram0_c k o l h r md a s h1 h3 h5 hs hi w
  · rw [if_pos hi]; exact ram0_b k o l h r md a s h1 h3 h5 hs hi w
def ramF (k : Int) (o : Bool) (h r : Int) (md : Bool) (a s : Int) : Int :=
  if k = 1 then (if md = true then ramR (wrap64 h) o a s else ramZ o a s) else
  if k = 3 then (if o = true then (if r < 8 then ramR (wrap64 r) true a s else ramR (wrap64 r) false a s) else ramR (wrap64 r) false a s) else
  if k = 5 then ramR (wrap64 r) o a s else ramZ true a s
def mapper_Ram.f (a0_0 : Int) (a0_1 : Bool) (a0_2 a0_3 a0_4 : Int) (a0_5 : Bool) (a1 a2 : Int) : Option Int := some (ramF a0_0 a0_1 a0_3 a0_4 a0_5 a1 a2)
theorem mapper_Ram.calls (a0_0 : Int) (a0_1 : Bool) (a0_2 a0_3 a0_4 : Int) (a0_5 : Bool) (a1 a2 : Int) (r : Int) (w : World) (hf : mapper_Ram.f a0_0 a0_1 a0_2 a0_3 a0_4 a0_5 a1 a2 = some r) :
    Calls Try.prog 17 #[.agg #[.int .i64 a0_0, .bool a0_1, .int .u8 a0_2, .int .u8 a0_3, .int .u8 a0_4, .bool a0_5], .int .u16 a1, .int .i64 a2] w fun e w' => e = .returned (.int .i64 r) ∧ Below w.heap.size w w' := by
  obtain rfl := Option.some.inj hf
  clear hf
  unfold ramF
  by_cases k1 : a0_0 = 1
  · subst k1
    rw [if_pos rfl]
    cases a0_5 <;> cases a0_1
    · exact ram1b_false 0 false _ _ _ false _ _ w
    · exact ram1b_true 0 true _ _ _ false _ _ w
    · exact ram1a_false 0 false _ _ _ true _ _ w
    · exact ram1a_true 0 true _ _ _ true _ _ w
  rw [if_neg k1]
  by_cases k3 : a0_0 = 3
  · subst k3
    rw [if_pos rfl]
    cases a0_1
    · exact ram3_false 0 false _ _ _ _ _ _ w
    · rw [if_pos rfl]
      by_cases hr : a0_4 < 8
      · rw [if_pos hr]; exact ram3_lo 0 true _ _ _ _ _ _ hr w
      · rw [if_neg hr]; exact ram3_hi 0 true _ _ _ _ _ _ hr w
  rw [if_neg k3]
  by_cases k5 : a0_0 = 5
  · subst k5
    rw [if_pos rfl]
    cases a0_1
    · exact ram5_false 0 false _ _ _ _ _ _ w
    · exact ram5_true 0 true _ _ _ _ _ _ w
  rw [if_neg k5]
  exact ram0 _ _ _ _ _ _ _ _ k1 k3 k5 w
end Go.Proofs.Ytkogdocpldfmnaa.Hand
