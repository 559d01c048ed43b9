/- The mapper's Write by hand: the chip asked through its interface. -/
import Derived.Test.YtkogdocpldfmnaaHChips
import Derived.Test.YtkogdocpldfmnaaG3
namespace Go.Proofs.Ytkogdocpldfmnaa.Hand
open Go.RowKit
open Go.Proofs.Ytkogdocpldfmnaa.G
open Go.Proofs.YtkogdocpldfmnaaW.PrintWords Go.Proofs.YtkogdocpldfmnaaW.PrintLast Go.Proofs.YtkogdocpldfmnaaW.PrintMore
set_option linter.unusedVariables false
set_option linter.unusedSimpArgs false
theorem blk_at1 (w : World) (A B : Obj) : ((w.alloc A).alloc B).heap[w.heap.size + 1]? = some B := by
  have z := heap_alloc_new (w.alloc A) B
  have e : (w.alloc A).heap.size = w.heap.size + 1 := by simp
  rwa [e] at z
set_option maxRecDepth 100000 in
set_option maxHeartbeats 400000 in
theorem wr_first0 (k : Int) (o : Bool) (l h r : Int) (md : Bool) (a v : Int) (hp : wrap64 (Int.tdiv (IntKind.i64.wrap (a / 4096)) 2) = 0) (ha : ¬ a ≥ 32768) (w : World) :
    Calls Try.prog 13 #[.agg #[.int .i64 1, .bool o, .int .u8 l, .int .u8 h, .int .u8 r, .bool md], .int .u16 a, .int .u8 v] w fun e' w' => e' = .returned (.agg #[.int .i64 1, .bool ((Go.bits .and .u8 v 15) == 10), .int .u8 l, .int .u8 h, .int .u8 r, .bool md]) ∧ Below w.heap.size w w' := by
  go_enter Try.func13, Try.ntmps13
  go_wp2
  have bk := blk_alloc (blk_new w (.cells #[.int .i64 1, .bool o, .int .u8 l, .int .u8 h, .int .u8 r, .bool md] 24)) (.cells #[.int .i64 0, .bool false, .int .u8 0, .int .u8 0, .int .u8 0, .bool false] 24)
  have br := blk_at1 w (.cells #[.int .i64 1, .bool o, .int .u8 l, .int .u8 h, .int .u8 r, .bool md] 24) (.cells #[.int .i64 0, .bool false, .int .u8 0, .int .u8 0, .int .u8 0, .bool false] 24)
  have hB := below_alloc (below_alloc (Below.refl w.heap.size w) (.cells #[.int .i64 1, .bool o, .int .u8 l, .int .u8 h, .int .u8 r, .bool md] 24)) (.cells #[.int .i64 0, .bool false, .int .u8 0, .int .u8 0, .int .u8 0, .bool false] 24)
  generalize (w.alloc (.cells #[.int .i64 1, .bool o, .int .u8 l, .int .u8 h, .int .u8 r, .bool md] 24)).alloc (.cells #[.int .i64 0, .bool false, .int .u8 0, .int .u8 0, .int .u8 0, .bool false] 24) = W at bk br hB ⊢
  have BK := Aside0.mk bk
  have BR := Aside0.mk br
  have HB := Aside0.mk hB
  clear bk br hB
  have c0 : W.cell? ⟨w.heap.size, 0, none⟩ = some (.int .i64 1) := (blk_cell BK.out 0).trans rfl
  have c1 : W.cell? ⟨w.heap.size, 1, none⟩ = some (.bool o) := (blk_cell BK.out 1).trans rfl
  have c2 : W.cell? ⟨w.heap.size, 2, none⟩ = some (.int .u8 l) := (blk_cell BK.out 2).trans rfl
  have c3 : W.cell? ⟨w.heap.size, 3, none⟩ = some (.int .u8 h) := (blk_cell BK.out 3).trans rfl
  have c4 : W.cell? ⟨w.heap.size, 4, none⟩ = some (.int .u8 r) := (blk_cell BK.out 4).trans rfl
  have c5 : W.cell? ⟨w.heap.size, 5, none⟩ = some (.bool md) := (blk_cell BK.out 5).trans rfl
  have z0 : W.cell? ⟨w.heap.size + 1, 0, none⟩ = some (.int .i64 0) := (blk_cell BR.out 0).trans rfl
  have z1 : W.cell? ⟨w.heap.size + 1, 1, none⟩ = some (.bool false) := (blk_cell BR.out 1).trans rfl
  have z2 : W.cell? ⟨w.heap.size + 1, 2, none⟩ = some (.int .u8 0) := (blk_cell BR.out 2).trans rfl
  have z3 : W.cell? ⟨w.heap.size + 1, 3, none⟩ = some (.int .u8 0) := (blk_cell BR.out 3).trans rfl
  have z4 : W.cell? ⟨w.heap.size + 1, 4, none⟩ = some (.int .u8 0) := (blk_cell BR.out 4).trans rfl
  have z5 : W.cell? ⟨w.heap.size + 1, 5, none⟩ = some (.bool false) := (blk_cell BR.out 5).trans rfl
  have fr := fun i => blk_frozen BR.out i
  go_region_held3 (fun w' => w'.cell? ⟨w.heap.size, 0, none⟩ = some (.int .i64 1) ∧ w'.cell? ⟨w.heap.size, 1, none⟩ = some (.bool o) ∧ w'.cell? ⟨w.heap.size, 2, none⟩ = some (.int .u8 l) ∧ w'.cell? ⟨w.heap.size, 3, none⟩ = some (.int .u8 h) ∧ w'.cell? ⟨w.heap.size, 4, none⟩ = some (.int .u8 r) ∧ w'.cell? ⟨w.heap.size, 5, none⟩ = some (.bool md)) (go_keep)
    (first | (go_at_call 23; ((with_reducible refine (of1 _).mono ?_)); rintro e' w2 ⟨rfl, rfl⟩)
           | (go_at_call 44; ((with_reducible refine (write_first0 1 (IntKind.i64.wrap (a / 4096)) v o l h r md hp _).mono ?_)); rintro e' w2 ⟨rfl, hb⟩; have n0 := Aside0.mk (blk_below (blk_drew BK.out) hb); have m0 := Aside0.mk (blk_below (blk_drew BR.out) hb); have n1 := Aside0.mk (below_step (below_drew1 HB.out) hb); clear hb; have d0 : w2.cell? ⟨w.heap.size, 0, none⟩ = some (.int .i64 1) := (blk_cell n0.out 0).trans rfl; have d1 : w2.cell? ⟨w.heap.size, 1, none⟩ = some (.bool o) := (blk_cell n0.out 1).trans rfl; have d2 : w2.cell? ⟨w.heap.size, 2, none⟩ = some (.int .u8 l) := (blk_cell n0.out 2).trans rfl; have d3 : w2.cell? ⟨w.heap.size, 3, none⟩ = some (.int .u8 h) := (blk_cell n0.out 3).trans rfl; have d4 : w2.cell? ⟨w.heap.size, 4, none⟩ = some (.int .u8 r) := (blk_cell n0.out 4).trans rfl; have d5 : w2.cell? ⟨w.heap.size, 5, none⟩ = some (.bool md) := (blk_cell n0.out 5).trans rfl; have y0 : w2.cell? ⟨w.heap.size + 1, 0, none⟩ = some (.int .i64 0) := (blk_cell m0.out 0).trans rfl; have y1 : w2.cell? ⟨w.heap.size + 1, 1, none⟩ = some (.bool false) := (blk_cell m0.out 1).trans rfl; have y2 : w2.cell? ⟨w.heap.size + 1, 2, none⟩ = some (.int .u8 0) := (blk_cell m0.out 2).trans rfl; have y3 : w2.cell? ⟨w.heap.size + 1, 3, none⟩ = some (.int .u8 0) := (blk_cell m0.out 3).trans rfl; have y4 : w2.cell? ⟨w.heap.size + 1, 4, none⟩ = some (.int .u8 0) := (blk_cell m0.out 4).trans rfl; have y5 : w2.cell? ⟨w.heap.size + 1, 5, none⟩ = some (.bool false) := (blk_cell m0.out 5).trans rfl; have fy := fun i => blk_frozen m0.out i))
  rename_i hHeld
  clear hHeld
  go_wp2
  have q1 : ((((((w2.setCell ⟨w.heap.size + 1, 0, none⟩ (.int .i64 1)).setCell ⟨w.heap.size + 1, 1, none⟩ (.bool ((Go.bits .and .u8 v 15) == 10))).setCell ⟨w.heap.size + 1, 2, none⟩ (.int .u8 l)).setCell ⟨w.heap.size + 1, 3, none⟩ (.int .u8 h)).setCell ⟨w.heap.size + 1, 4, none⟩ (.int .u8 r)).setCell ⟨w.heap.size + 1, 5, none⟩ (.bool md)).heap[w.heap.size + 1]? = some (.cells #[.int .i64 1, .bool ((Go.bits .and .u8 v 15) == 10), .int .u8 l, .int .u8 h, .int .u8 r, .bool md] 24 (0, 0)) := (blk_put (blk_put (blk_put (blk_put (blk_put (blk_put m0.out 0 _ rfl) 1 _ rfl) 2 _ rfl) 3 _ rfl) 4 _ rfl) 5 _ rfl)
  have q2 : Below w.heap.size w ((((((w2.setCell ⟨w.heap.size + 1, 0, none⟩ (.int .i64 1)).setCell ⟨w.heap.size + 1, 1, none⟩ (.bool ((Go.bits .and .u8 v 15) == 10))).setCell ⟨w.heap.size + 1, 2, none⟩ (.int .u8 l)).setCell ⟨w.heap.size + 1, 3, none⟩ (.int .u8 h)).setCell ⟨w.heap.size + 1, 4, none⟩ (.int .u8 r)).setCell ⟨w.heap.size + 1, 5, none⟩ (.bool md)) := (below_set (below_set (below_set (below_set (below_set (below_set n1.out (Nat.le_succ _)) (Nat.le_succ _)) (Nat.le_succ _)) (Nat.le_succ _)) (Nat.le_succ _)) (Nat.le_succ _))
  generalize ((((((w2.setCell ⟨w.heap.size + 1, 0, none⟩ (.int .i64 1)).setCell ⟨w.heap.size + 1, 1, none⟩ (.bool ((Go.bits .and .u8 v 15) == 10))).setCell ⟨w.heap.size + 1, 2, none⟩ (.int .u8 l)).setCell ⟨w.heap.size + 1, 3, none⟩ (.int .u8 h)).setCell ⟨w.heap.size + 1, 4, none⟩ (.int .u8 r)).setCell ⟨w.heap.size + 1, 5, none⟩ (.bool md)) = Y at q1 q2 ⊢
  have u0 : Y.cell? ⟨w.heap.size + 1, 0, none⟩ = some (.int .i64 1) := (blk_cell q1 0).trans rfl
  have u1 : Y.cell? ⟨w.heap.size + 1, 1, none⟩ = some (.bool ((Go.bits .and .u8 v 15) == 10)) := (blk_cell q1 1).trans rfl
  have u2 : Y.cell? ⟨w.heap.size + 1, 2, none⟩ = some (.int .u8 l) := (blk_cell q1 2).trans rfl
  have u3 : Y.cell? ⟨w.heap.size + 1, 3, none⟩ = some (.int .u8 h) := (blk_cell q1 3).trans rfl
  have u4 : Y.cell? ⟨w.heap.size + 1, 4, none⟩ = some (.int .u8 r) := (blk_cell q1 4).trans rfl
  have u5 : Y.cell? ⟨w.heap.size + 1, 5, none⟩ = some (.bool md) := (blk_cell q1 5).trans rfl
  exact bodyPost_ret (v := .agg #[.int .i64 1, .bool ((Go.bits .and .u8 v 15) == 10), .int .u8 l, .int .u8 h, .int .u8 r, .bool md]) (by simp [results, Try.results13, go_sem, u0, u1, u2, u3, u4, u5]) rfl ⟨rfl, q2⟩
set_option maxRecDepth 100000 in
set_option maxHeartbeats 400000 in
theorem wr_first1 (k : Int) (o : Bool) (l h r : Int) (md : Bool) (a v : Int) (hp : wrap64 (Int.tdiv (IntKind.i64.wrap (a / 4096)) 2) = 1) (ha : ¬ a ≥ 32768) (w : World) :
    Calls Try.prog 13 #[.agg #[.int .i64 1, .bool o, .int .u8 l, .int .u8 h, .int .u8 r, .bool md], .int .u16 a, .int .u8 v] w fun e' w' => e' = .returned (.agg #[.int .i64 1, .bool o, .int .u8 (Go.bits .and .u8 v 31), .int .u8 h, .int .u8 r, .bool md]) ∧ Below w.heap.size w w' := by
  go_enter Try.func13, Try.ntmps13
  go_wp2
  have bk := blk_alloc (blk_new w (.cells #[.int .i64 1, .bool o, .int .u8 l, .int .u8 h, .int .u8 r, .bool md] 24)) (.cells #[.int .i64 0, .bool false, .int .u8 0, .int .u8 0, .int .u8 0, .bool false] 24)
  have br := blk_at1 w (.cells #[.int .i64 1, .bool o, .int .u8 l, .int .u8 h, .int .u8 r, .bool md] 24) (.cells #[.int .i64 0, .bool false, .int .u8 0, .int .u8 0, .int .u8 0, .bool false] 24)
  have hB := below_alloc (below_alloc (Below.refl w.heap.size w) (.cells #[.int .i64 1, .bool o, .int .u8 l, .int .u8 h, .int .u8 r, .bool md] 24)) (.cells #[.int .i64 0, .bool false, .int .u8 0, .int .u8 0, .int .u8 0, .bool false] 24)
  generalize (w.alloc (.cells #[.int .i64 1, .bool o, .int .u8 l, .int .u8 h, .int .u8 r, .bool md] 24)).alloc (.cells #[.int .i64 0, .bool false, .int .u8 0, .int .u8 0, .int .u8 0, .bool false] 24) = W at bk br hB ⊢
  have BK := Aside0.mk bk
  have BR := Aside0.mk br
  have HB := Aside0.mk hB
  clear bk br hB
  have c0 : W.cell? ⟨w.heap.size, 0, none⟩ = some (.int .i64 1) := (blk_cell BK.out 0).trans rfl
  have c1 : W.cell? ⟨w.heap.size, 1, none⟩ = some (.bool o) := (blk_cell BK.out 1).trans rfl
  have c2 : W.cell? ⟨w.heap.size, 2, none⟩ = some (.int .u8 l) := (blk_cell BK.out 2).trans rfl
  have c3 : W.cell? ⟨w.heap.size, 3, none⟩ = some (.int .u8 h) := (blk_cell BK.out 3).trans rfl
  have c4 : W.cell? ⟨w.heap.size, 4, none⟩ = some (.int .u8 r) := (blk_cell BK.out 4).trans rfl
  have c5 : W.cell? ⟨w.heap.size, 5, none⟩ = some (.bool md) := (blk_cell BK.out 5).trans rfl
  have z0 : W.cell? ⟨w.heap.size + 1, 0, none⟩ = some (.int .i64 0) := (blk_cell BR.out 0).trans rfl
  have z1 : W.cell? ⟨w.heap.size + 1, 1, none⟩ = some (.bool false) := (blk_cell BR.out 1).trans rfl
  have z2 : W.cell? ⟨w.heap.size + 1, 2, none⟩ = some (.int .u8 0) := (blk_cell BR.out 2).trans rfl
  have z3 : W.cell? ⟨w.heap.size + 1, 3, none⟩ = some (.int .u8 0) := (blk_cell BR.out 3).trans rfl
  have z4 : W.cell? ⟨w.heap.size + 1, 4, none⟩ = some (.int .u8 0) := (blk_cell BR.out 4).trans rfl
  have z5 : W.cell? ⟨w.heap.size + 1, 5, none⟩ = some (.bool false) := (blk_cell BR.out 5).trans rfl
  have fr := fun i => blk_frozen BR.out i
  go_region_held3 (fun w' => w'.cell? ⟨w.heap.size, 0, none⟩ = some (.int .i64 1) ∧ w'.cell? ⟨w.heap.size, 1, none⟩ = some (.bool o) ∧ w'.cell? ⟨w.heap.size, 2, none⟩ = some (.int .u8 l) ∧ w'.cell? ⟨w.heap.size, 3, none⟩ = some (.int .u8 h) ∧ w'.cell? ⟨w.heap.size, 4, none⟩ = some (.int .u8 r) ∧ w'.cell? ⟨w.heap.size, 5, none⟩ = some (.bool md)) (go_keep)
    (first | (go_at_call 23; ((with_reducible refine (of1 _).mono ?_)); rintro e' w2 ⟨rfl, rfl⟩)
           | (go_at_call 44; ((with_reducible refine (write_first1 1 (IntKind.i64.wrap (a / 4096)) v o l h r md hp _).mono ?_)); rintro e' w2 ⟨rfl, hb⟩; have n0 := Aside0.mk (blk_below (blk_drew BK.out) hb); have m0 := Aside0.mk (blk_below (blk_drew BR.out) hb); have n1 := Aside0.mk (below_step (below_drew1 HB.out) hb); clear hb; have d0 : w2.cell? ⟨w.heap.size, 0, none⟩ = some (.int .i64 1) := (blk_cell n0.out 0).trans rfl; have d1 : w2.cell? ⟨w.heap.size, 1, none⟩ = some (.bool o) := (blk_cell n0.out 1).trans rfl; have d2 : w2.cell? ⟨w.heap.size, 2, none⟩ = some (.int .u8 l) := (blk_cell n0.out 2).trans rfl; have d3 : w2.cell? ⟨w.heap.size, 3, none⟩ = some (.int .u8 h) := (blk_cell n0.out 3).trans rfl; have d4 : w2.cell? ⟨w.heap.size, 4, none⟩ = some (.int .u8 r) := (blk_cell n0.out 4).trans rfl; have d5 : w2.cell? ⟨w.heap.size, 5, none⟩ = some (.bool md) := (blk_cell n0.out 5).trans rfl; have y0 : w2.cell? ⟨w.heap.size + 1, 0, none⟩ = some (.int .i64 0) := (blk_cell m0.out 0).trans rfl; have y1 : w2.cell? ⟨w.heap.size + 1, 1, none⟩ = some (.bool false) := (blk_cell m0.out 1).trans rfl; have y2 : w2.cell? ⟨w.heap.size + 1, 2, none⟩ = some (.int .u8 0) := (blk_cell m0.out 2).trans rfl; have y3 : w2.cell? ⟨w.heap.size + 1, 3, none⟩ = some (.int .u8 0) := (blk_cell m0.out 3).trans rfl; have y4 : w2.cell? ⟨w.heap.size + 1, 4, none⟩ = some (.int .u8 0) := (blk_cell m0.out 4).trans rfl; have y5 : w2.cell? ⟨w.heap.size + 1, 5, none⟩ = some (.bool false) := (blk_cell m0.out 5).trans rfl; have fy := fun i => blk_frozen m0.out i))
  rename_i hHeld
  clear hHeld
  go_wp2
  have q1 : ((((((w2.setCell ⟨w.heap.size + 1, 0, none⟩ (.int .i64 1)).setCell ⟨w.heap.size + 1, 1, none⟩ (.bool o)).setCell ⟨w.heap.size + 1, 2, none⟩ (.int .u8 (Go.bits .and .u8 v 31))).setCell ⟨w.heap.size + 1, 3, none⟩ (.int .u8 h)).setCell ⟨w.heap.size + 1, 4, none⟩ (.int .u8 r)).setCell ⟨w.heap.size + 1, 5, none⟩ (.bool md)).heap[w.heap.size + 1]? = some (.cells #[.int .i64 1, .bool o, .int .u8 (Go.bits .and .u8 v 31), .int .u8 h, .int .u8 r, .bool md] 24 (0, 0)) := (blk_put (blk_put (blk_put (blk_put (blk_put (blk_put m0.out 0 _ rfl) 1 _ rfl) 2 _ rfl) 3 _ rfl) 4 _ rfl) 5 _ rfl)
  have q2 : Below w.heap.size w ((((((w2.setCell ⟨w.heap.size + 1, 0, none⟩ (.int .i64 1)).setCell ⟨w.heap.size + 1, 1, none⟩ (.bool o)).setCell ⟨w.heap.size + 1, 2, none⟩ (.int .u8 (Go.bits .and .u8 v 31))).setCell ⟨w.heap.size + 1, 3, none⟩ (.int .u8 h)).setCell ⟨w.heap.size + 1, 4, none⟩ (.int .u8 r)).setCell ⟨w.heap.size + 1, 5, none⟩ (.bool md)) := (below_set (below_set (below_set (below_set (below_set (below_set n1.out (Nat.le_succ _)) (Nat.le_succ _)) (Nat.le_succ _)) (Nat.le_succ _)) (Nat.le_succ _)) (Nat.le_succ _))
  generalize ((((((w2.setCell ⟨w.heap.size + 1, 0, none⟩ (.int .i64 1)).setCell ⟨w.heap.size + 1, 1, none⟩ (.bool o)).setCell ⟨w.heap.size + 1, 2, none⟩ (.int .u8 (Go.bits .and .u8 v 31))).setCell ⟨w.heap.size + 1, 3, none⟩ (.int .u8 h)).setCell ⟨w.heap.size + 1, 4, none⟩ (.int .u8 r)).setCell ⟨w.heap.size + 1, 5, none⟩ (.bool md)) = Y at q1 q2 ⊢
  have u0 : Y.cell? ⟨w.heap.size + 1, 0, none⟩ = some (.int .i64 1) := (blk_cell q1 0).trans rfl
  have u1 : Y.cell? ⟨w.heap.size + 1, 1, none⟩ = some (.bool o) := (blk_cell q1 1).trans rfl
  have u2 : Y.cell? ⟨w.heap.size + 1, 2, none⟩ = some (.int .u8 (Go.bits .and .u8 v 31)) := (blk_cell q1 2).trans rfl
  have u3 : Y.cell? ⟨w.heap.size + 1, 3, none⟩ = some (.int .u8 h) := (blk_cell q1 3).trans rfl
  have u4 : Y.cell? ⟨w.heap.size + 1, 4, none⟩ = some (.int .u8 r) := (blk_cell q1 4).trans rfl
  have u5 : Y.cell? ⟨w.heap.size + 1, 5, none⟩ = some (.bool md) := (blk_cell q1 5).trans rfl
  exact bodyPost_ret (v := .agg #[.int .i64 1, .bool o, .int .u8 (Go.bits .and .u8 v 31), .int .u8 h, .int .u8 r, .bool md]) (by simp [results, Try.results13, go_sem, u0, u1, u2, u3, u4, u5]) rfl ⟨rfl, q2⟩
set_option maxRecDepth 100000 in
set_option maxHeartbeats 400000 in
theorem wr_first2 (k : Int) (o : Bool) (l h r : Int) (md : Bool) (a v : Int) (hp : wrap64 (Int.tdiv (IntKind.i64.wrap (a / 4096)) 2) = 2) (ha : ¬ a ≥ 32768) (w : World) :
    Calls Try.prog 13 #[.agg #[.int .i64 1, .bool o, .int .u8 l, .int .u8 h, .int .u8 r, .bool md], .int .u16 a, .int .u8 v] w fun e' w' => e' = .returned (.agg #[.int .i64 1, .bool o, .int .u8 l, .int .u8 (Go.bits .and .u8 v 3), .int .u8 r, .bool md]) ∧ Below w.heap.size w w' := by
  go_enter Try.func13, Try.ntmps13
  go_wp2
  have bk := blk_alloc (blk_new w (.cells #[.int .i64 1, .bool o, .int .u8 l, .int .u8 h, .int .u8 r, .bool md] 24)) (.cells #[.int .i64 0, .bool false, .int .u8 0, .int .u8 0, .int .u8 0, .bool false] 24)
  have br := blk_at1 w (.cells #[.int .i64 1, .bool o, .int .u8 l, .int .u8 h, .int .u8 r, .bool md] 24) (.cells #[.int .i64 0, .bool false, .int .u8 0, .int .u8 0, .int .u8 0, .bool false] 24)
  have hB := below_alloc (below_alloc (Below.refl w.heap.size w) (.cells #[.int .i64 1, .bool o, .int .u8 l, .int .u8 h, .int .u8 r, .bool md] 24)) (.cells #[.int .i64 0, .bool false, .int .u8 0, .int .u8 0, .int .u8 0, .bool false] 24)
  generalize (w.alloc (.cells #[.int .i64 1, .bool o, .int .u8 l, .int .u8 h, .int .u8 r, .bool md] 24)).alloc (.cells #[.int .i64 0, .bool false, .int .u8 0, .int .u8 0, .int .u8 0, .bool false] 24) = W at bk br hB ⊢
  have BK := Aside0.mk bk
  have BR := Aside0.mk br
  have HB := Aside0.mk hB
  clear bk br hB
  have c0 : W.cell? ⟨w.heap.size, 0, none⟩ = some (.int .i64 1) := (blk_cell BK.out 0).trans rfl
  have c1 : W.cell? ⟨w.heap.size, 1, none⟩ = some (.bool o) := (blk_cell BK.out 1).trans rfl
  have c2 : W.cell? ⟨w.heap.size, 2, none⟩ = some (.int .u8 l) := (blk_cell BK.out 2).trans rfl
  have c3 : W.cell? ⟨w.heap.size, 3, none⟩ = some (.int .u8 h) := (blk_cell BK.out 3).trans rfl
  have c4 : W.cell? ⟨w.heap.size, 4, none⟩ = some (.int .u8 r) := (blk_cell BK.out 4).trans rfl
  have c5 : W.cell? ⟨w.heap.size, 5, none⟩ = some (.bool md) := (blk_cell BK.out 5).trans rfl
  have z0 : W.cell? ⟨w.heap.size + 1, 0, none⟩ = some (.int .i64 0) := (blk_cell BR.out 0).trans rfl
  have z1 : W.cell? ⟨w.heap.size + 1, 1, none⟩ = some (.bool false) := (blk_cell BR.out 1).trans rfl
  have z2 : W.cell? ⟨w.heap.size + 1, 2, none⟩ = some (.int .u8 0) := (blk_cell BR.out 2).trans rfl
  have z3 : W.cell? ⟨w.heap.size + 1, 3, none⟩ = some (.int .u8 0) := (blk_cell BR.out 3).trans rfl
  have z4 : W.cell? ⟨w.heap.size + 1, 4, none⟩ = some (.int .u8 0) := (blk_cell BR.out 4).trans rfl
  have z5 : W.cell? ⟨w.heap.size + 1, 5, none⟩ = some (.bool false) := (blk_cell BR.out 5).trans rfl
  have fr := fun i => blk_frozen BR.out i
  go_region_held3 (fun w' => w'.cell? ⟨w.heap.size, 0, none⟩ = some (.int .i64 1) ∧ w'.cell? ⟨w.heap.size, 1, none⟩ = some (.bool o) ∧ w'.cell? ⟨w.heap.size, 2, none⟩ = some (.int .u8 l) ∧ w'.cell? ⟨w.heap.size, 3, none⟩ = some (.int .u8 h) ∧ w'.cell? ⟨w.heap.size, 4, none⟩ = some (.int .u8 r) ∧ w'.cell? ⟨w.heap.size, 5, none⟩ = some (.bool md)) (go_keep)
    (first | (go_at_call 23; ((with_reducible refine (of1 _).mono ?_)); rintro e' w2 ⟨rfl, rfl⟩)
           | (go_at_call 44; ((with_reducible refine (write_first2 1 (IntKind.i64.wrap (a / 4096)) v o l h r md hp _).mono ?_)); rintro e' w2 ⟨rfl, hb⟩; have n0 := Aside0.mk (blk_below (blk_drew BK.out) hb); have m0 := Aside0.mk (blk_below (blk_drew BR.out) hb); have n1 := Aside0.mk (below_step (below_drew1 HB.out) hb); clear hb; have d0 : w2.cell? ⟨w.heap.size, 0, none⟩ = some (.int .i64 1) := (blk_cell n0.out 0).trans rfl; have d1 : w2.cell? ⟨w.heap.size, 1, none⟩ = some (.bool o) := (blk_cell n0.out 1).trans rfl; have d2 : w2.cell? ⟨w.heap.size, 2, none⟩ = some (.int .u8 l) := (blk_cell n0.out 2).trans rfl; have d3 : w2.cell? ⟨w.heap.size, 3, none⟩ = some (.int .u8 h) := (blk_cell n0.out 3).trans rfl; have d4 : w2.cell? ⟨w.heap.size, 4, none⟩ = some (.int .u8 r) := (blk_cell n0.out 4).trans rfl; have d5 : w2.cell? ⟨w.heap.size, 5, none⟩ = some (.bool md) := (blk_cell n0.out 5).trans rfl; have y0 : w2.cell? ⟨w.heap.size + 1, 0, none⟩ = some (.int .i64 0) := (blk_cell m0.out 0).trans rfl; have y1 : w2.cell? ⟨w.heap.size + 1, 1, none⟩ = some (.bool false) := (blk_cell m0.out 1).trans rfl; have y2 : w2.cell? ⟨w.heap.size + 1, 2, none⟩ = some (.int .u8 0) := (blk_cell m0.out 2).trans rfl; have y3 : w2.cell? ⟨w.heap.size + 1, 3, none⟩ = some (.int .u8 0) := (blk_cell m0.out 3).trans rfl; have y4 : w2.cell? ⟨w.heap.size + 1, 4, none⟩ = some (.int .u8 0) := (blk_cell m0.out 4).trans rfl; have y5 : w2.cell? ⟨w.heap.size + 1, 5, none⟩ = some (.bool false) := (blk_cell m0.out 5).trans rfl; have fy := fun i => blk_frozen m0.out i))
  rename_i hHeld
  clear hHeld
  go_wp2
  have q1 : ((((((w2.setCell ⟨w.heap.size + 1, 0, none⟩ (.int .i64 1)).setCell ⟨w.heap.size + 1, 1, none⟩ (.bool o)).setCell ⟨w.heap.size + 1, 2, none⟩ (.int .u8 l)).setCell ⟨w.heap.size + 1, 3, none⟩ (.int .u8 (Go.bits .and .u8 v 3))).setCell ⟨w.heap.size + 1, 4, none⟩ (.int .u8 r)).setCell ⟨w.heap.size + 1, 5, none⟩ (.bool md)).heap[w.heap.size + 1]? = some (.cells #[.int .i64 1, .bool o, .int .u8 l, .int .u8 (Go.bits .and .u8 v 3), .int .u8 r, .bool md] 24 (0, 0)) := (blk_put (blk_put (blk_put (blk_put (blk_put (blk_put m0.out 0 _ rfl) 1 _ rfl) 2 _ rfl) 3 _ rfl) 4 _ rfl) 5 _ rfl)
  have q2 : Below w.heap.size w ((((((w2.setCell ⟨w.heap.size + 1, 0, none⟩ (.int .i64 1)).setCell ⟨w.heap.size + 1, 1, none⟩ (.bool o)).setCell ⟨w.heap.size + 1, 2, none⟩ (.int .u8 l)).setCell ⟨w.heap.size + 1, 3, none⟩ (.int .u8 (Go.bits .and .u8 v 3))).setCell ⟨w.heap.size + 1, 4, none⟩ (.int .u8 r)).setCell ⟨w.heap.size + 1, 5, none⟩ (.bool md)) := (below_set (below_set (below_set (below_set (below_set (below_set n1.out (Nat.le_succ _)) (Nat.le_succ _)) (Nat.le_succ _)) (Nat.le_succ _)) (Nat.le_succ _)) (Nat.le_succ _))
  generalize ((((((w2.setCell ⟨w.heap.size + 1, 0, none⟩ (.int .i64 1)).setCell ⟨w.heap.size + 1, 1, none⟩ (.bool o)).setCell ⟨w.heap.size + 1, 2, none⟩ (.int .u8 l)).setCell ⟨w.heap.size + 1, 3, none⟩ (.int .u8 (Go.bits .and .u8 v 3))).setCell ⟨w.heap.size + 1, 4, none⟩ (.int .u8 r)).setCell ⟨w.heap.size + 1, 5, none⟩ (.bool md)) = Y at q1 q2 ⊢
  have u0 : Y.cell? ⟨w.heap.size + 1, 0, none⟩ = some (.int .i64 1) := (blk_cell q1 0).trans rfl
  have u1 : Y.cell? ⟨w.heap.size + 1, 1, none⟩ = some (.bool o) := (blk_cell q1 1).trans rfl
  have u2 : Y.cell? ⟨w.heap.size + 1, 2, none⟩ = some (.int .u8 l) := (blk_cell q1 2).trans rfl
  have u3 : Y.cell? ⟨w.heap.size + 1, 3, none⟩ = some (.int .u8 (Go.bits .and .u8 v 3)) := (blk_cell q1 3).trans rfl
  have u4 : Y.cell? ⟨w.heap.size + 1, 4, none⟩ = some (.int .u8 r) := (blk_cell q1 4).trans rfl
  have u5 : Y.cell? ⟨w.heap.size + 1, 5, none⟩ = some (.bool md) := (blk_cell q1 5).trans rfl
  exact bodyPost_ret (v := .agg #[.int .i64 1, .bool o, .int .u8 l, .int .u8 (Go.bits .and .u8 v 3), .int .u8 r, .bool md]) (by simp [results, Try.results13, go_sem, u0, u1, u2, u3, u4, u5]) rfl ⟨rfl, q2⟩
set_option maxRecDepth 100000 in
set_option maxHeartbeats 400000 in
theorem wr_first3 (k : Int) (o : Bool) (l h r : Int) (md : Bool) (a v : Int) (hp : wrap64 (Int.tdiv (IntKind.i64.wrap (a / 4096)) 2) = 3) (ha : ¬ a ≥ 32768) (w : World) :
    Calls Try.prog 13 #[.agg #[.int .i64 1, .bool o, .int .u8 l, .int .u8 h, .int .u8 r, .bool md], .int .u16 a, .int .u8 v] w fun e' w' => e' = .returned (.agg #[.int .i64 1, .bool o, .int .u8 l, .int .u8 h, .int .u8 r, .bool ((Go.bits .and .u8 v 1) == 1)]) ∧ Below w.heap.size w w' := by
  go_enter Try.func13, Try.ntmps13
  go_wp2
  have bk := blk_alloc (blk_new w (.cells #[.int .i64 1, .bool o, .int .u8 l, .int .u8 h, .int .u8 r, .bool md] 24)) (.cells #[.int .i64 0, .bool false, .int .u8 0, .int .u8 0, .int .u8 0, .bool false] 24)
  have br := blk_at1 w (.cells #[.int .i64 1, .bool o, .int .u8 l, .int .u8 h, .int .u8 r, .bool md] 24) (.cells #[.int .i64 0, .bool false, .int .u8 0, .int .u8 0, .int .u8 0, .bool false] 24)
  have hB := below_alloc (below_alloc (Below.refl w.heap.size w) (.cells #[.int .i64 1, .bool o, .int .u8 l, .int .u8 h, .int .u8 r, .bool md] 24)) (.cells #[.int .i64 0, .bool false, .int .u8 0, .int .u8 0, .int .u8 0, .bool false] 24)
  generalize (w.alloc (.cells #[.int .i64 1, .bool o, .int .u8 l, .int .u8 h, .int .u8 r, .bool md] 24)).alloc (.cells #[.int .i64 0, .bool false, .int .u8 0, .int .u8 0, .int .u8 0, .bool false] 24) = W at bk br hB ⊢
  have BK := Aside0.mk bk
  have BR := Aside0.mk br
  have HB := Aside0.mk hB
  clear bk br hB
  have c0 : W.cell? ⟨w.heap.size, 0, none⟩ = some (.int .i64 1) := (blk_cell BK.out 0).trans rfl
  have c1 : W.cell? ⟨w.heap.size, 1, none⟩ = some (.bool o) := (blk_cell BK.out 1).trans rfl
  have c2 : W.cell? ⟨w.heap.size, 2, none⟩ = some (.int .u8 l) := (blk_cell BK.out 2).trans rfl
  have c3 : W.cell? ⟨w.heap.size, 3, none⟩ = some (.int .u8 h) := (blk_cell BK.out 3).trans rfl
  have c4 : W.cell? ⟨w.heap.size, 4, none⟩ = some (.int .u8 r) := (blk_cell BK.out 4).trans rfl
  have c5 : W.cell? ⟨w.heap.size, 5, none⟩ = some (.bool md) := (blk_cell BK.out 5).trans rfl
  have z0 : W.cell? ⟨w.heap.size + 1, 0, none⟩ = some (.int .i64 0) := (blk_cell BR.out 0).trans rfl
  have z1 : W.cell? ⟨w.heap.size + 1, 1, none⟩ = some (.bool false) := (blk_cell BR.out 1).trans rfl
  have z2 : W.cell? ⟨w.heap.size + 1, 2, none⟩ = some (.int .u8 0) := (blk_cell BR.out 2).trans rfl
  have z3 : W.cell? ⟨w.heap.size + 1, 3, none⟩ = some (.int .u8 0) := (blk_cell BR.out 3).trans rfl
  have z4 : W.cell? ⟨w.heap.size + 1, 4, none⟩ = some (.int .u8 0) := (blk_cell BR.out 4).trans rfl
  have z5 : W.cell? ⟨w.heap.size + 1, 5, none⟩ = some (.bool false) := (blk_cell BR.out 5).trans rfl
  have fr := fun i => blk_frozen BR.out i
  go_region_held3 (fun w' => w'.cell? ⟨w.heap.size, 0, none⟩ = some (.int .i64 1) ∧ w'.cell? ⟨w.heap.size, 1, none⟩ = some (.bool o) ∧ w'.cell? ⟨w.heap.size, 2, none⟩ = some (.int .u8 l) ∧ w'.cell? ⟨w.heap.size, 3, none⟩ = some (.int .u8 h) ∧ w'.cell? ⟨w.heap.size, 4, none⟩ = some (.int .u8 r) ∧ w'.cell? ⟨w.heap.size, 5, none⟩ = some (.bool md)) (go_keep)
    (first | (go_at_call 23; ((with_reducible refine (of1 _).mono ?_)); rintro e' w2 ⟨rfl, rfl⟩)
           | (go_at_call 44; ((with_reducible refine (write_first3 1 (IntKind.i64.wrap (a / 4096)) v o l h r md hp _).mono ?_)); rintro e' w2 ⟨rfl, hb⟩; have n0 := Aside0.mk (blk_below (blk_drew BK.out) hb); have m0 := Aside0.mk (blk_below (blk_drew BR.out) hb); have n1 := Aside0.mk (below_step (below_drew1 HB.out) hb); clear hb; have d0 : w2.cell? ⟨w.heap.size, 0, none⟩ = some (.int .i64 1) := (blk_cell n0.out 0).trans rfl; have d1 : w2.cell? ⟨w.heap.size, 1, none⟩ = some (.bool o) := (blk_cell n0.out 1).trans rfl; have d2 : w2.cell? ⟨w.heap.size, 2, none⟩ = some (.int .u8 l) := (blk_cell n0.out 2).trans rfl; have d3 : w2.cell? ⟨w.heap.size, 3, none⟩ = some (.int .u8 h) := (blk_cell n0.out 3).trans rfl; have d4 : w2.cell? ⟨w.heap.size, 4, none⟩ = some (.int .u8 r) := (blk_cell n0.out 4).trans rfl; have d5 : w2.cell? ⟨w.heap.size, 5, none⟩ = some (.bool md) := (blk_cell n0.out 5).trans rfl; have y0 : w2.cell? ⟨w.heap.size + 1, 0, none⟩ = some (.int .i64 0) := (blk_cell m0.out 0).trans rfl; have y1 : w2.cell? ⟨w.heap.size + 1, 1, none⟩ = some (.bool false) := (blk_cell m0.out 1).trans rfl; have y2 : w2.cell? ⟨w.heap.size + 1, 2, none⟩ = some (.int .u8 0) := (blk_cell m0.out 2).trans rfl; have y3 : w2.cell? ⟨w.heap.size + 1, 3, none⟩ = some (.int .u8 0) := (blk_cell m0.out 3).trans rfl; have y4 : w2.cell? ⟨w.heap.size + 1, 4, none⟩ = some (.int .u8 0) := (blk_cell m0.out 4).trans rfl; have y5 : w2.cell? ⟨w.heap.size + 1, 5, none⟩ = some (.bool false) := (blk_cell m0.out 5).trans rfl; have fy := fun i => blk_frozen m0.out i))
  rename_i hHeld
  clear hHeld
  go_wp2
  have q1 : ((((((w2.setCell ⟨w.heap.size + 1, 0, none⟩ (.int .i64 1)).setCell ⟨w.heap.size + 1, 1, none⟩ (.bool o)).setCell ⟨w.heap.size + 1, 2, none⟩ (.int .u8 l)).setCell ⟨w.heap.size + 1, 3, none⟩ (.int .u8 h)).setCell ⟨w.heap.size + 1, 4, none⟩ (.int .u8 r)).setCell ⟨w.heap.size + 1, 5, none⟩ (.bool ((Go.bits .and .u8 v 1) == 1))).heap[w.heap.size + 1]? = some (.cells #[.int .i64 1, .bool o, .int .u8 l, .int .u8 h, .int .u8 r, .bool ((Go.bits .and .u8 v 1) == 1)] 24 (0, 0)) := (blk_put (blk_put (blk_put (blk_put (blk_put (blk_put m0.out 0 _ rfl) 1 _ rfl) 2 _ rfl) 3 _ rfl) 4 _ rfl) 5 _ rfl)
  have q2 : Below w.heap.size w ((((((w2.setCell ⟨w.heap.size + 1, 0, none⟩ (.int .i64 1)).setCell ⟨w.heap.size + 1, 1, none⟩ (.bool o)).setCell ⟨w.heap.size + 1, 2, none⟩ (.int .u8 l)).setCell ⟨w.heap.size + 1, 3, none⟩ (.int .u8 h)).setCell ⟨w.heap.size + 1, 4, none⟩ (.int .u8 r)).setCell ⟨w.heap.size + 1, 5, none⟩ (.bool ((Go.bits .and .u8 v 1) == 1))) := (below_set (below_set (below_set (below_set (below_set (below_set n1.out (Nat.le_succ _)) (Nat.le_succ _)) (Nat.le_succ _)) (Nat.le_succ _)) (Nat.le_succ _)) (Nat.le_succ _))
  generalize ((((((w2.setCell ⟨w.heap.size + 1, 0, none⟩ (.int .i64 1)).setCell ⟨w.heap.size + 1, 1, none⟩ (.bool o)).setCell ⟨w.heap.size + 1, 2, none⟩ (.int .u8 l)).setCell ⟨w.heap.size + 1, 3, none⟩ (.int .u8 h)).setCell ⟨w.heap.size + 1, 4, none⟩ (.int .u8 r)).setCell ⟨w.heap.size + 1, 5, none⟩ (.bool ((Go.bits .and .u8 v 1) == 1))) = Y at q1 q2 ⊢
  have u0 : Y.cell? ⟨w.heap.size + 1, 0, none⟩ = some (.int .i64 1) := (blk_cell q1 0).trans rfl
  have u1 : Y.cell? ⟨w.heap.size + 1, 1, none⟩ = some (.bool o) := (blk_cell q1 1).trans rfl
  have u2 : Y.cell? ⟨w.heap.size + 1, 2, none⟩ = some (.int .u8 l) := (blk_cell q1 2).trans rfl
  have u3 : Y.cell? ⟨w.heap.size + 1, 3, none⟩ = some (.int .u8 h) := (blk_cell q1 3).trans rfl
  have u4 : Y.cell? ⟨w.heap.size + 1, 4, none⟩ = some (.int .u8 r) := (blk_cell q1 4).trans rfl
  have u5 : Y.cell? ⟨w.heap.size + 1, 5, none⟩ = some (.bool ((Go.bits .and .u8 v 1) == 1)) := (blk_cell q1 5).trans rfl
  exact bodyPost_ret (v := .agg #[.int .i64 1, .bool o, .int .u8 l, .int .u8 h, .int .u8 r, .bool ((Go.bits .and .u8 v 1) == 1)]) (by simp [results, Try.results13, go_sem, u0, u1, u2, u3, u4, u5]) rfl ⟨rfl, q2⟩
set_option maxRecDepth 100000 in
set_option maxHeartbeats 400000 in
theorem wr_first_no (k : Int) (o : Bool) (l h r : Int) (md : Bool) (a v : Int) (h0 : ¬ wrap64 (Int.tdiv (IntKind.i64.wrap (a / 4096)) 2) = 0) (h1 : ¬ wrap64 (Int.tdiv (IntKind.i64.wrap (a / 4096)) 2) = 1) (h2 : ¬ wrap64 (Int.tdiv (IntKind.i64.wrap (a / 4096)) 2) = 2) (h3 : ¬ wrap64 (Int.tdiv (IntKind.i64.wrap (a / 4096)) 2) = 3) (ha : ¬ a ≥ 32768) (w : World) :
    Calls Try.prog 13 #[.agg #[.int .i64 1, .bool o, .int .u8 l, .int .u8 h, .int .u8 r, .bool md], .int .u16 a, .int .u8 v] w fun e' w' => e' = .returned (.agg #[.int .i64 1, .bool o, .int .u8 l, .int .u8 h, .int .u8 r, .bool md]) ∧ Below w.heap.size w w' := by
  go_enter Try.func13, Try.ntmps13
  go_wp2
  have bk := blk_alloc (blk_new w (.cells #[.int .i64 1, .bool o, .int .u8 l, .int .u8 h, .int .u8 r, .bool md] 24)) (.cells #[.int .i64 0, .bool false, .int .u8 0, .int .u8 0, .int .u8 0, .bool false] 24)
  have br := blk_at1 w (.cells #[.int .i64 1, .bool o, .int .u8 l, .int .u8 h, .int .u8 r, .bool md] 24) (.cells #[.int .i64 0, .bool false, .int .u8 0, .int .u8 0, .int .u8 0, .bool false] 24)
  have hB := below_alloc (below_alloc (Below.refl w.heap.size w) (.cells #[.int .i64 1, .bool o, .int .u8 l, .int .u8 h, .int .u8 r, .bool md] 24)) (.cells #[.int .i64 0, .bool false, .int .u8 0, .int .u8 0, .int .u8 0, .bool false] 24)
  generalize (w.alloc (.cells #[.int .i64 1, .bool o, .int .u8 l, .int .u8 h, .int .u8 r, .bool md] 24)).alloc (.cells #[.int .i64 0, .bool false, .int .u8 0, .int .u8 0, .int .u8 0, .bool false] 24) = W at bk br hB ⊢
  have BK := Aside0.mk bk
  have BR := Aside0.mk br
  have HB := Aside0.mk hB
  clear bk br hB
  have c0 : W.cell? ⟨w.heap.size, 0, none⟩ = some (.int .i64 1) := (blk_cell BK.out 0).trans rfl
  have c1 : W.cell? ⟨w.heap.size, 1, none⟩ = some (.bool o) := (blk_cell BK.out 1).trans rfl
  have c2 : W.cell? ⟨w.heap.size, 2, none⟩ = some (.int .u8 l) := (blk_cell BK.out 2).trans rfl
  have c3 : W.cell? ⟨w.heap.size, 3, none⟩ = some (.int .u8 h) := (blk_cell BK.out 3).trans rfl
  have c4 : W.cell? ⟨w.heap.size, 4, none⟩ = some (.int .u8 r) := (blk_cell BK.out 4).trans rfl
  have c5 : W.cell? ⟨w.heap.size, 5, none⟩ = some (.bool md) := (blk_cell BK.out 5).trans rfl
  have z0 : W.cell? ⟨w.heap.size + 1, 0, none⟩ = some (.int .i64 0) := (blk_cell BR.out 0).trans rfl
  have z1 : W.cell? ⟨w.heap.size + 1, 1, none⟩ = some (.bool false) := (blk_cell BR.out 1).trans rfl
  have z2 : W.cell? ⟨w.heap.size + 1, 2, none⟩ = some (.int .u8 0) := (blk_cell BR.out 2).trans rfl
  have z3 : W.cell? ⟨w.heap.size + 1, 3, none⟩ = some (.int .u8 0) := (blk_cell BR.out 3).trans rfl
  have z4 : W.cell? ⟨w.heap.size + 1, 4, none⟩ = some (.int .u8 0) := (blk_cell BR.out 4).trans rfl
  have z5 : W.cell? ⟨w.heap.size + 1, 5, none⟩ = some (.bool false) := (blk_cell BR.out 5).trans rfl
  have fr := fun i => blk_frozen BR.out i
  go_region_held3 (fun w' => w'.cell? ⟨w.heap.size, 0, none⟩ = some (.int .i64 1) ∧ w'.cell? ⟨w.heap.size, 1, none⟩ = some (.bool o) ∧ w'.cell? ⟨w.heap.size, 2, none⟩ = some (.int .u8 l) ∧ w'.cell? ⟨w.heap.size, 3, none⟩ = some (.int .u8 h) ∧ w'.cell? ⟨w.heap.size, 4, none⟩ = some (.int .u8 r) ∧ w'.cell? ⟨w.heap.size, 5, none⟩ = some (.bool md)) (go_keep)
    (first | (go_at_call 23; ((with_reducible refine (of1 _).mono ?_)); rintro e' w2 ⟨rfl, rfl⟩)
           | (go_at_call 44; ((with_reducible refine (write_first_no 1 (IntKind.i64.wrap (a / 4096)) v o l h r md h0 h1 h2 h3 _).mono ?_)); rintro e' w2 ⟨rfl, hb⟩; have n0 := Aside0.mk (blk_below (blk_drew BK.out) hb); have m0 := Aside0.mk (blk_below (blk_drew BR.out) hb); have n1 := Aside0.mk (below_step (below_drew1 HB.out) hb); clear hb; have d0 : w2.cell? ⟨w.heap.size, 0, none⟩ = some (.int .i64 1) := (blk_cell n0.out 0).trans rfl; have d1 : w2.cell? ⟨w.heap.size, 1, none⟩ = some (.bool o) := (blk_cell n0.out 1).trans rfl; have d2 : w2.cell? ⟨w.heap.size, 2, none⟩ = some (.int .u8 l) := (blk_cell n0.out 2).trans rfl; have d3 : w2.cell? ⟨w.heap.size, 3, none⟩ = some (.int .u8 h) := (blk_cell n0.out 3).trans rfl; have d4 : w2.cell? ⟨w.heap.size, 4, none⟩ = some (.int .u8 r) := (blk_cell n0.out 4).trans rfl; have d5 : w2.cell? ⟨w.heap.size, 5, none⟩ = some (.bool md) := (blk_cell n0.out 5).trans rfl; have y0 : w2.cell? ⟨w.heap.size + 1, 0, none⟩ = some (.int .i64 0) := (blk_cell m0.out 0).trans rfl; have y1 : w2.cell? ⟨w.heap.size + 1, 1, none⟩ = some (.bool false) := (blk_cell m0.out 1).trans rfl; have y2 : w2.cell? ⟨w.heap.size + 1, 2, none⟩ = some (.int .u8 0) := (blk_cell m0.out 2).trans rfl; have y3 : w2.cell? ⟨w.heap.size + 1, 3, none⟩ = some (.int .u8 0) := (blk_cell m0.out 3).trans rfl; have y4 : w2.cell? ⟨w.heap.size + 1, 4, none⟩ = some (.int .u8 0) := (blk_cell m0.out 4).trans rfl; have y5 : w2.cell? ⟨w.heap.size + 1, 5, none⟩ = some (.bool false) := (blk_cell m0.out 5).trans rfl; have fy := fun i => blk_frozen m0.out i))
  rename_i hHeld
  clear hHeld
  go_wp2
  have q1 : ((((((w2.setCell ⟨w.heap.size + 1, 0, none⟩ (.int .i64 1)).setCell ⟨w.heap.size + 1, 1, none⟩ (.bool o)).setCell ⟨w.heap.size + 1, 2, none⟩ (.int .u8 l)).setCell ⟨w.heap.size + 1, 3, none⟩ (.int .u8 h)).setCell ⟨w.heap.size + 1, 4, none⟩ (.int .u8 r)).setCell ⟨w.heap.size + 1, 5, none⟩ (.bool md)).heap[w.heap.size + 1]? = some (.cells #[.int .i64 1, .bool o, .int .u8 l, .int .u8 h, .int .u8 r, .bool md] 24 (0, 0)) := (blk_put (blk_put (blk_put (blk_put (blk_put (blk_put m0.out 0 _ rfl) 1 _ rfl) 2 _ rfl) 3 _ rfl) 4 _ rfl) 5 _ rfl)
  have q2 : Below w.heap.size w ((((((w2.setCell ⟨w.heap.size + 1, 0, none⟩ (.int .i64 1)).setCell ⟨w.heap.size + 1, 1, none⟩ (.bool o)).setCell ⟨w.heap.size + 1, 2, none⟩ (.int .u8 l)).setCell ⟨w.heap.size + 1, 3, none⟩ (.int .u8 h)).setCell ⟨w.heap.size + 1, 4, none⟩ (.int .u8 r)).setCell ⟨w.heap.size + 1, 5, none⟩ (.bool md)) := (below_set (below_set (below_set (below_set (below_set (below_set n1.out (Nat.le_succ _)) (Nat.le_succ _)) (Nat.le_succ _)) (Nat.le_succ _)) (Nat.le_succ _)) (Nat.le_succ _))
  generalize ((((((w2.setCell ⟨w.heap.size + 1, 0, none⟩ (.int .i64 1)).setCell ⟨w.heap.size + 1, 1, none⟩ (.bool o)).setCell ⟨w.heap.size + 1, 2, none⟩ (.int .u8 l)).setCell ⟨w.heap.size + 1, 3, none⟩ (.int .u8 h)).setCell ⟨w.heap.size + 1, 4, none⟩ (.int .u8 r)).setCell ⟨w.heap.size + 1, 5, none⟩ (.bool md)) = Y at q1 q2 ⊢
  have u0 : Y.cell? ⟨w.heap.size + 1, 0, none⟩ = some (.int .i64 1) := (blk_cell q1 0).trans rfl
  have u1 : Y.cell? ⟨w.heap.size + 1, 1, none⟩ = some (.bool o) := (blk_cell q1 1).trans rfl
  have u2 : Y.cell? ⟨w.heap.size + 1, 2, none⟩ = some (.int .u8 l) := (blk_cell q1 2).trans rfl
  have u3 : Y.cell? ⟨w.heap.size + 1, 3, none⟩ = some (.int .u8 h) := (blk_cell q1 3).trans rfl
  have u4 : Y.cell? ⟨w.heap.size + 1, 4, none⟩ = some (.int .u8 r) := (blk_cell q1 4).trans rfl
  have u5 : Y.cell? ⟨w.heap.size + 1, 5, none⟩ = some (.bool md) := (blk_cell q1 5).trans rfl
  exact bodyPost_ret (v := .agg #[.int .i64 1, .bool o, .int .u8 l, .int .u8 h, .int .u8 r, .bool md]) (by simp [results, Try.results13, go_sem, u0, u1, u2, u3, u4, u5]) rfl ⟨rfl, q2⟩
set_option maxRecDepth 100000 in
set_option maxHeartbeats 400000 in
theorem wr_third0 (k : Int) (o : Bool) (l h r : Int) (md : Bool) (a v : Int) (hp : wrap64 (Int.tdiv (IntKind.i64.wrap (a / 4096)) 2) = 0) (ha : ¬ a ≥ 32768) (w : World) :
    Calls Try.prog 13 #[.agg #[.int .i64 3, .bool o, .int .u8 l, .int .u8 h, .int .u8 r, .bool md], .int .u16 a, .int .u8 v] w fun e' w' => e' = .returned (.agg #[.int .i64 3, .bool ((Go.bits .and .u8 v 15) == 10), .int .u8 l, .int .u8 h, .int .u8 r, .bool md]) ∧ Below w.heap.size w w' := by
  go_enter Try.func13, Try.ntmps13
  go_wp2
  have bk := blk_alloc (blk_new w (.cells #[.int .i64 3, .bool o, .int .u8 l, .int .u8 h, .int .u8 r, .bool md] 24)) (.cells #[.int .i64 0, .bool false, .int .u8 0, .int .u8 0, .int .u8 0, .bool false] 24)
  have br := blk_at1 w (.cells #[.int .i64 3, .bool o, .int .u8 l, .int .u8 h, .int .u8 r, .bool md] 24) (.cells #[.int .i64 0, .bool false, .int .u8 0, .int .u8 0, .int .u8 0, .bool false] 24)
  have hB := below_alloc (below_alloc (Below.refl w.heap.size w) (.cells #[.int .i64 3, .bool o, .int .u8 l, .int .u8 h, .int .u8 r, .bool md] 24)) (.cells #[.int .i64 0, .bool false, .int .u8 0, .int .u8 0, .int .u8 0, .bool false] 24)
  generalize (w.alloc (.cells #[.int .i64 3, .bool o, .int .u8 l, .int .u8 h, .int .u8 r, .bool md] 24)).alloc (.cells #[.int .i64 0, .bool false, .int .u8 0, .int .u8 0, .int .u8 0, .bool false] 24) = W at bk br hB ⊢
  have BK := Aside0.mk bk
  have BR := Aside0.mk br
  have HB := Aside0.mk hB
  clear bk br hB
  have c0 : W.cell? ⟨w.heap.size, 0, none⟩ = some (.int .i64 3) := (blk_cell BK.out 0).trans rfl
  have c1 : W.cell? ⟨w.heap.size, 1, none⟩ = some (.bool o) := (blk_cell BK.out 1).trans rfl
  have c2 : W.cell? ⟨w.heap.size, 2, none⟩ = some (.int .u8 l) := (blk_cell BK.out 2).trans rfl
  have c3 : W.cell? ⟨w.heap.size, 3, none⟩ = some (.int .u8 h) := (blk_cell BK.out 3).trans rfl
  have c4 : W.cell? ⟨w.heap.size, 4, none⟩ = some (.int .u8 r) := (blk_cell BK.out 4).trans rfl
  have c5 : W.cell? ⟨w.heap.size, 5, none⟩ = some (.bool md) := (blk_cell BK.out 5).trans rfl
  have z0 : W.cell? ⟨w.heap.size + 1, 0, none⟩ = some (.int .i64 0) := (blk_cell BR.out 0).trans rfl
  have z1 : W.cell? ⟨w.heap.size + 1, 1, none⟩ = some (.bool false) := (blk_cell BR.out 1).trans rfl
  have z2 : W.cell? ⟨w.heap.size + 1, 2, none⟩ = some (.int .u8 0) := (blk_cell BR.out 2).trans rfl
  have z3 : W.cell? ⟨w.heap.size + 1, 3, none⟩ = some (.int .u8 0) := (blk_cell BR.out 3).trans rfl
  have z4 : W.cell? ⟨w.heap.size + 1, 4, none⟩ = some (.int .u8 0) := (blk_cell BR.out 4).trans rfl
  have z5 : W.cell? ⟨w.heap.size + 1, 5, none⟩ = some (.bool false) := (blk_cell BR.out 5).trans rfl
  have fr := fun i => blk_frozen BR.out i
  go_region_held3 (fun w' => w'.cell? ⟨w.heap.size, 0, none⟩ = some (.int .i64 3) ∧ w'.cell? ⟨w.heap.size, 1, none⟩ = some (.bool o) ∧ w'.cell? ⟨w.heap.size, 2, none⟩ = some (.int .u8 l) ∧ w'.cell? ⟨w.heap.size, 3, none⟩ = some (.int .u8 h) ∧ w'.cell? ⟨w.heap.size, 4, none⟩ = some (.int .u8 r) ∧ w'.cell? ⟨w.heap.size, 5, none⟩ = some (.bool md)) (go_keep)
    (first | (go_at_call 23; ((with_reducible refine (of3 _).mono ?_)); rintro e' w2 ⟨rfl, rfl⟩)
           | (go_at_call 50; ((with_reducible refine (write_third0 3 (IntKind.i64.wrap (a / 4096)) v o l h r md hp _).mono ?_)); rintro e' w2 ⟨rfl, hb⟩; have n0 := Aside0.mk (blk_below (blk_drew BK.out) hb); have m0 := Aside0.mk (blk_below (blk_drew BR.out) hb); have n1 := Aside0.mk (below_step (below_drew1 HB.out) hb); clear hb; have d0 : w2.cell? ⟨w.heap.size, 0, none⟩ = some (.int .i64 3) := (blk_cell n0.out 0).trans rfl; have d1 : w2.cell? ⟨w.heap.size, 1, none⟩ = some (.bool o) := (blk_cell n0.out 1).trans rfl; have d2 : w2.cell? ⟨w.heap.size, 2, none⟩ = some (.int .u8 l) := (blk_cell n0.out 2).trans rfl; have d3 : w2.cell? ⟨w.heap.size, 3, none⟩ = some (.int .u8 h) := (blk_cell n0.out 3).trans rfl; have d4 : w2.cell? ⟨w.heap.size, 4, none⟩ = some (.int .u8 r) := (blk_cell n0.out 4).trans rfl; have d5 : w2.cell? ⟨w.heap.size, 5, none⟩ = some (.bool md) := (blk_cell n0.out 5).trans rfl; have y0 : w2.cell? ⟨w.heap.size + 1, 0, none⟩ = some (.int .i64 0) := (blk_cell m0.out 0).trans rfl; have y1 : w2.cell? ⟨w.heap.size + 1, 1, none⟩ = some (.bool false) := (blk_cell m0.out 1).trans rfl; have y2 : w2.cell? ⟨w.heap.size + 1, 2, none⟩ = some (.int .u8 0) := (blk_cell m0.out 2).trans rfl; have y3 : w2.cell? ⟨w.heap.size + 1, 3, none⟩ = some (.int .u8 0) := (blk_cell m0.out 3).trans rfl; have y4 : w2.cell? ⟨w.heap.size + 1, 4, none⟩ = some (.int .u8 0) := (blk_cell m0.out 4).trans rfl; have y5 : w2.cell? ⟨w.heap.size + 1, 5, none⟩ = some (.bool false) := (blk_cell m0.out 5).trans rfl; have fy := fun i => blk_frozen m0.out i))
  rename_i hHeld
  clear hHeld
  go_wp2
  have q1 : ((((((w2.setCell ⟨w.heap.size + 1, 0, none⟩ (.int .i64 3)).setCell ⟨w.heap.size + 1, 1, none⟩ (.bool ((Go.bits .and .u8 v 15) == 10))).setCell ⟨w.heap.size + 1, 2, none⟩ (.int .u8 l)).setCell ⟨w.heap.size + 1, 3, none⟩ (.int .u8 h)).setCell ⟨w.heap.size + 1, 4, none⟩ (.int .u8 r)).setCell ⟨w.heap.size + 1, 5, none⟩ (.bool md)).heap[w.heap.size + 1]? = some (.cells #[.int .i64 3, .bool ((Go.bits .and .u8 v 15) == 10), .int .u8 l, .int .u8 h, .int .u8 r, .bool md] 24 (0, 0)) := (blk_put (blk_put (blk_put (blk_put (blk_put (blk_put m0.out 0 _ rfl) 1 _ rfl) 2 _ rfl) 3 _ rfl) 4 _ rfl) 5 _ rfl)
  have q2 : Below w.heap.size w ((((((w2.setCell ⟨w.heap.size + 1, 0, none⟩ (.int .i64 3)).setCell ⟨w.heap.size + 1, 1, none⟩ (.bool ((Go.bits .and .u8 v 15) == 10))).setCell ⟨w.heap.size + 1, 2, none⟩ (.int .u8 l)).setCell ⟨w.heap.size + 1, 3, none⟩ (.int .u8 h)).setCell ⟨w.heap.size + 1, 4, none⟩ (.int .u8 r)).setCell ⟨w.heap.size + 1, 5, none⟩ (.bool md)) := (below_set (below_set (below_set (below_set (below_set (below_set n1.out (Nat.le_succ _)) (Nat.le_succ _)) (Nat.le_succ _)) (Nat.le_succ _)) (Nat.le_succ _)) (Nat.le_succ _))
  generalize ((((((w2.setCell ⟨w.heap.size + 1, 0, none⟩ (.int .i64 3)).setCell ⟨w.heap.size + 1, 1, none⟩ (.bool ((Go.bits .and .u8 v 15) == 10))).setCell ⟨w.heap.size + 1, 2, none⟩ (.int .u8 l)).setCell ⟨w.heap.size + 1, 3, none⟩ (.int .u8 h)).setCell ⟨w.heap.size + 1, 4, none⟩ (.int .u8 r)).setCell ⟨w.heap.size + 1, 5, none⟩ (.bool md)) = Y at q1 q2 ⊢
  have u0 : Y.cell? ⟨w.heap.size + 1, 0, none⟩ = some (.int .i64 3) := (blk_cell q1 0).trans rfl
  have u1 : Y.cell? ⟨w.heap.size + 1, 1, none⟩ = some (.bool ((Go.bits .and .u8 v 15) == 10)) := (blk_cell q1 1).trans rfl
  have u2 : Y.cell? ⟨w.heap.size + 1, 2, none⟩ = some (.int .u8 l) := (blk_cell q1 2).trans rfl
  have u3 : Y.cell? ⟨w.heap.size + 1, 3, none⟩ = some (.int .u8 h) := (blk_cell q1 3).trans rfl
  have u4 : Y.cell? ⟨w.heap.size + 1, 4, none⟩ = some (.int .u8 r) := (blk_cell q1 4).trans rfl
  have u5 : Y.cell? ⟨w.heap.size + 1, 5, none⟩ = some (.bool md) := (blk_cell q1 5).trans rfl
  exact bodyPost_ret (v := .agg #[.int .i64 3, .bool ((Go.bits .and .u8 v 15) == 10), .int .u8 l, .int .u8 h, .int .u8 r, .bool md]) (by simp [results, Try.results13, go_sem, u0, u1, u2, u3, u4, u5]) rfl ⟨rfl, q2⟩
set_option maxRecDepth 100000 in
set_option maxHeartbeats 400000 in
theorem wr_third1 (k : Int) (o : Bool) (l h r : Int) (md : Bool) (a v : Int) (hp : wrap64 (Int.tdiv (IntKind.i64.wrap (a / 4096)) 2) = 1) (ha : ¬ a ≥ 32768) (w : World) :
    Calls Try.prog 13 #[.agg #[.int .i64 3, .bool o, .int .u8 l, .int .u8 h, .int .u8 r, .bool md], .int .u16 a, .int .u8 v] w fun e' w' => e' = .returned (.agg #[.int .i64 3, .bool o, .int .u8 (Go.bits .and .u8 v 127), .int .u8 h, .int .u8 r, .bool md]) ∧ Below w.heap.size w w' := by
  go_enter Try.func13, Try.ntmps13
  go_wp2
  have bk := blk_alloc (blk_new w (.cells #[.int .i64 3, .bool o, .int .u8 l, .int .u8 h, .int .u8 r, .bool md] 24)) (.cells #[.int .i64 0, .bool false, .int .u8 0, .int .u8 0, .int .u8 0, .bool false] 24)
  have br := blk_at1 w (.cells #[.int .i64 3, .bool o, .int .u8 l, .int .u8 h, .int .u8 r, .bool md] 24) (.cells #[.int .i64 0, .bool false, .int .u8 0, .int .u8 0, .int .u8 0, .bool false] 24)
  have hB := below_alloc (below_alloc (Below.refl w.heap.size w) (.cells #[.int .i64 3, .bool o, .int .u8 l, .int .u8 h, .int .u8 r, .bool md] 24)) (.cells #[.int .i64 0, .bool false, .int .u8 0, .int .u8 0, .int .u8 0, .bool false] 24)
  generalize (w.alloc (.cells #[.int .i64 3, .bool o, .int .u8 l, .int .u8 h, .int .u8 r, .bool md] 24)).alloc (.cells #[.int .i64 0, .bool false, .int .u8 0, .int .u8 0, .int .u8 0, .bool false] 24) = W at bk br hB ⊢
  have BK := Aside0.mk bk
  have BR := Aside0.mk br
  have HB := Aside0.mk hB
  clear bk br hB
  have c0 : W.cell? ⟨w.heap.size, 0, none⟩ = some (.int .i64 3) := (blk_cell BK.out 0).trans rfl
  have c1 : W.cell? ⟨w.heap.size, 1, none⟩ = some (.bool o) := (blk_cell BK.out 1).trans rfl
  have c2 : W.cell? ⟨w.heap.size, 2, none⟩ = some (.int .u8 l) := (blk_cell BK.out 2).trans rfl
  have c3 : W.cell? ⟨w.heap.size, 3, none⟩ = some (.int .u8 h) := (blk_cell BK.out 3).trans rfl
  have c4 : W.cell? ⟨w.heap.size, 4, none⟩ = some (.int .u8 r) := (blk_cell BK.out 4).trans rfl
  have c5 : W.cell? ⟨w.heap.size, 5, none⟩ = some (.bool md) := (blk_cell BK.out 5).trans rfl
  have z0 : W.cell? ⟨w.heap.size + 1, 0, none⟩ = some (.int .i64 0) := (blk_cell BR.out 0).trans rfl
  have z1 : W.cell? ⟨w.heap.size + 1, 1, none⟩ = some (.bool false) := (blk_cell BR.out 1).trans rfl
  have z2 : W.cell? ⟨w.heap.size + 1, 2, none⟩ = some (.int .u8 0) := (blk_cell BR.out 2).trans rfl
  have z3 : W.cell? ⟨w.heap.size + 1, 3, none⟩ = some (.int .u8 0) := (blk_cell BR.out 3).trans rfl
  have z4 : W.cell? ⟨w.heap.size + 1, 4, none⟩ = some (.int .u8 0) := (blk_cell BR.out 4).trans rfl
  have z5 : W.cell? ⟨w.heap.size + 1, 5, none⟩ = some (.bool false) := (blk_cell BR.out 5).trans rfl
  have fr := fun i => blk_frozen BR.out i
  go_region_held3 (fun w' => w'.cell? ⟨w.heap.size, 0, none⟩ = some (.int .i64 3) ∧ w'.cell? ⟨w.heap.size, 1, none⟩ = some (.bool o) ∧ w'.cell? ⟨w.heap.size, 2, none⟩ = some (.int .u8 l) ∧ w'.cell? ⟨w.heap.size, 3, none⟩ = some (.int .u8 h) ∧ w'.cell? ⟨w.heap.size, 4, none⟩ = some (.int .u8 r) ∧ w'.cell? ⟨w.heap.size, 5, none⟩ = some (.bool md)) (go_keep)
    (first | (go_at_call 23; ((with_reducible refine (of3 _).mono ?_)); rintro e' w2 ⟨rfl, rfl⟩)
           | (go_at_call 50; ((with_reducible refine (write_third1 3 (IntKind.i64.wrap (a / 4096)) v o l h r md hp _).mono ?_)); rintro e' w2 ⟨rfl, hb⟩; have n0 := Aside0.mk (blk_below (blk_drew BK.out) hb); have m0 := Aside0.mk (blk_below (blk_drew BR.out) hb); have n1 := Aside0.mk (below_step (below_drew1 HB.out) hb); clear hb; have d0 : w2.cell? ⟨w.heap.size, 0, none⟩ = some (.int .i64 3) := (blk_cell n0.out 0).trans rfl; have d1 : w2.cell? ⟨w.heap.size, 1, none⟩ = some (.bool o) := (blk_cell n0.out 1).trans rfl; have d2 : w2.cell? ⟨w.heap.size, 2, none⟩ = some (.int .u8 l) := (blk_cell n0.out 2).trans rfl; have d3 : w2.cell? ⟨w.heap.size, 3, none⟩ = some (.int .u8 h) := (blk_cell n0.out 3).trans rfl; have d4 : w2.cell? ⟨w.heap.size, 4, none⟩ = some (.int .u8 r) := (blk_cell n0.out 4).trans rfl; have d5 : w2.cell? ⟨w.heap.size, 5, none⟩ = some (.bool md) := (blk_cell n0.out 5).trans rfl; have y0 : w2.cell? ⟨w.heap.size + 1, 0, none⟩ = some (.int .i64 0) := (blk_cell m0.out 0).trans rfl; have y1 : w2.cell? ⟨w.heap.size + 1, 1, none⟩ = some (.bool false) := (blk_cell m0.out 1).trans rfl; have y2 : w2.cell? ⟨w.heap.size + 1, 2, none⟩ = some (.int .u8 0) := (blk_cell m0.out 2).trans rfl; have y3 : w2.cell? ⟨w.heap.size + 1, 3, none⟩ = some (.int .u8 0) := (blk_cell m0.out 3).trans rfl; have y4 : w2.cell? ⟨w.heap.size + 1, 4, none⟩ = some (.int .u8 0) := (blk_cell m0.out 4).trans rfl; have y5 : w2.cell? ⟨w.heap.size + 1, 5, none⟩ = some (.bool false) := (blk_cell m0.out 5).trans rfl; have fy := fun i => blk_frozen m0.out i))
  rename_i hHeld
  clear hHeld
  go_wp2
  have q1 : ((((((w2.setCell ⟨w.heap.size + 1, 0, none⟩ (.int .i64 3)).setCell ⟨w.heap.size + 1, 1, none⟩ (.bool o)).setCell ⟨w.heap.size + 1, 2, none⟩ (.int .u8 (Go.bits .and .u8 v 127))).setCell ⟨w.heap.size + 1, 3, none⟩ (.int .u8 h)).setCell ⟨w.heap.size + 1, 4, none⟩ (.int .u8 r)).setCell ⟨w.heap.size + 1, 5, none⟩ (.bool md)).heap[w.heap.size + 1]? = some (.cells #[.int .i64 3, .bool o, .int .u8 (Go.bits .and .u8 v 127), .int .u8 h, .int .u8 r, .bool md] 24 (0, 0)) := (blk_put (blk_put (blk_put (blk_put (blk_put (blk_put m0.out 0 _ rfl) 1 _ rfl) 2 _ rfl) 3 _ rfl) 4 _ rfl) 5 _ rfl)
  have q2 : Below w.heap.size w ((((((w2.setCell ⟨w.heap.size + 1, 0, none⟩ (.int .i64 3)).setCell ⟨w.heap.size + 1, 1, none⟩ (.bool o)).setCell ⟨w.heap.size + 1, 2, none⟩ (.int .u8 (Go.bits .and .u8 v 127))).setCell ⟨w.heap.size + 1, 3, none⟩ (.int .u8 h)).setCell ⟨w.heap.size + 1, 4, none⟩ (.int .u8 r)).setCell ⟨w.heap.size + 1, 5, none⟩ (.bool md)) := (below_set (below_set (below_set (below_set (below_set (below_set n1.out (Nat.le_succ _)) (Nat.le_succ _)) (Nat.le_succ _)) (Nat.le_succ _)) (Nat.le_succ _)) (Nat.le_succ _))
  generalize ((((((w2.setCell ⟨w.heap.size + 1, 0, none⟩ (.int .i64 3)).setCell ⟨w.heap.size + 1, 1, none⟩ (.bool o)).setCell ⟨w.heap.size + 1, 2, none⟩ (.int .u8 (Go.bits .and .u8 v 127))).setCell ⟨w.heap.size + 1, 3, none⟩ (.int .u8 h)).setCell ⟨w.heap.size + 1, 4, none⟩ (.int .u8 r)).setCell ⟨w.heap.size + 1, 5, none⟩ (.bool md)) = Y at q1 q2 ⊢
  have u0 : Y.cell? ⟨w.heap.size + 1, 0, none⟩ = some (.int .i64 3) := (blk_cell q1 0).trans rfl
  have u1 : Y.cell? ⟨w.heap.size + 1, 1, none⟩ = some (.bool o) := (blk_cell q1 1).trans rfl
  have u2 : Y.cell? ⟨w.heap.size + 1, 2, none⟩ = some (.int .u8 (Go.bits .and .u8 v 127)) := (blk_cell q1 2).trans rfl
  have u3 : Y.cell? ⟨w.heap.size + 1, 3, none⟩ = some (.int .u8 h) := (blk_cell q1 3).trans rfl
  have u4 : Y.cell? ⟨w.heap.size + 1, 4, none⟩ = some (.int .u8 r) := (blk_cell q1 4).trans rfl
  have u5 : Y.cell? ⟨w.heap.size + 1, 5, none⟩ = some (.bool md) := (blk_cell q1 5).trans rfl
  exact bodyPost_ret (v := .agg #[.int .i64 3, .bool o, .int .u8 (Go.bits .and .u8 v 127), .int .u8 h, .int .u8 r, .bool md]) (by simp [results, Try.results13, go_sem, u0, u1, u2, u3, u4, u5]) rfl ⟨rfl, q2⟩
set_option maxRecDepth 100000 in
set_option maxHeartbeats 400000 in
theorem wr_third2 (k : Int) (o : Bool) (l h r : Int) (md : Bool) (a v : Int) (hp : wrap64 (Int.tdiv (IntKind.i64.wrap (a / 4096)) 2) = 2) (ha : ¬ a ≥ 32768) (w : World) :
    Calls Try.prog 13 #[.agg #[.int .i64 3, .bool o, .int .u8 l, .int .u8 h, .int .u8 r, .bool md], .int .u16 a, .int .u8 v] w fun e' w' => e' = .returned (.agg #[.int .i64 3, .bool o, .int .u8 l, .int .u8 h, .int .u8 (Go.bits .and .u8 v 15), .bool md]) ∧ Below w.heap.size w w' := by
  go_enter Try.func13, Try.ntmps13
  go_wp2
  have bk := blk_alloc (blk_new w (.cells #[.int .i64 3, .bool o, .int .u8 l, .int .u8 h, .int .u8 r, .bool md] 24)) (.cells #[.int .i64 0, .bool false, .int .u8 0, .int .u8 0, .int .u8 0, .bool false] 24)
  have br := blk_at1 w (.cells #[.int .i64 3, .bool o, .int .u8 l, .int .u8 h, .int .u8 r, .bool md] 24) (.cells #[.int .i64 0, .bool false, .int .u8 0, .int .u8 0, .int .u8 0, .bool false] 24)
  have hB := below_alloc (below_alloc (Below.refl w.heap.size w) (.cells #[.int .i64 3, .bool o, .int .u8 l, .int .u8 h, .int .u8 r, .bool md] 24)) (.cells #[.int .i64 0, .bool false, .int .u8 0, .int .u8 0, .int .u8 0, .bool false] 24)
  generalize (w.alloc (.cells #[.int .i64 3, .bool o, .int .u8 l, .int .u8 h, .int .u8 r, .bool md] 24)).alloc (.cells #[.int .i64 0, .bool false, .int .u8 0, .int .u8 0, .int .u8 0, .bool false] 24) = W at bk br hB ⊢
  have BK := Aside0.mk bk
  have BR := Aside0.mk br
  have HB := Aside0.mk hB
  clear bk br hB
  have c0 : W.cell? ⟨w.heap.size, 0, none⟩ = some (.int .i64 3) := (blk_cell BK.out 0).trans rfl
  have c1 : W.cell? ⟨w.heap.size, 1, none⟩ = some (.bool o) := (blk_cell BK.out 1).trans rfl
  have c2 : W.cell? ⟨w.heap.size, 2, none⟩ = some (.int .u8 l) := (blk_cell BK.out 2).trans rfl
  have c3 : W.cell? ⟨w.heap.size, 3, none⟩ = some (.int .u8 h) := (blk_cell BK.out 3).trans rfl
  have c4 : W.cell? ⟨w.heap.size, 4, none⟩ = some (.int .u8 r) := (blk_cell BK.out 4).trans rfl
  have c5 : W.cell? ⟨w.heap.size, 5, none⟩ = some (.bool md) := (blk_cell BK.out 5).trans rfl
  have z0 : W.cell? ⟨w.heap.size + 1, 0, none⟩ = some (.int .i64 0) := (blk_cell BR.out 0).trans rfl
  have z1 : W.cell? ⟨w.heap.size + 1, 1, none⟩ = some (.bool false) := (blk_cell BR.out 1).trans rfl
  have z2 : W.cell? ⟨w.heap.size + 1, 2, none⟩ = some (.int .u8 0) := (blk_cell BR.out 2).trans rfl
  have z3 : W.cell? ⟨w.heap.size + 1, 3, none⟩ = some (.int .u8 0) := (blk_cell BR.out 3).trans rfl
  have z4 : W.cell? ⟨w.heap.size + 1, 4, none⟩ = some (.int .u8 0) := (blk_cell BR.out 4).trans rfl
  have z5 : W.cell? ⟨w.heap.size + 1, 5, none⟩ = some (.bool false) := (blk_cell BR.out 5).trans rfl
  have fr := fun i => blk_frozen BR.out i
  go_region_held3 (fun w' => w'.cell? ⟨w.heap.size, 0, none⟩ = some (.int .i64 3) ∧ w'.cell? ⟨w.heap.size, 1, none⟩ = some (.bool o) ∧ w'.cell? ⟨w.heap.size, 2, none⟩ = some (.int .u8 l) ∧ w'.cell? ⟨w.heap.size, 3, none⟩ = some (.int .u8 h) ∧ w'.cell? ⟨w.heap.size, 4, none⟩ = some (.int .u8 r) ∧ w'.cell? ⟨w.heap.size, 5, none⟩ = some (.bool md)) (go_keep)
    (first | (go_at_call 23; ((with_reducible refine (of3 _).mono ?_)); rintro e' w2 ⟨rfl, rfl⟩)
           | (go_at_call 50; ((with_reducible refine (write_third2 3 (IntKind.i64.wrap (a / 4096)) v o l h r md hp _).mono ?_)); rintro e' w2 ⟨rfl, hb⟩; have n0 := Aside0.mk (blk_below (blk_drew BK.out) hb); have m0 := Aside0.mk (blk_below (blk_drew BR.out) hb); have n1 := Aside0.mk (below_step (below_drew1 HB.out) hb); clear hb; have d0 : w2.cell? ⟨w.heap.size, 0, none⟩ = some (.int .i64 3) := (blk_cell n0.out 0).trans rfl; have d1 : w2.cell? ⟨w.heap.size, 1, none⟩ = some (.bool o) := (blk_cell n0.out 1).trans rfl; have d2 : w2.cell? ⟨w.heap.size, 2, none⟩ = some (.int .u8 l) := (blk_cell n0.out 2).trans rfl; have d3 : w2.cell? ⟨w.heap.size, 3, none⟩ = some (.int .u8 h) := (blk_cell n0.out 3).trans rfl; have d4 : w2.cell? ⟨w.heap.size, 4, none⟩ = some (.int .u8 r) := (blk_cell n0.out 4).trans rfl; have d5 : w2.cell? ⟨w.heap.size, 5, none⟩ = some (.bool md) := (blk_cell n0.out 5).trans rfl; have y0 : w2.cell? ⟨w.heap.size + 1, 0, none⟩ = some (.int .i64 0) := (blk_cell m0.out 0).trans rfl; have y1 : w2.cell? ⟨w.heap.size + 1, 1, none⟩ = some (.bool false) := (blk_cell m0.out 1).trans rfl; have y2 : w2.cell? ⟨w.heap.size + 1, 2, none⟩ = some (.int .u8 0) := (blk_cell m0.out 2).trans rfl; have y3 : w2.cell? ⟨w.heap.size + 1, 3, none⟩ = some (.int .u8 0) := (blk_cell m0.out 3).trans rfl; have y4 : w2.cell? ⟨w.heap.size + 1, 4, none⟩ = some (.int .u8 0) := (blk_cell m0.out 4).trans rfl; have y5 : w2.cell? ⟨w.heap.size + 1, 5, none⟩ = some (.bool false) := (blk_cell m0.out 5).trans rfl; have fy := fun i => blk_frozen m0.out i))
  rename_i hHeld
  clear hHeld
  go_wp2
  have q1 : ((((((w2.setCell ⟨w.heap.size + 1, 0, none⟩ (.int .i64 3)).setCell ⟨w.heap.size + 1, 1, none⟩ (.bool o)).setCell ⟨w.heap.size + 1, 2, none⟩ (.int .u8 l)).setCell ⟨w.heap.size + 1, 3, none⟩ (.int .u8 h)).setCell ⟨w.heap.size + 1, 4, none⟩ (.int .u8 (Go.bits .and .u8 v 15))).setCell ⟨w.heap.size + 1, 5, none⟩ (.bool md)).heap[w.heap.size + 1]? = some (.cells #[.int .i64 3, .bool o, .int .u8 l, .int .u8 h, .int .u8 (Go.bits .and .u8 v 15), .bool md] 24 (0, 0)) := (blk_put (blk_put (blk_put (blk_put (blk_put (blk_put m0.out 0 _ rfl) 1 _ rfl) 2 _ rfl) 3 _ rfl) 4 _ rfl) 5 _ rfl)
  have q2 : Below w.heap.size w ((((((w2.setCell ⟨w.heap.size + 1, 0, none⟩ (.int .i64 3)).setCell ⟨w.heap.size + 1, 1, none⟩ (.bool o)).setCell ⟨w.heap.size + 1, 2, none⟩ (.int .u8 l)).setCell ⟨w.heap.size + 1, 3, none⟩ (.int .u8 h)).setCell ⟨w.heap.size + 1, 4, none⟩ (.int .u8 (Go.bits .and .u8 v 15))).setCell ⟨w.heap.size + 1, 5, none⟩ (.bool md)) := (below_set (below_set (below_set (below_set (below_set (below_set n1.out (Nat.le_succ _)) (Nat.le_succ _)) (Nat.le_succ _)) (Nat.le_succ _)) (Nat.le_succ _)) (Nat.le_succ _))
  generalize ((((((w2.setCell ⟨w.heap.size + 1, 0, none⟩ (.int .i64 3)).setCell ⟨w.heap.size + 1, 1, none⟩ (.bool o)).setCell ⟨w.heap.size + 1, 2, none⟩ (.int .u8 l)).setCell ⟨w.heap.size + 1, 3, none⟩ (.int .u8 h)).setCell ⟨w.heap.size + 1, 4, none⟩ (.int .u8 (Go.bits .and .u8 v 15))).setCell ⟨w.heap.size + 1, 5, none⟩ (.bool md)) = Y at q1 q2 ⊢
  have u0 : Y.cell? ⟨w.heap.size + 1, 0, none⟩ = some (.int .i64 3) := (blk_cell q1 0).trans rfl
  have u1 : Y.cell? ⟨w.heap.size + 1, 1, none⟩ = some (.bool o) := (blk_cell q1 1).trans rfl
  have u2 : Y.cell? ⟨w.heap.size + 1, 2, none⟩ = some (.int .u8 l) := (blk_cell q1 2).trans rfl
  have u3 : Y.cell? ⟨w.heap.size + 1, 3, none⟩ = some (.int .u8 h) := (blk_cell q1 3).trans rfl
  have u4 : Y.cell? ⟨w.heap.size + 1, 4, none⟩ = some (.int .u8 (Go.bits .and .u8 v 15)) := (blk_cell q1 4).trans rfl
  have u5 : Y.cell? ⟨w.heap.size + 1, 5, none⟩ = some (.bool md) := (blk_cell q1 5).trans rfl
  exact bodyPost_ret (v := .agg #[.int .i64 3, .bool o, .int .u8 l, .int .u8 h, .int .u8 (Go.bits .and .u8 v 15), .bool md]) (by simp [results, Try.results13, go_sem, u0, u1, u2, u3, u4, u5]) rfl ⟨rfl, q2⟩
set_option maxRecDepth 100000 in
set_option maxHeartbeats 400000 in
theorem wr_third_no (k : Int) (o : Bool) (l h r : Int) (md : Bool) (a v : Int) (h0 : ¬ wrap64 (Int.tdiv (IntKind.i64.wrap (a / 4096)) 2) = 0) (h1 : ¬ wrap64 (Int.tdiv (IntKind.i64.wrap (a / 4096)) 2) = 1) (h2 : ¬ wrap64 (Int.tdiv (IntKind.i64.wrap (a / 4096)) 2) = 2) (ha : ¬ a ≥ 32768) (w : World) :
    Calls Try.prog 13 #[.agg #[.int .i64 3, .bool o, .int .u8 l, .int .u8 h, .int .u8 r, .bool md], .int .u16 a, .int .u8 v] w fun e' w' => e' = .returned (.agg #[.int .i64 3, .bool o, .int .u8 l, .int .u8 h, .int .u8 r, .bool md]) ∧ Below w.heap.size w w' := by
  go_enter Try.func13, Try.ntmps13
  go_wp2
  have bk := blk_alloc (blk_new w (.cells #[.int .i64 3, .bool o, .int .u8 l, .int .u8 h, .int .u8 r, .bool md] 24)) (.cells #[.int .i64 0, .bool false, .int .u8 0, .int .u8 0, .int .u8 0, .bool false] 24)
  have br := blk_at1 w (.cells #[.int .i64 3, .bool o, .int .u8 l, .int .u8 h, .int .u8 r, .bool md] 24) (.cells #[.int .i64 0, .bool false, .int .u8 0, .int .u8 0, .int .u8 0, .bool false] 24)
  have hB := below_alloc (below_alloc (Below.refl w.heap.size w) (.cells #[.int .i64 3, .bool o, .int .u8 l, .int .u8 h, .int .u8 r, .bool md] 24)) (.cells #[.int .i64 0, .bool false, .int .u8 0, .int .u8 0, .int .u8 0, .bool false] 24)
  generalize (w.alloc (.cells #[.int .i64 3, .bool o, .int .u8 l, .int .u8 h, .int .u8 r, .bool md] 24)).alloc (.cells #[.int .i64 0, .bool false, .int .u8 0, .int .u8 0, .int .u8 0, .bool false] 24) = W at bk br hB ⊢
  have BK := Aside0.mk bk
  have BR := Aside0.mk br
  have HB := Aside0.mk hB
  clear bk br hB
  have c0 : W.cell? ⟨w.heap.size, 0, none⟩ = some (.int .i64 3) := (blk_cell BK.out 0).trans rfl
  have c1 : W.cell? ⟨w.heap.size, 1, none⟩ = some (.bool o) := (blk_cell BK.out 1).trans rfl
  have c2 : W.cell? ⟨w.heap.size, 2, none⟩ = some (.int .u8 l) := (blk_cell BK.out 2).trans rfl
  have c3 : W.cell? ⟨w.heap.size, 3, none⟩ = some (.int .u8 h) := (blk_cell BK.out 3).trans rfl
  have c4 : W.cell? ⟨w.heap.size, 4, none⟩ = some (.int .u8 r) := (blk_cell BK.out 4).trans rfl
  have c5 : W.cell? ⟨w.heap.size, 5, none⟩ = some (.bool md) := (blk_cell BK.out 5).trans rfl
  have z0 : W.cell? ⟨w.heap.size + 1, 0, none⟩ = some (.int .i64 0) := (blk_cell BR.out 0).trans rfl
  have z1 : W.cell? ⟨w.heap.size + 1, 1, none⟩ = some (.bool false) := (blk_cell BR.out 1).trans rfl
  have z2 : W.cell? ⟨w.heap.size + 1, 2, none⟩ = some (.int .u8 0) := (blk_cell BR.out 2).trans rfl
  have z3 : W.cell? ⟨w.heap.size + 1, 3, none⟩ = some (.int .u8 0) := (blk_cell BR.out 3).trans rfl
  have z4 : W.cell? ⟨w.heap.size + 1, 4, none⟩ = some (.int .u8 0) := (blk_cell BR.out 4).trans rfl
  have z5 : W.cell? ⟨w.heap.size + 1, 5, none⟩ = some (.bool false) := (blk_cell BR.out 5).trans rfl
  have fr := fun i => blk_frozen BR.out i
  go_region_held3 (fun w' => w'.cell? ⟨w.heap.size, 0, none⟩ = some (.int .i64 3) ∧ w'.cell? ⟨w.heap.size, 1, none⟩ = some (.bool o) ∧ w'.cell? ⟨w.heap.size, 2, none⟩ = some (.int .u8 l) ∧ w'.cell? ⟨w.heap.size, 3, none⟩ = some (.int .u8 h) ∧ w'.cell? ⟨w.heap.size, 4, none⟩ = some (.int .u8 r) ∧ w'.cell? ⟨w.heap.size, 5, none⟩ = some (.bool md)) (go_keep)
    (first | (go_at_call 23; ((with_reducible refine (of3 _).mono ?_)); rintro e' w2 ⟨rfl, rfl⟩)
           | (go_at_call 50; ((with_reducible refine (write_third_no 3 (IntKind.i64.wrap (a / 4096)) v o l h r md h0 h1 h2 _).mono ?_)); rintro e' w2 ⟨rfl, hb⟩; have n0 := Aside0.mk (blk_below (blk_drew BK.out) hb); have m0 := Aside0.mk (blk_below (blk_drew BR.out) hb); have n1 := Aside0.mk (below_step (below_drew1 HB.out) hb); clear hb; have d0 : w2.cell? ⟨w.heap.size, 0, none⟩ = some (.int .i64 3) := (blk_cell n0.out 0).trans rfl; have d1 : w2.cell? ⟨w.heap.size, 1, none⟩ = some (.bool o) := (blk_cell n0.out 1).trans rfl; have d2 : w2.cell? ⟨w.heap.size, 2, none⟩ = some (.int .u8 l) := (blk_cell n0.out 2).trans rfl; have d3 : w2.cell? ⟨w.heap.size, 3, none⟩ = some (.int .u8 h) := (blk_cell n0.out 3).trans rfl; have d4 : w2.cell? ⟨w.heap.size, 4, none⟩ = some (.int .u8 r) := (blk_cell n0.out 4).trans rfl; have d5 : w2.cell? ⟨w.heap.size, 5, none⟩ = some (.bool md) := (blk_cell n0.out 5).trans rfl; have y0 : w2.cell? ⟨w.heap.size + 1, 0, none⟩ = some (.int .i64 0) := (blk_cell m0.out 0).trans rfl; have y1 : w2.cell? ⟨w.heap.size + 1, 1, none⟩ = some (.bool false) := (blk_cell m0.out 1).trans rfl; have y2 : w2.cell? ⟨w.heap.size + 1, 2, none⟩ = some (.int .u8 0) := (blk_cell m0.out 2).trans rfl; have y3 : w2.cell? ⟨w.heap.size + 1, 3, none⟩ = some (.int .u8 0) := (blk_cell m0.out 3).trans rfl; have y4 : w2.cell? ⟨w.heap.size + 1, 4, none⟩ = some (.int .u8 0) := (blk_cell m0.out 4).trans rfl; have y5 : w2.cell? ⟨w.heap.size + 1, 5, none⟩ = some (.bool false) := (blk_cell m0.out 5).trans rfl; have fy := fun i => blk_frozen m0.out i))
  rename_i hHeld
  clear hHeld
  go_wp2
  have q1 : ((((((w2.setCell ⟨w.heap.size + 1, 0, none⟩ (.int .i64 3)).setCell ⟨w.heap.size + 1, 1, none⟩ (.bool o)).setCell ⟨w.heap.size + 1, 2, none⟩ (.int .u8 l)).setCell ⟨w.heap.size + 1, 3, none⟩ (.int .u8 h)).setCell ⟨w.heap.size + 1, 4, none⟩ (.int .u8 r)).setCell ⟨w.heap.size + 1, 5, none⟩ (.bool md)).heap[w.heap.size + 1]? = some (.cells #[.int .i64 3, .bool o, .int .u8 l, .int .u8 h, .int .u8 r, .bool md] 24 (0, 0)) := (blk_put (blk_put (blk_put (blk_put (blk_put (blk_put m0.out 0 _ rfl) 1 _ rfl) 2 _ rfl) 3 _ rfl) 4 _ rfl) 5 _ rfl)
  have q2 : Below w.heap.size w ((((((w2.setCell ⟨w.heap.size + 1, 0, none⟩ (.int .i64 3)).setCell ⟨w.heap.size + 1, 1, none⟩ (.bool o)).setCell ⟨w.heap.size + 1, 2, none⟩ (.int .u8 l)).setCell ⟨w.heap.size + 1, 3, none⟩ (.int .u8 h)).setCell ⟨w.heap.size + 1, 4, none⟩ (.int .u8 r)).setCell ⟨w.heap.size + 1, 5, none⟩ (.bool md)) := (below_set (below_set (below_set (below_set (below_set (below_set n1.out (Nat.le_succ _)) (Nat.le_succ _)) (Nat.le_succ _)) (Nat.le_succ _)) (Nat.le_succ _)) (Nat.le_succ _))
  generalize ((((((w2.setCell ⟨w.heap.size + 1, 0, none⟩ (.int .i64 3)).setCell ⟨w.heap.size + 1, 1, none⟩ (.bool o)).setCell ⟨w.heap.size + 1, 2, none⟩ (.int .u8 l)).setCell ⟨w.heap.size + 1, 3, none⟩ (.int .u8 h)).setCell ⟨w.heap.size + 1, 4, none⟩ (.int .u8 r)).setCell ⟨w.heap.size + 1, 5, none⟩ (.bool md)) = Y at q1 q2 ⊢
  have u0 : Y.cell? ⟨w.heap.size + 1, 0, none⟩ = some (.int .i64 3) := (blk_cell q1 0).trans rfl
  have u1 : Y.cell? ⟨w.heap.size + 1, 1, none⟩ = some (.bool o) := (blk_cell q1 1).trans rfl
  have u2 : Y.cell? ⟨w.heap.size + 1, 2, none⟩ = some (.int .u8 l) := (blk_cell q1 2).trans rfl
  have u3 : Y.cell? ⟨w.heap.size + 1, 3, none⟩ = some (.int .u8 h) := (blk_cell q1 3).trans rfl
  have u4 : Y.cell? ⟨w.heap.size + 1, 4, none⟩ = some (.int .u8 r) := (blk_cell q1 4).trans rfl
  have u5 : Y.cell? ⟨w.heap.size + 1, 5, none⟩ = some (.bool md) := (blk_cell q1 5).trans rfl
  exact bodyPost_ret (v := .agg #[.int .i64 3, .bool o, .int .u8 l, .int .u8 h, .int .u8 r, .bool md]) (by simp [results, Try.results13, go_sem, u0, u1, u2, u3, u4, u5]) rfl ⟨rfl, q2⟩
set_option maxRecDepth 100000 in
set_option maxHeartbeats 400000 in
theorem wr_fifth0 (k : Int) (o : Bool) (l h r : Int) (md : Bool) (a v : Int) (hp : IntKind.i64.wrap (a / 4096) = 0) (ha : ¬ a ≥ 32768) (w : World) :
    Calls Try.prog 13 #[.agg #[.int .i64 5, .bool o, .int .u8 l, .int .u8 h, .int .u8 r, .bool md], .int .u16 a, .int .u8 v] w fun e' w' => e' = .returned (.agg #[.int .i64 5, .bool (v == 10), .int .u8 l, .int .u8 h, .int .u8 r, .bool md]) ∧ Below w.heap.size w w' := by
  go_enter Try.func13, Try.ntmps13
  go_wp2
  have bk := blk_alloc (blk_new w (.cells #[.int .i64 5, .bool o, .int .u8 l, .int .u8 h, .int .u8 r, .bool md] 24)) (.cells #[.int .i64 0, .bool false, .int .u8 0, .int .u8 0, .int .u8 0, .bool false] 24)
  have br := blk_at1 w (.cells #[.int .i64 5, .bool o, .int .u8 l, .int .u8 h, .int .u8 r, .bool md] 24) (.cells #[.int .i64 0, .bool false, .int .u8 0, .int .u8 0, .int .u8 0, .bool false] 24)
  have hB := below_alloc (below_alloc (Below.refl w.heap.size w) (.cells #[.int .i64 5, .bool o, .int .u8 l, .int .u8 h, .int .u8 r, .bool md] 24)) (.cells #[.int .i64 0, .bool false, .int .u8 0, .int .u8 0, .int .u8 0, .bool false] 24)
  generalize (w.alloc (.cells #[.int .i64 5, .bool o, .int .u8 l, .int .u8 h, .int .u8 r, .bool md] 24)).alloc (.cells #[.int .i64 0, .bool false, .int .u8 0, .int .u8 0, .int .u8 0, .bool false] 24) = W at bk br hB ⊢
  have BK := Aside0.mk bk
  have BR := Aside0.mk br
  have HB := Aside0.mk hB
  clear bk br hB
  have c0 : W.cell? ⟨w.heap.size, 0, none⟩ = some (.int .i64 5) := (blk_cell BK.out 0).trans rfl
  have c1 : W.cell? ⟨w.heap.size, 1, none⟩ = some (.bool o) := (blk_cell BK.out 1).trans rfl
  have c2 : W.cell? ⟨w.heap.size, 2, none⟩ = some (.int .u8 l) := (blk_cell BK.out 2).trans rfl
  have c3 : W.cell? ⟨w.heap.size, 3, none⟩ = some (.int .u8 h) := (blk_cell BK.out 3).trans rfl
  have c4 : W.cell? ⟨w.heap.size, 4, none⟩ = some (.int .u8 r) := (blk_cell BK.out 4).trans rfl
  have c5 : W.cell? ⟨w.heap.size, 5, none⟩ = some (.bool md) := (blk_cell BK.out 5).trans rfl
  have z0 : W.cell? ⟨w.heap.size + 1, 0, none⟩ = some (.int .i64 0) := (blk_cell BR.out 0).trans rfl
  have z1 : W.cell? ⟨w.heap.size + 1, 1, none⟩ = some (.bool false) := (blk_cell BR.out 1).trans rfl
  have z2 : W.cell? ⟨w.heap.size + 1, 2, none⟩ = some (.int .u8 0) := (blk_cell BR.out 2).trans rfl
  have z3 : W.cell? ⟨w.heap.size + 1, 3, none⟩ = some (.int .u8 0) := (blk_cell BR.out 3).trans rfl
  have z4 : W.cell? ⟨w.heap.size + 1, 4, none⟩ = some (.int .u8 0) := (blk_cell BR.out 4).trans rfl
  have z5 : W.cell? ⟨w.heap.size + 1, 5, none⟩ = some (.bool false) := (blk_cell BR.out 5).trans rfl
  have fr := fun i => blk_frozen BR.out i
  go_region_held3 (fun w' => w'.cell? ⟨w.heap.size, 0, none⟩ = some (.int .i64 5) ∧ w'.cell? ⟨w.heap.size, 1, none⟩ = some (.bool o) ∧ w'.cell? ⟨w.heap.size, 2, none⟩ = some (.int .u8 l) ∧ w'.cell? ⟨w.heap.size, 3, none⟩ = some (.int .u8 h) ∧ w'.cell? ⟨w.heap.size, 4, none⟩ = some (.int .u8 r) ∧ w'.cell? ⟨w.heap.size, 5, none⟩ = some (.bool md)) (go_keep)
    (first | (go_at_call 23; ((with_reducible refine (of5 _).mono ?_)); rintro e' w2 ⟨rfl, rfl⟩)
           | (go_at_call 54; ((with_reducible refine (write_fifth0 5 0 v o l h r md rfl _).mono ?_)); rintro e' w2 ⟨rfl, hb⟩; have n0 := Aside0.mk (blk_below (blk_drew BK.out) hb); have m0 := Aside0.mk (blk_below (blk_drew BR.out) hb); have n1 := Aside0.mk (below_step (below_drew1 HB.out) hb); clear hb; have d0 : w2.cell? ⟨w.heap.size, 0, none⟩ = some (.int .i64 5) := (blk_cell n0.out 0).trans rfl; have d1 : w2.cell? ⟨w.heap.size, 1, none⟩ = some (.bool o) := (blk_cell n0.out 1).trans rfl; have d2 : w2.cell? ⟨w.heap.size, 2, none⟩ = some (.int .u8 l) := (blk_cell n0.out 2).trans rfl; have d3 : w2.cell? ⟨w.heap.size, 3, none⟩ = some (.int .u8 h) := (blk_cell n0.out 3).trans rfl; have d4 : w2.cell? ⟨w.heap.size, 4, none⟩ = some (.int .u8 r) := (blk_cell n0.out 4).trans rfl; have d5 : w2.cell? ⟨w.heap.size, 5, none⟩ = some (.bool md) := (blk_cell n0.out 5).trans rfl; have y0 : w2.cell? ⟨w.heap.size + 1, 0, none⟩ = some (.int .i64 0) := (blk_cell m0.out 0).trans rfl; have y1 : w2.cell? ⟨w.heap.size + 1, 1, none⟩ = some (.bool false) := (blk_cell m0.out 1).trans rfl; have y2 : w2.cell? ⟨w.heap.size + 1, 2, none⟩ = some (.int .u8 0) := (blk_cell m0.out 2).trans rfl; have y3 : w2.cell? ⟨w.heap.size + 1, 3, none⟩ = some (.int .u8 0) := (blk_cell m0.out 3).trans rfl; have y4 : w2.cell? ⟨w.heap.size + 1, 4, none⟩ = some (.int .u8 0) := (blk_cell m0.out 4).trans rfl; have y5 : w2.cell? ⟨w.heap.size + 1, 5, none⟩ = some (.bool false) := (blk_cell m0.out 5).trans rfl; have fy := fun i => blk_frozen m0.out i))
  rename_i hHeld
  clear hHeld
  go_wp2
  have q1 : ((((((w2.setCell ⟨w.heap.size + 1, 0, none⟩ (.int .i64 5)).setCell ⟨w.heap.size + 1, 1, none⟩ (.bool (v == 10))).setCell ⟨w.heap.size + 1, 2, none⟩ (.int .u8 l)).setCell ⟨w.heap.size + 1, 3, none⟩ (.int .u8 h)).setCell ⟨w.heap.size + 1, 4, none⟩ (.int .u8 r)).setCell ⟨w.heap.size + 1, 5, none⟩ (.bool md)).heap[w.heap.size + 1]? = some (.cells #[.int .i64 5, .bool (v == 10), .int .u8 l, .int .u8 h, .int .u8 r, .bool md] 24 (0, 0)) := (blk_put (blk_put (blk_put (blk_put (blk_put (blk_put m0.out 0 _ rfl) 1 _ rfl) 2 _ rfl) 3 _ rfl) 4 _ rfl) 5 _ rfl)
  have q2 : Below w.heap.size w ((((((w2.setCell ⟨w.heap.size + 1, 0, none⟩ (.int .i64 5)).setCell ⟨w.heap.size + 1, 1, none⟩ (.bool (v == 10))).setCell ⟨w.heap.size + 1, 2, none⟩ (.int .u8 l)).setCell ⟨w.heap.size + 1, 3, none⟩ (.int .u8 h)).setCell ⟨w.heap.size + 1, 4, none⟩ (.int .u8 r)).setCell ⟨w.heap.size + 1, 5, none⟩ (.bool md)) := (below_set (below_set (below_set (below_set (below_set (below_set n1.out (Nat.le_succ _)) (Nat.le_succ _)) (Nat.le_succ _)) (Nat.le_succ _)) (Nat.le_succ _)) (Nat.le_succ _))
  generalize ((((((w2.setCell ⟨w.heap.size + 1, 0, none⟩ (.int .i64 5)).setCell ⟨w.heap.size + 1, 1, none⟩ (.bool (v == 10))).setCell ⟨w.heap.size + 1, 2, none⟩ (.int .u8 l)).setCell ⟨w.heap.size + 1, 3, none⟩ (.int .u8 h)).setCell ⟨w.heap.size + 1, 4, none⟩ (.int .u8 r)).setCell ⟨w.heap.size + 1, 5, none⟩ (.bool md)) = Y at q1 q2 ⊢
  have u0 : Y.cell? ⟨w.heap.size + 1, 0, none⟩ = some (.int .i64 5) := (blk_cell q1 0).trans rfl
  have u1 : Y.cell? ⟨w.heap.size + 1, 1, none⟩ = some (.bool (v == 10)) := (blk_cell q1 1).trans rfl
  have u2 : Y.cell? ⟨w.heap.size + 1, 2, none⟩ = some (.int .u8 l) := (blk_cell q1 2).trans rfl
  have u3 : Y.cell? ⟨w.heap.size + 1, 3, none⟩ = some (.int .u8 h) := (blk_cell q1 3).trans rfl
  have u4 : Y.cell? ⟨w.heap.size + 1, 4, none⟩ = some (.int .u8 r) := (blk_cell q1 4).trans rfl
  have u5 : Y.cell? ⟨w.heap.size + 1, 5, none⟩ = some (.bool md) := (blk_cell q1 5).trans rfl
  exact bodyPost_ret (v := .agg #[.int .i64 5, .bool (v == 10), .int .u8 l, .int .u8 h, .int .u8 r, .bool md]) (by simp [results, Try.results13, go_sem, u0, u1, u2, u3, u4, u5]) rfl ⟨rfl, q2⟩
set_option maxRecDepth 100000 in
set_option maxHeartbeats 400000 in
theorem wr_fifth1 (k : Int) (o : Bool) (l h r : Int) (md : Bool) (a v : Int) (hp : IntKind.i64.wrap (a / 4096) = 1) (ha : ¬ a ≥ 32768) (w : World) :
    Calls Try.prog 13 #[.agg #[.int .i64 5, .bool o, .int .u8 l, .int .u8 h, .int .u8 r, .bool md], .int .u16 a, .int .u8 v] w fun e' w' => e' = .returned (.agg #[.int .i64 5, .bool (v == 10), .int .u8 l, .int .u8 h, .int .u8 r, .bool md]) ∧ Below w.heap.size w w' := by
  go_enter Try.func13, Try.ntmps13
  go_wp2
  have bk := blk_alloc (blk_new w (.cells #[.int .i64 5, .bool o, .int .u8 l, .int .u8 h, .int .u8 r, .bool md] 24)) (.cells #[.int .i64 0, .bool false, .int .u8 0, .int .u8 0, .int .u8 0, .bool false] 24)
  have br := blk_at1 w (.cells #[.int .i64 5, .bool o, .int .u8 l, .int .u8 h, .int .u8 r, .bool md] 24) (.cells #[.int .i64 0, .bool false, .int .u8 0, .int .u8 0, .int .u8 0, .bool false] 24)
  have hB := below_alloc (below_alloc (Below.refl w.heap.size w) (.cells #[.int .i64 5, .bool o, .int .u8 l, .int .u8 h, .int .u8 r, .bool md] 24)) (.cells #[.int .i64 0, .bool false, .int .u8 0, .int .u8 0, .int .u8 0, .bool false] 24)
  generalize (w.alloc (.cells #[.int .i64 5, .bool o, .int .u8 l, .int .u8 h, .int .u8 r, .bool md] 24)).alloc (.cells #[.int .i64 0, .bool false, .int .u8 0, .int .u8 0, .int .u8 0, .bool false] 24) = W at bk br hB ⊢
  have BK := Aside0.mk bk
  have BR := Aside0.mk br
  have HB := Aside0.mk hB
  clear bk br hB
  have c0 : W.cell? ⟨w.heap.size, 0, none⟩ = some (.int .i64 5) := (blk_cell BK.out 0).trans rfl
  have c1 : W.cell? ⟨w.heap.size, 1, none⟩ = some (.bool o) := (blk_cell BK.out 1).trans rfl
  have c2 : W.cell? ⟨w.heap.size, 2, none⟩ = some (.int .u8 l) := (blk_cell BK.out 2).trans rfl
  have c3 : W.cell? ⟨w.heap.size, 3, none⟩ = some (.int .u8 h) := (blk_cell BK.out 3).trans rfl
  have c4 : W.cell? ⟨w.heap.size, 4, none⟩ = some (.int .u8 r) := (blk_cell BK.out 4).trans rfl
  have c5 : W.cell? ⟨w.heap.size, 5, none⟩ = some (.bool md) := (blk_cell BK.out 5).trans rfl
  have z0 : W.cell? ⟨w.heap.size + 1, 0, none⟩ = some (.int .i64 0) := (blk_cell BR.out 0).trans rfl
  have z1 : W.cell? ⟨w.heap.size + 1, 1, none⟩ = some (.bool false) := (blk_cell BR.out 1).trans rfl
  have z2 : W.cell? ⟨w.heap.size + 1, 2, none⟩ = some (.int .u8 0) := (blk_cell BR.out 2).trans rfl
  have z3 : W.cell? ⟨w.heap.size + 1, 3, none⟩ = some (.int .u8 0) := (blk_cell BR.out 3).trans rfl
  have z4 : W.cell? ⟨w.heap.size + 1, 4, none⟩ = some (.int .u8 0) := (blk_cell BR.out 4).trans rfl
  have z5 : W.cell? ⟨w.heap.size + 1, 5, none⟩ = some (.bool false) := (blk_cell BR.out 5).trans rfl
  have fr := fun i => blk_frozen BR.out i
  go_region_held3 (fun w' => w'.cell? ⟨w.heap.size, 0, none⟩ = some (.int .i64 5) ∧ w'.cell? ⟨w.heap.size, 1, none⟩ = some (.bool o) ∧ w'.cell? ⟨w.heap.size, 2, none⟩ = some (.int .u8 l) ∧ w'.cell? ⟨w.heap.size, 3, none⟩ = some (.int .u8 h) ∧ w'.cell? ⟨w.heap.size, 4, none⟩ = some (.int .u8 r) ∧ w'.cell? ⟨w.heap.size, 5, none⟩ = some (.bool md)) (go_keep)
    (first | (go_at_call 23; ((with_reducible refine (of5 _).mono ?_)); rintro e' w2 ⟨rfl, rfl⟩)
           | (go_at_call 54; ((with_reducible refine (write_fifth1 5 1 v o l h r md rfl _).mono ?_)); rintro e' w2 ⟨rfl, hb⟩; have n0 := Aside0.mk (blk_below (blk_drew BK.out) hb); have m0 := Aside0.mk (blk_below (blk_drew BR.out) hb); have n1 := Aside0.mk (below_step (below_drew1 HB.out) hb); clear hb; have d0 : w2.cell? ⟨w.heap.size, 0, none⟩ = some (.int .i64 5) := (blk_cell n0.out 0).trans rfl; have d1 : w2.cell? ⟨w.heap.size, 1, none⟩ = some (.bool o) := (blk_cell n0.out 1).trans rfl; have d2 : w2.cell? ⟨w.heap.size, 2, none⟩ = some (.int .u8 l) := (blk_cell n0.out 2).trans rfl; have d3 : w2.cell? ⟨w.heap.size, 3, none⟩ = some (.int .u8 h) := (blk_cell n0.out 3).trans rfl; have d4 : w2.cell? ⟨w.heap.size, 4, none⟩ = some (.int .u8 r) := (blk_cell n0.out 4).trans rfl; have d5 : w2.cell? ⟨w.heap.size, 5, none⟩ = some (.bool md) := (blk_cell n0.out 5).trans rfl; have y0 : w2.cell? ⟨w.heap.size + 1, 0, none⟩ = some (.int .i64 0) := (blk_cell m0.out 0).trans rfl; have y1 : w2.cell? ⟨w.heap.size + 1, 1, none⟩ = some (.bool false) := (blk_cell m0.out 1).trans rfl; have y2 : w2.cell? ⟨w.heap.size + 1, 2, none⟩ = some (.int .u8 0) := (blk_cell m0.out 2).trans rfl; have y3 : w2.cell? ⟨w.heap.size + 1, 3, none⟩ = some (.int .u8 0) := (blk_cell m0.out 3).trans rfl; have y4 : w2.cell? ⟨w.heap.size + 1, 4, none⟩ = some (.int .u8 0) := (blk_cell m0.out 4).trans rfl; have y5 : w2.cell? ⟨w.heap.size + 1, 5, none⟩ = some (.bool false) := (blk_cell m0.out 5).trans rfl; have fy := fun i => blk_frozen m0.out i))
  rename_i hHeld
  clear hHeld
  go_wp2
  have q1 : ((((((w2.setCell ⟨w.heap.size + 1, 0, none⟩ (.int .i64 5)).setCell ⟨w.heap.size + 1, 1, none⟩ (.bool (v == 10))).setCell ⟨w.heap.size + 1, 2, none⟩ (.int .u8 l)).setCell ⟨w.heap.size + 1, 3, none⟩ (.int .u8 h)).setCell ⟨w.heap.size + 1, 4, none⟩ (.int .u8 r)).setCell ⟨w.heap.size + 1, 5, none⟩ (.bool md)).heap[w.heap.size + 1]? = some (.cells #[.int .i64 5, .bool (v == 10), .int .u8 l, .int .u8 h, .int .u8 r, .bool md] 24 (0, 0)) := (blk_put (blk_put (blk_put (blk_put (blk_put (blk_put m0.out 0 _ rfl) 1 _ rfl) 2 _ rfl) 3 _ rfl) 4 _ rfl) 5 _ rfl)
  have q2 : Below w.heap.size w ((((((w2.setCell ⟨w.heap.size + 1, 0, none⟩ (.int .i64 5)).setCell ⟨w.heap.size + 1, 1, none⟩ (.bool (v == 10))).setCell ⟨w.heap.size + 1, 2, none⟩ (.int .u8 l)).setCell ⟨w.heap.size + 1, 3, none⟩ (.int .u8 h)).setCell ⟨w.heap.size + 1, 4, none⟩ (.int .u8 r)).setCell ⟨w.heap.size + 1, 5, none⟩ (.bool md)) := (below_set (below_set (below_set (below_set (below_set (below_set n1.out (Nat.le_succ _)) (Nat.le_succ _)) (Nat.le_succ _)) (Nat.le_succ _)) (Nat.le_succ _)) (Nat.le_succ _))
  generalize ((((((w2.setCell ⟨w.heap.size + 1, 0, none⟩ (.int .i64 5)).setCell ⟨w.heap.size + 1, 1, none⟩ (.bool (v == 10))).setCell ⟨w.heap.size + 1, 2, none⟩ (.int .u8 l)).setCell ⟨w.heap.size + 1, 3, none⟩ (.int .u8 h)).setCell ⟨w.heap.size + 1, 4, none⟩ (.int .u8 r)).setCell ⟨w.heap.size + 1, 5, none⟩ (.bool md)) = Y at q1 q2 ⊢
  have u0 : Y.cell? ⟨w.heap.size + 1, 0, none⟩ = some (.int .i64 5) := (blk_cell q1 0).trans rfl
  have u1 : Y.cell? ⟨w.heap.size + 1, 1, none⟩ = some (.bool (v == 10)) := (blk_cell q1 1).trans rfl
  have u2 : Y.cell? ⟨w.heap.size + 1, 2, none⟩ = some (.int .u8 l) := (blk_cell q1 2).trans rfl
  have u3 : Y.cell? ⟨w.heap.size + 1, 3, none⟩ = some (.int .u8 h) := (blk_cell q1 3).trans rfl
  have u4 : Y.cell? ⟨w.heap.size + 1, 4, none⟩ = some (.int .u8 r) := (blk_cell q1 4).trans rfl
  have u5 : Y.cell? ⟨w.heap.size + 1, 5, none⟩ = some (.bool md) := (blk_cell q1 5).trans rfl
  exact bodyPost_ret (v := .agg #[.int .i64 5, .bool (v == 10), .int .u8 l, .int .u8 h, .int .u8 r, .bool md]) (by simp [results, Try.results13, go_sem, u0, u1, u2, u3, u4, u5]) rfl ⟨rfl, q2⟩
set_option maxRecDepth 100000 in
set_option maxHeartbeats 400000 in
theorem wr_fifth2 (k : Int) (o : Bool) (l h r : Int) (md : Bool) (a v : Int) (hp : IntKind.i64.wrap (a / 4096) = 2) (ha : ¬ a ≥ 32768) (w : World) :
    Calls Try.prog 13 #[.agg #[.int .i64 5, .bool o, .int .u8 l, .int .u8 h, .int .u8 r, .bool md], .int .u16 a, .int .u8 v] w fun e' w' => e' = .returned (.agg #[.int .i64 5, .bool o, .int .u8 v, .int .u8 h, .int .u8 r, .bool md]) ∧ Below w.heap.size w w' := by
  go_enter Try.func13, Try.ntmps13
  go_wp2
  have bk := blk_alloc (blk_new w (.cells #[.int .i64 5, .bool o, .int .u8 l, .int .u8 h, .int .u8 r, .bool md] 24)) (.cells #[.int .i64 0, .bool false, .int .u8 0, .int .u8 0, .int .u8 0, .bool false] 24)
  have br := blk_at1 w (.cells #[.int .i64 5, .bool o, .int .u8 l, .int .u8 h, .int .u8 r, .bool md] 24) (.cells #[.int .i64 0, .bool false, .int .u8 0, .int .u8 0, .int .u8 0, .bool false] 24)
  have hB := below_alloc (below_alloc (Below.refl w.heap.size w) (.cells #[.int .i64 5, .bool o, .int .u8 l, .int .u8 h, .int .u8 r, .bool md] 24)) (.cells #[.int .i64 0, .bool false, .int .u8 0, .int .u8 0, .int .u8 0, .bool false] 24)
  generalize (w.alloc (.cells #[.int .i64 5, .bool o, .int .u8 l, .int .u8 h, .int .u8 r, .bool md] 24)).alloc (.cells #[.int .i64 0, .bool false, .int .u8 0, .int .u8 0, .int .u8 0, .bool false] 24) = W at bk br hB ⊢
  have BK := Aside0.mk bk
  have BR := Aside0.mk br
  have HB := Aside0.mk hB
  clear bk br hB
  have c0 : W.cell? ⟨w.heap.size, 0, none⟩ = some (.int .i64 5) := (blk_cell BK.out 0).trans rfl
  have c1 : W.cell? ⟨w.heap.size, 1, none⟩ = some (.bool o) := (blk_cell BK.out 1).trans rfl
  have c2 : W.cell? ⟨w.heap.size, 2, none⟩ = some (.int .u8 l) := (blk_cell BK.out 2).trans rfl
  have c3 : W.cell? ⟨w.heap.size, 3, none⟩ = some (.int .u8 h) := (blk_cell BK.out 3).trans rfl
  have c4 : W.cell? ⟨w.heap.size, 4, none⟩ = some (.int .u8 r) := (blk_cell BK.out 4).trans rfl
  have c5 : W.cell? ⟨w.heap.size, 5, none⟩ = some (.bool md) := (blk_cell BK.out 5).trans rfl
  have z0 : W.cell? ⟨w.heap.size + 1, 0, none⟩ = some (.int .i64 0) := (blk_cell BR.out 0).trans rfl
  have z1 : W.cell? ⟨w.heap.size + 1, 1, none⟩ = some (.bool false) := (blk_cell BR.out 1).trans rfl
  have z2 : W.cell? ⟨w.heap.size + 1, 2, none⟩ = some (.int .u8 0) := (blk_cell BR.out 2).trans rfl
  have z3 : W.cell? ⟨w.heap.size + 1, 3, none⟩ = some (.int .u8 0) := (blk_cell BR.out 3).trans rfl
  have z4 : W.cell? ⟨w.heap.size + 1, 4, none⟩ = some (.int .u8 0) := (blk_cell BR.out 4).trans rfl
  have z5 : W.cell? ⟨w.heap.size + 1, 5, none⟩ = some (.bool false) := (blk_cell BR.out 5).trans rfl
  have fr := fun i => blk_frozen BR.out i
  go_region_held3 (fun w' => w'.cell? ⟨w.heap.size, 0, none⟩ = some (.int .i64 5) ∧ w'.cell? ⟨w.heap.size, 1, none⟩ = some (.bool o) ∧ w'.cell? ⟨w.heap.size, 2, none⟩ = some (.int .u8 l) ∧ w'.cell? ⟨w.heap.size, 3, none⟩ = some (.int .u8 h) ∧ w'.cell? ⟨w.heap.size, 4, none⟩ = some (.int .u8 r) ∧ w'.cell? ⟨w.heap.size, 5, none⟩ = some (.bool md)) (go_keep)
    (first | (go_at_call 23; ((with_reducible refine (of5 _).mono ?_)); rintro e' w2 ⟨rfl, rfl⟩)
           | (go_at_call 54; ((with_reducible refine (write_fifth2 5 2 v o l h r md rfl _).mono ?_)); rintro e' w2 ⟨rfl, hb⟩; have n0 := Aside0.mk (blk_below (blk_drew BK.out) hb); have m0 := Aside0.mk (blk_below (blk_drew BR.out) hb); have n1 := Aside0.mk (below_step (below_drew1 HB.out) hb); clear hb; have d0 : w2.cell? ⟨w.heap.size, 0, none⟩ = some (.int .i64 5) := (blk_cell n0.out 0).trans rfl; have d1 : w2.cell? ⟨w.heap.size, 1, none⟩ = some (.bool o) := (blk_cell n0.out 1).trans rfl; have d2 : w2.cell? ⟨w.heap.size, 2, none⟩ = some (.int .u8 l) := (blk_cell n0.out 2).trans rfl; have d3 : w2.cell? ⟨w.heap.size, 3, none⟩ = some (.int .u8 h) := (blk_cell n0.out 3).trans rfl; have d4 : w2.cell? ⟨w.heap.size, 4, none⟩ = some (.int .u8 r) := (blk_cell n0.out 4).trans rfl; have d5 : w2.cell? ⟨w.heap.size, 5, none⟩ = some (.bool md) := (blk_cell n0.out 5).trans rfl; have y0 : w2.cell? ⟨w.heap.size + 1, 0, none⟩ = some (.int .i64 0) := (blk_cell m0.out 0).trans rfl; have y1 : w2.cell? ⟨w.heap.size + 1, 1, none⟩ = some (.bool false) := (blk_cell m0.out 1).trans rfl; have y2 : w2.cell? ⟨w.heap.size + 1, 2, none⟩ = some (.int .u8 0) := (blk_cell m0.out 2).trans rfl; have y3 : w2.cell? ⟨w.heap.size + 1, 3, none⟩ = some (.int .u8 0) := (blk_cell m0.out 3).trans rfl; have y4 : w2.cell? ⟨w.heap.size + 1, 4, none⟩ = some (.int .u8 0) := (blk_cell m0.out 4).trans rfl; have y5 : w2.cell? ⟨w.heap.size + 1, 5, none⟩ = some (.bool false) := (blk_cell m0.out 5).trans rfl; have fy := fun i => blk_frozen m0.out i))
  rename_i hHeld
  clear hHeld
  go_wp2
  have q1 : ((((((w2.setCell ⟨w.heap.size + 1, 0, none⟩ (.int .i64 5)).setCell ⟨w.heap.size + 1, 1, none⟩ (.bool o)).setCell ⟨w.heap.size + 1, 2, none⟩ (.int .u8 v)).setCell ⟨w.heap.size + 1, 3, none⟩ (.int .u8 h)).setCell ⟨w.heap.size + 1, 4, none⟩ (.int .u8 r)).setCell ⟨w.heap.size + 1, 5, none⟩ (.bool md)).heap[w.heap.size + 1]? = some (.cells #[.int .i64 5, .bool o, .int .u8 v, .int .u8 h, .int .u8 r, .bool md] 24 (0, 0)) := (blk_put (blk_put (blk_put (blk_put (blk_put (blk_put m0.out 0 _ rfl) 1 _ rfl) 2 _ rfl) 3 _ rfl) 4 _ rfl) 5 _ rfl)
  have q2 : Below w.heap.size w ((((((w2.setCell ⟨w.heap.size + 1, 0, none⟩ (.int .i64 5)).setCell ⟨w.heap.size + 1, 1, none⟩ (.bool o)).setCell ⟨w.heap.size + 1, 2, none⟩ (.int .u8 v)).setCell ⟨w.heap.size + 1, 3, none⟩ (.int .u8 h)).setCell ⟨w.heap.size + 1, 4, none⟩ (.int .u8 r)).setCell ⟨w.heap.size + 1, 5, none⟩ (.bool md)) := (below_set (below_set (below_set (below_set (below_set (below_set n1.out (Nat.le_succ _)) (Nat.le_succ _)) (Nat.le_succ _)) (Nat.le_succ _)) (Nat.le_succ _)) (Nat.le_succ _))
  generalize ((((((w2.setCell ⟨w.heap.size + 1, 0, none⟩ (.int .i64 5)).setCell ⟨w.heap.size + 1, 1, none⟩ (.bool o)).setCell ⟨w.heap.size + 1, 2, none⟩ (.int .u8 v)).setCell ⟨w.heap.size + 1, 3, none⟩ (.int .u8 h)).setCell ⟨w.heap.size + 1, 4, none⟩ (.int .u8 r)).setCell ⟨w.heap.size + 1, 5, none⟩ (.bool md)) = Y at q1 q2 ⊢
  have u0 : Y.cell? ⟨w.heap.size + 1, 0, none⟩ = some (.int .i64 5) := (blk_cell q1 0).trans rfl
  have u1 : Y.cell? ⟨w.heap.size + 1, 1, none⟩ = some (.bool o) := (blk_cell q1 1).trans rfl
  have u2 : Y.cell? ⟨w.heap.size + 1, 2, none⟩ = some (.int .u8 v) := (blk_cell q1 2).trans rfl
  have u3 : Y.cell? ⟨w.heap.size + 1, 3, none⟩ = some (.int .u8 h) := (blk_cell q1 3).trans rfl
  have u4 : Y.cell? ⟨w.heap.size + 1, 4, none⟩ = some (.int .u8 r) := (blk_cell q1 4).trans rfl
  have u5 : Y.cell? ⟨w.heap.size + 1, 5, none⟩ = some (.bool md) := (blk_cell q1 5).trans rfl
  exact bodyPost_ret (v := .agg #[.int .i64 5, .bool o, .int .u8 v, .int .u8 h, .int .u8 r, .bool md]) (by simp [results, Try.results13, go_sem, u0, u1, u2, u3, u4, u5]) rfl ⟨rfl, q2⟩
set_option maxRecDepth 100000 in
set_option maxHeartbeats 400000 in
theorem wr_fifth3 (k : Int) (o : Bool) (l h r : Int) (md : Bool) (a v : Int) (hp : IntKind.i64.wrap (a / 4096) = 3) (ha : ¬ a ≥ 32768) (w : World) :
    Calls Try.prog 13 #[.agg #[.int .i64 5, .bool o, .int .u8 l, .int .u8 h, .int .u8 r, .bool md], .int .u16 a, .int .u8 v] w fun e' w' => e' = .returned (.agg #[.int .i64 5, .bool o, .int .u8 l, .int .u8 (Go.bits .and .u8 v 1), .int .u8 r, .bool md]) ∧ Below w.heap.size w w' := by
  go_enter Try.func13, Try.ntmps13
  go_wp2
  have bk := blk_alloc (blk_new w (.cells #[.int .i64 5, .bool o, .int .u8 l, .int .u8 h, .int .u8 r, .bool md] 24)) (.cells #[.int .i64 0, .bool false, .int .u8 0, .int .u8 0, .int .u8 0, .bool false] 24)
  have br := blk_at1 w (.cells #[.int .i64 5, .bool o, .int .u8 l, .int .u8 h, .int .u8 r, .bool md] 24) (.cells #[.int .i64 0, .bool false, .int .u8 0, .int .u8 0, .int .u8 0, .bool false] 24)
  have hB := below_alloc (below_alloc (Below.refl w.heap.size w) (.cells #[.int .i64 5, .bool o, .int .u8 l, .int .u8 h, .int .u8 r, .bool md] 24)) (.cells #[.int .i64 0, .bool false, .int .u8 0, .int .u8 0, .int .u8 0, .bool false] 24)
  generalize (w.alloc (.cells #[.int .i64 5, .bool o, .int .u8 l, .int .u8 h, .int .u8 r, .bool md] 24)).alloc (.cells #[.int .i64 0, .bool false, .int .u8 0, .int .u8 0, .int .u8 0, .bool false] 24) = W at bk br hB ⊢
  have BK := Aside0.mk bk
  have BR := Aside0.mk br
  have HB := Aside0.mk hB
  clear bk br hB
  have c0 : W.cell? ⟨w.heap.size, 0, none⟩ = some (.int .i64 5) := (blk_cell BK.out 0).trans rfl
  have c1 : W.cell? ⟨w.heap.size, 1, none⟩ = some (.bool o) := (blk_cell BK.out 1).trans rfl
  have c2 : W.cell? ⟨w.heap.size, 2, none⟩ = some (.int .u8 l) := (blk_cell BK.out 2).trans rfl
  have c3 : W.cell? ⟨w.heap.size, 3, none⟩ = some (.int .u8 h) := (blk_cell BK.out 3).trans rfl
  have c4 : W.cell? ⟨w.heap.size, 4, none⟩ = some (.int .u8 r) := (blk_cell BK.out 4).trans rfl
  have c5 : W.cell? ⟨w.heap.size, 5, none⟩ = some (.bool md) := (blk_cell BK.out 5).trans rfl
  have z0 : W.cell? ⟨w.heap.size + 1, 0, none⟩ = some (.int .i64 0) := (blk_cell BR.out 0).trans rfl
  have z1 : W.cell? ⟨w.heap.size + 1, 1, none⟩ = some (.bool false) := (blk_cell BR.out 1).trans rfl
  have z2 : W.cell? ⟨w.heap.size + 1, 2, none⟩ = some (.int .u8 0) := (blk_cell BR.out 2).trans rfl
  have z3 : W.cell? ⟨w.heap.size + 1, 3, none⟩ = some (.int .u8 0) := (blk_cell BR.out 3).trans rfl
  have z4 : W.cell? ⟨w.heap.size + 1, 4, none⟩ = some (.int .u8 0) := (blk_cell BR.out 4).trans rfl
  have z5 : W.cell? ⟨w.heap.size + 1, 5, none⟩ = some (.bool false) := (blk_cell BR.out 5).trans rfl
  have fr := fun i => blk_frozen BR.out i
  go_region_held3 (fun w' => w'.cell? ⟨w.heap.size, 0, none⟩ = some (.int .i64 5) ∧ w'.cell? ⟨w.heap.size, 1, none⟩ = some (.bool o) ∧ w'.cell? ⟨w.heap.size, 2, none⟩ = some (.int .u8 l) ∧ w'.cell? ⟨w.heap.size, 3, none⟩ = some (.int .u8 h) ∧ w'.cell? ⟨w.heap.size, 4, none⟩ = some (.int .u8 r) ∧ w'.cell? ⟨w.heap.size, 5, none⟩ = some (.bool md)) (go_keep)
    (first | (go_at_call 23; ((with_reducible refine (of5 _).mono ?_)); rintro e' w2 ⟨rfl, rfl⟩)
           | (go_at_call 54; ((with_reducible refine (write_fifth3 5 3 v o l h r md rfl _).mono ?_)); rintro e' w2 ⟨rfl, hb⟩; have n0 := Aside0.mk (blk_below (blk_drew BK.out) hb); have m0 := Aside0.mk (blk_below (blk_drew BR.out) hb); have n1 := Aside0.mk (below_step (below_drew1 HB.out) hb); clear hb; have d0 : w2.cell? ⟨w.heap.size, 0, none⟩ = some (.int .i64 5) := (blk_cell n0.out 0).trans rfl; have d1 : w2.cell? ⟨w.heap.size, 1, none⟩ = some (.bool o) := (blk_cell n0.out 1).trans rfl; have d2 : w2.cell? ⟨w.heap.size, 2, none⟩ = some (.int .u8 l) := (blk_cell n0.out 2).trans rfl; have d3 : w2.cell? ⟨w.heap.size, 3, none⟩ = some (.int .u8 h) := (blk_cell n0.out 3).trans rfl; have d4 : w2.cell? ⟨w.heap.size, 4, none⟩ = some (.int .u8 r) := (blk_cell n0.out 4).trans rfl; have d5 : w2.cell? ⟨w.heap.size, 5, none⟩ = some (.bool md) := (blk_cell n0.out 5).trans rfl; have y0 : w2.cell? ⟨w.heap.size + 1, 0, none⟩ = some (.int .i64 0) := (blk_cell m0.out 0).trans rfl; have y1 : w2.cell? ⟨w.heap.size + 1, 1, none⟩ = some (.bool false) := (blk_cell m0.out 1).trans rfl; have y2 : w2.cell? ⟨w.heap.size + 1, 2, none⟩ = some (.int .u8 0) := (blk_cell m0.out 2).trans rfl; have y3 : w2.cell? ⟨w.heap.size + 1, 3, none⟩ = some (.int .u8 0) := (blk_cell m0.out 3).trans rfl; have y4 : w2.cell? ⟨w.heap.size + 1, 4, none⟩ = some (.int .u8 0) := (blk_cell m0.out 4).trans rfl; have y5 : w2.cell? ⟨w.heap.size + 1, 5, none⟩ = some (.bool false) := (blk_cell m0.out 5).trans rfl; have fy := fun i => blk_frozen m0.out i))
  rename_i hHeld
  clear hHeld
  go_wp2
  have q1 : ((((((w2.setCell ⟨w.heap.size + 1, 0, none⟩ (.int .i64 5)).setCell ⟨w.heap.size + 1, 1, none⟩ (.bool o)).setCell ⟨w.heap.size + 1, 2, none⟩ (.int .u8 l)).setCell ⟨w.heap.size + 1, 3, none⟩ (.int .u8 (Go.bits .and .u8 v 1))).setCell ⟨w.heap.size + 1, 4, none⟩ (.int .u8 r)).setCell ⟨w.heap.size + 1, 5, none⟩ (.bool md)).heap[w.heap.size + 1]? = some (.cells #[.int .i64 5, .bool o, .int .u8 l, .int .u8 (Go.bits .and .u8 v 1), .int .u8 r, .bool md] 24 (0, 0)) := (blk_put (blk_put (blk_put (blk_put (blk_put (blk_put m0.out 0 _ rfl) 1 _ rfl) 2 _ rfl) 3 _ rfl) 4 _ rfl) 5 _ rfl)
  have q2 : Below w.heap.size w ((((((w2.setCell ⟨w.heap.size + 1, 0, none⟩ (.int .i64 5)).setCell ⟨w.heap.size + 1, 1, none⟩ (.bool o)).setCell ⟨w.heap.size + 1, 2, none⟩ (.int .u8 l)).setCell ⟨w.heap.size + 1, 3, none⟩ (.int .u8 (Go.bits .and .u8 v 1))).setCell ⟨w.heap.size + 1, 4, none⟩ (.int .u8 r)).setCell ⟨w.heap.size + 1, 5, none⟩ (.bool md)) := (below_set (below_set (below_set (below_set (below_set (below_set n1.out (Nat.le_succ _)) (Nat.le_succ _)) (Nat.le_succ _)) (Nat.le_succ _)) (Nat.le_succ _)) (Nat.le_succ _))
  generalize ((((((w2.setCell ⟨w.heap.size + 1, 0, none⟩ (.int .i64 5)).setCell ⟨w.heap.size + 1, 1, none⟩ (.bool o)).setCell ⟨w.heap.size + 1, 2, none⟩ (.int .u8 l)).setCell ⟨w.heap.size + 1, 3, none⟩ (.int .u8 (Go.bits .and .u8 v 1))).setCell ⟨w.heap.size + 1, 4, none⟩ (.int .u8 r)).setCell ⟨w.heap.size + 1, 5, none⟩ (.bool md)) = Y at q1 q2 ⊢
  have u0 : Y.cell? ⟨w.heap.size + 1, 0, none⟩ = some (.int .i64 5) := (blk_cell q1 0).trans rfl
  have u1 : Y.cell? ⟨w.heap.size + 1, 1, none⟩ = some (.bool o) := (blk_cell q1 1).trans rfl
  have u2 : Y.cell? ⟨w.heap.size + 1, 2, none⟩ = some (.int .u8 l) := (blk_cell q1 2).trans rfl
  have u3 : Y.cell? ⟨w.heap.size + 1, 3, none⟩ = some (.int .u8 (Go.bits .and .u8 v 1)) := (blk_cell q1 3).trans rfl
  have u4 : Y.cell? ⟨w.heap.size + 1, 4, none⟩ = some (.int .u8 r) := (blk_cell q1 4).trans rfl
  have u5 : Y.cell? ⟨w.heap.size + 1, 5, none⟩ = some (.bool md) := (blk_cell q1 5).trans rfl
  exact bodyPost_ret (v := .agg #[.int .i64 5, .bool o, .int .u8 l, .int .u8 (Go.bits .and .u8 v 1), .int .u8 r, .bool md]) (by simp [results, Try.results13, go_sem, u0, u1, u2, u3, u4, u5]) rfl ⟨rfl, q2⟩
set_option maxRecDepth 100000 in
set_option maxHeartbeats 400000 in
theorem wr_fifth4 (k : Int) (o : Bool) (l h r : Int) (md : Bool) (a v : Int) (hp : IntKind.i64.wrap (a / 4096) = 4) (ha : ¬ a ≥ 32768) (w : World) :
    Calls Try.prog 13 #[.agg #[.int .i64 5, .bool o, .int .u8 l, .int .u8 h, .int .u8 r, .bool md], .int .u16 a, .int .u8 v] w fun e' w' => e' = .returned (.agg #[.int .i64 5, .bool o, .int .u8 l, .int .u8 h, .int .u8 (Go.bits .and .u8 v 15), .bool md]) ∧ Below w.heap.size w w' := by
  go_enter Try.func13, Try.ntmps13
  go_wp2
  have bk := blk_alloc (blk_new w (.cells #[.int .i64 5, .bool o, .int .u8 l, .int .u8 h, .int .u8 r, .bool md] 24)) (.cells #[.int .i64 0, .bool false, .int .u8 0, .int .u8 0, .int .u8 0, .bool false] 24)
  have br := blk_at1 w (.cells #[.int .i64 5, .bool o, .int .u8 l, .int .u8 h, .int .u8 r, .bool md] 24) (.cells #[.int .i64 0, .bool false, .int .u8 0, .int .u8 0, .int .u8 0, .bool false] 24)
  have hB := below_alloc (below_alloc (Below.refl w.heap.size w) (.cells #[.int .i64 5, .bool o, .int .u8 l, .int .u8 h, .int .u8 r, .bool md] 24)) (.cells #[.int .i64 0, .bool false, .int .u8 0, .int .u8 0, .int .u8 0, .bool false] 24)
  generalize (w.alloc (.cells #[.int .i64 5, .bool o, .int .u8 l, .int .u8 h, .int .u8 r, .bool md] 24)).alloc (.cells #[.int .i64 0, .bool false, .int .u8 0, .int .u8 0, .int .u8 0, .bool false] 24) = W at bk br hB ⊢
  have BK := Aside0.mk bk
  have BR := Aside0.mk br
  have HB := Aside0.mk hB
  clear bk br hB
  have c0 : W.cell? ⟨w.heap.size, 0, none⟩ = some (.int .i64 5) := (blk_cell BK.out 0).trans rfl
  have c1 : W.cell? ⟨w.heap.size, 1, none⟩ = some (.bool o) := (blk_cell BK.out 1).trans rfl
  have c2 : W.cell? ⟨w.heap.size, 2, none⟩ = some (.int .u8 l) := (blk_cell BK.out 2).trans rfl
  have c3 : W.cell? ⟨w.heap.size, 3, none⟩ = some (.int .u8 h) := (blk_cell BK.out 3).trans rfl
  have c4 : W.cell? ⟨w.heap.size, 4, none⟩ = some (.int .u8 r) := (blk_cell BK.out 4).trans rfl
  have c5 : W.cell? ⟨w.heap.size, 5, none⟩ = some (.bool md) := (blk_cell BK.out 5).trans rfl
  have z0 : W.cell? ⟨w.heap.size + 1, 0, none⟩ = some (.int .i64 0) := (blk_cell BR.out 0).trans rfl
  have z1 : W.cell? ⟨w.heap.size + 1, 1, none⟩ = some (.bool false) := (blk_cell BR.out 1).trans rfl
  have z2 : W.cell? ⟨w.heap.size + 1, 2, none⟩ = some (.int .u8 0) := (blk_cell BR.out 2).trans rfl
  have z3 : W.cell? ⟨w.heap.size + 1, 3, none⟩ = some (.int .u8 0) := (blk_cell BR.out 3).trans rfl
  have z4 : W.cell? ⟨w.heap.size + 1, 4, none⟩ = some (.int .u8 0) := (blk_cell BR.out 4).trans rfl
  have z5 : W.cell? ⟨w.heap.size + 1, 5, none⟩ = some (.bool false) := (blk_cell BR.out 5).trans rfl
  have fr := fun i => blk_frozen BR.out i
  go_region_held3 (fun w' => w'.cell? ⟨w.heap.size, 0, none⟩ = some (.int .i64 5) ∧ w'.cell? ⟨w.heap.size, 1, none⟩ = some (.bool o) ∧ w'.cell? ⟨w.heap.size, 2, none⟩ = some (.int .u8 l) ∧ w'.cell? ⟨w.heap.size, 3, none⟩ = some (.int .u8 h) ∧ w'.cell? ⟨w.heap.size, 4, none⟩ = some (.int .u8 r) ∧ w'.cell? ⟨w.heap.size, 5, none⟩ = some (.bool md)) (go_keep)
    (first | (go_at_call 23; ((with_reducible refine (of5 _).mono ?_)); rintro e' w2 ⟨rfl, rfl⟩)
           | (go_at_call 54; ((with_reducible refine (write_fifth4 5 4 v o l h r md rfl _).mono ?_)); rintro e' w2 ⟨rfl, hb⟩; have n0 := Aside0.mk (blk_below (blk_drew BK.out) hb); have m0 := Aside0.mk (blk_below (blk_drew BR.out) hb); have n1 := Aside0.mk (below_step (below_drew1 HB.out) hb); clear hb; have d0 : w2.cell? ⟨w.heap.size, 0, none⟩ = some (.int .i64 5) := (blk_cell n0.out 0).trans rfl; have d1 : w2.cell? ⟨w.heap.size, 1, none⟩ = some (.bool o) := (blk_cell n0.out 1).trans rfl; have d2 : w2.cell? ⟨w.heap.size, 2, none⟩ = some (.int .u8 l) := (blk_cell n0.out 2).trans rfl; have d3 : w2.cell? ⟨w.heap.size, 3, none⟩ = some (.int .u8 h) := (blk_cell n0.out 3).trans rfl; have d4 : w2.cell? ⟨w.heap.size, 4, none⟩ = some (.int .u8 r) := (blk_cell n0.out 4).trans rfl; have d5 : w2.cell? ⟨w.heap.size, 5, none⟩ = some (.bool md) := (blk_cell n0.out 5).trans rfl; have y0 : w2.cell? ⟨w.heap.size + 1, 0, none⟩ = some (.int .i64 0) := (blk_cell m0.out 0).trans rfl; have y1 : w2.cell? ⟨w.heap.size + 1, 1, none⟩ = some (.bool false) := (blk_cell m0.out 1).trans rfl; have y2 : w2.cell? ⟨w.heap.size + 1, 2, none⟩ = some (.int .u8 0) := (blk_cell m0.out 2).trans rfl; have y3 : w2.cell? ⟨w.heap.size + 1, 3, none⟩ = some (.int .u8 0) := (blk_cell m0.out 3).trans rfl; have y4 : w2.cell? ⟨w.heap.size + 1, 4, none⟩ = some (.int .u8 0) := (blk_cell m0.out 4).trans rfl; have y5 : w2.cell? ⟨w.heap.size + 1, 5, none⟩ = some (.bool false) := (blk_cell m0.out 5).trans rfl; have fy := fun i => blk_frozen m0.out i))
  rename_i hHeld
  clear hHeld
  go_wp2
  have q1 : ((((((w2.setCell ⟨w.heap.size + 1, 0, none⟩ (.int .i64 5)).setCell ⟨w.heap.size + 1, 1, none⟩ (.bool o)).setCell ⟨w.heap.size + 1, 2, none⟩ (.int .u8 l)).setCell ⟨w.heap.size + 1, 3, none⟩ (.int .u8 h)).setCell ⟨w.heap.size + 1, 4, none⟩ (.int .u8 (Go.bits .and .u8 v 15))).setCell ⟨w.heap.size + 1, 5, none⟩ (.bool md)).heap[w.heap.size + 1]? = some (.cells #[.int .i64 5, .bool o, .int .u8 l, .int .u8 h, .int .u8 (Go.bits .and .u8 v 15), .bool md] 24 (0, 0)) := (blk_put (blk_put (blk_put (blk_put (blk_put (blk_put m0.out 0 _ rfl) 1 _ rfl) 2 _ rfl) 3 _ rfl) 4 _ rfl) 5 _ rfl)
  have q2 : Below w.heap.size w ((((((w2.setCell ⟨w.heap.size + 1, 0, none⟩ (.int .i64 5)).setCell ⟨w.heap.size + 1, 1, none⟩ (.bool o)).setCell ⟨w.heap.size + 1, 2, none⟩ (.int .u8 l)).setCell ⟨w.heap.size + 1, 3, none⟩ (.int .u8 h)).setCell ⟨w.heap.size + 1, 4, none⟩ (.int .u8 (Go.bits .and .u8 v 15))).setCell ⟨w.heap.size + 1, 5, none⟩ (.bool md)) := (below_set (below_set (below_set (below_set (below_set (below_set n1.out (Nat.le_succ _)) (Nat.le_succ _)) (Nat.le_succ _)) (Nat.le_succ _)) (Nat.le_succ _)) (Nat.le_succ _))
  generalize ((((((w2.setCell ⟨w.heap.size + 1, 0, none⟩ (.int .i64 5)).setCell ⟨w.heap.size + 1, 1, none⟩ (.bool o)).setCell ⟨w.heap.size + 1, 2, none⟩ (.int .u8 l)).setCell ⟨w.heap.size + 1, 3, none⟩ (.int .u8 h)).setCell ⟨w.heap.size + 1, 4, none⟩ (.int .u8 (Go.bits .and .u8 v 15))).setCell ⟨w.heap.size + 1, 5, none⟩ (.bool md)) = Y at q1 q2 ⊢
  have u0 : Y.cell? ⟨w.heap.size + 1, 0, none⟩ = some (.int .i64 5) := (blk_cell q1 0).trans rfl
  have u1 : Y.cell? ⟨w.heap.size + 1, 1, none⟩ = some (.bool o) := (blk_cell q1 1).trans rfl
  have u2 : Y.cell? ⟨w.heap.size + 1, 2, none⟩ = some (.int .u8 l) := (blk_cell q1 2).trans rfl
  have u3 : Y.cell? ⟨w.heap.size + 1, 3, none⟩ = some (.int .u8 h) := (blk_cell q1 3).trans rfl
  have u4 : Y.cell? ⟨w.heap.size + 1, 4, none⟩ = some (.int .u8 (Go.bits .and .u8 v 15)) := (blk_cell q1 4).trans rfl
  have u5 : Y.cell? ⟨w.heap.size + 1, 5, none⟩ = some (.bool md) := (blk_cell q1 5).trans rfl
  exact bodyPost_ret (v := .agg #[.int .i64 5, .bool o, .int .u8 l, .int .u8 h, .int .u8 (Go.bits .and .u8 v 15), .bool md]) (by simp [results, Try.results13, go_sem, u0, u1, u2, u3, u4, u5]) rfl ⟨rfl, q2⟩
set_option maxRecDepth 100000 in
set_option maxHeartbeats 400000 in
theorem wr_fifth5 (k : Int) (o : Bool) (l h r : Int) (md : Bool) (a v : Int) (hp : IntKind.i64.wrap (a / 4096) = 5) (ha : ¬ a ≥ 32768) (w : World) :
    Calls Try.prog 13 #[.agg #[.int .i64 5, .bool o, .int .u8 l, .int .u8 h, .int .u8 r, .bool md], .int .u16 a, .int .u8 v] w fun e' w' => e' = .returned (.agg #[.int .i64 5, .bool o, .int .u8 l, .int .u8 h, .int .u8 (Go.bits .and .u8 v 15), .bool md]) ∧ Below w.heap.size w w' := by
  go_enter Try.func13, Try.ntmps13
  go_wp2
  have bk := blk_alloc (blk_new w (.cells #[.int .i64 5, .bool o, .int .u8 l, .int .u8 h, .int .u8 r, .bool md] 24)) (.cells #[.int .i64 0, .bool false, .int .u8 0, .int .u8 0, .int .u8 0, .bool false] 24)
  have br := blk_at1 w (.cells #[.int .i64 5, .bool o, .int .u8 l, .int .u8 h, .int .u8 r, .bool md] 24) (.cells #[.int .i64 0, .bool false, .int .u8 0, .int .u8 0, .int .u8 0, .bool false] 24)
  have hB := below_alloc (below_alloc (Below.refl w.heap.size w) (.cells #[.int .i64 5, .bool o, .int .u8 l, .int .u8 h, .int .u8 r, .bool md] 24)) (.cells #[.int .i64 0, .bool false, .int .u8 0, .int .u8 0, .int .u8 0, .bool false] 24)
  generalize (w.alloc (.cells #[.int .i64 5, .bool o, .int .u8 l, .int .u8 h, .int .u8 r, .bool md] 24)).alloc (.cells #[.int .i64 0, .bool false, .int .u8 0, .int .u8 0, .int .u8 0, .bool false] 24) = W at bk br hB ⊢
  have BK := Aside0.mk bk
  have BR := Aside0.mk br
  have HB := Aside0.mk hB
  clear bk br hB
  have c0 : W.cell? ⟨w.heap.size, 0, none⟩ = some (.int .i64 5) := (blk_cell BK.out 0).trans rfl
  have c1 : W.cell? ⟨w.heap.size, 1, none⟩ = some (.bool o) := (blk_cell BK.out 1).trans rfl
  have c2 : W.cell? ⟨w.heap.size, 2, none⟩ = some (.int .u8 l) := (blk_cell BK.out 2).trans rfl
  have c3 : W.cell? ⟨w.heap.size, 3, none⟩ = some (.int .u8 h) := (blk_cell BK.out 3).trans rfl
  have c4 : W.cell? ⟨w.heap.size, 4, none⟩ = some (.int .u8 r) := (blk_cell BK.out 4).trans rfl
  have c5 : W.cell? ⟨w.heap.size, 5, none⟩ = some (.bool md) := (blk_cell BK.out 5).trans rfl
  have z0 : W.cell? ⟨w.heap.size + 1, 0, none⟩ = some (.int .i64 0) := (blk_cell BR.out 0).trans rfl
  have z1 : W.cell? ⟨w.heap.size + 1, 1, none⟩ = some (.bool false) := (blk_cell BR.out 1).trans rfl
  have z2 : W.cell? ⟨w.heap.size + 1, 2, none⟩ = some (.int .u8 0) := (blk_cell BR.out 2).trans rfl
  have z3 : W.cell? ⟨w.heap.size + 1, 3, none⟩ = some (.int .u8 0) := (blk_cell BR.out 3).trans rfl
  have z4 : W.cell? ⟨w.heap.size + 1, 4, none⟩ = some (.int .u8 0) := (blk_cell BR.out 4).trans rfl
  have z5 : W.cell? ⟨w.heap.size + 1, 5, none⟩ = some (.bool false) := (blk_cell BR.out 5).trans rfl
  have fr := fun i => blk_frozen BR.out i
  go_region_held3 (fun w' => w'.cell? ⟨w.heap.size, 0, none⟩ = some (.int .i64 5) ∧ w'.cell? ⟨w.heap.size, 1, none⟩ = some (.bool o) ∧ w'.cell? ⟨w.heap.size, 2, none⟩ = some (.int .u8 l) ∧ w'.cell? ⟨w.heap.size, 3, none⟩ = some (.int .u8 h) ∧ w'.cell? ⟨w.heap.size, 4, none⟩ = some (.int .u8 r) ∧ w'.cell? ⟨w.heap.size, 5, none⟩ = some (.bool md)) (go_keep)
    (first | (go_at_call 23; ((with_reducible refine (of5 _).mono ?_)); rintro e' w2 ⟨rfl, rfl⟩)
           | (go_at_call 54; ((with_reducible refine (write_fifth5 5 5 v o l h r md rfl _).mono ?_)); rintro e' w2 ⟨rfl, hb⟩; have n0 := Aside0.mk (blk_below (blk_drew BK.out) hb); have m0 := Aside0.mk (blk_below (blk_drew BR.out) hb); have n1 := Aside0.mk (below_step (below_drew1 HB.out) hb); clear hb; have d0 : w2.cell? ⟨w.heap.size, 0, none⟩ = some (.int .i64 5) := (blk_cell n0.out 0).trans rfl; have d1 : w2.cell? ⟨w.heap.size, 1, none⟩ = some (.bool o) := (blk_cell n0.out 1).trans rfl; have d2 : w2.cell? ⟨w.heap.size, 2, none⟩ = some (.int .u8 l) := (blk_cell n0.out 2).trans rfl; have d3 : w2.cell? ⟨w.heap.size, 3, none⟩ = some (.int .u8 h) := (blk_cell n0.out 3).trans rfl; have d4 : w2.cell? ⟨w.heap.size, 4, none⟩ = some (.int .u8 r) := (blk_cell n0.out 4).trans rfl; have d5 : w2.cell? ⟨w.heap.size, 5, none⟩ = some (.bool md) := (blk_cell n0.out 5).trans rfl; have y0 : w2.cell? ⟨w.heap.size + 1, 0, none⟩ = some (.int .i64 0) := (blk_cell m0.out 0).trans rfl; have y1 : w2.cell? ⟨w.heap.size + 1, 1, none⟩ = some (.bool false) := (blk_cell m0.out 1).trans rfl; have y2 : w2.cell? ⟨w.heap.size + 1, 2, none⟩ = some (.int .u8 0) := (blk_cell m0.out 2).trans rfl; have y3 : w2.cell? ⟨w.heap.size + 1, 3, none⟩ = some (.int .u8 0) := (blk_cell m0.out 3).trans rfl; have y4 : w2.cell? ⟨w.heap.size + 1, 4, none⟩ = some (.int .u8 0) := (blk_cell m0.out 4).trans rfl; have y5 : w2.cell? ⟨w.heap.size + 1, 5, none⟩ = some (.bool false) := (blk_cell m0.out 5).trans rfl; have fy := fun i => blk_frozen m0.out i))
  rename_i hHeld
  clear hHeld
  go_wp2
  have q1 : ((((((w2.setCell ⟨w.heap.size + 1, 0, none⟩ (.int .i64 5)).setCell ⟨w.heap.size + 1, 1, none⟩ (.bool o)).setCell ⟨w.heap.size + 1, 2, none⟩ (.int .u8 l)).setCell ⟨w.heap.size + 1, 3, none⟩ (.int .u8 h)).setCell ⟨w.heap.size + 1, 4, none⟩ (.int .u8 (Go.bits .and .u8 v 15))).setCell ⟨w.heap.size + 1, 5, none⟩ (.bool md)).heap[w.heap.size + 1]? = some (.cells #[.int .i64 5, .bool o, .int .u8 l, .int .u8 h, .int .u8 (Go.bits .and .u8 v 15), .bool md] 24 (0, 0)) := (blk_put (blk_put (blk_put (blk_put (blk_put (blk_put m0.out 0 _ rfl) 1 _ rfl) 2 _ rfl) 3 _ rfl) 4 _ rfl) 5 _ rfl)
  have q2 : Below w.heap.size w ((((((w2.setCell ⟨w.heap.size + 1, 0, none⟩ (.int .i64 5)).setCell ⟨w.heap.size + 1, 1, none⟩ (.bool o)).setCell ⟨w.heap.size + 1, 2, none⟩ (.int .u8 l)).setCell ⟨w.heap.size + 1, 3, none⟩ (.int .u8 h)).setCell ⟨w.heap.size + 1, 4, none⟩ (.int .u8 (Go.bits .and .u8 v 15))).setCell ⟨w.heap.size + 1, 5, none⟩ (.bool md)) := (below_set (below_set (below_set (below_set (below_set (below_set n1.out (Nat.le_succ _)) (Nat.le_succ _)) (Nat.le_succ _)) (Nat.le_succ _)) (Nat.le_succ _)) (Nat.le_succ _))
  generalize ((((((w2.setCell ⟨w.heap.size + 1, 0, none⟩ (.int .i64 5)).setCell ⟨w.heap.size + 1, 1, none⟩ (.bool o)).setCell ⟨w.heap.size + 1, 2, none⟩ (.int .u8 l)).setCell ⟨w.heap.size + 1, 3, none⟩ (.int .u8 h)).setCell ⟨w.heap.size + 1, 4, none⟩ (.int .u8 (Go.bits .and .u8 v 15))).setCell ⟨w.heap.size + 1, 5, none⟩ (.bool md)) = Y at q1 q2 ⊢
  have u0 : Y.cell? ⟨w.heap.size + 1, 0, none⟩ = some (.int .i64 5) := (blk_cell q1 0).trans rfl
  have u1 : Y.cell? ⟨w.heap.size + 1, 1, none⟩ = some (.bool o) := (blk_cell q1 1).trans rfl
  have u2 : Y.cell? ⟨w.heap.size + 1, 2, none⟩ = some (.int .u8 l) := (blk_cell q1 2).trans rfl
  have u3 : Y.cell? ⟨w.heap.size + 1, 3, none⟩ = some (.int .u8 h) := (blk_cell q1 3).trans rfl
  have u4 : Y.cell? ⟨w.heap.size + 1, 4, none⟩ = some (.int .u8 (Go.bits .and .u8 v 15)) := (blk_cell q1 4).trans rfl
  have u5 : Y.cell? ⟨w.heap.size + 1, 5, none⟩ = some (.bool md) := (blk_cell q1 5).trans rfl
  exact bodyPost_ret (v := .agg #[.int .i64 5, .bool o, .int .u8 l, .int .u8 h, .int .u8 (Go.bits .and .u8 v 15), .bool md]) (by simp [results, Try.results13, go_sem, u0, u1, u2, u3, u4, u5]) rfl ⟨rfl, q2⟩
set_option maxRecDepth 100000 in
set_option maxHeartbeats 400000 in
theorem wr_fifth_no (k : Int) (o : Bool) (l h r : Int) (md : Bool) (a v : Int) (h0 : ¬ IntKind.i64.wrap (a / 4096) = 0) (h1 : ¬ IntKind.i64.wrap (a / 4096) = 1) (h2 : ¬ IntKind.i64.wrap (a / 4096) = 2) (h3 : ¬ IntKind.i64.wrap (a / 4096) = 3) (h4 : ¬ IntKind.i64.wrap (a / 4096) = 4) (h5 : ¬ IntKind.i64.wrap (a / 4096) = 5) (ha : ¬ a ≥ 32768) (w : World) :
    Calls Try.prog 13 #[.agg #[.int .i64 5, .bool o, .int .u8 l, .int .u8 h, .int .u8 r, .bool md], .int .u16 a, .int .u8 v] w fun e' w' => e' = .returned (.agg #[.int .i64 5, .bool o, .int .u8 l, .int .u8 h, .int .u8 r, .bool md]) ∧ Below w.heap.size w w' := by
  go_enter Try.func13, Try.ntmps13
  go_wp2
  have bk := blk_alloc (blk_new w (.cells #[.int .i64 5, .bool o, .int .u8 l, .int .u8 h, .int .u8 r, .bool md] 24)) (.cells #[.int .i64 0, .bool false, .int .u8 0, .int .u8 0, .int .u8 0, .bool false] 24)
  have br := blk_at1 w (.cells #[.int .i64 5, .bool o, .int .u8 l, .int .u8 h, .int .u8 r, .bool md] 24) (.cells #[.int .i64 0, .bool false, .int .u8 0, .int .u8 0, .int .u8 0, .bool false] 24)
  have hB := below_alloc (below_alloc (Below.refl w.heap.size w) (.cells #[.int .i64 5, .bool o, .int .u8 l, .int .u8 h, .int .u8 r, .bool md] 24)) (.cells #[.int .i64 0, .bool false, .int .u8 0, .int .u8 0, .int .u8 0, .bool false] 24)
  generalize (w.alloc (.cells #[.int .i64 5, .bool o, .int .u8 l, .int .u8 h, .int .u8 r, .bool md] 24)).alloc (.cells #[.int .i64 0, .bool false, .int .u8 0, .int .u8 0, .int .u8 0, .bool false] 24) = W at bk br hB ⊢
  have BK := Aside0.mk bk
  have BR := Aside0.mk br
  have HB := Aside0.mk hB
  clear bk br hB
  have c0 : W.cell? ⟨w.heap.size, 0, none⟩ = some (.int .i64 5) := (blk_cell BK.out 0).trans rfl
  have c1 : W.cell? ⟨w.heap.size, 1, none⟩ = some (.bool o) := (blk_cell BK.out 1).trans rfl
  have c2 : W.cell? ⟨w.heap.size, 2, none⟩ = some (.int .u8 l) := (blk_cell BK.out 2).trans rfl
  have c3 : W.cell? ⟨w.heap.size, 3, none⟩ = some (.int .u8 h) := (blk_cell BK.out 3).trans rfl
  have c4 : W.cell? ⟨w.heap.size, 4, none⟩ = some (.int .u8 r) := (blk_cell BK.out 4).trans rfl
  have c5 : W.cell? ⟨w.heap.size, 5, none⟩ = some (.bool md) := (blk_cell BK.out 5).trans rfl
  have z0 : W.cell? ⟨w.heap.size + 1, 0, none⟩ = some (.int .i64 0) := (blk_cell BR.out 0).trans rfl
  have z1 : W.cell? ⟨w.heap.size + 1, 1, none⟩ = some (.bool false) := (blk_cell BR.out 1).trans rfl
  have z2 : W.cell? ⟨w.heap.size + 1, 2, none⟩ = some (.int .u8 0) := (blk_cell BR.out 2).trans rfl
  have z3 : W.cell? ⟨w.heap.size + 1, 3, none⟩ = some (.int .u8 0) := (blk_cell BR.out 3).trans rfl
  have z4 : W.cell? ⟨w.heap.size + 1, 4, none⟩ = some (.int .u8 0) := (blk_cell BR.out 4).trans rfl
  have z5 : W.cell? ⟨w.heap.size + 1, 5, none⟩ = some (.bool false) := (blk_cell BR.out 5).trans rfl
  have fr := fun i => blk_frozen BR.out i
  go_region_held3 (fun w' => w'.cell? ⟨w.heap.size, 0, none⟩ = some (.int .i64 5) ∧ w'.cell? ⟨w.heap.size, 1, none⟩ = some (.bool o) ∧ w'.cell? ⟨w.heap.size, 2, none⟩ = some (.int .u8 l) ∧ w'.cell? ⟨w.heap.size, 3, none⟩ = some (.int .u8 h) ∧ w'.cell? ⟨w.heap.size, 4, none⟩ = some (.int .u8 r) ∧ w'.cell? ⟨w.heap.size, 5, none⟩ = some (.bool md)) (go_keep)
    (first | (go_at_call 23; ((with_reducible refine (of5 _).mono ?_)); rintro e' w2 ⟨rfl, rfl⟩)
           | (go_at_call 54; ((with_reducible refine (write_fifth_no 5 (IntKind.i64.wrap (a / 4096)) v o l h r md h0 h1 h2 h3 h4 h5 _).mono ?_)); rintro e' w2 ⟨rfl, hb⟩; have n0 := Aside0.mk (blk_below (blk_drew BK.out) hb); have m0 := Aside0.mk (blk_below (blk_drew BR.out) hb); have n1 := Aside0.mk (below_step (below_drew1 HB.out) hb); clear hb; have d0 : w2.cell? ⟨w.heap.size, 0, none⟩ = some (.int .i64 5) := (blk_cell n0.out 0).trans rfl; have d1 : w2.cell? ⟨w.heap.size, 1, none⟩ = some (.bool o) := (blk_cell n0.out 1).trans rfl; have d2 : w2.cell? ⟨w.heap.size, 2, none⟩ = some (.int .u8 l) := (blk_cell n0.out 2).trans rfl; have d3 : w2.cell? ⟨w.heap.size, 3, none⟩ = some (.int .u8 h) := (blk_cell n0.out 3).trans rfl; have d4 : w2.cell? ⟨w.heap.size, 4, none⟩ = some (.int .u8 r) := (blk_cell n0.out 4).trans rfl; have d5 : w2.cell? ⟨w.heap.size, 5, none⟩ = some (.bool md) := (blk_cell n0.out 5).trans rfl; have y0 : w2.cell? ⟨w.heap.size + 1, 0, none⟩ = some (.int .i64 0) := (blk_cell m0.out 0).trans rfl; have y1 : w2.cell? ⟨w.heap.size + 1, 1, none⟩ = some (.bool false) := (blk_cell m0.out 1).trans rfl; have y2 : w2.cell? ⟨w.heap.size + 1, 2, none⟩ = some (.int .u8 0) := (blk_cell m0.out 2).trans rfl; have y3 : w2.cell? ⟨w.heap.size + 1, 3, none⟩ = some (.int .u8 0) := (blk_cell m0.out 3).trans rfl; have y4 : w2.cell? ⟨w.heap.size + 1, 4, none⟩ = some (.int .u8 0) := (blk_cell m0.out 4).trans rfl; have y5 : w2.cell? ⟨w.heap.size + 1, 5, none⟩ = some (.bool false) := (blk_cell m0.out 5).trans rfl; have fy := fun i => blk_frozen m0.out i))
  rename_i hHeld
  clear hHeld
  go_wp2
  have q1 : ((((((w2.setCell ⟨w.heap.size + 1, 0, none⟩ (.int .i64 5)).setCell ⟨w.heap.size + 1, 1, none⟩ (.bool o)).setCell ⟨w.heap.size + 1, 2, none⟩ (.int .u8 l)).setCell ⟨w.heap.size + 1, 3, none⟩ (.int .u8 h)).setCell ⟨w.heap.size + 1, 4, none⟩ (.int .u8 r)).setCell ⟨w.heap.size + 1, 5, none⟩ (.bool md)).heap[w.heap.size + 1]? = some (.cells #[.int .i64 5, .bool o, .int .u8 l, .int .u8 h, .int .u8 r, .bool md] 24 (0, 0)) := (blk_put (blk_put (blk_put (blk_put (blk_put (blk_put m0.out 0 _ rfl) 1 _ rfl) 2 _ rfl) 3 _ rfl) 4 _ rfl) 5 _ rfl)
  have q2 : Below w.heap.size w ((((((w2.setCell ⟨w.heap.size + 1, 0, none⟩ (.int .i64 5)).setCell ⟨w.heap.size + 1, 1, none⟩ (.bool o)).setCell ⟨w.heap.size + 1, 2, none⟩ (.int .u8 l)).setCell ⟨w.heap.size + 1, 3, none⟩ (.int .u8 h)).setCell ⟨w.heap.size + 1, 4, none⟩ (.int .u8 r)).setCell ⟨w.heap.size + 1, 5, none⟩ (.bool md)) := (below_set (below_set (below_set (below_set (below_set (below_set n1.out (Nat.le_succ _)) (Nat.le_succ _)) (Nat.le_succ _)) (Nat.le_succ _)) (Nat.le_succ _)) (Nat.le_succ _))
  generalize ((((((w2.setCell ⟨w.heap.size + 1, 0, none⟩ (.int .i64 5)).setCell ⟨w.heap.size + 1, 1, none⟩ (.bool o)).setCell ⟨w.heap.size + 1, 2, none⟩ (.int .u8 l)).setCell ⟨w.heap.size + 1, 3, none⟩ (.int .u8 h)).setCell ⟨w.heap.size + 1, 4, none⟩ (.int .u8 r)).setCell ⟨w.heap.size + 1, 5, none⟩ (.bool md)) = Y at q1 q2 ⊢
  have u0 : Y.cell? ⟨w.heap.size + 1, 0, none⟩ = some (.int .i64 5) := (blk_cell q1 0).trans rfl
  have u1 : Y.cell? ⟨w.heap.size + 1, 1, none⟩ = some (.bool o) := (blk_cell q1 1).trans rfl
  have u2 : Y.cell? ⟨w.heap.size + 1, 2, none⟩ = some (.int .u8 l) := (blk_cell q1 2).trans rfl
  have u3 : Y.cell? ⟨w.heap.size + 1, 3, none⟩ = some (.int .u8 h) := (blk_cell q1 3).trans rfl
  have u4 : Y.cell? ⟨w.heap.size + 1, 4, none⟩ = some (.int .u8 r) := (blk_cell q1 4).trans rfl
  have u5 : Y.cell? ⟨w.heap.size + 1, 5, none⟩ = some (.bool md) := (blk_cell q1 5).trans rfl
  exact bodyPost_ret (v := .agg #[.int .i64 5, .bool o, .int .u8 l, .int .u8 h, .int .u8 r, .bool md]) (by simp [results, Try.results13, go_sem, u0, u1, u2, u3, u4, u5]) rfl ⟨rfl, q2⟩
set_option maxRecDepth 100000 in
set_option maxHeartbeats 400000 in
theorem wr_plain (k : Int) (o : Bool) (l h r : Int) (md : Bool) (a v : Int) (h1 : ¬ k = 1) (h3 : ¬ k = 3) (h5 : ¬ k = 5) (ha : ¬ a ≥ 32768) (w : World) :
    Calls Try.prog 13 #[.agg #[.int .i64 k, .bool o, .int .u8 l, .int .u8 h, .int .u8 r, .bool md], .int .u16 a, .int .u8 v] w fun e' w' => e' = .returned (.agg #[.int .i64 k, .bool o, .int .u8 l, .int .u8 h, .int .u8 r, .bool md]) ∧ Below w.heap.size w w' := by
  go_enter Try.func13, Try.ntmps13
  go_wp2
  have bk := blk_alloc (blk_new w (.cells #[.int .i64 k, .bool o, .int .u8 l, .int .u8 h, .int .u8 r, .bool md] 24)) (.cells #[.int .i64 0, .bool false, .int .u8 0, .int .u8 0, .int .u8 0, .bool false] 24)
  have br := blk_at1 w (.cells #[.int .i64 k, .bool o, .int .u8 l, .int .u8 h, .int .u8 r, .bool md] 24) (.cells #[.int .i64 0, .bool false, .int .u8 0, .int .u8 0, .int .u8 0, .bool false] 24)
  have hB := below_alloc (below_alloc (Below.refl w.heap.size w) (.cells #[.int .i64 k, .bool o, .int .u8 l, .int .u8 h, .int .u8 r, .bool md] 24)) (.cells #[.int .i64 0, .bool false, .int .u8 0, .int .u8 0, .int .u8 0, .bool false] 24)
  generalize (w.alloc (.cells #[.int .i64 k, .bool o, .int .u8 l, .int .u8 h, .int .u8 r, .bool md] 24)).alloc (.cells #[.int .i64 0, .bool false, .int .u8 0, .int .u8 0, .int .u8 0, .bool false] 24) = W at bk br hB ⊢
  have BK := Aside0.mk bk
  have BR := Aside0.mk br
  have HB := Aside0.mk hB
  clear bk br hB
  have c0 : W.cell? ⟨w.heap.size, 0, none⟩ = some (.int .i64 k) := (blk_cell BK.out 0).trans rfl
  have c1 : W.cell? ⟨w.heap.size, 1, none⟩ = some (.bool o) := (blk_cell BK.out 1).trans rfl
  have c2 : W.cell? ⟨w.heap.size, 2, none⟩ = some (.int .u8 l) := (blk_cell BK.out 2).trans rfl
  have c3 : W.cell? ⟨w.heap.size, 3, none⟩ = some (.int .u8 h) := (blk_cell BK.out 3).trans rfl
  have c4 : W.cell? ⟨w.heap.size, 4, none⟩ = some (.int .u8 r) := (blk_cell BK.out 4).trans rfl
  have c5 : W.cell? ⟨w.heap.size, 5, none⟩ = some (.bool md) := (blk_cell BK.out 5).trans rfl
  have z0 : W.cell? ⟨w.heap.size + 1, 0, none⟩ = some (.int .i64 0) := (blk_cell BR.out 0).trans rfl
  have z1 : W.cell? ⟨w.heap.size + 1, 1, none⟩ = some (.bool false) := (blk_cell BR.out 1).trans rfl
  have z2 : W.cell? ⟨w.heap.size + 1, 2, none⟩ = some (.int .u8 0) := (blk_cell BR.out 2).trans rfl
  have z3 : W.cell? ⟨w.heap.size + 1, 3, none⟩ = some (.int .u8 0) := (blk_cell BR.out 3).trans rfl
  have z4 : W.cell? ⟨w.heap.size + 1, 4, none⟩ = some (.int .u8 0) := (blk_cell BR.out 4).trans rfl
  have z5 : W.cell? ⟨w.heap.size + 1, 5, none⟩ = some (.bool false) := (blk_cell BR.out 5).trans rfl
  have fr := fun i => blk_frozen BR.out i
  go_region_held3 (fun w' => w'.cell? ⟨w.heap.size, 0, none⟩ = some (.int .i64 k) ∧ w'.cell? ⟨w.heap.size, 1, none⟩ = some (.bool o) ∧ w'.cell? ⟨w.heap.size, 2, none⟩ = some (.int .u8 l) ∧ w'.cell? ⟨w.heap.size, 3, none⟩ = some (.int .u8 h) ∧ w'.cell? ⟨w.heap.size, 4, none⟩ = some (.int .u8 r) ∧ w'.cell? ⟨w.heap.size, 5, none⟩ = some (.bool md)) (go_keep)
    (first | (go_at_call 23; ((with_reducible refine (of0 k h1 h3 h5 _).mono ?_)); rintro e' w2 ⟨rfl, rfl⟩)
           | (go_at_call 58; ((with_reducible refine (write_plain k (IntKind.i64.wrap (a / 4096)) v o l h r md _).mono ?_)); rintro e' w2 ⟨rfl, hb⟩; have n0 := Aside0.mk (blk_below (blk_drew BK.out) hb); have m0 := Aside0.mk (blk_below (blk_drew BR.out) hb); have n1 := Aside0.mk (below_step (below_drew1 HB.out) hb); clear hb; have d0 : w2.cell? ⟨w.heap.size, 0, none⟩ = some (.int .i64 k) := (blk_cell n0.out 0).trans rfl; have d1 : w2.cell? ⟨w.heap.size, 1, none⟩ = some (.bool o) := (blk_cell n0.out 1).trans rfl; have d2 : w2.cell? ⟨w.heap.size, 2, none⟩ = some (.int .u8 l) := (blk_cell n0.out 2).trans rfl; have d3 : w2.cell? ⟨w.heap.size, 3, none⟩ = some (.int .u8 h) := (blk_cell n0.out 3).trans rfl; have d4 : w2.cell? ⟨w.heap.size, 4, none⟩ = some (.int .u8 r) := (blk_cell n0.out 4).trans rfl; have d5 : w2.cell? ⟨w.heap.size, 5, none⟩ = some (.bool md) := (blk_cell n0.out 5).trans rfl; have y0 : w2.cell? ⟨w.heap.size + 1, 0, none⟩ = some (.int .i64 0) := (blk_cell m0.out 0).trans rfl; have y1 : w2.cell? ⟨w.heap.size + 1, 1, none⟩ = some (.bool false) := (blk_cell m0.out 1).trans rfl; have y2 : w2.cell? ⟨w.heap.size + 1, 2, none⟩ = some (.int .u8 0) := (blk_cell m0.out 2).trans rfl; have y3 : w2.cell? ⟨w.heap.size + 1, 3, none⟩ = some (.int .u8 0) := (blk_cell m0.out 3).trans rfl; have y4 : w2.cell? ⟨w.heap.size + 1, 4, none⟩ = some (.int .u8 0) := (blk_cell m0.out 4).trans rfl; have y5 : w2.cell? ⟨w.heap.size + 1, 5, none⟩ = some (.bool false) := (blk_cell m0.out 5).trans rfl; have fy := fun i => blk_frozen m0.out i))
  rename_i hHeld
  clear hHeld
  go_wp2
  have q1 : ((((((w2.setCell ⟨w.heap.size + 1, 0, none⟩ (.int .i64 k)).setCell ⟨w.heap.size + 1, 1, none⟩ (.bool o)).setCell ⟨w.heap.size + 1, 2, none⟩ (.int .u8 l)).setCell ⟨w.heap.size + 1, 3, none⟩ (.int .u8 h)).setCell ⟨w.heap.size + 1, 4, none⟩ (.int .u8 r)).setCell ⟨w.heap.size + 1, 5, none⟩ (.bool md)).heap[w.heap.size + 1]? = some (.cells #[.int .i64 k, .bool o, .int .u8 l, .int .u8 h, .int .u8 r, .bool md] 24 (0, 0)) := (blk_put (blk_put (blk_put (blk_put (blk_put (blk_put m0.out 0 _ rfl) 1 _ rfl) 2 _ rfl) 3 _ rfl) 4 _ rfl) 5 _ rfl)
  have q2 : Below w.heap.size w ((((((w2.setCell ⟨w.heap.size + 1, 0, none⟩ (.int .i64 k)).setCell ⟨w.heap.size + 1, 1, none⟩ (.bool o)).setCell ⟨w.heap.size + 1, 2, none⟩ (.int .u8 l)).setCell ⟨w.heap.size + 1, 3, none⟩ (.int .u8 h)).setCell ⟨w.heap.size + 1, 4, none⟩ (.int .u8 r)).setCell ⟨w.heap.size + 1, 5, none⟩ (.bool md)) := (below_set (below_set (below_set (below_set (below_set (below_set n1.out (Nat.le_succ _)) (Nat.le_succ _)) (Nat.le_succ _)) (Nat.le_succ _)) (Nat.le_succ _)) (Nat.le_succ _))
  generalize ((((((w2.setCell ⟨w.heap.size + 1, 0, none⟩ (.int .i64 k)).setCell ⟨w.heap.size + 1, 1, none⟩ (.bool o)).setCell ⟨w.heap.size + 1, 2, none⟩ (.int .u8 l)).setCell ⟨w.heap.size + 1, 3, none⟩ (.int .u8 h)).setCell ⟨w.heap.size + 1, 4, none⟩ (.int .u8 r)).setCell ⟨w.heap.size + 1, 5, none⟩ (.bool md)) = Y at q1 q2 ⊢
  have u0 : Y.cell? ⟨w.heap.size + 1, 0, none⟩ = some (.int .i64 k) := (blk_cell q1 0).trans rfl
  have u1 : Y.cell? ⟨w.heap.size + 1, 1, none⟩ = some (.bool o) := (blk_cell q1 1).trans rfl
  have u2 : Y.cell? ⟨w.heap.size + 1, 2, none⟩ = some (.int .u8 l) := (blk_cell q1 2).trans rfl
  have u3 : Y.cell? ⟨w.heap.size + 1, 3, none⟩ = some (.int .u8 h) := (blk_cell q1 3).trans rfl
  have u4 : Y.cell? ⟨w.heap.size + 1, 4, none⟩ = some (.int .u8 r) := (blk_cell q1 4).trans rfl
  have u5 : Y.cell? ⟨w.heap.size + 1, 5, none⟩ = some (.bool md) := (blk_cell q1 5).trans rfl
  exact bodyPost_ret (v := .agg #[.int .i64 k, .bool o, .int .u8 l, .int .u8 h, .int .u8 r, .bool md]) (by simp [results, Try.results13, go_sem, u0, u1, u2, u3, u4, u5]) rfl ⟨rfl, q2⟩
set_option maxRecDepth 100000 in
set_option maxHeartbeats 400000 in
theorem wr_far (k : Int) (o : Bool) (l h r : Int) (md : Bool) (a v : Int) (ha : a ≥ 32768) (w : World) :
    Calls Try.prog 13 #[.agg #[.int .i64 k, .bool o, .int .u8 l, .int .u8 h, .int .u8 r, .bool md], .int .u16 a, .int .u8 v] w fun e' w' => e' = .returned (.agg #[.int .i64 k, .bool o, .int .u8 l, .int .u8 h, .int .u8 r, .bool md]) ∧ Below w.heap.size w w' := by
  go_enter Try.func13, Try.ntmps13
  go_wp2
  go_returns
  exact ⟨rfl, by go_grown⟩
def writeF (k : Int) (o : Bool) (l h r : Int) (md : Bool) (a v : Int) : Int × Bool × Int × Int × Int × Bool :=
  if a ≥ 32768 then (k, o, l, h, r, md) else
  if k = 1 then (if wrap64 (Int.tdiv (IntKind.i64.wrap (a / 4096)) 2) = 0 then (k, ((Go.bits .and .u8 v 15) == 10), l, h, r, md) else if wrap64 (Int.tdiv (IntKind.i64.wrap (a / 4096)) 2) = 1 then (k, o, (Go.bits .and .u8 v 31), h, r, md) else if wrap64 (Int.tdiv (IntKind.i64.wrap (a / 4096)) 2) = 2 then (k, o, l, (Go.bits .and .u8 v 3), r, md) else if wrap64 (Int.tdiv (IntKind.i64.wrap (a / 4096)) 2) = 3 then (k, o, l, h, r, ((Go.bits .and .u8 v 1) == 1)) else (k, o, l, h, r, md)) else
  if k = 3 then (if wrap64 (Int.tdiv (IntKind.i64.wrap (a / 4096)) 2) = 0 then (k, ((Go.bits .and .u8 v 15) == 10), l, h, r, md) else if wrap64 (Int.tdiv (IntKind.i64.wrap (a / 4096)) 2) = 1 then (k, o, (Go.bits .and .u8 v 127), h, r, md) else if wrap64 (Int.tdiv (IntKind.i64.wrap (a / 4096)) 2) = 2 then (k, o, l, h, (Go.bits .and .u8 v 15), md) else (k, o, l, h, r, md)) else
  if k = 5 then (if IntKind.i64.wrap (a / 4096) = 0 then (k, (v == 10), l, h, r, md) else if IntKind.i64.wrap (a / 4096) = 1 then (k, (v == 10), l, h, r, md) else if IntKind.i64.wrap (a / 4096) = 2 then (k, o, v, h, r, md) else if IntKind.i64.wrap (a / 4096) = 3 then (k, o, l, (Go.bits .and .u8 v 1), r, md) else if IntKind.i64.wrap (a / 4096) = 4 then (k, o, l, h, (Go.bits .and .u8 v 15), md) else if IntKind.i64.wrap (a / 4096) = 5 then (k, o, l, h, (Go.bits .and .u8 v 15), md) else (k, o, l, h, r, md)) else
  (k, o, l, h, r, md)
def mapper_Write.f (a0_0 : Int) (a0_1 : Bool) (a0_2 a0_3 a0_4 : Int) (a0_5 : Bool) (a1 a2 : Int) : Option (Int × Bool × Int × Int × Int × Bool) := some (writeF a0_0 a0_1 a0_2 a0_3 a0_4 a0_5 a1 a2)
theorem mapper_Write.calls (a0_0 : Int) (a0_1 : Bool) (a0_2 a0_3 a0_4 : Int) (a0_5 : Bool) (a1 a2 : Int) (r1 : Int) (r2 : Bool) (r3 r4 r5 : Int) (r6 : Bool) (w : World) (hf : mapper_Write.f a0_0 a0_1 a0_2 a0_3 a0_4 a0_5 a1 a2 = some (r1, r2, r3, r4, r5, r6)) :
    Calls Try.prog 13 #[.agg #[.int .i64 a0_0, .bool a0_1, .int .u8 a0_2, .int .u8 a0_3, .int .u8 a0_4, .bool a0_5], .int .u16 a1, .int .u8 a2] w fun e w' => e = .returned (.agg #[.int .i64 r1, .bool r2, .int .u8 r3, .int .u8 r4, .int .u8 r5, .bool r6]) ∧ Below w.heap.size w w' := by
  replace hf := Option.some.inj hf
  unfold writeF at hf
  by_cases hA : a1 ≥ 32768
  · rw [if_pos hA] at hf
    cases hf
    exact wr_far _ _ _ _ _ _ _ _ hA w
  rw [if_neg hA] at hf
  by_cases k1 : a0_0 = 1
  · subst k1
    rw [if_pos rfl] at hf
    by_cases h0 : wrap64 (Int.tdiv (IntKind.i64.wrap (a1 / 4096)) 2) = 0
    · rw [if_pos h0] at hf
      cases hf
      exact wr_first0 0 _ _ _ _ _ _ _ h0 hA w
    rw [if_neg h0] at hf
    by_cases h1 : wrap64 (Int.tdiv (IntKind.i64.wrap (a1 / 4096)) 2) = 1
    · rw [if_pos h1] at hf
      cases hf
      exact wr_first1 0 _ _ _ _ _ _ _ h1 hA w
    rw [if_neg h1] at hf
    by_cases h2 : wrap64 (Int.tdiv (IntKind.i64.wrap (a1 / 4096)) 2) = 2
    · rw [if_pos h2] at hf
      cases hf
      exact wr_first2 0 _ _ _ _ _ _ _ h2 hA w
    rw [if_neg h2] at hf
    by_cases h3 : wrap64 (Int.tdiv (IntKind.i64.wrap (a1 / 4096)) 2) = 3
    · rw [if_pos h3] at hf
      cases hf
      exact wr_first3 0 _ _ _ _ _ _ _ h3 hA w
    rw [if_neg h3] at hf
    cases hf
    exact wr_first_no 0 _ _ _ _ _ _ _ h0 h1 h2 h3 hA w
  rw [if_neg k1] at hf
  by_cases k3 : a0_0 = 3
  · subst k3
    rw [if_pos rfl] at hf
    by_cases h0 : wrap64 (Int.tdiv (IntKind.i64.wrap (a1 / 4096)) 2) = 0
    · rw [if_pos h0] at hf
      cases hf
      exact wr_third0 0 _ _ _ _ _ _ _ h0 hA w
    rw [if_neg h0] at hf
    by_cases h1 : wrap64 (Int.tdiv (IntKind.i64.wrap (a1 / 4096)) 2) = 1
    · rw [if_pos h1] at hf
      cases hf
      exact wr_third1 0 _ _ _ _ _ _ _ h1 hA w
    rw [if_neg h1] at hf
    by_cases h2 : wrap64 (Int.tdiv (IntKind.i64.wrap (a1 / 4096)) 2) = 2
    · rw [if_pos h2] at hf
      cases hf
      exact wr_third2 0 _ _ _ _ _ _ _ h2 hA w
    rw [if_neg h2] at hf
    cases hf
    exact wr_third_no 0 _ _ _ _ _ _ _ h0 h1 h2 hA w
  rw [if_neg k3] at hf
  by_cases k5 : a0_0 = 5
  · subst k5
    rw [if_pos rfl] at hf
    by_cases h0 : IntKind.i64.wrap (a1 / 4096) = 0
    · rw [if_pos h0] at hf
      cases hf
      exact wr_fifth0 0 _ _ _ _ _ _ _ h0 hA w
    rw [if_neg h0] at hf
    by_cases h1 : IntKind.i64.wrap (a1 / 4096) = 1
    · rw [if_pos h1] at hf
      cases hf
      exact wr_fifth1 0 _ _ _ _ _ _ _ h1 hA w
    rw [if_neg h1] at hf
    by_cases h2 : IntKind.i64.wrap (a1 / 4096) = 2
    · rw [if_pos h2] at hf
      cases hf
      exact wr_fifth2 0 _ _ _ _ _ _ _ h2 hA w
    rw [if_neg h2] at hf
    by_cases h3 : IntKind.i64.wrap (a1 / 4096) = 3
    · rw [if_pos h3] at hf
      cases hf
      exact wr_fifth3 0 _ _ _ _ _ _ _ h3 hA w
    rw [if_neg h3] at hf
    by_cases h4 : IntKind.i64.wrap (a1 / 4096) = 4
    · rw [if_pos h4] at hf
      cases hf
      exact wr_fifth4 0 _ _ _ _ _ _ _ h4 hA w
    rw [if_neg h4] at hf
    by_cases h5 : IntKind.i64.wrap (a1 / 4096) = 5
    · rw [if_pos h5] at hf
      cases hf
      exact wr_fifth5 0 _ _ _ _ _ _ _ h5 hA w
    rw [if_neg h5] at hf
    cases hf
    exact wr_fifth_no 0 _ _ _ _ _ _ _ h0 h1 h2 h3 h4 h5 hA w
  rw [if_neg k5] at hf
  cases hf
  exact wr_plain _ _ _ _ _ _ _ _ k1 k3 k5 hA w
end Go.Proofs.Ytkogdocpldfmnaa.Hand
