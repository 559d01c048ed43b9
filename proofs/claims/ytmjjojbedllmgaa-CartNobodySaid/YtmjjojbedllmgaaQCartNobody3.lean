/- The statement CartNobody: for every input the law returns true and each argument reads as before. (Packed by pack.py out of this session's texts.) -/
import Derived.Handy
import Derived.Deep.MidRow
import Derived.Deep.RegionWith
import Derived.BigRegion
import Derived.Deep.RegionLaw
import Derived.Deep.RegionHeld2
import Derived.Deep.RegionHeld3
import Derived.Laws.CopyRow
import Derived.Laws.CopyOwn
import Derived.StillTailTactics
import Derived.Lib.BufferWrite
import Derived.Laws.AppendOwn
import Derived.Laws.OwnMore
import Derived.Test.YtmjjojbedllmgaaRows
import Derived.Test.YtmjjojbedllmgaaQCartNobody0
import Derived.Test.YtmjjojbedllmgaaQCartNobody1
import Derived.Test.YtmjjojbedllmgaaQCartNobody2
section
namespace Go.Proofs.Ytmjjojbedllmgaa.Hand
open Go.RowKit
open Go.Proofs.Ytmjjojbedllmgaa.G
open Go.Proofs.YtmjjojbedllmgaaW.PrintWords Go.Proofs.YtmjjojbedllmgaaW.PrintLast Go.Proofs.YtmjjojbedllmgaaW.PrintMore
set_option linter.unusedVariables false
set_option linter.unusedSimpArgs false
theorem blk_at1 (w : World) (A B : Obj) : ((w.alloc A).alloc B).heap[w.heap.size + 1]? = some B := by
  have z := heap_alloc_new (w.alloc A) B
  have e : (w.alloc A).heap.size = w.heap.size + 1 := by simp
  rwa [e] at z
set_option maxRecDepth 100000 in
set_option maxHeartbeats 400000 in
theorem wr_first0 (k : Int) (o : Bool) (l h r : Int) (md : Bool) (a v : Int) (hp : wrap64 (Int.tdiv (IntKind.i64.wrap (a / 4096)) 2) = 0) (ha : ¬ a ≥ 32768) (w : World) :
    Calls Try.prog 41 #[.agg #[.int .i64 1, .bool o, .int .u8 l, .int .u8 h, .int .u8 r, .bool md], .int .u16 a, .int .u8 v] w fun e' w' => e' = .returned (.agg #[.int .i64 1, .bool ((Go.bits .and .u8 v 15) == 10), .int .u8 l, .int .u8 h, .int .u8 r, .bool md]) ∧ Below w.heap.size w w' := by
  go_enter Try.func41, Try.ntmps41
  go_wp2
  have bk := blk_alloc (blk_new w (.cells #[.int .i64 1, .bool o, .int .u8 l, .int .u8 h, .int .u8 r, .bool md] 32)) (.cells #[.int .i64 0, .bool false, .int .u8 0, .int .u8 0, .int .u8 0, .bool false] 32)
  have br := blk_at1 w (.cells #[.int .i64 1, .bool o, .int .u8 l, .int .u8 h, .int .u8 r, .bool md] 32) (.cells #[.int .i64 0, .bool false, .int .u8 0, .int .u8 0, .int .u8 0, .bool false] 32)
  have hB := below_alloc (below_alloc (Below.refl w.heap.size w) (.cells #[.int .i64 1, .bool o, .int .u8 l, .int .u8 h, .int .u8 r, .bool md] 32)) (.cells #[.int .i64 0, .bool false, .int .u8 0, .int .u8 0, .int .u8 0, .bool false] 32)
  generalize (w.alloc (.cells #[.int .i64 1, .bool o, .int .u8 l, .int .u8 h, .int .u8 r, .bool md] 32)).alloc (.cells #[.int .i64 0, .bool false, .int .u8 0, .int .u8 0, .int .u8 0, .bool false] 32) = W at bk br hB ⊢
  have BK := Aside0.mk bk
  have BR := Aside0.mk br
  have HB := Aside0.mk hB
  clear bk br hB
  have c0 : W.cell? ⟨w.heap.size, 0, none⟩ = some (.int .i64 1) := (blk_cell BK.out 0).trans rfl
  have c1 : W.cell? ⟨w.heap.size, 1, none⟩ = some (.bool o) := (blk_cell BK.out 1).trans rfl
  have c2 : W.cell? ⟨w.heap.size, 2, none⟩ = some (.int .u8 l) := (blk_cell BK.out 2).trans rfl
  have c3 : W.cell? ⟨w.heap.size, 3, none⟩ = some (.int .u8 h) := (blk_cell BK.out 3).trans rfl
  have c4 : W.cell? ⟨w.heap.size, 4, none⟩ = some (.int .u8 r) := (blk_cell BK.out 4).trans rfl
  have c5 : W.cell? ⟨w.heap.size, 5, none⟩ = some (.bool md) := (blk_cell BK.out 5).trans rfl
  have z0 : W.cell? ⟨w.heap.size + 1, 0, none⟩ = some (.int .i64 0) := (blk_cell BR.out 0).trans rfl
  have z1 : W.cell? ⟨w.heap.size + 1, 1, none⟩ = some (.bool false) := (blk_cell BR.out 1).trans rfl
  have z2 : W.cell? ⟨w.heap.size + 1, 2, none⟩ = some (.int .u8 0) := (blk_cell BR.out 2).trans rfl
  have z3 : W.cell? ⟨w.heap.size + 1, 3, none⟩ = some (.int .u8 0) := (blk_cell BR.out 3).trans rfl
  have z4 : W.cell? ⟨w.heap.size + 1, 4, none⟩ = some (.int .u8 0) := (blk_cell BR.out 4).trans rfl
  have z5 : W.cell? ⟨w.heap.size + 1, 5, none⟩ = some (.bool false) := (blk_cell BR.out 5).trans rfl
  have fr := fun i => blk_frozen BR.out i
  go_region_held3 (fun w' => w'.cell? ⟨w.heap.size, 0, none⟩ = some (.int .i64 1) ∧ w'.cell? ⟨w.heap.size, 1, none⟩ = some (.bool o) ∧ w'.cell? ⟨w.heap.size, 2, none⟩ = some (.int .u8 l) ∧ w'.cell? ⟨w.heap.size, 3, none⟩ = some (.int .u8 h) ∧ w'.cell? ⟨w.heap.size, 4, none⟩ = some (.int .u8 r) ∧ w'.cell? ⟨w.heap.size, 5, none⟩ = some (.bool md)) (go_keep)
    (first | (go_at_call 68; ((with_reducible refine (of1 _).mono ?_)); rintro e' w2 ⟨rfl, rfl⟩)
           | (go_at_call 98; ((with_reducible refine (write_first0 1 (IntKind.i64.wrap (a / 4096)) v o l h r md hp _).mono ?_)); rintro e' w2 ⟨rfl, hb⟩; have n0 := Aside0.mk (blk_below (blk_drew BK.out) hb); have m0 := Aside0.mk (blk_below (blk_drew BR.out) hb); have n1 := Aside0.mk (below_step (below_drew1 HB.out) hb); clear hb; have d0 : w2.cell? ⟨w.heap.size, 0, none⟩ = some (.int .i64 1) := (blk_cell n0.out 0).trans rfl; have d1 : w2.cell? ⟨w.heap.size, 1, none⟩ = some (.bool o) := (blk_cell n0.out 1).trans rfl; have d2 : w2.cell? ⟨w.heap.size, 2, none⟩ = some (.int .u8 l) := (blk_cell n0.out 2).trans rfl; have d3 : w2.cell? ⟨w.heap.size, 3, none⟩ = some (.int .u8 h) := (blk_cell n0.out 3).trans rfl; have d4 : w2.cell? ⟨w.heap.size, 4, none⟩ = some (.int .u8 r) := (blk_cell n0.out 4).trans rfl; have d5 : w2.cell? ⟨w.heap.size, 5, none⟩ = some (.bool md) := (blk_cell n0.out 5).trans rfl; have y0 : w2.cell? ⟨w.heap.size + 1, 0, none⟩ = some (.int .i64 0) := (blk_cell m0.out 0).trans rfl; have y1 : w2.cell? ⟨w.heap.size + 1, 1, none⟩ = some (.bool false) := (blk_cell m0.out 1).trans rfl; have y2 : w2.cell? ⟨w.heap.size + 1, 2, none⟩ = some (.int .u8 0) := (blk_cell m0.out 2).trans rfl; have y3 : w2.cell? ⟨w.heap.size + 1, 3, none⟩ = some (.int .u8 0) := (blk_cell m0.out 3).trans rfl; have y4 : w2.cell? ⟨w.heap.size + 1, 4, none⟩ = some (.int .u8 0) := (blk_cell m0.out 4).trans rfl; have y5 : w2.cell? ⟨w.heap.size + 1, 5, none⟩ = some (.bool false) := (blk_cell m0.out 5).trans rfl; have fy := fun i => blk_frozen m0.out i))
  rename_i hHeld
  clear hHeld
  go_wp2
  have q1 : ((((((w2.setCell ⟨w.heap.size + 1, 0, none⟩ (.int .i64 1)).setCell ⟨w.heap.size + 1, 1, none⟩ (.bool ((Go.bits .and .u8 v 15) == 10))).setCell ⟨w.heap.size + 1, 2, none⟩ (.int .u8 l)).setCell ⟨w.heap.size + 1, 3, none⟩ (.int .u8 h)).setCell ⟨w.heap.size + 1, 4, none⟩ (.int .u8 r)).setCell ⟨w.heap.size + 1, 5, none⟩ (.bool md)).heap[w.heap.size + 1]? = some (.cells #[.int .i64 1, .bool ((Go.bits .and .u8 v 15) == 10), .int .u8 l, .int .u8 h, .int .u8 r, .bool md] 32 (0, 0)) := (blk_put (blk_put (blk_put (blk_put (blk_put (blk_put m0.out 0 _ rfl) 1 _ rfl) 2 _ rfl) 3 _ rfl) 4 _ rfl) 5 _ rfl)
  have q2 : Below w.heap.size w ((((((w2.setCell ⟨w.heap.size + 1, 0, none⟩ (.int .i64 1)).setCell ⟨w.heap.size + 1, 1, none⟩ (.bool ((Go.bits .and .u8 v 15) == 10))).setCell ⟨w.heap.size + 1, 2, none⟩ (.int .u8 l)).setCell ⟨w.heap.size + 1, 3, none⟩ (.int .u8 h)).setCell ⟨w.heap.size + 1, 4, none⟩ (.int .u8 r)).setCell ⟨w.heap.size + 1, 5, none⟩ (.bool md)) := (below_set (below_set (below_set (below_set (below_set (below_set n1.out (Nat.le_succ _)) (Nat.le_succ _)) (Nat.le_succ _)) (Nat.le_succ _)) (Nat.le_succ _)) (Nat.le_succ _))
  generalize ((((((w2.setCell ⟨w.heap.size + 1, 0, none⟩ (.int .i64 1)).setCell ⟨w.heap.size + 1, 1, none⟩ (.bool ((Go.bits .and .u8 v 15) == 10))).setCell ⟨w.heap.size + 1, 2, none⟩ (.int .u8 l)).setCell ⟨w.heap.size + 1, 3, none⟩ (.int .u8 h)).setCell ⟨w.heap.size + 1, 4, none⟩ (.int .u8 r)).setCell ⟨w.heap.size + 1, 5, none⟩ (.bool md)) = Y at q1 q2 ⊢
  have u0 : Y.cell? ⟨w.heap.size + 1, 0, none⟩ = some (.int .i64 1) := (blk_cell q1 0).trans rfl
  have u1 : Y.cell? ⟨w.heap.size + 1, 1, none⟩ = some (.bool ((Go.bits .and .u8 v 15) == 10)) := (blk_cell q1 1).trans rfl
  have u2 : Y.cell? ⟨w.heap.size + 1, 2, none⟩ = some (.int .u8 l) := (blk_cell q1 2).trans rfl
  have u3 : Y.cell? ⟨w.heap.size + 1, 3, none⟩ = some (.int .u8 h) := (blk_cell q1 3).trans rfl
  have u4 : Y.cell? ⟨w.heap.size + 1, 4, none⟩ = some (.int .u8 r) := (blk_cell q1 4).trans rfl
  have u5 : Y.cell? ⟨w.heap.size + 1, 5, none⟩ = some (.bool md) := (blk_cell q1 5).trans rfl
  exact bodyPost_ret (v := .agg #[.int .i64 1, .bool ((Go.bits .and .u8 v 15) == 10), .int .u8 l, .int .u8 h, .int .u8 r, .bool md]) (by simp [results, Try.results41, go_sem, u0, u1, u2, u3, u4, u5]) rfl ⟨rfl, q2⟩
set_option maxRecDepth 100000 in
set_option maxHeartbeats 400000 in
theorem wr_first1 (k : Int) (o : Bool) (l h r : Int) (md : Bool) (a v : Int) (hp : wrap64 (Int.tdiv (IntKind.i64.wrap (a / 4096)) 2) = 1) (ha : ¬ a ≥ 32768) (w : World) :
    Calls Try.prog 41 #[.agg #[.int .i64 1, .bool o, .int .u8 l, .int .u8 h, .int .u8 r, .bool md], .int .u16 a, .int .u8 v] w fun e' w' => e' = .returned (.agg #[.int .i64 1, .bool o, .int .u8 (Go.bits .and .u8 v 31), .int .u8 h, .int .u8 r, .bool md]) ∧ Below w.heap.size w w' := by
  go_enter Try.func41, Try.ntmps41
  go_wp2
  have bk := blk_alloc (blk_new w (.cells #[.int .i64 1, .bool o, .int .u8 l, .int .u8 h, .int .u8 r, .bool md] 32)) (.cells #[.int .i64 0, .bool false, .int .u8 0, .int .u8 0, .int .u8 0, .bool false] 32)
  have br := blk_at1 w (.cells #[.int .i64 1, .bool o, .int .u8 l, .int .u8 h, .int .u8 r, .bool md] 32) (.cells #[.int .i64 0, .bool false, .int .u8 0, .int .u8 0, .int .u8 0, .bool false] 32)
  have hB := below_alloc (below_alloc (Below.refl w.heap.size w) (.cells #[.int .i64 1, .bool o, .int .u8 l, .int .u8 h, .int .u8 r, .bool md] 32)) (.cells #[.int .i64 0, .bool false, .int .u8 0, .int .u8 0, .int .u8 0, .bool false] 32)
  generalize (w.alloc (.cells #[.int .i64 1, .bool o, .int .u8 l, .int .u8 h, .int .u8 r, .bool md] 32)).alloc (.cells #[.int .i64 0, .bool false, .int .u8 0, .int .u8 0, .int .u8 0, .bool false] 32) = W at bk br hB ⊢
  have BK := Aside0.mk bk
  have BR := Aside0.mk br
  have HB := Aside0.mk hB
  clear bk br hB
  have c0 : W.cell? ⟨w.heap.size, 0, none⟩ = some (.int .i64 1) := (blk_cell BK.out 0).trans rfl
  have c1 : W.cell? ⟨w.heap.size, 1, none⟩ = some (.bool o) := (blk_cell BK.out 1).trans rfl
  have c2 : W.cell? ⟨w.heap.size, 2, none⟩ = some (.int .u8 l) := (blk_cell BK.out 2).trans rfl
  have c3 : W.cell? ⟨w.heap.size, 3, none⟩ = some (.int .u8 h) := (blk_cell BK.out 3).trans rfl
  have c4 : W.cell? ⟨w.heap.size, 4, none⟩ = some (.int .u8 r) := (blk_cell BK.out 4).trans rfl
  have c5 : W.cell? ⟨w.heap.size, 5, none⟩ = some (.bool md) := (blk_cell BK.out 5).trans rfl
  have z0 : W.cell? ⟨w.heap.size + 1, 0, none⟩ = some (.int .i64 0) := (blk_cell BR.out 0).trans rfl
  have z1 : W.cell? ⟨w.heap.size + 1, 1, none⟩ = some (.bool false) := (blk_cell BR.out 1).trans rfl
  have z2 : W.cell? ⟨w.heap.size + 1, 2, none⟩ = some (.int .u8 0) := (blk_cell BR.out 2).trans rfl
  have z3 : W.cell? ⟨w.heap.size + 1, 3, none⟩ = some (.int .u8 0) := (blk_cell BR.out 3).trans rfl
  have z4 : W.cell? ⟨w.heap.size + 1, 4, none⟩ = some (.int .u8 0) := (blk_cell BR.out 4).trans rfl
  have z5 : W.cell? ⟨w.heap.size + 1, 5, none⟩ = some (.bool false) := (blk_cell BR.out 5).trans rfl
  have fr := fun i => blk_frozen BR.out i
  go_region_held3 (fun w' => w'.cell? ⟨w.heap.size, 0, none⟩ = some (.int .i64 1) ∧ w'.cell? ⟨w.heap.size, 1, none⟩ = some (.bool o) ∧ w'.cell? ⟨w.heap.size, 2, none⟩ = some (.int .u8 l) ∧ w'.cell? ⟨w.heap.size, 3, none⟩ = some (.int .u8 h) ∧ w'.cell? ⟨w.heap.size, 4, none⟩ = some (.int .u8 r) ∧ w'.cell? ⟨w.heap.size, 5, none⟩ = some (.bool md)) (go_keep)
    (first | (go_at_call 68; ((with_reducible refine (of1 _).mono ?_)); rintro e' w2 ⟨rfl, rfl⟩)
           | (go_at_call 98; ((with_reducible refine (write_first1 1 (IntKind.i64.wrap (a / 4096)) v o l h r md hp _).mono ?_)); rintro e' w2 ⟨rfl, hb⟩; have n0 := Aside0.mk (blk_below (blk_drew BK.out) hb); have m0 := Aside0.mk (blk_below (blk_drew BR.out) hb); have n1 := Aside0.mk (below_step (below_drew1 HB.out) hb); clear hb; have d0 : w2.cell? ⟨w.heap.size, 0, none⟩ = some (.int .i64 1) := (blk_cell n0.out 0).trans rfl; have d1 : w2.cell? ⟨w.heap.size, 1, none⟩ = some (.bool o) := (blk_cell n0.out 1).trans rfl; have d2 : w2.cell? ⟨w.heap.size, 2, none⟩ = some (.int .u8 l) := (blk_cell n0.out 2).trans rfl; have d3 : w2.cell? ⟨w.heap.size, 3, none⟩ = some (.int .u8 h) := (blk_cell n0.out 3).trans rfl; have d4 : w2.cell? ⟨w.heap.size, 4, none⟩ = some (.int .u8 r) := (blk_cell n0.out 4).trans rfl; have d5 : w2.cell? ⟨w.heap.size, 5, none⟩ = some (.bool md) := (blk_cell n0.out 5).trans rfl; have y0 : w2.cell? ⟨w.heap.size + 1, 0, none⟩ = some (.int .i64 0) := (blk_cell m0.out 0).trans rfl; have y1 : w2.cell? ⟨w.heap.size + 1, 1, none⟩ = some (.bool false) := (blk_cell m0.out 1).trans rfl; have y2 : w2.cell? ⟨w.heap.size + 1, 2, none⟩ = some (.int .u8 0) := (blk_cell m0.out 2).trans rfl; have y3 : w2.cell? ⟨w.heap.size + 1, 3, none⟩ = some (.int .u8 0) := (blk_cell m0.out 3).trans rfl; have y4 : w2.cell? ⟨w.heap.size + 1, 4, none⟩ = some (.int .u8 0) := (blk_cell m0.out 4).trans rfl; have y5 : w2.cell? ⟨w.heap.size + 1, 5, none⟩ = some (.bool false) := (blk_cell m0.out 5).trans rfl; have fy := fun i => blk_frozen m0.out i))
  rename_i hHeld
  clear hHeld
  go_wp2
  have q1 : ((((((w2.setCell ⟨w.heap.size + 1, 0, none⟩ (.int .i64 1)).setCell ⟨w.heap.size + 1, 1, none⟩ (.bool o)).setCell ⟨w.heap.size + 1, 2, none⟩ (.int .u8 (Go.bits .and .u8 v 31))).setCell ⟨w.heap.size + 1, 3, none⟩ (.int .u8 h)).setCell ⟨w.heap.size + 1, 4, none⟩ (.int .u8 r)).setCell ⟨w.heap.size + 1, 5, none⟩ (.bool md)).heap[w.heap.size + 1]? = some (.cells #[.int .i64 1, .bool o, .int .u8 (Go.bits .and .u8 v 31), .int .u8 h, .int .u8 r, .bool md] 32 (0, 0)) := (blk_put (blk_put (blk_put (blk_put (blk_put (blk_put m0.out 0 _ rfl) 1 _ rfl) 2 _ rfl) 3 _ rfl) 4 _ rfl) 5 _ rfl)
  have q2 : Below w.heap.size w ((((((w2.setCell ⟨w.heap.size + 1, 0, none⟩ (.int .i64 1)).setCell ⟨w.heap.size + 1, 1, none⟩ (.bool o)).setCell ⟨w.heap.size + 1, 2, none⟩ (.int .u8 (Go.bits .and .u8 v 31))).setCell ⟨w.heap.size + 1, 3, none⟩ (.int .u8 h)).setCell ⟨w.heap.size + 1, 4, none⟩ (.int .u8 r)).setCell ⟨w.heap.size + 1, 5, none⟩ (.bool md)) := (below_set (below_set (below_set (below_set (below_set (below_set n1.out (Nat.le_succ _)) (Nat.le_succ _)) (Nat.le_succ _)) (Nat.le_succ _)) (Nat.le_succ _)) (Nat.le_succ _))
  generalize ((((((w2.setCell ⟨w.heap.size + 1, 0, none⟩ (.int .i64 1)).setCell ⟨w.heap.size + 1, 1, none⟩ (.bool o)).setCell ⟨w.heap.size + 1, 2, none⟩ (.int .u8 (Go.bits .and .u8 v 31))).setCell ⟨w.heap.size + 1, 3, none⟩ (.int .u8 h)).setCell ⟨w.heap.size + 1, 4, none⟩ (.int .u8 r)).setCell ⟨w.heap.size + 1, 5, none⟩ (.bool md)) = Y at q1 q2 ⊢
  have u0 : Y.cell? ⟨w.heap.size + 1, 0, none⟩ = some (.int .i64 1) := (blk_cell q1 0).trans rfl
  have u1 : Y.cell? ⟨w.heap.size + 1, 1, none⟩ = some (.bool o) := (blk_cell q1 1).trans rfl
  have u2 : Y.cell? ⟨w.heap.size + 1, 2, none⟩ = some (.int .u8 (Go.bits .and .u8 v 31)) := (blk_cell q1 2).trans rfl
  have u3 : Y.cell? ⟨w.heap.size + 1, 3, none⟩ = some (.int .u8 h) := (blk_cell q1 3).trans rfl
  have u4 : Y.cell? ⟨w.heap.size + 1, 4, none⟩ = some (.int .u8 r) := (blk_cell q1 4).trans rfl
  have u5 : Y.cell? ⟨w.heap.size + 1, 5, none⟩ = some (.bool md) := (blk_cell q1 5).trans rfl
  exact bodyPost_ret (v := .agg #[.int .i64 1, .bool o, .int .u8 (Go.bits .and .u8 v 31), .int .u8 h, .int .u8 r, .bool md]) (by simp [results, Try.results41, go_sem, u0, u1, u2, u3, u4, u5]) rfl ⟨rfl, q2⟩
set_option maxRecDepth 100000 in
set_option maxHeartbeats 400000 in
theorem wr_first2 (k : Int) (o : Bool) (l h r : Int) (md : Bool) (a v : Int) (hp : wrap64 (Int.tdiv (IntKind.i64.wrap (a / 4096)) 2) = 2) (ha : ¬ a ≥ 32768) (w : World) :
    Calls Try.prog 41 #[.agg #[.int .i64 1, .bool o, .int .u8 l, .int .u8 h, .int .u8 r, .bool md], .int .u16 a, .int .u8 v] w fun e' w' => e' = .returned (.agg #[.int .i64 1, .bool o, .int .u8 l, .int .u8 (Go.bits .and .u8 v 3), .int .u8 r, .bool md]) ∧ Below w.heap.size w w' := by
  go_enter Try.func41, Try.ntmps41
  go_wp2
  have bk := blk_alloc (blk_new w (.cells #[.int .i64 1, .bool o, .int .u8 l, .int .u8 h, .int .u8 r, .bool md] 32)) (.cells #[.int .i64 0, .bool false, .int .u8 0, .int .u8 0, .int .u8 0, .bool false] 32)
  have br := blk_at1 w (.cells #[.int .i64 1, .bool o, .int .u8 l, .int .u8 h, .int .u8 r, .bool md] 32) (.cells #[.int .i64 0, .bool false, .int .u8 0, .int .u8 0, .int .u8 0, .bool false] 32)
  have hB := below_alloc (below_alloc (Below.refl w.heap.size w) (.cells #[.int .i64 1, .bool o, .int .u8 l, .int .u8 h, .int .u8 r, .bool md] 32)) (.cells #[.int .i64 0, .bool false, .int .u8 0, .int .u8 0, .int .u8 0, .bool false] 32)
  generalize (w.alloc (.cells #[.int .i64 1, .bool o, .int .u8 l, .int .u8 h, .int .u8 r, .bool md] 32)).alloc (.cells #[.int .i64 0, .bool false, .int .u8 0, .int .u8 0, .int .u8 0, .bool false] 32) = W at bk br hB ⊢
  have BK := Aside0.mk bk
  have BR := Aside0.mk br
  have HB := Aside0.mk hB
  clear bk br hB
  have c0 : W.cell? ⟨w.heap.size, 0, none⟩ = some (.int .i64 1) := (blk_cell BK.out 0).trans rfl
  have c1 : W.cell? ⟨w.heap.size, 1, none⟩ = some (.bool o) := (blk_cell BK.out 1).trans rfl
  have c2 : W.cell? ⟨w.heap.size, 2, none⟩ = some (.int .u8 l) := (blk_cell BK.out 2).trans rfl
  have c3 : W.cell? ⟨w.heap.size, 3, none⟩ = some (.int .u8 h) := (blk_cell BK.out 3).trans rfl
  have c4 : W.cell? ⟨w.heap.size, 4, none⟩ = some (.int .u8 r) := (blk_cell BK.out 4).trans rfl
  have c5 : W.cell? ⟨w.heap.size, 5, none⟩ = some (.bool md) := (blk_cell BK.out 5).trans rfl
  have z0 : W.cell? ⟨w.heap.size + 1, 0, none⟩ = some (.int .i64 0) := (blk_cell BR.out 0).trans rfl
  have z1 : W.cell? ⟨w.heap.size + 1, 1, none⟩ = some (.bool false) := (blk_cell BR.out 1).trans rfl
  have z2 : W.cell? ⟨w.heap.size + 1, 2, none⟩ = some (.int .u8 0) := (blk_cell BR.out 2).trans rfl
  have z3 : W.cell? ⟨w.heap.size + 1, 3, none⟩ = some (.int .u8 0) := (blk_cell BR.out 3).trans rfl
  have z4 : W.cell? ⟨w.heap.size + 1, 4, none⟩ = some (.int .u8 0) := (blk_cell BR.out 4).trans rfl
  have z5 : W.cell? ⟨w.heap.size + 1, 5, none⟩ = some (.bool false) := (blk_cell BR.out 5).trans rfl
  have fr := fun i => blk_frozen BR.out i
  go_region_held3 (fun w' => w'.cell? ⟨w.heap.size, 0, none⟩ = some (.int .i64 1) ∧ w'.cell? ⟨w.heap.size, 1, none⟩ = some (.bool o) ∧ w'.cell? ⟨w.heap.size, 2, none⟩ = some (.int .u8 l) ∧ w'.cell? ⟨w.heap.size, 3, none⟩ = some (.int .u8 h) ∧ w'.cell? ⟨w.heap.size, 4, none⟩ = some (.int .u8 r) ∧ w'.cell? ⟨w.heap.size, 5, none⟩ = some (.bool md)) (go_keep)
    (first | (go_at_call 68; ((with_reducible refine (of1 _).mono ?_)); rintro e' w2 ⟨rfl, rfl⟩)
           | (go_at_call 98; ((with_reducible refine (write_first2 1 (IntKind.i64.wrap (a / 4096)) v o l h r md hp _).mono ?_)); rintro e' w2 ⟨rfl, hb⟩; have n0 := Aside0.mk (blk_below (blk_drew BK.out) hb); have m0 := Aside0.mk (blk_below (blk_drew BR.out) hb); have n1 := Aside0.mk (below_step (below_drew1 HB.out) hb); clear hb; have d0 : w2.cell? ⟨w.heap.size, 0, none⟩ = some (.int .i64 1) := (blk_cell n0.out 0).trans rfl; have d1 : w2.cell? ⟨w.heap.size, 1, none⟩ = some (.bool o) := (blk_cell n0.out 1).trans rfl; have d2 : w2.cell? ⟨w.heap.size, 2, none⟩ = some (.int .u8 l) := (blk_cell n0.out 2).trans rfl; have d3 : w2.cell? ⟨w.heap.size, 3, none⟩ = some (.int .u8 h) := (blk_cell n0.out 3).trans rfl; have d4 : w2.cell? ⟨w.heap.size, 4, none⟩ = some (.int .u8 r) := (blk_cell n0.out 4).trans rfl; have d5 : w2.cell? ⟨w.heap.size, 5, none⟩ = some (.bool md) := (blk_cell n0.out 5).trans rfl; have y0 : w2.cell? ⟨w.heap.size + 1, 0, none⟩ = some (.int .i64 0) := (blk_cell m0.out 0).trans rfl; have y1 : w2.cell? ⟨w.heap.size + 1, 1, none⟩ = some (.bool false) := (blk_cell m0.out 1).trans rfl; have y2 : w2.cell? ⟨w.heap.size + 1, 2, none⟩ = some (.int .u8 0) := (blk_cell m0.out 2).trans rfl; have y3 : w2.cell? ⟨w.heap.size + 1, 3, none⟩ = some (.int .u8 0) := (blk_cell m0.out 3).trans rfl; have y4 : w2.cell? ⟨w.heap.size + 1, 4, none⟩ = some (.int .u8 0) := (blk_cell m0.out 4).trans rfl; have y5 : w2.cell? ⟨w.heap.size + 1, 5, none⟩ = some (.bool false) := (blk_cell m0.out 5).trans rfl; have fy := fun i => blk_frozen m0.out i))
  rename_i hHeld
  clear hHeld
  go_wp2
  have q1 : ((((((w2.setCell ⟨w.heap.size + 1, 0, none⟩ (.int .i64 1)).setCell ⟨w.heap.size + 1, 1, none⟩ (.bool o)).setCell ⟨w.heap.size + 1, 2, none⟩ (.int .u8 l)).setCell ⟨w.heap.size + 1, 3, none⟩ (.int .u8 (Go.bits .and .u8 v 3))).setCell ⟨w.heap.size + 1, 4, none⟩ (.int .u8 r)).setCell ⟨w.heap.size + 1, 5, none⟩ (.bool md)).heap[w.heap.size + 1]? = some (.cells #[.int .i64 1, .bool o, .int .u8 l, .int .u8 (Go.bits .and .u8 v 3), .int .u8 r, .bool md] 32 (0, 0)) := (blk_put (blk_put (blk_put (blk_put (blk_put (blk_put m0.out 0 _ rfl) 1 _ rfl) 2 _ rfl) 3 _ rfl) 4 _ rfl) 5 _ rfl)
  have q2 : Below w.heap.size w ((((((w2.setCell ⟨w.heap.size + 1, 0, none⟩ (.int .i64 1)).setCell ⟨w.heap.size + 1, 1, none⟩ (.bool o)).setCell ⟨w.heap.size + 1, 2, none⟩ (.int .u8 l)).setCell ⟨w.heap.size + 1, 3, none⟩ (.int .u8 (Go.bits .and .u8 v 3))).setCell ⟨w.heap.size + 1, 4, none⟩ (.int .u8 r)).setCell ⟨w.heap.size + 1, 5, none⟩ (.bool md)) := (below_set (below_set (below_set (below_set (below_set (below_set n1.out (Nat.le_succ _)) (Nat.le_succ _)) (Nat.le_succ _)) (Nat.le_succ _)) (Nat.le_succ _)) (Nat.le_succ _))
  generalize ((((((w2.setCell ⟨w.heap.size + 1, 0, none⟩ (.int .i64 1)).setCell ⟨w.heap.size + 1, 1, none⟩ (.bool o)).setCell ⟨w.heap.size + 1, 2, none⟩ (.int .u8 l)).setCell ⟨w.heap.size + 1, 3, none⟩ (.int .u8 (Go.bits .and .u8 v 3))).setCell ⟨w.heap.size + 1, 4, none⟩ (.int .u8 r)).setCell ⟨w.heap.size + 1, 5, none⟩ (.bool md)) = Y at q1 q2 ⊢
  have u0 : Y.cell? ⟨w.heap.size + 1, 0, none⟩ = some (.int .i64 1) := (blk_cell q1 0).trans rfl
  have u1 : Y.cell? ⟨w.heap.size + 1, 1, none⟩ = some (.bool o) := (blk_cell q1 1).trans rfl
  have u2 : Y.cell? ⟨w.heap.size + 1, 2, none⟩ = some (.int .u8 l) := (blk_cell q1 2).trans rfl
  have u3 : Y.cell? ⟨w.heap.size + 1, 3, none⟩ = some (.int .u8 (Go.bits .and .u8 v 3)) := (blk_cell q1 3).trans rfl
  have u4 : Y.cell? ⟨w.heap.size + 1, 4, none⟩ = some (.int .u8 r) := (blk_cell q1 4).trans rfl
  have u5 : Y.cell? ⟨w.heap.size + 1, 5, none⟩ = some (.bool md) := (blk_cell q1 5).trans rfl
  exact bodyPost_ret (v := .agg #[.int .i64 1, .bool o, .int .u8 l, .int .u8 (Go.bits .and .u8 v 3), .int .u8 r, .bool md]) (by simp [results, Try.results41, go_sem, u0, u1, u2, u3, u4, u5]) rfl ⟨rfl, q2⟩
set_option maxRecDepth 100000 in
set_option maxHeartbeats 400000 in
theorem wr_first3 (k : Int) (o : Bool) (l h r : Int) (md : Bool) (a v : Int) (hp : wrap64 (Int.tdiv (IntKind.i64.wrap (a / 4096)) 2) = 3) (ha : ¬ a ≥ 32768) (w : World) :
    Calls Try.prog 41 #[.agg #[.int .i64 1, .bool o, .int .u8 l, .int .u8 h, .int .u8 r, .bool md], .int .u16 a, .int .u8 v] w fun e' w' => e' = .returned (.agg #[.int .i64 1, .bool o, .int .u8 l, .int .u8 h, .int .u8 r, .bool ((Go.bits .and .u8 v 1) == 1)]) ∧ Below w.heap.size w w' := by
  go_enter Try.func41, Try.ntmps41
  go_wp2
  have bk := blk_alloc (blk_new w (.cells #[.int .i64 1, .bool o, .int .u8 l, .int .u8 h, .int .u8 r, .bool md] 32)) (.cells #[.int .i64 0, .bool false, .int .u8 0, .int .u8 0, .int .u8 0, .bool false] 32)
  have br := blk_at1 w (.cells #[.int .i64 1, .bool o, .int .u8 l, .int .u8 h, .int .u8 r, .bool md] 32) (.cells #[.int .i64 0, .bool false, .int .u8 0, .int .u8 0, .int .u8 0, .bool false] 32)
  have hB := below_alloc (below_alloc (Below.refl w.heap.size w) (.cells #[.int .i64 1, .bool o, .int .u8 l, .int .u8 h, .int .u8 r, .bool md] 32)) (.cells #[.int .i64 0, .bool false, .int .u8 0, .int .u8 0, .int .u8 0, .bool false] 32)
  generalize (w.alloc (.cells #[.int .i64 1, .bool o, .int .u8 l, .int .u8 h, .int .u8 r, .bool md] 32)).alloc (.cells #[.int .i64 0, .bool false, .int .u8 0, .int .u8 0, .int .u8 0, .bool false] 32) = W at bk br hB ⊢
  have BK := Aside0.mk bk
  have BR := Aside0.mk br
  have HB := Aside0.mk hB
  clear bk br hB
  have c0 : W.cell? ⟨w.heap.size, 0, none⟩ = some (.int .i64 1) := (blk_cell BK.out 0).trans rfl
  have c1 : W.cell? ⟨w.heap.size, 1, none⟩ = some (.bool o) := (blk_cell BK.out 1).trans rfl
  have c2 : W.cell? ⟨w.heap.size, 2, none⟩ = some (.int .u8 l) := (blk_cell BK.out 2).trans rfl
  have c3 : W.cell? ⟨w.heap.size, 3, none⟩ = some (.int .u8 h) := (blk_cell BK.out 3).trans rfl
  have c4 : W.cell? ⟨w.heap.size, 4, none⟩ = some (.int .u8 r) := (blk_cell BK.out 4).trans rfl
  have c5 : W.cell? ⟨w.heap.size, 5, none⟩ = some (.bool md) := (blk_cell BK.out 5).trans rfl
  have z0 : W.cell? ⟨w.heap.size + 1, 0, none⟩ = some (.int .i64 0) := (blk_cell BR.out 0).trans rfl
  have z1 : W.cell? ⟨w.heap.size + 1, 1, none⟩ = some (.bool false) := (blk_cell BR.out 1).trans rfl
  have z2 : W.cell? ⟨w.heap.size + 1, 2, none⟩ = some (.int .u8 0) := (blk_cell BR.out 2).trans rfl
  have z3 : W.cell? ⟨w.heap.size + 1, 3, none⟩ = some (.int .u8 0) := (blk_cell BR.out 3).trans rfl
  have z4 : W.cell? ⟨w.heap.size + 1, 4, none⟩ = some (.int .u8 0) := (blk_cell BR.out 4).trans rfl
  have z5 : W.cell? ⟨w.heap.size + 1, 5, none⟩ = some (.bool false) := (blk_cell BR.out 5).trans rfl
  have fr := fun i => blk_frozen BR.out i
  go_region_held3 (fun w' => w'.cell? ⟨w.heap.size, 0, none⟩ = some (.int .i64 1) ∧ w'.cell? ⟨w.heap.size, 1, none⟩ = some (.bool o) ∧ w'.cell? ⟨w.heap.size, 2, none⟩ = some (.int .u8 l) ∧ w'.cell? ⟨w.heap.size, 3, none⟩ = some (.int .u8 h) ∧ w'.cell? ⟨w.heap.size, 4, none⟩ = some (.int .u8 r) ∧ w'.cell? ⟨w.heap.size, 5, none⟩ = some (.bool md)) (go_keep)
    (first | (go_at_call 68; ((with_reducible refine (of1 _).mono ?_)); rintro e' w2 ⟨rfl, rfl⟩)
           | (go_at_call 98; ((with_reducible refine (write_first3 1 (IntKind.i64.wrap (a / 4096)) v o l h r md hp _).mono ?_)); rintro e' w2 ⟨rfl, hb⟩; have n0 := Aside0.mk (blk_below (blk_drew BK.out) hb); have m0 := Aside0.mk (blk_below (blk_drew BR.out) hb); have n1 := Aside0.mk (below_step (below_drew1 HB.out) hb); clear hb; have d0 : w2.cell? ⟨w.heap.size, 0, none⟩ = some (.int .i64 1) := (blk_cell n0.out 0).trans rfl; have d1 : w2.cell? ⟨w.heap.size, 1, none⟩ = some (.bool o) := (blk_cell n0.out 1).trans rfl; have d2 : w2.cell? ⟨w.heap.size, 2, none⟩ = some (.int .u8 l) := (blk_cell n0.out 2).trans rfl; have d3 : w2.cell? ⟨w.heap.size, 3, none⟩ = some (.int .u8 h) := (blk_cell n0.out 3).trans rfl; have d4 : w2.cell? ⟨w.heap.size, 4, none⟩ = some (.int .u8 r) := (blk_cell n0.out 4).trans rfl; have d5 : w2.cell? ⟨w.heap.size, 5, none⟩ = some (.bool md) := (blk_cell n0.out 5).trans rfl; have y0 : w2.cell? ⟨w.heap.size + 1, 0, none⟩ = some (.int .i64 0) := (blk_cell m0.out 0).trans rfl; have y1 : w2.cell? ⟨w.heap.size + 1, 1, none⟩ = some (.bool false) := (blk_cell m0.out 1).trans rfl; have y2 : w2.cell? ⟨w.heap.size + 1, 2, none⟩ = some (.int .u8 0) := (blk_cell m0.out 2).trans rfl; have y3 : w2.cell? ⟨w.heap.size + 1, 3, none⟩ = some (.int .u8 0) := (blk_cell m0.out 3).trans rfl; have y4 : w2.cell? ⟨w.heap.size + 1, 4, none⟩ = some (.int .u8 0) := (blk_cell m0.out 4).trans rfl; have y5 : w2.cell? ⟨w.heap.size + 1, 5, none⟩ = some (.bool false) := (blk_cell m0.out 5).trans rfl; have fy := fun i => blk_frozen m0.out i))
  rename_i hHeld
  clear hHeld
  go_wp2
  have q1 : ((((((w2.setCell ⟨w.heap.size + 1, 0, none⟩ (.int .i64 1)).setCell ⟨w.heap.size + 1, 1, none⟩ (.bool o)).setCell ⟨w.heap.size + 1, 2, none⟩ (.int .u8 l)).setCell ⟨w.heap.size + 1, 3, none⟩ (.int .u8 h)).setCell ⟨w.heap.size + 1, 4, none⟩ (.int .u8 r)).setCell ⟨w.heap.size + 1, 5, none⟩ (.bool ((Go.bits .and .u8 v 1) == 1))).heap[w.heap.size + 1]? = some (.cells #[.int .i64 1, .bool o, .int .u8 l, .int .u8 h, .int .u8 r, .bool ((Go.bits .and .u8 v 1) == 1)] 32 (0, 0)) := (blk_put (blk_put (blk_put (blk_put (blk_put (blk_put m0.out 0 _ rfl) 1 _ rfl) 2 _ rfl) 3 _ rfl) 4 _ rfl) 5 _ rfl)
  have q2 : Below w.heap.size w ((((((w2.setCell ⟨w.heap.size + 1, 0, none⟩ (.int .i64 1)).setCell ⟨w.heap.size + 1, 1, none⟩ (.bool o)).setCell ⟨w.heap.size + 1, 2, none⟩ (.int .u8 l)).setCell ⟨w.heap.size + 1, 3, none⟩ (.int .u8 h)).setCell ⟨w.heap.size + 1, 4, none⟩ (.int .u8 r)).setCell ⟨w.heap.size + 1, 5, none⟩ (.bool ((Go.bits .and .u8 v 1) == 1))) := (below_set (below_set (below_set (below_set (below_set (below_set n1.out (Nat.le_succ _)) (Nat.le_succ _)) (Nat.le_succ _)) (Nat.le_succ _)) (Nat.le_succ _)) (Nat.le_succ _))
  generalize ((((((w2.setCell ⟨w.heap.size + 1, 0, none⟩ (.int .i64 1)).setCell ⟨w.heap.size + 1, 1, none⟩ (.bool o)).setCell ⟨w.heap.size + 1, 2, none⟩ (.int .u8 l)).setCell ⟨w.heap.size + 1, 3, none⟩ (.int .u8 h)).setCell ⟨w.heap.size + 1, 4, none⟩ (.int .u8 r)).setCell ⟨w.heap.size + 1, 5, none⟩ (.bool ((Go.bits .and .u8 v 1) == 1))) = Y at q1 q2 ⊢
  have u0 : Y.cell? ⟨w.heap.size + 1, 0, none⟩ = some (.int .i64 1) := (blk_cell q1 0).trans rfl
  have u1 : Y.cell? ⟨w.heap.size + 1, 1, none⟩ = some (.bool o) := (blk_cell q1 1).trans rfl
  have u2 : Y.cell? ⟨w.heap.size + 1, 2, none⟩ = some (.int .u8 l) := (blk_cell q1 2).trans rfl
  have u3 : Y.cell? ⟨w.heap.size + 1, 3, none⟩ = some (.int .u8 h) := (blk_cell q1 3).trans rfl
  have u4 : Y.cell? ⟨w.heap.size + 1, 4, none⟩ = some (.int .u8 r) := (blk_cell q1 4).trans rfl
  have u5 : Y.cell? ⟨w.heap.size + 1, 5, none⟩ = some (.bool ((Go.bits .and .u8 v 1) == 1)) := (blk_cell q1 5).trans rfl
  exact bodyPost_ret (v := .agg #[.int .i64 1, .bool o, .int .u8 l, .int .u8 h, .int .u8 r, .bool ((Go.bits .and .u8 v 1) == 1)]) (by simp [results, Try.results41, go_sem, u0, u1, u2, u3, u4, u5]) rfl ⟨rfl, q2⟩
set_option maxRecDepth 100000 in
set_option maxHeartbeats 400000 in
theorem wr_first_no (k : Int) (o : Bool) (l h r : Int) (md : Bool) (a v : Int) (h0 : ¬ wrap64 (Int.tdiv (IntKind.i64.wrap (a / 4096)) 2) = 0) (h1 : ¬ wrap64 (Int.tdiv (IntKind.i64.wrap (a / 4096)) 2) = 1) (h2 : ¬ wrap64 (Int.tdiv (IntKind.i64.wrap (a / 4096)) 2) = 2) (h3 : ¬ wrap64 (Int.tdiv (IntKind.i64.wrap (a / 4096)) 2) = 3) (ha : ¬ a ≥ 32768) (w : World) :
    Calls Try.prog 41 #[.agg #[.int .i64 1, .bool o, .int .u8 l, .int .u8 h, .int .u8 r, .bool md], .int .u16 a, .int .u8 v] w fun e' w' => e' = .returned (.agg #[.int .i64 1, .bool o, .int .u8 l, .int .u8 h, .int .u8 r, .bool md]) ∧ Below w.heap.size w w' := by
  go_enter Try.func41, Try.ntmps41
  go_wp2
  have bk := blk_alloc (blk_new w (.cells #[.int .i64 1, .bool o, .int .u8 l, .int .u8 h, .int .u8 r, .bool md] 32)) (.cells #[.int .i64 0, .bool false, .int .u8 0, .int .u8 0, .int .u8 0, .bool false] 32)
  have br := blk_at1 w (.cells #[.int .i64 1, .bool o, .int .u8 l, .int .u8 h, .int .u8 r, .bool md] 32) (.cells #[.int .i64 0, .bool false, .int .u8 0, .int .u8 0, .int .u8 0, .bool false] 32)
  have hB := below_alloc (below_alloc (Below.refl w.heap.size w) (.cells #[.int .i64 1, .bool o, .int .u8 l, .int .u8 h, .int .u8 r, .bool md] 32)) (.cells #[.int .i64 0, .bool false, .int .u8 0, .int .u8 0, .int .u8 0, .bool false] 32)
  generalize (w.alloc (.cells #[.int .i64 1, .bool o, .int .u8 l, .int .u8 h, .int .u8 r, .bool md] 32)).alloc (.cells #[.int .i64 0, .bool false, .int .u8 0, .int .u8 0, .int .u8 0, .bool false] 32) = W at bk br hB ⊢
  have BK := Aside0.mk bk
  have BR := Aside0.mk br
  have HB := Aside0.mk hB
  clear bk br hB
  have c0 : W.cell? ⟨w.heap.size, 0, none⟩ = some (.int .i64 1) := (blk_cell BK.out 0).trans rfl
  have c1 : W.cell? ⟨w.heap.size, 1, none⟩ = some (.bool o) := (blk_cell BK.out 1).trans rfl
  have c2 : W.cell? ⟨w.heap.size, 2, none⟩ = some (.int .u8 l) := (blk_cell BK.out 2).trans rfl
  have c3 : W.cell? ⟨w.heap.size, 3, none⟩ = some (.int .u8 h) := (blk_cell BK.out 3).trans rfl
  have c4 : W.cell? ⟨w.heap.size, 4, none⟩ = some (.int .u8 r) := (blk_cell BK.out 4).trans rfl
  have c5 : W.cell? ⟨w.heap.size, 5, none⟩ = some (.bool md) := (blk_cell BK.out 5).trans rfl
  have z0 : W.cell? ⟨w.heap.size + 1, 0, none⟩ = some (.int .i64 0) := (blk_cell BR.out 0).trans rfl
  have z1 : W.cell? ⟨w.heap.size + 1, 1, none⟩ = some (.bool false) := (blk_cell BR.out 1).trans rfl
  have z2 : W.cell? ⟨w.heap.size + 1, 2, none⟩ = some (.int .u8 0) := (blk_cell BR.out 2).trans rfl
  have z3 : W.cell? ⟨w.heap.size + 1, 3, none⟩ = some (.int .u8 0) := (blk_cell BR.out 3).trans rfl
  have z4 : W.cell? ⟨w.heap.size + 1, 4, none⟩ = some (.int .u8 0) := (blk_cell BR.out 4).trans rfl
  have z5 : W.cell? ⟨w.heap.size + 1, 5, none⟩ = some (.bool false) := (blk_cell BR.out 5).trans rfl
  have fr := fun i => blk_frozen BR.out i
  go_region_held3 (fun w' => w'.cell? ⟨w.heap.size, 0, none⟩ = some (.int .i64 1) ∧ w'.cell? ⟨w.heap.size, 1, none⟩ = some (.bool o) ∧ w'.cell? ⟨w.heap.size, 2, none⟩ = some (.int .u8 l) ∧ w'.cell? ⟨w.heap.size, 3, none⟩ = some (.int .u8 h) ∧ w'.cell? ⟨w.heap.size, 4, none⟩ = some (.int .u8 r) ∧ w'.cell? ⟨w.heap.size, 5, none⟩ = some (.bool md)) (go_keep)
    (first | (go_at_call 68; ((with_reducible refine (of1 _).mono ?_)); rintro e' w2 ⟨rfl, rfl⟩)
           | (go_at_call 98; ((with_reducible refine (write_first_no 1 (IntKind.i64.wrap (a / 4096)) v o l h r md h0 h1 h2 h3 _).mono ?_)); rintro e' w2 ⟨rfl, hb⟩; have n0 := Aside0.mk (blk_below (blk_drew BK.out) hb); have m0 := Aside0.mk (blk_below (blk_drew BR.out) hb); have n1 := Aside0.mk (below_step (below_drew1 HB.out) hb); clear hb; have d0 : w2.cell? ⟨w.heap.size, 0, none⟩ = some (.int .i64 1) := (blk_cell n0.out 0).trans rfl; have d1 : w2.cell? ⟨w.heap.size, 1, none⟩ = some (.bool o) := (blk_cell n0.out 1).trans rfl; have d2 : w2.cell? ⟨w.heap.size, 2, none⟩ = some (.int .u8 l) := (blk_cell n0.out 2).trans rfl; have d3 : w2.cell? ⟨w.heap.size, 3, none⟩ = some (.int .u8 h) := (blk_cell n0.out 3).trans rfl; have d4 : w2.cell? ⟨w.heap.size, 4, none⟩ = some (.int .u8 r) := (blk_cell n0.out 4).trans rfl; have d5 : w2.cell? ⟨w.heap.size, 5, none⟩ = some (.bool md) := (blk_cell n0.out 5).trans rfl; have y0 : w2.cell? ⟨w.heap.size + 1, 0, none⟩ = some (.int .i64 0) := (blk_cell m0.out 0).trans rfl; have y1 : w2.cell? ⟨w.heap.size + 1, 1, none⟩ = some (.bool false) := (blk_cell m0.out 1).trans rfl; have y2 : w2.cell? ⟨w.heap.size + 1, 2, none⟩ = some (.int .u8 0) := (blk_cell m0.out 2).trans rfl; have y3 : w2.cell? ⟨w.heap.size + 1, 3, none⟩ = some (.int .u8 0) := (blk_cell m0.out 3).trans rfl; have y4 : w2.cell? ⟨w.heap.size + 1, 4, none⟩ = some (.int .u8 0) := (blk_cell m0.out 4).trans rfl; have y5 : w2.cell? ⟨w.heap.size + 1, 5, none⟩ = some (.bool false) := (blk_cell m0.out 5).trans rfl; have fy := fun i => blk_frozen m0.out i))
  rename_i hHeld
  clear hHeld
  go_wp2
  have q1 : ((((((w2.setCell ⟨w.heap.size + 1, 0, none⟩ (.int .i64 1)).setCell ⟨w.heap.size + 1, 1, none⟩ (.bool o)).setCell ⟨w.heap.size + 1, 2, none⟩ (.int .u8 l)).setCell ⟨w.heap.size + 1, 3, none⟩ (.int .u8 h)).setCell ⟨w.heap.size + 1, 4, none⟩ (.int .u8 r)).setCell ⟨w.heap.size + 1, 5, none⟩ (.bool md)).heap[w.heap.size + 1]? = some (.cells #[.int .i64 1, .bool o, .int .u8 l, .int .u8 h, .int .u8 r, .bool md] 32 (0, 0)) := (blk_put (blk_put (blk_put (blk_put (blk_put (blk_put m0.out 0 _ rfl) 1 _ rfl) 2 _ rfl) 3 _ rfl) 4 _ rfl) 5 _ rfl)
  have q2 : Below w.heap.size w ((((((w2.setCell ⟨w.heap.size + 1, 0, none⟩ (.int .i64 1)).setCell ⟨w.heap.size + 1, 1, none⟩ (.bool o)).setCell ⟨w.heap.size + 1, 2, none⟩ (.int .u8 l)).setCell ⟨w.heap.size + 1, 3, none⟩ (.int .u8 h)).setCell ⟨w.heap.size + 1, 4, none⟩ (.int .u8 r)).setCell ⟨w.heap.size + 1, 5, none⟩ (.bool md)) := (below_set (below_set (below_set (below_set (below_set (below_set n1.out (Nat.le_succ _)) (Nat.le_succ _)) (Nat.le_succ _)) (Nat.le_succ _)) (Nat.le_succ _)) (Nat.le_succ _))
  generalize ((((((w2.setCell ⟨w.heap.size + 1, 0, none⟩ (.int .i64 1)).setCell ⟨w.heap.size + 1, 1, none⟩ (.bool o)).setCell ⟨w.heap.size + 1, 2, none⟩ (.int .u8 l)).setCell ⟨w.heap.size + 1, 3, none⟩ (.int .u8 h)).setCell ⟨w.heap.size + 1, 4, none⟩ (.int .u8 r)).setCell ⟨w.heap.size + 1, 5, none⟩ (.bool md)) = Y at q1 q2 ⊢
  have u0 : Y.cell? ⟨w.heap.size + 1, 0, none⟩ = some (.int .i64 1) := (blk_cell q1 0).trans rfl
  have u1 : Y.cell? ⟨w.heap.size + 1, 1, none⟩ = some (.bool o) := (blk_cell q1 1).trans rfl
  have u2 : Y.cell? ⟨w.heap.size + 1, 2, none⟩ = some (.int .u8 l) := (blk_cell q1 2).trans rfl
  have u3 : Y.cell? ⟨w.heap.size + 1, 3, none⟩ = some (.int .u8 h) := (blk_cell q1 3).trans rfl
  have u4 : Y.cell? ⟨w.heap.size + 1, 4, none⟩ = some (.int .u8 r) := (blk_cell q1 4).trans rfl
  have u5 : Y.cell? ⟨w.heap.size + 1, 5, none⟩ = some (.bool md) := (blk_cell q1 5).trans rfl
  exact bodyPost_ret (v := .agg #[.int .i64 1, .bool o, .int .u8 l, .int .u8 h, .int .u8 r, .bool md]) (by simp [results, Try.results41, go_sem, u0, u1, u2, u3, u4, u5]) rfl ⟨rfl, q2⟩
set_option maxRecDepth 100000 in
set_option maxHeartbeats 400000 in
theorem wr_third0 (k : Int) (o : Bool) (l h r : Int) (md : Bool) (a v : Int) (hp : wrap64 (Int.tdiv (IntKind.i64.wrap (a / 4096)) 2) = 0) (ha : ¬ a ≥ 32768) (w : World) :
    Calls Try.prog 41 #[.agg #[.int .i64 3, .bool o, .int .u8 l, .int .u8 h, .int .u8 r, .bool md], .int .u16 a, .int .u8 v] w fun e' w' => e' = .returned (.agg #[.int .i64 3, .bool ((Go.bits .and .u8 v 15) == 10), .int .u8 l, .int .u8 h, .int .u8 r, .bool md]) ∧ Below w.heap.size w w' := by
  go_enter Try.func41, Try.ntmps41
  go_wp2
  have bk := blk_alloc (blk_new w (.cells #[.int .i64 3, .bool o, .int .u8 l, .int .u8 h, .int .u8 r, .bool md] 32)) (.cells #[.int .i64 0, .bool false, .int .u8 0, .int .u8 0, .int .u8 0, .bool false] 32)
  have br := blk_at1 w (.cells #[.int .i64 3, .bool o, .int .u8 l, .int .u8 h, .int .u8 r, .bool md] 32) (.cells #[.int .i64 0, .bool false, .int .u8 0, .int .u8 0, .int .u8 0, .bool false] 32)
  have hB := below_alloc (below_alloc (Below.refl w.heap.size w) (.cells #[.int .i64 3, .bool o, .int .u8 l, .int .u8 h, .int .u8 r, .bool md] 32)) (.cells #[.int .i64 0, .bool false, .int .u8 0, .int .u8 0, .int .u8 0, .bool false] 32)
  generalize (w.alloc (.cells #[.int .i64 3, .bool o, .int .u8 l, .int .u8 h, .int .u8 r, .bool md] 32)).alloc (.cells #[.int .i64 0, .bool false, .int .u8 0, .int .u8 0, .int .u8 0, .bool false] 32) = W at bk br hB ⊢
  have BK := Aside0.mk bk
  have BR := Aside0.mk br
  have HB := Aside0.mk hB
  clear bk br hB
  have c0 : W.cell? ⟨w.heap.size, 0, none⟩ = some (.int .i64 3) := (blk_cell BK.out 0).trans rfl
  have c1 : W.cell? ⟨w.heap.size, 1, none⟩ = some (.bool o) := (blk_cell BK.out 1).trans rfl
  have c2 : W.cell? ⟨w.heap.size, 2, none⟩ = some (.int .u8 l) := (blk_cell BK.out 2).trans rfl
  have c3 : W.cell? ⟨w.heap.size, 3, none⟩ = some (.int .u8 h) := (blk_cell BK.out 3).trans rfl
  have c4 : W.cell? ⟨w.heap.size, 4, none⟩ = some (.int .u8 r) := (blk_cell BK.out 4).trans rfl
  have c5 : W.cell? ⟨w.heap.size, 5, none⟩ = some (.bool md) := (blk_cell BK.out 5).trans rfl
  have z0 : W.cell? ⟨w.heap.size + 1, 0, none⟩ = some (.int .i64 0) := (blk_cell BR.out 0).trans rfl
  have z1 : W.cell? ⟨w.heap.size + 1, 1, none⟩ = some (.bool false) := (blk_cell BR.out 1).trans rfl
  have z2 : W.cell? ⟨w.heap.size + 1, 2, none⟩ = some (.int .u8 0) := (blk_cell BR.out 2).trans rfl
  have z3 : W.cell? ⟨w.heap.size + 1, 3, none⟩ = some (.int .u8 0) := (blk_cell BR.out 3).trans rfl
  have z4 : W.cell? ⟨w.heap.size + 1, 4, none⟩ = some (.int .u8 0) := (blk_cell BR.out 4).trans rfl
  have z5 : W.cell? ⟨w.heap.size + 1, 5, none⟩ = some (.bool false) := (blk_cell BR.out 5).trans rfl
  have fr := fun i => blk_frozen BR.out i
  go_region_held3 (fun w' => w'.cell? ⟨w.heap.size, 0, none⟩ = some (.int .i64 3) ∧ w'.cell? ⟨w.heap.size, 1, none⟩ = some (.bool o) ∧ w'.cell? ⟨w.heap.size, 2, none⟩ = some (.int .u8 l) ∧ w'.cell? ⟨w.heap.size, 3, none⟩ = some (.int .u8 h) ∧ w'.cell? ⟨w.heap.size, 4, none⟩ = some (.int .u8 r) ∧ w'.cell? ⟨w.heap.size, 5, none⟩ = some (.bool md)) (go_keep)
    (first | (go_at_call 68; ((with_reducible refine (of3 _).mono ?_)); rintro e' w2 ⟨rfl, rfl⟩)
           | (go_at_call 104; ((with_reducible refine (write_third0 3 (IntKind.i64.wrap (a / 4096)) v o l h r md hp _).mono ?_)); rintro e' w2 ⟨rfl, hb⟩; have n0 := Aside0.mk (blk_below (blk_drew BK.out) hb); have m0 := Aside0.mk (blk_below (blk_drew BR.out) hb); have n1 := Aside0.mk (below_step (below_drew1 HB.out) hb); clear hb; have d0 : w2.cell? ⟨w.heap.size, 0, none⟩ = some (.int .i64 3) := (blk_cell n0.out 0).trans rfl; have d1 : w2.cell? ⟨w.heap.size, 1, none⟩ = some (.bool o) := (blk_cell n0.out 1).trans rfl; have d2 : w2.cell? ⟨w.heap.size, 2, none⟩ = some (.int .u8 l) := (blk_cell n0.out 2).trans rfl; have d3 : w2.cell? ⟨w.heap.size, 3, none⟩ = some (.int .u8 h) := (blk_cell n0.out 3).trans rfl; have d4 : w2.cell? ⟨w.heap.size, 4, none⟩ = some (.int .u8 r) := (blk_cell n0.out 4).trans rfl; have d5 : w2.cell? ⟨w.heap.size, 5, none⟩ = some (.bool md) := (blk_cell n0.out 5).trans rfl; have y0 : w2.cell? ⟨w.heap.size + 1, 0, none⟩ = some (.int .i64 0) := (blk_cell m0.out 0).trans rfl; have y1 : w2.cell? ⟨w.heap.size + 1, 1, none⟩ = some (.bool false) := (blk_cell m0.out 1).trans rfl; have y2 : w2.cell? ⟨w.heap.size + 1, 2, none⟩ = some (.int .u8 0) := (blk_cell m0.out 2).trans rfl; have y3 : w2.cell? ⟨w.heap.size + 1, 3, none⟩ = some (.int .u8 0) := (blk_cell m0.out 3).trans rfl; have y4 : w2.cell? ⟨w.heap.size + 1, 4, none⟩ = some (.int .u8 0) := (blk_cell m0.out 4).trans rfl; have y5 : w2.cell? ⟨w.heap.size + 1, 5, none⟩ = some (.bool false) := (blk_cell m0.out 5).trans rfl; have fy := fun i => blk_frozen m0.out i))
  rename_i hHeld
  clear hHeld
  go_wp2
  have q1 : ((((((w2.setCell ⟨w.heap.size + 1, 0, none⟩ (.int .i64 3)).setCell ⟨w.heap.size + 1, 1, none⟩ (.bool ((Go.bits .and .u8 v 15) == 10))).setCell ⟨w.heap.size + 1, 2, none⟩ (.int .u8 l)).setCell ⟨w.heap.size + 1, 3, none⟩ (.int .u8 h)).setCell ⟨w.heap.size + 1, 4, none⟩ (.int .u8 r)).setCell ⟨w.heap.size + 1, 5, none⟩ (.bool md)).heap[w.heap.size + 1]? = some (.cells #[.int .i64 3, .bool ((Go.bits .and .u8 v 15) == 10), .int .u8 l, .int .u8 h, .int .u8 r, .bool md] 32 (0, 0)) := (blk_put (blk_put (blk_put (blk_put (blk_put (blk_put m0.out 0 _ rfl) 1 _ rfl) 2 _ rfl) 3 _ rfl) 4 _ rfl) 5 _ rfl)
  have q2 : Below w.heap.size w ((((((w2.setCell ⟨w.heap.size + 1, 0, none⟩ (.int .i64 3)).setCell ⟨w.heap.size + 1, 1, none⟩ (.bool ((Go.bits .and .u8 v 15) == 10))).setCell ⟨w.heap.size + 1, 2, none⟩ (.int .u8 l)).setCell ⟨w.heap.size + 1, 3, none⟩ (.int .u8 h)).setCell ⟨w.heap.size + 1, 4, none⟩ (.int .u8 r)).setCell ⟨w.heap.size + 1, 5, none⟩ (.bool md)) := (below_set (below_set (below_set (below_set (below_set (below_set n1.out (Nat.le_succ _)) (Nat.le_succ _)) (Nat.le_succ _)) (Nat.le_succ _)) (Nat.le_succ _)) (Nat.le_succ _))
  generalize ((((((w2.setCell ⟨w.heap.size + 1, 0, none⟩ (.int .i64 3)).setCell ⟨w.heap.size + 1, 1, none⟩ (.bool ((Go.bits .and .u8 v 15) == 10))).setCell ⟨w.heap.size + 1, 2, none⟩ (.int .u8 l)).setCell ⟨w.heap.size + 1, 3, none⟩ (.int .u8 h)).setCell ⟨w.heap.size + 1, 4, none⟩ (.int .u8 r)).setCell ⟨w.heap.size + 1, 5, none⟩ (.bool md)) = Y at q1 q2 ⊢
  have u0 : Y.cell? ⟨w.heap.size + 1, 0, none⟩ = some (.int .i64 3) := (blk_cell q1 0).trans rfl
  have u1 : Y.cell? ⟨w.heap.size + 1, 1, none⟩ = some (.bool ((Go.bits .and .u8 v 15) == 10)) := (blk_cell q1 1).trans rfl
  have u2 : Y.cell? ⟨w.heap.size + 1, 2, none⟩ = some (.int .u8 l) := (blk_cell q1 2).trans rfl
  have u3 : Y.cell? ⟨w.heap.size + 1, 3, none⟩ = some (.int .u8 h) := (blk_cell q1 3).trans rfl
  have u4 : Y.cell? ⟨w.heap.size + 1, 4, none⟩ = some (.int .u8 r) := (blk_cell q1 4).trans rfl
  have u5 : Y.cell? ⟨w.heap.size + 1, 5, none⟩ = some (.bool md) := (blk_cell q1 5).trans rfl
  exact bodyPost_ret (v := .agg #[.int .i64 3, .bool ((Go.bits .and .u8 v 15) == 10), .int .u8 l, .int .u8 h, .int .u8 r, .bool md]) (by simp [results, Try.results41, go_sem, u0, u1, u2, u3, u4, u5]) rfl ⟨rfl, q2⟩
set_option maxRecDepth 100000 in
set_option maxHeartbeats 400000 in
theorem wr_third1 (k : Int) (o : Bool) (l h r : Int) (md : Bool) (a v : Int) (hp : wrap64 (Int.tdiv (IntKind.i64.wrap (a / 4096)) 2) = 1) (ha : ¬ a ≥ 32768) (w : World) :
    Calls Try.prog 41 #[.agg #[.int .i64 3, .bool o, .int .u8 l, .int .u8 h, .int .u8 r, .bool md], .int .u16 a, .int .u8 v] w fun e' w' => e' = .returned (.agg #[.int .i64 3, .bool o, .int .u8 (Go.bits .and .u8 v 127), .int .u8 h, .int .u8 r, .bool md]) ∧ Below w.heap.size w w' := by
  go_enter Try.func41, Try.ntmps41
  go_wp2
  have bk := blk_alloc (blk_new w (.cells #[.int .i64 3, .bool o, .int .u8 l, .int .u8 h, .int .u8 r, .bool md] 32)) (.cells #[.int .i64 0, .bool false, .int .u8 0, .int .u8 0, .int .u8 0, .bool false] 32)
  have br := blk_at1 w (.cells #[.int .i64 3, .bool o, .int .u8 l, .int .u8 h, .int .u8 r, .bool md] 32) (.cells #[.int .i64 0, .bool false, .int .u8 0, .int .u8 0, .int .u8 0, .bool false] 32)
  have hB := below_alloc (below_alloc (Below.refl w.heap.size w) (.cells #[.int .i64 3, .bool o, .int .u8 l, .int .u8 h, .int .u8 r, .bool md] 32)) (.cells #[.int .i64 0, .bool false, .int .u8 0, .int .u8 0, .int .u8 0, .bool false] 32)
  generalize (w.alloc (.cells #[.int .i64 3, .bool o, .int .u8 l, .int .u8 h, .int .u8 r, .bool md] 32)).alloc (.cells #[.int .i64 0, .bool false, .int .u8 0, .int .u8 0, .int .u8 0, .bool false] 32) = W at bk br hB ⊢
  have BK := Aside0.mk bk
  have BR := Aside0.mk br
  have HB := Aside0.mk hB
  clear bk br hB
  have c0 : W.cell? ⟨w.heap.size, 0, none⟩ = some (.int .i64 3) := (blk_cell BK.out 0).trans rfl
  have c1 : W.cell? ⟨w.heap.size, 1, none⟩ = some (.bool o) := (blk_cell BK.out 1).trans rfl
  have c2 : W.cell? ⟨w.heap.size, 2, none⟩ = some (.int .u8 l) := (blk_cell BK.out 2).trans rfl
  have c3 : W.cell? ⟨w.heap.size, 3, none⟩ = some (.int .u8 h) := (blk_cell BK.out 3).trans rfl
  have c4 : W.cell? ⟨w.heap.size, 4, none⟩ = some (.int .u8 r) := (blk_cell BK.out 4).trans rfl
  have c5 : W.cell? ⟨w.heap.size, 5, none⟩ = some (.bool md) := (blk_cell BK.out 5).trans rfl
  have z0 : W.cell? ⟨w.heap.size + 1, 0, none⟩ = some (.int .i64 0) := (blk_cell BR.out 0).trans rfl
  have z1 : W.cell? ⟨w.heap.size + 1, 1, none⟩ = some (.bool false) := (blk_cell BR.out 1).trans rfl
  have z2 : W.cell? ⟨w.heap.size + 1, 2, none⟩ = some (.int .u8 0) := (blk_cell BR.out 2).trans rfl
  have z3 : W.cell? ⟨w.heap.size + 1, 3, none⟩ = some (.int .u8 0) := (blk_cell BR.out 3).trans rfl
  have z4 : W.cell? ⟨w.heap.size + 1, 4, none⟩ = some (.int .u8 0) := (blk_cell BR.out 4).trans rfl
  have z5 : W.cell? ⟨w.heap.size + 1, 5, none⟩ = some (.bool false) := (blk_cell BR.out 5).trans rfl
  have fr := fun i => blk_frozen BR.out i
  go_region_held3 (fun w' => w'.cell? ⟨w.heap.size, 0, none⟩ = some (.int .i64 3) ∧ w'.cell? ⟨w.heap.size, 1, none⟩ = some (.bool o) ∧ w'.cell? ⟨w.heap.size, 2, none⟩ = some (.int .u8 l) ∧ w'.cell? ⟨w.heap.size, 3, none⟩ = some (.int .u8 h) ∧ w'.cell? ⟨w.heap.size, 4, none⟩ = some (.int .u8 r) ∧ w'.cell? ⟨w.heap.size, 5, none⟩ = some (.bool md)) (go_keep)
    (first | (go_at_call 68; ((with_reducible refine (of3 _).mono ?_)); rintro e' w2 ⟨rfl, rfl⟩)
           | (go_at_call 104; ((with_reducible refine (write_third1 3 (IntKind.i64.wrap (a / 4096)) v o l h r md hp _).mono ?_)); rintro e' w2 ⟨rfl, hb⟩; have n0 := Aside0.mk (blk_below (blk_drew BK.out) hb); have m0 := Aside0.mk (blk_below (blk_drew BR.out) hb); have n1 := Aside0.mk (below_step (below_drew1 HB.out) hb); clear hb; have d0 : w2.cell? ⟨w.heap.size, 0, none⟩ = some (.int .i64 3) := (blk_cell n0.out 0).trans rfl; have d1 : w2.cell? ⟨w.heap.size, 1, none⟩ = some (.bool o) := (blk_cell n0.out 1).trans rfl; have d2 : w2.cell? ⟨w.heap.size, 2, none⟩ = some (.int .u8 l) := (blk_cell n0.out 2).trans rfl; have d3 : w2.cell? ⟨w.heap.size, 3, none⟩ = some (.int .u8 h) := (blk_cell n0.out 3).trans rfl; have d4 : w2.cell? ⟨w.heap.size, 4, none⟩ = some (.int .u8 r) := (blk_cell n0.out 4).trans rfl; have d5 : w2.cell? ⟨w.heap.size, 5, none⟩ = some (.bool md) := (blk_cell n0.out 5).trans rfl; have y0 : w2.cell? ⟨w.heap.size + 1, 0, none⟩ = some (.int .i64 0) := (blk_cell m0.out 0).trans rfl; have y1 : w2.cell? ⟨w.heap.size + 1, 1, none⟩ = some (.bool false) := (blk_cell m0.out 1).trans rfl; have y2 : w2.cell? ⟨w.heap.size + 1, 2, none⟩ = some (.int .u8 0) := (blk_cell m0.out 2).trans rfl; have y3 : w2.cell? ⟨w.heap.size + 1, 3, none⟩ = some (.int .u8 0) := (blk_cell m0.out 3).trans rfl; have y4 : w2.cell? ⟨w.heap.size + 1, 4, none⟩ = some (.int .u8 0) := (blk_cell m0.out 4).trans rfl; have y5 : w2.cell? ⟨w.heap.size + 1, 5, none⟩ = some (.bool false) := (blk_cell m0.out 5).trans rfl; have fy := fun i => blk_frozen m0.out i))
  rename_i hHeld
  clear hHeld
  go_wp2
  have q1 : ((((((w2.setCell ⟨w.heap.size + 1, 0, none⟩ (.int .i64 3)).setCell ⟨w.heap.size + 1, 1, none⟩ (.bool o)).setCell ⟨w.heap.size + 1, 2, none⟩ (.int .u8 (Go.bits .and .u8 v 127))).setCell ⟨w.heap.size + 1, 3, none⟩ (.int .u8 h)).setCell ⟨w.heap.size + 1, 4, none⟩ (.int .u8 r)).setCell ⟨w.heap.size + 1, 5, none⟩ (.bool md)).heap[w.heap.size + 1]? = some (.cells #[.int .i64 3, .bool o, .int .u8 (Go.bits .and .u8 v 127), .int .u8 h, .int .u8 r, .bool md] 32 (0, 0)) := (blk_put (blk_put (blk_put (blk_put (blk_put (blk_put m0.out 0 _ rfl) 1 _ rfl) 2 _ rfl) 3 _ rfl) 4 _ rfl) 5 _ rfl)
  have q2 : Below w.heap.size w ((((((w2.setCell ⟨w.heap.size + 1, 0, none⟩ (.int .i64 3)).setCell ⟨w.heap.size + 1, 1, none⟩ (.bool o)).setCell ⟨w.heap.size + 1, 2, none⟩ (.int .u8 (Go.bits .and .u8 v 127))).setCell ⟨w.heap.size + 1, 3, none⟩ (.int .u8 h)).setCell ⟨w.heap.size + 1, 4, none⟩ (.int .u8 r)).setCell ⟨w.heap.size + 1, 5, none⟩ (.bool md)) := (below_set (below_set (below_set (below_set (below_set (below_set n1.out (Nat.le_succ _)) (Nat.le_succ _)) (Nat.le_succ _)) (Nat.le_succ _)) (Nat.le_succ _)) (Nat.le_succ _))
  generalize ((((((w2.setCell ⟨w.heap.size + 1, 0, none⟩ (.int .i64 3)).setCell ⟨w.heap.size + 1, 1, none⟩ (.bool o)).setCell ⟨w.heap.size + 1, 2, none⟩ (.int .u8 (Go.bits .and .u8 v 127))).setCell ⟨w.heap.size + 1, 3, none⟩ (.int .u8 h)).setCell ⟨w.heap.size + 1, 4, none⟩ (.int .u8 r)).setCell ⟨w.heap.size + 1, 5, none⟩ (.bool md)) = Y at q1 q2 ⊢
  have u0 : Y.cell? ⟨w.heap.size + 1, 0, none⟩ = some (.int .i64 3) := (blk_cell q1 0).trans rfl
  have u1 : Y.cell? ⟨w.heap.size + 1, 1, none⟩ = some (.bool o) := (blk_cell q1 1).trans rfl
  have u2 : Y.cell? ⟨w.heap.size + 1, 2, none⟩ = some (.int .u8 (Go.bits .and .u8 v 127)) := (blk_cell q1 2).trans rfl
  have u3 : Y.cell? ⟨w.heap.size + 1, 3, none⟩ = some (.int .u8 h) := (blk_cell q1 3).trans rfl
  have u4 : Y.cell? ⟨w.heap.size + 1, 4, none⟩ = some (.int .u8 r) := (blk_cell q1 4).trans rfl
  have u5 : Y.cell? ⟨w.heap.size + 1, 5, none⟩ = some (.bool md) := (blk_cell q1 5).trans rfl
  exact bodyPost_ret (v := .agg #[.int .i64 3, .bool o, .int .u8 (Go.bits .and .u8 v 127), .int .u8 h, .int .u8 r, .bool md]) (by simp [results, Try.results41, go_sem, u0, u1, u2, u3, u4, u5]) rfl ⟨rfl, q2⟩
set_option maxRecDepth 100000 in
set_option maxHeartbeats 400000 in
theorem wr_third2 (k : Int) (o : Bool) (l h r : Int) (md : Bool) (a v : Int) (hp : wrap64 (Int.tdiv (IntKind.i64.wrap (a / 4096)) 2) = 2) (ha : ¬ a ≥ 32768) (w : World) :
    Calls Try.prog 41 #[.agg #[.int .i64 3, .bool o, .int .u8 l, .int .u8 h, .int .u8 r, .bool md], .int .u16 a, .int .u8 v] w fun e' w' => e' = .returned (.agg #[.int .i64 3, .bool o, .int .u8 l, .int .u8 h, .int .u8 (Go.bits .and .u8 v 15), .bool md]) ∧ Below w.heap.size w w' := by
  go_enter Try.func41, Try.ntmps41
  go_wp2
  have bk := blk_alloc (blk_new w (.cells #[.int .i64 3, .bool o, .int .u8 l, .int .u8 h, .int .u8 r, .bool md] 32)) (.cells #[.int .i64 0, .bool false, .int .u8 0, .int .u8 0, .int .u8 0, .bool false] 32)
  have br := blk_at1 w (.cells #[.int .i64 3, .bool o, .int .u8 l, .int .u8 h, .int .u8 r, .bool md] 32) (.cells #[.int .i64 0, .bool false, .int .u8 0, .int .u8 0, .int .u8 0, .bool false] 32)
  have hB := below_alloc (below_alloc (Below.refl w.heap.size w) (.cells #[.int .i64 3, .bool o, .int .u8 l, .int .u8 h, .int .u8 r, .bool md] 32)) (.cells #[.int .i64 0, .bool false, .int .u8 0, .int .u8 0, .int .u8 0, .bool false] 32)
  generalize (w.alloc (.cells #[.int .i64 3, .bool o, .int .u8 l, .int .u8 h, .int .u8 r, .bool md] 32)).alloc (.cells #[.int .i64 0, .bool false, .int .u8 0, .int .u8 0, .int .u8 0, .bool false] 32) = W at bk br hB ⊢
  have BK := Aside0.mk bk
  have BR := Aside0.mk br
  have HB := Aside0.mk hB
  clear bk br hB
  have c0 : W.cell? ⟨w.heap.size, 0, none⟩ = some (.int .i64 3) := (blk_cell BK.out 0).trans rfl
  have c1 : W.cell? ⟨w.heap.size, 1, none⟩ = some (.bool o) := (blk_cell BK.out 1).trans rfl
  have c2 : W.cell? ⟨w.heap.size, 2, none⟩ = some (.int .u8 l) := (blk_cell BK.out 2).trans rfl
  have c3 : W.cell? ⟨w.heap.size, 3, none⟩ = some (.int .u8 h) := (blk_cell BK.out 3).trans rfl
  have c4 : W.cell? ⟨w.heap.size, 4, none⟩ = some (.int .u8 r) := (blk_cell BK.out 4).trans rfl
  have c5 : W.cell? ⟨w.heap.size, 5, none⟩ = some (.bool md) := (blk_cell BK.out 5).trans rfl
  have z0 : W.cell? ⟨w.heap.size + 1, 0, none⟩ = some (.int .i64 0) := (blk_cell BR.out 0).trans rfl
  have z1 : W.cell? ⟨w.heap.size + 1, 1, none⟩ = some (.bool false) := (blk_cell BR.out 1).trans rfl
  have z2 : W.cell? ⟨w.heap.size + 1, 2, none⟩ = some (.int .u8 0) := (blk_cell BR.out 2).trans rfl
  have z3 : W.cell? ⟨w.heap.size + 1, 3, none⟩ = some (.int .u8 0) := (blk_cell BR.out 3).trans rfl
  have z4 : W.cell? ⟨w.heap.size + 1, 4, none⟩ = some (.int .u8 0) := (blk_cell BR.out 4).trans rfl
  have z5 : W.cell? ⟨w.heap.size + 1, 5, none⟩ = some (.bool false) := (blk_cell BR.out 5).trans rfl
  have fr := fun i => blk_frozen BR.out i
  go_region_held3 (fun w' => w'.cell? ⟨w.heap.size, 0, none⟩ = some (.int .i64 3) ∧ w'.cell? ⟨w.heap.size, 1, none⟩ = some (.bool o) ∧ w'.cell? ⟨w.heap.size, 2, none⟩ = some (.int .u8 l) ∧ w'.cell? ⟨w.heap.size, 3, none⟩ = some (.int .u8 h) ∧ w'.cell? ⟨w.heap.size, 4, none⟩ = some (.int .u8 r) ∧ w'.cell? ⟨w.heap.size, 5, none⟩ = some (.bool md)) (go_keep)
    (first | (go_at_call 68; ((with_reducible refine (of3 _).mono ?_)); rintro e' w2 ⟨rfl, rfl⟩)
           | (go_at_call 104; ((with_reducible refine (write_third2 3 (IntKind.i64.wrap (a / 4096)) v o l h r md hp _).mono ?_)); rintro e' w2 ⟨rfl, hb⟩; have n0 := Aside0.mk (blk_below (blk_drew BK.out) hb); have m0 := Aside0.mk (blk_below (blk_drew BR.out) hb); have n1 := Aside0.mk (below_step (below_drew1 HB.out) hb); clear hb; have d0 : w2.cell? ⟨w.heap.size, 0, none⟩ = some (.int .i64 3) := (blk_cell n0.out 0).trans rfl; have d1 : w2.cell? ⟨w.heap.size, 1, none⟩ = some (.bool o) := (blk_cell n0.out 1).trans rfl; have d2 : w2.cell? ⟨w.heap.size, 2, none⟩ = some (.int .u8 l) := (blk_cell n0.out 2).trans rfl; have d3 : w2.cell? ⟨w.heap.size, 3, none⟩ = some (.int .u8 h) := (blk_cell n0.out 3).trans rfl; have d4 : w2.cell? ⟨w.heap.size, 4, none⟩ = some (.int .u8 r) := (blk_cell n0.out 4).trans rfl; have d5 : w2.cell? ⟨w.heap.size, 5, none⟩ = some (.bool md) := (blk_cell n0.out 5).trans rfl; have y0 : w2.cell? ⟨w.heap.size + 1, 0, none⟩ = some (.int .i64 0) := (blk_cell m0.out 0).trans rfl; have y1 : w2.cell? ⟨w.heap.size + 1, 1, none⟩ = some (.bool false) := (blk_cell m0.out 1).trans rfl; have y2 : w2.cell? ⟨w.heap.size + 1, 2, none⟩ = some (.int .u8 0) := (blk_cell m0.out 2).trans rfl; have y3 : w2.cell? ⟨w.heap.size + 1, 3, none⟩ = some (.int .u8 0) := (blk_cell m0.out 3).trans rfl; have y4 : w2.cell? ⟨w.heap.size + 1, 4, none⟩ = some (.int .u8 0) := (blk_cell m0.out 4).trans rfl; have y5 : w2.cell? ⟨w.heap.size + 1, 5, none⟩ = some (.bool false) := (blk_cell m0.out 5).trans rfl; have fy := fun i => blk_frozen m0.out i))
  rename_i hHeld
  clear hHeld
  go_wp2
  have q1 : ((((((w2.setCell ⟨w.heap.size + 1, 0, none⟩ (.int .i64 3)).setCell ⟨w.heap.size + 1, 1, none⟩ (.bool o)).setCell ⟨w.heap.size + 1, 2, none⟩ (.int .u8 l)).setCell ⟨w.heap.size + 1, 3, none⟩ (.int .u8 h)).setCell ⟨w.heap.size + 1, 4, none⟩ (.int .u8 (Go.bits .and .u8 v 15))).setCell ⟨w.heap.size + 1, 5, none⟩ (.bool md)).heap[w.heap.size + 1]? = some (.cells #[.int .i64 3, .bool o, .int .u8 l, .int .u8 h, .int .u8 (Go.bits .and .u8 v 15), .bool md] 32 (0, 0)) := (blk_put (blk_put (blk_put (blk_put (blk_put (blk_put m0.out 0 _ rfl) 1 _ rfl) 2 _ rfl) 3 _ rfl) 4 _ rfl) 5 _ rfl)
  have q2 : Below w.heap.size w ((((((w2.setCell ⟨w.heap.size + 1, 0, none⟩ (.int .i64 3)).setCell ⟨w.heap.size + 1, 1, none⟩ (.bool o)).setCell ⟨w.heap.size + 1, 2, none⟩ (.int .u8 l)).setCell ⟨w.heap.size + 1, 3, none⟩ (.int .u8 h)).setCell ⟨w.heap.size + 1, 4, none⟩ (.int .u8 (Go.bits .and .u8 v 15))).setCell ⟨w.heap.size + 1, 5, none⟩ (.bool md)) := (below_set (below_set (below_set (below_set (below_set (below_set n1.out (Nat.le_succ _)) (Nat.le_succ _)) (Nat.le_succ _)) (Nat.le_succ _)) (Nat.le_succ _)) (Nat.le_succ _))
  generalize ((((((w2.setCell ⟨w.heap.size + 1, 0, none⟩ (.int .i64 3)).setCell ⟨w.heap.size + 1, 1, none⟩ (.bool o)).setCell ⟨w.heap.size + 1, 2, none⟩ (.int .u8 l)).setCell ⟨w.heap.size + 1, 3, none⟩ (.int .u8 h)).setCell ⟨w.heap.size + 1, 4, none⟩ (.int .u8 (Go.bits .and .u8 v 15))).setCell ⟨w.heap.size + 1, 5, none⟩ (.bool md)) = Y at q1 q2 ⊢
  have u0 : Y.cell? ⟨w.heap.size + 1, 0, none⟩ = some (.int .i64 3) := (blk_cell q1 0).trans rfl
  have u1 : Y.cell? ⟨w.heap.size + 1, 1, none⟩ = some (.bool o) := (blk_cell q1 1).trans rfl
  have u2 : Y.cell? ⟨w.heap.size + 1, 2, none⟩ = some (.int .u8 l) := (blk_cell q1 2).trans rfl
  have u3 : Y.cell? ⟨w.heap.size + 1, 3, none⟩ = some (.int .u8 h) := (blk_cell q1 3).trans rfl
  have u4 : Y.cell? ⟨w.heap.size + 1, 4, none⟩ = some (.int .u8 (Go.bits .and .u8 v 15)) := (blk_cell q1 4).trans rfl
  have u5 : Y.cell? ⟨w.heap.size + 1, 5, none⟩ = some (.bool md) := (blk_cell q1 5).trans rfl
  exact bodyPost_ret (v := .agg #[.int .i64 3, .bool o, .int .u8 l, .int .u8 h, .int .u8 (Go.bits .and .u8 v 15), .bool md]) (by simp [results, Try.results41, go_sem, u0, u1, u2, u3, u4, u5]) rfl ⟨rfl, q2⟩
set_option maxRecDepth 100000 in
set_option maxHeartbeats 400000 in
theorem wr_third_no (k : Int) (o : Bool) (l h r : Int) (md : Bool) (a v : Int) (h0 : ¬ wrap64 (Int.tdiv (IntKind.i64.wrap (a / 4096)) 2) = 0) (h1 : ¬ wrap64 (Int.tdiv (IntKind.i64.wrap (a / 4096)) 2) = 1) (h2 : ¬ wrap64 (Int.tdiv (IntKind.i64.wrap (a / 4096)) 2) = 2) (ha : ¬ a ≥ 32768) (w : World) :
    Calls Try.prog 41 #[.agg #[.int .i64 3, .bool o, .int .u8 l, .int .u8 h, .int .u8 r, .bool md], .int .u16 a, .int .u8 v] w fun e' w' => e' = .returned (.agg #[.int .i64 3, .bool o, .int .u8 l, .int .u8 h, .int .u8 r, .bool md]) ∧ Below w.heap.size w w' := by
  go_enter Try.func41, Try.ntmps41
  go_wp2
  have bk := blk_alloc (blk_new w (.cells #[.int .i64 3, .bool o, .int .u8 l, .int .u8 h, .int .u8 r, .bool md] 32)) (.cells #[.int .i64 0, .bool false, .int .u8 0, .int .u8 0, .int .u8 0, .bool false] 32)
  have br := blk_at1 w (.cells #[.int .i64 3, .bool o, .int .u8 l, .int .u8 h, .int .u8 r, .bool md] 32) (.cells #[.int .i64 0, .bool false, .int .u8 0, .int .u8 0, .int .u8 0, .bool false] 32)
  have hB := below_alloc (below_alloc (Below.refl w.heap.size w) (.cells #[.int .i64 3, .bool o, .int .u8 l, .int .u8 h, .int .u8 r, .bool md] 32)) (.cells #[.int .i64 0, .bool false, .int .u8 0, .int .u8 0, .int .u8 0, .bool false] 32)
  generalize (w.alloc (.cells #[.int .i64 3, .bool o, .int .u8 l, .int .u8 h, .int .u8 r, .bool md] 32)).alloc (.cells #[.int .i64 0, .bool false, .int .u8 0, .int .u8 0, .int .u8 0, .bool false] 32) = W at bk br hB ⊢
  have BK := Aside0.mk bk
  have BR := Aside0.mk br
  have HB := Aside0.mk hB
  clear bk br hB
  have c0 : W.cell? ⟨w.heap.size, 0, none⟩ = some (.int .i64 3) := (blk_cell BK.out 0).trans rfl
  have c1 : W.cell? ⟨w.heap.size, 1, none⟩ = some (.bool o) := (blk_cell BK.out 1).trans rfl
  have c2 : W.cell? ⟨w.heap.size, 2, none⟩ = some (.int .u8 l) := (blk_cell BK.out 2).trans rfl
  have c3 : W.cell? ⟨w.heap.size, 3, none⟩ = some (.int .u8 h) := (blk_cell BK.out 3).trans rfl
  have c4 : W.cell? ⟨w.heap.size, 4, none⟩ = some (.int .u8 r) := (blk_cell BK.out 4).trans rfl
  have c5 : W.cell? ⟨w.heap.size, 5, none⟩ = some (.bool md) := (blk_cell BK.out 5).trans rfl
  have z0 : W.cell? ⟨w.heap.size + 1, 0, none⟩ = some (.int .i64 0) := (blk_cell BR.out 0).trans rfl
  have z1 : W.cell? ⟨w.heap.size + 1, 1, none⟩ = some (.bool false) := (blk_cell BR.out 1).trans rfl
  have z2 : W.cell? ⟨w.heap.size + 1, 2, none⟩ = some (.int .u8 0) := (blk_cell BR.out 2).trans rfl
  have z3 : W.cell? ⟨w.heap.size + 1, 3, none⟩ = some (.int .u8 0) := (blk_cell BR.out 3).trans rfl
  have z4 : W.cell? ⟨w.heap.size + 1, 4, none⟩ = some (.int .u8 0) := (blk_cell BR.out 4).trans rfl
  have z5 : W.cell? ⟨w.heap.size + 1, 5, none⟩ = some (.bool false) := (blk_cell BR.out 5).trans rfl
  have fr := fun i => blk_frozen BR.out i
  go_region_held3 (fun w' => w'.cell? ⟨w.heap.size, 0, none⟩ = some (.int .i64 3) ∧ w'.cell? ⟨w.heap.size, 1, none⟩ = some (.bool o) ∧ w'.cell? ⟨w.heap.size, 2, none⟩ = some (.int .u8 l) ∧ w'.cell? ⟨w.heap.size, 3, none⟩ = some (.int .u8 h) ∧ w'.cell? ⟨w.heap.size, 4, none⟩ = some (.int .u8 r) ∧ w'.cell? ⟨w.heap.size, 5, none⟩ = some (.bool md)) (go_keep)
    (first | (go_at_call 68; ((with_reducible refine (of3 _).mono ?_)); rintro e' w2 ⟨rfl, rfl⟩)
           | (go_at_call 104; ((with_reducible refine (write_third_no 3 (IntKind.i64.wrap (a / 4096)) v o l h r md h0 h1 h2 _).mono ?_)); rintro e' w2 ⟨rfl, hb⟩; have n0 := Aside0.mk (blk_below (blk_drew BK.out) hb); have m0 := Aside0.mk (blk_below (blk_drew BR.out) hb); have n1 := Aside0.mk (below_step (below_drew1 HB.out) hb); clear hb; have d0 : w2.cell? ⟨w.heap.size, 0, none⟩ = some (.int .i64 3) := (blk_cell n0.out 0).trans rfl; have d1 : w2.cell? ⟨w.heap.size, 1, none⟩ = some (.bool o) := (blk_cell n0.out 1).trans rfl; have d2 : w2.cell? ⟨w.heap.size, 2, none⟩ = some (.int .u8 l) := (blk_cell n0.out 2).trans rfl; have d3 : w2.cell? ⟨w.heap.size, 3, none⟩ = some (.int .u8 h) := (blk_cell n0.out 3).trans rfl; have d4 : w2.cell? ⟨w.heap.size, 4, none⟩ = some (.int .u8 r) := (blk_cell n0.out 4).trans rfl; have d5 : w2.cell? ⟨w.heap.size, 5, none⟩ = some (.bool md) := (blk_cell n0.out 5).trans rfl; have y0 : w2.cell? ⟨w.heap.size + 1, 0, none⟩ = some (.int .i64 0) := (blk_cell m0.out 0).trans rfl; have y1 : w2.cell? ⟨w.heap.size + 1, 1, none⟩ = some (.bool false) := (blk_cell m0.out 1).trans rfl; have y2 : w2.cell? ⟨w.heap.size + 1, 2, none⟩ = some (.int .u8 0) := (blk_cell m0.out 2).trans rfl; have y3 : w2.cell? ⟨w.heap.size + 1, 3, none⟩ = some (.int .u8 0) := (blk_cell m0.out 3).trans rfl; have y4 : w2.cell? ⟨w.heap.size + 1, 4, none⟩ = some (.int .u8 0) := (blk_cell m0.out 4).trans rfl; have y5 : w2.cell? ⟨w.heap.size + 1, 5, none⟩ = some (.bool false) := (blk_cell m0.out 5).trans rfl; have fy := fun i => blk_frozen m0.out i))
  rename_i hHeld
  clear hHeld
  go_wp2
  have q1 : ((((((w2.setCell ⟨w.heap.size + 1, 0, none⟩ (.int .i64 3)).setCell ⟨w.heap.size + 1, 1, none⟩ (.bool o)).setCell ⟨w.heap.size + 1, 2, none⟩ (.int .u8 l)).setCell ⟨w.heap.size + 1, 3, none⟩ (.int .u8 h)).setCell ⟨w.heap.size + 1, 4, none⟩ (.int .u8 r)).setCell ⟨w.heap.size + 1, 5, none⟩ (.bool md)).heap[w.heap.size + 1]? = some (.cells #[.int .i64 3, .bool o, .int .u8 l, .int .u8 h, .int .u8 r, .bool md] 32 (0, 0)) := (blk_put (blk_put (blk_put (blk_put (blk_put (blk_put m0.out 0 _ rfl) 1 _ rfl) 2 _ rfl) 3 _ rfl) 4 _ rfl) 5 _ rfl)
  have q2 : Below w.heap.size w ((((((w2.setCell ⟨w.heap.size + 1, 0, none⟩ (.int .i64 3)).setCell ⟨w.heap.size + 1, 1, none⟩ (.bool o)).setCell ⟨w.heap.size + 1, 2, none⟩ (.int .u8 l)).setCell ⟨w.heap.size + 1, 3, none⟩ (.int .u8 h)).setCell ⟨w.heap.size + 1, 4, none⟩ (.int .u8 r)).setCell ⟨w.heap.size + 1, 5, none⟩ (.bool md)) := (below_set (below_set (below_set (below_set (below_set (below_set n1.out (Nat.le_succ _)) (Nat.le_succ _)) (Nat.le_succ _)) (Nat.le_succ _)) (Nat.le_succ _)) (Nat.le_succ _))
  generalize ((((((w2.setCell ⟨w.heap.size + 1, 0, none⟩ (.int .i64 3)).setCell ⟨w.heap.size + 1, 1, none⟩ (.bool o)).setCell ⟨w.heap.size + 1, 2, none⟩ (.int .u8 l)).setCell ⟨w.heap.size + 1, 3, none⟩ (.int .u8 h)).setCell ⟨w.heap.size + 1, 4, none⟩ (.int .u8 r)).setCell ⟨w.heap.size + 1, 5, none⟩ (.bool md)) = Y at q1 q2 ⊢
  have u0 : Y.cell? ⟨w.heap.size + 1, 0, none⟩ = some (.int .i64 3) := (blk_cell q1 0).trans rfl
  have u1 : Y.cell? ⟨w.heap.size + 1, 1, none⟩ = some (.bool o) := (blk_cell q1 1).trans rfl
  have u2 : Y.cell? ⟨w.heap.size + 1, 2, none⟩ = some (.int .u8 l) := (blk_cell q1 2).trans rfl
  have u3 : Y.cell? ⟨w.heap.size + 1, 3, none⟩ = some (.int .u8 h) := (blk_cell q1 3).trans rfl
  have u4 : Y.cell? ⟨w.heap.size + 1, 4, none⟩ = some (.int .u8 r) := (blk_cell q1 4).trans rfl
  have u5 : Y.cell? ⟨w.heap.size + 1, 5, none⟩ = some (.bool md) := (blk_cell q1 5).trans rfl
  exact bodyPost_ret (v := .agg #[.int .i64 3, .bool o, .int .u8 l, .int .u8 h, .int .u8 r, .bool md]) (by simp [results, Try.results41, go_sem, u0, u1, u2, u3, u4, u5]) rfl ⟨rfl, q2⟩
set_option maxRecDepth 100000 in
set_option maxHeartbeats 400000 in
theorem wr_fifth0 (k : Int) (o : Bool) (l h r : Int) (md : Bool) (a v : Int) (hp : IntKind.i64.wrap (a / 4096) = 0) (ha : ¬ a ≥ 32768) (w : World) :
    Calls Try.prog 41 #[.agg #[.int .i64 5, .bool o, .int .u8 l, .int .u8 h, .int .u8 r, .bool md], .int .u16 a, .int .u8 v] w fun e' w' => e' = .returned (.agg #[.int .i64 5, .bool (v == 10), .int .u8 l, .int .u8 h, .int .u8 r, .bool md]) ∧ Below w.heap.size w w' := by
  go_enter Try.func41, Try.ntmps41
  go_wp2
  have bk := blk_alloc (blk_new w (.cells #[.int .i64 5, .bool o, .int .u8 l, .int .u8 h, .int .u8 r, .bool md] 32)) (.cells #[.int .i64 0, .bool false, .int .u8 0, .int .u8 0, .int .u8 0, .bool false] 32)
  have br := blk_at1 w (.cells #[.int .i64 5, .bool o, .int .u8 l, .int .u8 h, .int .u8 r, .bool md] 32) (.cells #[.int .i64 0, .bool false, .int .u8 0, .int .u8 0, .int .u8 0, .bool false] 32)
  have hB := below_alloc (below_alloc (Below.refl w.heap.size w) (.cells #[.int .i64 5, .bool o, .int .u8 l, .int .u8 h, .int .u8 r, .bool md] 32)) (.cells #[.int .i64 0, .bool false, .int .u8 0, .int .u8 0, .int .u8 0, .bool false] 32)
  generalize (w.alloc (.cells #[.int .i64 5, .bool o, .int .u8 l, .int .u8 h, .int .u8 r, .bool md] 32)).alloc (.cells #[.int .i64 0, .bool false, .int .u8 0, .int .u8 0, .int .u8 0, .bool false] 32) = W at bk br hB ⊢
  have BK := Aside0.mk bk
  have BR := Aside0.mk br
  have HB := Aside0.mk hB
  clear bk br hB
  have c0 : W.cell? ⟨w.heap.size, 0, none⟩ = some (.int .i64 5) := (blk_cell BK.out 0).trans rfl
  have c1 : W.cell? ⟨w.heap.size, 1, none⟩ = some (.bool o) := (blk_cell BK.out 1).trans rfl
  have c2 : W.cell? ⟨w.heap.size, 2, none⟩ = some (.int .u8 l) := (blk_cell BK.out 2).trans rfl
  have c3 : W.cell? ⟨w.heap.size, 3, none⟩ = some (.int .u8 h) := (blk_cell BK.out 3).trans rfl
  have c4 : W.cell? ⟨w.heap.size, 4, none⟩ = some (.int .u8 r) := (blk_cell BK.out 4).trans rfl
  have c5 : W.cell? ⟨w.heap.size, 5, none⟩ = some (.bool md) := (blk_cell BK.out 5).trans rfl
  have z0 : W.cell? ⟨w.heap.size + 1, 0, none⟩ = some (.int .i64 0) := (blk_cell BR.out 0).trans rfl
  have z1 : W.cell? ⟨w.heap.size + 1, 1, none⟩ = some (.bool false) := (blk_cell BR.out 1).trans rfl
  have z2 : W.cell? ⟨w.heap.size + 1, 2, none⟩ = some (.int .u8 0) := (blk_cell BR.out 2).trans rfl
  have z3 : W.cell? ⟨w.heap.size + 1, 3, none⟩ = some (.int .u8 0) := (blk_cell BR.out 3).trans rfl
  have z4 : W.cell? ⟨w.heap.size + 1, 4, none⟩ = some (.int .u8 0) := (blk_cell BR.out 4).trans rfl
  have z5 : W.cell? ⟨w.heap.size + 1, 5, none⟩ = some (.bool false) := (blk_cell BR.out 5).trans rfl
  have fr := fun i => blk_frozen BR.out i
  go_region_held3 (fun w' => w'.cell? ⟨w.heap.size, 0, none⟩ = some (.int .i64 5) ∧ w'.cell? ⟨w.heap.size, 1, none⟩ = some (.bool o) ∧ w'.cell? ⟨w.heap.size, 2, none⟩ = some (.int .u8 l) ∧ w'.cell? ⟨w.heap.size, 3, none⟩ = some (.int .u8 h) ∧ w'.cell? ⟨w.heap.size, 4, none⟩ = some (.int .u8 r) ∧ w'.cell? ⟨w.heap.size, 5, none⟩ = some (.bool md)) (go_keep)
    (first | (go_at_call 68; ((with_reducible refine (of5 _).mono ?_)); rintro e' w2 ⟨rfl, rfl⟩)
           | (go_at_call 108; ((with_reducible refine (write_fifth0 5 0 v o l h r md rfl _).mono ?_)); rintro e' w2 ⟨rfl, hb⟩; have n0 := Aside0.mk (blk_below (blk_drew BK.out) hb); have m0 := Aside0.mk (blk_below (blk_drew BR.out) hb); have n1 := Aside0.mk (below_step (below_drew1 HB.out) hb); clear hb; have d0 : w2.cell? ⟨w.heap.size, 0, none⟩ = some (.int .i64 5) := (blk_cell n0.out 0).trans rfl; have d1 : w2.cell? ⟨w.heap.size, 1, none⟩ = some (.bool o) := (blk_cell n0.out 1).trans rfl; have d2 : w2.cell? ⟨w.heap.size, 2, none⟩ = some (.int .u8 l) := (blk_cell n0.out 2).trans rfl; have d3 : w2.cell? ⟨w.heap.size, 3, none⟩ = some (.int .u8 h) := (blk_cell n0.out 3).trans rfl; have d4 : w2.cell? ⟨w.heap.size, 4, none⟩ = some (.int .u8 r) := (blk_cell n0.out 4).trans rfl; have d5 : w2.cell? ⟨w.heap.size, 5, none⟩ = some (.bool md) := (blk_cell n0.out 5).trans rfl; have y0 : w2.cell? ⟨w.heap.size + 1, 0, none⟩ = some (.int .i64 0) := (blk_cell m0.out 0).trans rfl; have y1 : w2.cell? ⟨w.heap.size + 1, 1, none⟩ = some (.bool false) := (blk_cell m0.out 1).trans rfl; have y2 : w2.cell? ⟨w.heap.size + 1, 2, none⟩ = some (.int .u8 0) := (blk_cell m0.out 2).trans rfl; have y3 : w2.cell? ⟨w.heap.size + 1, 3, none⟩ = some (.int .u8 0) := (blk_cell m0.out 3).trans rfl; have y4 : w2.cell? ⟨w.heap.size + 1, 4, none⟩ = some (.int .u8 0) := (blk_cell m0.out 4).trans rfl; have y5 : w2.cell? ⟨w.heap.size + 1, 5, none⟩ = some (.bool false) := (blk_cell m0.out 5).trans rfl; have fy := fun i => blk_frozen m0.out i))
  rename_i hHeld
  clear hHeld
  go_wp2
  have q1 : ((((((w2.setCell ⟨w.heap.size + 1, 0, none⟩ (.int .i64 5)).setCell ⟨w.heap.size + 1, 1, none⟩ (.bool (v == 10))).setCell ⟨w.heap.size + 1, 2, none⟩ (.int .u8 l)).setCell ⟨w.heap.size + 1, 3, none⟩ (.int .u8 h)).setCell ⟨w.heap.size + 1, 4, none⟩ (.int .u8 r)).setCell ⟨w.heap.size + 1, 5, none⟩ (.bool md)).heap[w.heap.size + 1]? = some (.cells #[.int .i64 5, .bool (v == 10), .int .u8 l, .int .u8 h, .int .u8 r, .bool md] 32 (0, 0)) := (blk_put (blk_put (blk_put (blk_put (blk_put (blk_put m0.out 0 _ rfl) 1 _ rfl) 2 _ rfl) 3 _ rfl) 4 _ rfl) 5 _ rfl)
  have q2 : Below w.heap.size w ((((((w2.setCell ⟨w.heap.size + 1, 0, none⟩ (.int .i64 5)).setCell ⟨w.heap.size + 1, 1, none⟩ (.bool (v == 10))).setCell ⟨w.heap.size + 1, 2, none⟩ (.int .u8 l)).setCell ⟨w.heap.size + 1, 3, none⟩ (.int .u8 h)).setCell ⟨w.heap.size + 1, 4, none⟩ (.int .u8 r)).setCell ⟨w.heap.size + 1, 5, none⟩ (.bool md)) := (below_set (below_set (below_set (below_set (below_set (below_set n1.out (Nat.le_succ _)) (Nat.le_succ _)) (Nat.le_succ _)) (Nat.le_succ _)) (Nat.le_succ _)) (Nat.le_succ _))
  generalize ((((((w2.setCell ⟨w.heap.size + 1, 0, none⟩ (.int .i64 5)).setCell ⟨w.heap.size + 1, 1, none⟩ (.bool (v == 10))).setCell ⟨w.heap.size + 1, 2, none⟩ (.int .u8 l)).setCell ⟨w.heap.size + 1, 3, none⟩ (.int .u8 h)).setCell ⟨w.heap.size + 1, 4, none⟩ (.int .u8 r)).setCell ⟨w.heap.size + 1, 5, none⟩ (.bool md)) = Y at q1 q2 ⊢
  have u0 : Y.cell? ⟨w.heap.size + 1, 0, none⟩ = some (.int .i64 5) := (blk_cell q1 0).trans rfl
  have u1 : Y.cell? ⟨w.heap.size + 1, 1, none⟩ = some (.bool (v == 10)) := (blk_cell q1 1).trans rfl
  have u2 : Y.cell? ⟨w.heap.size + 1, 2, none⟩ = some (.int .u8 l) := (blk_cell q1 2).trans rfl
  have u3 : Y.cell? ⟨w.heap.size + 1, 3, none⟩ = some (.int .u8 h) := (blk_cell q1 3).trans rfl
  have u4 : Y.cell? ⟨w.heap.size + 1, 4, none⟩ = some (.int .u8 r) := (blk_cell q1 4).trans rfl
  have u5 : Y.cell? ⟨w.heap.size + 1, 5, none⟩ = some (.bool md) := (blk_cell q1 5).trans rfl
  exact bodyPost_ret (v := .agg #[.int .i64 5, .bool (v == 10), .int .u8 l, .int .u8 h, .int .u8 r, .bool md]) (by simp [results, Try.results41, go_sem, u0, u1, u2, u3, u4, u5]) rfl ⟨rfl, q2⟩
set_option maxRecDepth 100000 in
set_option maxHeartbeats 400000 in
theorem wr_fifth1 (k : Int) (o : Bool) (l h r : Int) (md : Bool) (a v : Int) (hp : IntKind.i64.wrap (a / 4096) = 1) (ha : ¬ a ≥ 32768) (w : World) :
    Calls Try.prog 41 #[.agg #[.int .i64 5, .bool o, .int .u8 l, .int .u8 h, .int .u8 r, .bool md], .int .u16 a, .int .u8 v] w fun e' w' => e' = .returned (.agg #[.int .i64 5, .bool (v == 10), .int .u8 l, .int .u8 h, .int .u8 r, .bool md]) ∧ Below w.heap.size w w' := by
  go_enter Try.func41, Try.ntmps41
  go_wp2
  have bk := blk_alloc (blk_new w (.cells #[.int .i64 5, .bool o, .int .u8 l, .int .u8 h, .int .u8 r, .bool md] 32)) (.cells #[.int .i64 0, .bool false, .int .u8 0, .int .u8 0, .int .u8 0, .bool false] 32)
  have br := blk_at1 w (.cells #[.int .i64 5, .bool o, .int .u8 l, .int .u8 h, .int .u8 r, .bool md] 32) (.cells #[.int .i64 0, .bool false, .int .u8 0, .int .u8 0, .int .u8 0, .bool false] 32)
  have hB := below_alloc (below_alloc (Below.refl w.heap.size w) (.cells #[.int .i64 5, .bool o, .int .u8 l, .int .u8 h, .int .u8 r, .bool md] 32)) (.cells #[.int .i64 0, .bool false, .int .u8 0, .int .u8 0, .int .u8 0, .bool false] 32)
  generalize (w.alloc (.cells #[.int .i64 5, .bool o, .int .u8 l, .int .u8 h, .int .u8 r, .bool md] 32)).alloc (.cells #[.int .i64 0, .bool false, .int .u8 0, .int .u8 0, .int .u8 0, .bool false] 32) = W at bk br hB ⊢
  have BK := Aside0.mk bk
  have BR := Aside0.mk br
  have HB := Aside0.mk hB
  clear bk br hB
  have c0 : W.cell? ⟨w.heap.size, 0, none⟩ = some (.int .i64 5) := (blk_cell BK.out 0).trans rfl
  have c1 : W.cell? ⟨w.heap.size, 1, none⟩ = some (.bool o) := (blk_cell BK.out 1).trans rfl
  have c2 : W.cell? ⟨w.heap.size, 2, none⟩ = some (.int .u8 l) := (blk_cell BK.out 2).trans rfl
  have c3 : W.cell? ⟨w.heap.size, 3, none⟩ = some (.int .u8 h) := (blk_cell BK.out 3).trans rfl
  have c4 : W.cell? ⟨w.heap.size, 4, none⟩ = some (.int .u8 r) := (blk_cell BK.out 4).trans rfl
  have c5 : W.cell? ⟨w.heap.size, 5, none⟩ = some (.bool md) := (blk_cell BK.out 5).trans rfl
  have z0 : W.cell? ⟨w.heap.size + 1, 0, none⟩ = some (.int .i64 0) := (blk_cell BR.out 0).trans rfl
  have z1 : W.cell? ⟨w.heap.size + 1, 1, none⟩ = some (.bool false) := (blk_cell BR.out 1).trans rfl
  have z2 : W.cell? ⟨w.heap.size + 1, 2, none⟩ = some (.int .u8 0) := (blk_cell BR.out 2).trans rfl
  have z3 : W.cell? ⟨w.heap.size + 1, 3, none⟩ = some (.int .u8 0) := (blk_cell BR.out 3).trans rfl
  have z4 : W.cell? ⟨w.heap.size + 1, 4, none⟩ = some (.int .u8 0) := (blk_cell BR.out 4).trans rfl
  have z5 : W.cell? ⟨w.heap.size + 1, 5, none⟩ = some (.bool false) := (blk_cell BR.out 5).trans rfl
  have fr := fun i => blk_frozen BR.out i
  go_region_held3 (fun w' => w'.cell? ⟨w.heap.size, 0, none⟩ = some (.int .i64 5) ∧ w'.cell? ⟨w.heap.size, 1, none⟩ = some (.bool o) ∧ w'.cell? ⟨w.heap.size, 2, none⟩ = some (.int .u8 l) ∧ w'.cell? ⟨w.heap.size, 3, none⟩ = some (.int .u8 h) ∧ w'.cell? ⟨w.heap.size, 4, none⟩ = some (.int .u8 r) ∧ w'.cell? ⟨w.heap.size, 5, none⟩ = some (.bool md)) (go_keep)
    (first | (go_at_call 68; ((with_reducible refine (of5 _).mono ?_)); rintro e' w2 ⟨rfl, rfl⟩)
           | (go_at_call 108; ((with_reducible refine (write_fifth1 5 1 v o l h r md rfl _).mono ?_)); rintro e' w2 ⟨rfl, hb⟩; have n0 := Aside0.mk (blk_below (blk_drew BK.out) hb); have m0 := Aside0.mk (blk_below (blk_drew BR.out) hb); have n1 := Aside0.mk (below_step (below_drew1 HB.out) hb); clear hb; have d0 : w2.cell? ⟨w.heap.size, 0, none⟩ = some (.int .i64 5) := (blk_cell n0.out 0).trans rfl; have d1 : w2.cell? ⟨w.heap.size, 1, none⟩ = some (.bool o) := (blk_cell n0.out 1).trans rfl; have d2 : w2.cell? ⟨w.heap.size, 2, none⟩ = some (.int .u8 l) := (blk_cell n0.out 2).trans rfl; have d3 : w2.cell? ⟨w.heap.size, 3, none⟩ = some (.int .u8 h) := (blk_cell n0.out 3).trans rfl; have d4 : w2.cell? ⟨w.heap.size, 4, none⟩ = some (.int .u8 r) := (blk_cell n0.out 4).trans rfl; have d5 : w2.cell? ⟨w.heap.size, 5, none⟩ = some (.bool md) := (blk_cell n0.out 5).trans rfl; have y0 : w2.cell? ⟨w.heap.size + 1, 0, none⟩ = some (.int .i64 0) := (blk_cell m0.out 0).trans rfl; have y1 : w2.cell? ⟨w.heap.size + 1, 1, none⟩ = some (.bool false) := (blk_cell m0.out 1).trans rfl; have y2 : w2.cell? ⟨w.heap.size + 1, 2, none⟩ = some (.int .u8 0) := (blk_cell m0.out 2).trans rfl; have y3 : w2.cell? ⟨w.heap.size + 1, 3, none⟩ = some (.int .u8 0) := (blk_cell m0.out 3).trans rfl; have y4 : w2.cell? ⟨w.heap.size + 1, 4, none⟩ = some (.int .u8 0) := (blk_cell m0.out 4).trans rfl; have y5 : w2.cell? ⟨w.heap.size + 1, 5, none⟩ = some (.bool false) := (blk_cell m0.out 5).trans rfl; have fy := fun i => blk_frozen m0.out i))
  rename_i hHeld
  clear hHeld
  go_wp2
  have q1 : ((((((w2.setCell ⟨w.heap.size + 1, 0, none⟩ (.int .i64 5)).setCell ⟨w.heap.size + 1, 1, none⟩ (.bool (v == 10))).setCell ⟨w.heap.size + 1, 2, none⟩ (.int .u8 l)).setCell ⟨w.heap.size + 1, 3, none⟩ (.int .u8 h)).setCell ⟨w.heap.size + 1, 4, none⟩ (.int .u8 r)).setCell ⟨w.heap.size + 1, 5, none⟩ (.bool md)).heap[w.heap.size + 1]? = some (.cells #[.int .i64 5, .bool (v == 10), .int .u8 l, .int .u8 h, .int .u8 r, .bool md] 32 (0, 0)) := (blk_put (blk_put (blk_put (blk_put (blk_put (blk_put m0.out 0 _ rfl) 1 _ rfl) 2 _ rfl) 3 _ rfl) 4 _ rfl) 5 _ rfl)
  have q2 : Below w.heap.size w ((((((w2.setCell ⟨w.heap.size + 1, 0, none⟩ (.int .i64 5)).setCell ⟨w.heap.size + 1, 1, none⟩ (.bool (v == 10))).setCell ⟨w.heap.size + 1, 2, none⟩ (.int .u8 l)).setCell ⟨w.heap.size + 1, 3, none⟩ (.int .u8 h)).setCell ⟨w.heap.size + 1, 4, none⟩ (.int .u8 r)).setCell ⟨w.heap.size + 1, 5, none⟩ (.bool md)) := (below_set (below_set (below_set (below_set (below_set (below_set n1.out (Nat.le_succ _)) (Nat.le_succ _)) (Nat.le_succ _)) (Nat.le_succ _)) (Nat.le_succ _)) (Nat.le_succ _))
  generalize ((((((w2.setCell ⟨w.heap.size + 1, 0, none⟩ (.int .i64 5)).setCell ⟨w.heap.size + 1, 1, none⟩ (.bool (v == 10))).setCell ⟨w.heap.size + 1, 2, none⟩ (.int .u8 l)).setCell ⟨w.heap.size + 1, 3, none⟩ (.int .u8 h)).setCell ⟨w.heap.size + 1, 4, none⟩ (.int .u8 r)).setCell ⟨w.heap.size + 1, 5, none⟩ (.bool md)) = Y at q1 q2 ⊢
  have u0 : Y.cell? ⟨w.heap.size + 1, 0, none⟩ = some (.int .i64 5) := (blk_cell q1 0).trans rfl
  have u1 : Y.cell? ⟨w.heap.size + 1, 1, none⟩ = some (.bool (v == 10)) := (blk_cell q1 1).trans rfl
  have u2 : Y.cell? ⟨w.heap.size + 1, 2, none⟩ = some (.int .u8 l) := (blk_cell q1 2).trans rfl
  have u3 : Y.cell? ⟨w.heap.size + 1, 3, none⟩ = some (.int .u8 h) := (blk_cell q1 3).trans rfl
  have u4 : Y.cell? ⟨w.heap.size + 1, 4, none⟩ = some (.int .u8 r) := (blk_cell q1 4).trans rfl
  have u5 : Y.cell? ⟨w.heap.size + 1, 5, none⟩ = some (.bool md) := (blk_cell q1 5).trans rfl
  exact bodyPost_ret (v := .agg #[.int .i64 5, .bool (v == 10), .int .u8 l, .int .u8 h, .int .u8 r, .bool md]) (by simp [results, Try.results41, go_sem, u0, u1, u2, u3, u4, u5]) rfl ⟨rfl, q2⟩
set_option maxRecDepth 100000 in
set_option maxHeartbeats 400000 in
theorem wr_fifth2 (k : Int) (o : Bool) (l h r : Int) (md : Bool) (a v : Int) (hp : IntKind.i64.wrap (a / 4096) = 2) (ha : ¬ a ≥ 32768) (w : World) :
    Calls Try.prog 41 #[.agg #[.int .i64 5, .bool o, .int .u8 l, .int .u8 h, .int .u8 r, .bool md], .int .u16 a, .int .u8 v] w fun e' w' => e' = .returned (.agg #[.int .i64 5, .bool o, .int .u8 v, .int .u8 h, .int .u8 r, .bool md]) ∧ Below w.heap.size w w' := by
  go_enter Try.func41, Try.ntmps41
  go_wp2
  have bk := blk_alloc (blk_new w (.cells #[.int .i64 5, .bool o, .int .u8 l, .int .u8 h, .int .u8 r, .bool md] 32)) (.cells #[.int .i64 0, .bool false, .int .u8 0, .int .u8 0, .int .u8 0, .bool false] 32)
  have br := blk_at1 w (.cells #[.int .i64 5, .bool o, .int .u8 l, .int .u8 h, .int .u8 r, .bool md] 32) (.cells #[.int .i64 0, .bool false, .int .u8 0, .int .u8 0, .int .u8 0, .bool false] 32)
  have hB := below_alloc (below_alloc (Below.refl w.heap.size w) (.cells #[.int .i64 5, .bool o, .int .u8 l, .int .u8 h, .int .u8 r, .bool md] 32)) (.cells #[.int .i64 0, .bool false, .int .u8 0, .int .u8 0, .int .u8 0, .bool false] 32)
  generalize (w.alloc (.cells #[.int .i64 5, .bool o, .int .u8 l, .int .u8 h, .int .u8 r, .bool md] 32)).alloc (.cells #[.int .i64 0, .bool false, .int .u8 0, .int .u8 0, .int .u8 0, .bool false] 32) = W at bk br hB ⊢
  have BK := Aside0.mk bk
  have BR := Aside0.mk br
  have HB := Aside0.mk hB
  clear bk br hB
  have c0 : W.cell? ⟨w.heap.size, 0, none⟩ = some (.int .i64 5) := (blk_cell BK.out 0).trans rfl
  have c1 : W.cell? ⟨w.heap.size, 1, none⟩ = some (.bool o) := (blk_cell BK.out 1).trans rfl
  have c2 : W.cell? ⟨w.heap.size, 2, none⟩ = some (.int .u8 l) := (blk_cell BK.out 2).trans rfl
  have c3 : W.cell? ⟨w.heap.size, 3, none⟩ = some (.int .u8 h) := (blk_cell BK.out 3).trans rfl
  have c4 : W.cell? ⟨w.heap.size, 4, none⟩ = some (.int .u8 r) := (blk_cell BK.out 4).trans rfl
  have c5 : W.cell? ⟨w.heap.size, 5, none⟩ = some (.bool md) := (blk_cell BK.out 5).trans rfl
  have z0 : W.cell? ⟨w.heap.size + 1, 0, none⟩ = some (.int .i64 0) := (blk_cell BR.out 0).trans rfl
  have z1 : W.cell? ⟨w.heap.size + 1, 1, none⟩ = some (.bool false) := (blk_cell BR.out 1).trans rfl
  have z2 : W.cell? ⟨w.heap.size + 1, 2, none⟩ = some (.int .u8 0) := (blk_cell BR.out 2).trans rfl
  have z3 : W.cell? ⟨w.heap.size + 1, 3, none⟩ = some (.int .u8 0) := (blk_cell BR.out 3).trans rfl
  have z4 : W.cell? ⟨w.heap.size + 1, 4, none⟩ = some (.int .u8 0) := (blk_cell BR.out 4).trans rfl
  have z5 : W.cell? ⟨w.heap.size + 1, 5, none⟩ = some (.bool false) := (blk_cell BR.out 5).trans rfl
  have fr := fun i => blk_frozen BR.out i
  go_region_held3 (fun w' => w'.cell? ⟨w.heap.size, 0, none⟩ = some (.int .i64 5) ∧ w'.cell? ⟨w.heap.size, 1, none⟩ = some (.bool o) ∧ w'.cell? ⟨w.heap.size, 2, none⟩ = some (.int .u8 l) ∧ w'.cell? ⟨w.heap.size, 3, none⟩ = some (.int .u8 h) ∧ w'.cell? ⟨w.heap.size, 4, none⟩ = some (.int .u8 r) ∧ w'.cell? ⟨w.heap.size, 5, none⟩ = some (.bool md)) (go_keep)
    (first | (go_at_call 68; ((with_reducible refine (of5 _).mono ?_)); rintro e' w2 ⟨rfl, rfl⟩)
           | (go_at_call 108; ((with_reducible refine (write_fifth2 5 2 v o l h r md rfl _).mono ?_)); rintro e' w2 ⟨rfl, hb⟩; have n0 := Aside0.mk (blk_below (blk_drew BK.out) hb); have m0 := Aside0.mk (blk_below (blk_drew BR.out) hb); have n1 := Aside0.mk (below_step (below_drew1 HB.out) hb); clear hb; have d0 : w2.cell? ⟨w.heap.size, 0, none⟩ = some (.int .i64 5) := (blk_cell n0.out 0).trans rfl; have d1 : w2.cell? ⟨w.heap.size, 1, none⟩ = some (.bool o) := (blk_cell n0.out 1).trans rfl; have d2 : w2.cell? ⟨w.heap.size, 2, none⟩ = some (.int .u8 l) := (blk_cell n0.out 2).trans rfl; have d3 : w2.cell? ⟨w.heap.size, 3, none⟩ = some (.int .u8 h) := (blk_cell n0.out 3).trans rfl; have d4 : w2.cell? ⟨w.heap.size, 4, none⟩ = some (.int .u8 r) := (blk_cell n0.out 4).trans rfl; have d5 : w2.cell? ⟨w.heap.size, 5, none⟩ = some (.bool md) := (blk_cell n0.out 5).trans rfl; have y0 : w2.cell? ⟨w.heap.size + 1, 0, none⟩ = some (.int .i64 0) := (blk_cell m0.out 0).trans rfl; have y1 : w2.cell? ⟨w.heap.size + 1, 1, none⟩ = some (.bool false) := (blk_cell m0.out 1).trans rfl; have y2 : w2.cell? ⟨w.heap.size + 1, 2, none⟩ = some (.int .u8 0) := (blk_cell m0.out 2).trans rfl; have y3 : w2.cell? ⟨w.heap.size + 1, 3, none⟩ = some (.int .u8 0) := (blk_cell m0.out 3).trans rfl; have y4 : w2.cell? ⟨w.heap.size + 1, 4, none⟩ = some (.int .u8 0) := (blk_cell m0.out 4).trans rfl; have y5 : w2.cell? ⟨w.heap.size + 1, 5, none⟩ = some (.bool false) := (blk_cell m0.out 5).trans rfl; have fy := fun i => blk_frozen m0.out i))
  rename_i hHeld
  clear hHeld
  go_wp2
  have q1 : ((((((w2.setCell ⟨w.heap.size + 1, 0, none⟩ (.int .i64 5)).setCell ⟨w.heap.size + 1, 1, none⟩ (.bool o)).setCell ⟨w.heap.size + 1, 2, none⟩ (.int .u8 v)).setCell ⟨w.heap.size + 1, 3, none⟩ (.int .u8 h)).setCell ⟨w.heap.size + 1, 4, none⟩ (.int .u8 r)).setCell ⟨w.heap.size + 1, 5, none⟩ (.bool md)).heap[w.heap.size + 1]? = some (.cells #[.int .i64 5, .bool o, .int .u8 v, .int .u8 h, .int .u8 r, .bool md] 32 (0, 0)) := (blk_put (blk_put (blk_put (blk_put (blk_put (blk_put m0.out 0 _ rfl) 1 _ rfl) 2 _ rfl) 3 _ rfl) 4 _ rfl) 5 _ rfl)
  have q2 : Below w.heap.size w ((((((w2.setCell ⟨w.heap.size + 1, 0, none⟩ (.int .i64 5)).setCell ⟨w.heap.size + 1, 1, none⟩ (.bool o)).setCell ⟨w.heap.size + 1, 2, none⟩ (.int .u8 v)).setCell ⟨w.heap.size + 1, 3, none⟩ (.int .u8 h)).setCell ⟨w.heap.size + 1, 4, none⟩ (.int .u8 r)).setCell ⟨w.heap.size + 1, 5, none⟩ (.bool md)) := (below_set (below_set (below_set (below_set (below_set (below_set n1.out (Nat.le_succ _)) (Nat.le_succ _)) (Nat.le_succ _)) (Nat.le_succ _)) (Nat.le_succ _)) (Nat.le_succ _))
  generalize ((((((w2.setCell ⟨w.heap.size + 1, 0, none⟩ (.int .i64 5)).setCell ⟨w.heap.size + 1, 1, none⟩ (.bool o)).setCell ⟨w.heap.size + 1, 2, none⟩ (.int .u8 v)).setCell ⟨w.heap.size + 1, 3, none⟩ (.int .u8 h)).setCell ⟨w.heap.size + 1, 4, none⟩ (.int .u8 r)).setCell ⟨w.heap.size + 1, 5, none⟩ (.bool md)) = Y at q1 q2 ⊢
  have u0 : Y.cell? ⟨w.heap.size + 1, 0, none⟩ = some (.int .i64 5) := (blk_cell q1 0).trans rfl
  have u1 : Y.cell? ⟨w.heap.size + 1, 1, none⟩ = some (.bool o) := (blk_cell q1 1).trans rfl
  have u2 : Y.cell? ⟨w.heap.size + 1, 2, none⟩ = some (.int .u8 v) := (blk_cell q1 2).trans rfl
  have u3 : Y.cell? ⟨w.heap.size + 1, 3, none⟩ = some (.int .u8 h) := (blk_cell q1 3).trans rfl
  have u4 : Y.cell? ⟨w.heap.size + 1, 4, none⟩ = some (.int .u8 r) := (blk_cell q1 4).trans rfl
  have u5 : Y.cell? ⟨w.heap.size + 1, 5, none⟩ = some (.bool md) := (blk_cell q1 5).trans rfl
  exact bodyPost_ret (v := .agg #[.int .i64 5, .bool o, .int .u8 v, .int .u8 h, .int .u8 r, .bool md]) (by simp [results, Try.results41, go_sem, u0, u1, u2, u3, u4, u5]) rfl ⟨rfl, q2⟩
set_option maxRecDepth 100000 in
set_option maxHeartbeats 400000 in
theorem wr_fifth3 (k : Int) (o : Bool) (l h r : Int) (md : Bool) (a v : Int) (hp : IntKind.i64.wrap (a / 4096) = 3) (ha : ¬ a ≥ 32768) (w : World) :
    Calls Try.prog 41 #[.agg #[.int .i64 5, .bool o, .int .u8 l, .int .u8 h, .int .u8 r, .bool md], .int .u16 a, .int .u8 v] w fun e' w' => e' = .returned (.agg #[.int .i64 5, .bool o, .int .u8 l, .int .u8 (Go.bits .and .u8 v 1), .int .u8 r, .bool md]) ∧ Below w.heap.size w w' := by
  go_enter Try.func41, Try.ntmps41
  go_wp2
  have bk := blk_alloc (blk_new w (.cells #[.int .i64 5, .bool o, .int .u8 l, .int .u8 h, .int .u8 r, .bool md] 32)) (.cells #[.int .i64 0, .bool false, .int .u8 0, .int .u8 0, .int .u8 0, .bool false] 32)
  have br := blk_at1 w (.cells #[.int .i64 5, .bool o, .int .u8 l, .int .u8 h, .int .u8 r, .bool md] 32) (.cells #[.int .i64 0, .bool false, .int .u8 0, .int .u8 0, .int .u8 0, .bool false] 32)
  have hB := below_alloc (below_alloc (Below.refl w.heap.size w) (.cells #[.int .i64 5, .bool o, .int .u8 l, .int .u8 h, .int .u8 r, .bool md] 32)) (.cells #[.int .i64 0, .bool false, .int .u8 0, .int .u8 0, .int .u8 0, .bool false] 32)
  generalize (w.alloc (.cells #[.int .i64 5, .bool o, .int .u8 l, .int .u8 h, .int .u8 r, .bool md] 32)).alloc (.cells #[.int .i64 0, .bool false, .int .u8 0, .int .u8 0, .int .u8 0, .bool false] 32) = W at bk br hB ⊢
  have BK := Aside0.mk bk
  have BR := Aside0.mk br
  have HB := Aside0.mk hB
  clear bk br hB
  have c0 : W.cell? ⟨w.heap.size, 0, none⟩ = some (.int .i64 5) := (blk_cell BK.out 0).trans rfl
  have c1 : W.cell? ⟨w.heap.size, 1, none⟩ = some (.bool o) := (blk_cell BK.out 1).trans rfl
  have c2 : W.cell? ⟨w.heap.size, 2, none⟩ = some (.int .u8 l) := (blk_cell BK.out 2).trans rfl
  have c3 : W.cell? ⟨w.heap.size, 3, none⟩ = some (.int .u8 h) := (blk_cell BK.out 3).trans rfl
  have c4 : W.cell? ⟨w.heap.size, 4, none⟩ = some (.int .u8 r) := (blk_cell BK.out 4).trans rfl
  have c5 : W.cell? ⟨w.heap.size, 5, none⟩ = some (.bool md) := (blk_cell BK.out 5).trans rfl
  have z0 : W.cell? ⟨w.heap.size + 1, 0, none⟩ = some (.int .i64 0) := (blk_cell BR.out 0).trans rfl
  have z1 : W.cell? ⟨w.heap.size + 1, 1, none⟩ = some (.bool false) := (blk_cell BR.out 1).trans rfl
  have z2 : W.cell? ⟨w.heap.size + 1, 2, none⟩ = some (.int .u8 0) := (blk_cell BR.out 2).trans rfl
  have z3 : W.cell? ⟨w.heap.size + 1, 3, none⟩ = some (.int .u8 0) := (blk_cell BR.out 3).trans rfl
  have z4 : W.cell? ⟨w.heap.size + 1, 4, none⟩ = some (.int .u8 0) := (blk_cell BR.out 4).trans rfl
  have z5 : W.cell? ⟨w.heap.size + 1, 5, none⟩ = some (.bool false) := (blk_cell BR.out 5).trans rfl
  have fr := fun i => blk_frozen BR.out i
  go_region_held3 (fun w' => w'.cell? ⟨w.heap.size, 0, none⟩ = some (.int .i64 5) ∧ w'.cell? ⟨w.heap.size, 1, none⟩ = some (.bool o) ∧ w'.cell? ⟨w.heap.size, 2, none⟩ = some (.int .u8 l) ∧ w'.cell? ⟨w.heap.size, 3, none⟩ = some (.int .u8 h) ∧ w'.cell? ⟨w.heap.size, 4, none⟩ = some (.int .u8 r) ∧ w'.cell? ⟨w.heap.size, 5, none⟩ = some (.bool md)) (go_keep)
    (first | (go_at_call 68; ((with_reducible refine (of5 _).mono ?_)); rintro e' w2 ⟨rfl, rfl⟩)
           | (go_at_call 108; ((with_reducible refine (write_fifth3 5 3 v o l h r md rfl _).mono ?_)); rintro e' w2 ⟨rfl, hb⟩; have n0 := Aside0.mk (blk_below (blk_drew BK.out) hb); have m0 := Aside0.mk (blk_below (blk_drew BR.out) hb); have n1 := Aside0.mk (below_step (below_drew1 HB.out) hb); clear hb; have d0 : w2.cell? ⟨w.heap.size, 0, none⟩ = some (.int .i64 5) := (blk_cell n0.out 0).trans rfl; have d1 : w2.cell? ⟨w.heap.size, 1, none⟩ = some (.bool o) := (blk_cell n0.out 1).trans rfl; have d2 : w2.cell? ⟨w.heap.size, 2, none⟩ = some (.int .u8 l) := (blk_cell n0.out 2).trans rfl; have d3 : w2.cell? ⟨w.heap.size, 3, none⟩ = some (.int .u8 h) := (blk_cell n0.out 3).trans rfl; have d4 : w2.cell? ⟨w.heap.size, 4, none⟩ = some (.int .u8 r) := (blk_cell n0.out 4).trans rfl; have d5 : w2.cell? ⟨w.heap.size, 5, none⟩ = some (.bool md) := (blk_cell n0.out 5).trans rfl; have y0 : w2.cell? ⟨w.heap.size + 1, 0, none⟩ = some (.int .i64 0) := (blk_cell m0.out 0).trans rfl; have y1 : w2.cell? ⟨w.heap.size + 1, 1, none⟩ = some (.bool false) := (blk_cell m0.out 1).trans rfl; have y2 : w2.cell? ⟨w.heap.size + 1, 2, none⟩ = some (.int .u8 0) := (blk_cell m0.out 2).trans rfl; have y3 : w2.cell? ⟨w.heap.size + 1, 3, none⟩ = some (.int .u8 0) := (blk_cell m0.out 3).trans rfl; have y4 : w2.cell? ⟨w.heap.size + 1, 4, none⟩ = some (.int .u8 0) := (blk_cell m0.out 4).trans rfl; have y5 : w2.cell? ⟨w.heap.size + 1, 5, none⟩ = some (.bool false) := (blk_cell m0.out 5).trans rfl; have fy := fun i => blk_frozen m0.out i))
  rename_i hHeld
  clear hHeld
  go_wp2
  have q1 : ((((((w2.setCell ⟨w.heap.size + 1, 0, none⟩ (.int .i64 5)).setCell ⟨w.heap.size + 1, 1, none⟩ (.bool o)).setCell ⟨w.heap.size + 1, 2, none⟩ (.int .u8 l)).setCell ⟨w.heap.size + 1, 3, none⟩ (.int .u8 (Go.bits .and .u8 v 1))).setCell ⟨w.heap.size + 1, 4, none⟩ (.int .u8 r)).setCell ⟨w.heap.size + 1, 5, none⟩ (.bool md)).heap[w.heap.size + 1]? = some (.cells #[.int .i64 5, .bool o, .int .u8 l, .int .u8 (Go.bits .and .u8 v 1), .int .u8 r, .bool md] 32 (0, 0)) := (blk_put (blk_put (blk_put (blk_put (blk_put (blk_put m0.out 0 _ rfl) 1 _ rfl) 2 _ rfl) 3 _ rfl) 4 _ rfl) 5 _ rfl)
  have q2 : Below w.heap.size w ((((((w2.setCell ⟨w.heap.size + 1, 0, none⟩ (.int .i64 5)).setCell ⟨w.heap.size + 1, 1, none⟩ (.bool o)).setCell ⟨w.heap.size + 1, 2, none⟩ (.int .u8 l)).setCell ⟨w.heap.size + 1, 3, none⟩ (.int .u8 (Go.bits .and .u8 v 1))).setCell ⟨w.heap.size + 1, 4, none⟩ (.int .u8 r)).setCell ⟨w.heap.size + 1, 5, none⟩ (.bool md)) := (below_set (below_set (below_set (below_set (below_set (below_set n1.out (Nat.le_succ _)) (Nat.le_succ _)) (Nat.le_succ _)) (Nat.le_succ _)) (Nat.le_succ _)) (Nat.le_succ _))
  generalize ((((((w2.setCell ⟨w.heap.size + 1, 0, none⟩ (.int .i64 5)).setCell ⟨w.heap.size + 1, 1, none⟩ (.bool o)).setCell ⟨w.heap.size + 1, 2, none⟩ (.int .u8 l)).setCell ⟨w.heap.size + 1, 3, none⟩ (.int .u8 (Go.bits .and .u8 v 1))).setCell ⟨w.heap.size + 1, 4, none⟩ (.int .u8 r)).setCell ⟨w.heap.size + 1, 5, none⟩ (.bool md)) = Y at q1 q2 ⊢
  have u0 : Y.cell? ⟨w.heap.size + 1, 0, none⟩ = some (.int .i64 5) := (blk_cell q1 0).trans rfl
  have u1 : Y.cell? ⟨w.heap.size + 1, 1, none⟩ = some (.bool o) := (blk_cell q1 1).trans rfl
  have u2 : Y.cell? ⟨w.heap.size + 1, 2, none⟩ = some (.int .u8 l) := (blk_cell q1 2).trans rfl
  have u3 : Y.cell? ⟨w.heap.size + 1, 3, none⟩ = some (.int .u8 (Go.bits .and .u8 v 1)) := (blk_cell q1 3).trans rfl
  have u4 : Y.cell? ⟨w.heap.size + 1, 4, none⟩ = some (.int .u8 r) := (blk_cell q1 4).trans rfl
  have u5 : Y.cell? ⟨w.heap.size + 1, 5, none⟩ = some (.bool md) := (blk_cell q1 5).trans rfl
  exact bodyPost_ret (v := .agg #[.int .i64 5, .bool o, .int .u8 l, .int .u8 (Go.bits .and .u8 v 1), .int .u8 r, .bool md]) (by simp [results, Try.results41, go_sem, u0, u1, u2, u3, u4, u5]) rfl ⟨rfl, q2⟩
set_option maxRecDepth 100000 in
set_option maxHeartbeats 400000 in
theorem wr_fifth4 (k : Int) (o : Bool) (l h r : Int) (md : Bool) (a v : Int) (hp : IntKind.i64.wrap (a / 4096) = 4) (ha : ¬ a ≥ 32768) (w : World) :
    Calls Try.prog 41 #[.agg #[.int .i64 5, .bool o, .int .u8 l, .int .u8 h, .int .u8 r, .bool md], .int .u16 a, .int .u8 v] w fun e' w' => e' = .returned (.agg #[.int .i64 5, .bool o, .int .u8 l, .int .u8 h, .int .u8 (Go.bits .and .u8 v 15), .bool md]) ∧ Below w.heap.size w w' := by
  go_enter Try.func41, Try.ntmps41
  go_wp2
  have bk := blk_alloc (blk_new w (.cells #[.int .i64 5, .bool o, .int .u8 l, .int .u8 h, .int .u8 r, .bool md] 32)) (.cells #[.int .i64 0, .bool false, .int .u8 0, .int .u8 0, .int .u8 0, .bool false] 32)
  have br := blk_at1 w (.cells #[.int .i64 5, .bool o, .int .u8 l, .int .u8 h, .int .u8 r, .bool md] 32) (.cells #[.int .i64 0, .bool false, .int .u8 0, .int .u8 0, .int .u8 0, .bool false] 32)
  have hB := below_alloc (below_alloc (Below.refl w.heap.size w) (.cells #[.int .i64 5, .bool o, .int .u8 l, .int .u8 h, .int .u8 r, .bool md] 32)) (.cells #[.int .i64 0, .bool false, .int .u8 0, .int .u8 0, .int .u8 0, .bool false] 32)
  generalize (w.alloc (.cells #[.int .i64 5, .bool o, .int .u8 l, .int .u8 h, .int .u8 r, .bool md] 32)).alloc (.cells #[.int .i64 0, .bool false, .int .u8 0, .int .u8 0, .int .u8 0, .bool false] 32) = W at bk br hB ⊢
  have BK := Aside0.mk bk
  have BR := Aside0.mk br
  have HB := Aside0.mk hB
  clear bk br hB
  have c0 : W.cell? ⟨w.heap.size, 0, none⟩ = some (.int .i64 5) := (blk_cell BK.out 0).trans rfl
  have c1 : W.cell? ⟨w.heap.size, 1, none⟩ = some (.bool o) := (blk_cell BK.out 1).trans rfl
  have c2 : W.cell? ⟨w.heap.size, 2, none⟩ = some (.int .u8 l) := (blk_cell BK.out 2).trans rfl
  have c3 : W.cell? ⟨w.heap.size, 3, none⟩ = some (.int .u8 h) := (blk_cell BK.out 3).trans rfl
  have c4 : W.cell? ⟨w.heap.size, 4, none⟩ = some (.int .u8 r) := (blk_cell BK.out 4).trans rfl
  have c5 : W.cell? ⟨w.heap.size, 5, none⟩ = some (.bool md) := (blk_cell BK.out 5).trans rfl
  have z0 : W.cell? ⟨w.heap.size + 1, 0, none⟩ = some (.int .i64 0) := (blk_cell BR.out 0).trans rfl
  have z1 : W.cell? ⟨w.heap.size + 1, 1, none⟩ = some (.bool false) := (blk_cell BR.out 1).trans rfl
  have z2 : W.cell? ⟨w.heap.size + 1, 2, none⟩ = some (.int .u8 0) := (blk_cell BR.out 2).trans rfl
  have z3 : W.cell? ⟨w.heap.size + 1, 3, none⟩ = some (.int .u8 0) := (blk_cell BR.out 3).trans rfl
  have z4 : W.cell? ⟨w.heap.size + 1, 4, none⟩ = some (.int .u8 0) := (blk_cell BR.out 4).trans rfl
  have z5 : W.cell? ⟨w.heap.size + 1, 5, none⟩ = some (.bool false) := (blk_cell BR.out 5).trans rfl
  have fr := fun i => blk_frozen BR.out i
  go_region_held3 (fun w' => w'.cell? ⟨w.heap.size, 0, none⟩ = some (.int .i64 5) ∧ w'.cell? ⟨w.heap.size, 1, none⟩ = some (.bool o) ∧ w'.cell? ⟨w.heap.size, 2, none⟩ = some (.int .u8 l) ∧ w'.cell? ⟨w.heap.size, 3, none⟩ = some (.int .u8 h) ∧ w'.cell? ⟨w.heap.size, 4, none⟩ = some (.int .u8 r) ∧ w'.cell? ⟨w.heap.size, 5, none⟩ = some (.bool md)) (go_keep)
    (first | (go_at_call 68; ((with_reducible refine (of5 _).mono ?_)); rintro e' w2 ⟨rfl, rfl⟩)
           | (go_at_call 108; ((with_reducible refine (write_fifth4 5 4 v o l h r md rfl _).mono ?_)); rintro e' w2 ⟨rfl, hb⟩; have n0 := Aside0.mk (blk_below (blk_drew BK.out) hb); have m0 := Aside0.mk (blk_below (blk_drew BR.out) hb); have n1 := Aside0.mk (below_step (below_drew1 HB.out) hb); clear hb; have d0 : w2.cell? ⟨w.heap.size, 0, none⟩ = some (.int .i64 5) := (blk_cell n0.out 0).trans rfl; have d1 : w2.cell? ⟨w.heap.size, 1, none⟩ = some (.bool o) := (blk_cell n0.out 1).trans rfl; have d2 : w2.cell? ⟨w.heap.size, 2, none⟩ = some (.int .u8 l) := (blk_cell n0.out 2).trans rfl; have d3 : w2.cell? ⟨w.heap.size, 3, none⟩ = some (.int .u8 h) := (blk_cell n0.out 3).trans rfl; have d4 : w2.cell? ⟨w.heap.size, 4, none⟩ = some (.int .u8 r) := (blk_cell n0.out 4).trans rfl; have d5 : w2.cell? ⟨w.heap.size, 5, none⟩ = some (.bool md) := (blk_cell n0.out 5).trans rfl; have y0 : w2.cell? ⟨w.heap.size + 1, 0, none⟩ = some (.int .i64 0) := (blk_cell m0.out 0).trans rfl; have y1 : w2.cell? ⟨w.heap.size + 1, 1, none⟩ = some (.bool false) := (blk_cell m0.out 1).trans rfl; have y2 : w2.cell? ⟨w.heap.size + 1, 2, none⟩ = some (.int .u8 0) := (blk_cell m0.out 2).trans rfl; have y3 : w2.cell? ⟨w.heap.size + 1, 3, none⟩ = some (.int .u8 0) := (blk_cell m0.out 3).trans rfl; have y4 : w2.cell? ⟨w.heap.size + 1, 4, none⟩ = some (.int .u8 0) := (blk_cell m0.out 4).trans rfl; have y5 : w2.cell? ⟨w.heap.size + 1, 5, none⟩ = some (.bool false) := (blk_cell m0.out 5).trans rfl; have fy := fun i => blk_frozen m0.out i))
  rename_i hHeld
  clear hHeld
  go_wp2
  have q1 : ((((((w2.setCell ⟨w.heap.size + 1, 0, none⟩ (.int .i64 5)).setCell ⟨w.heap.size + 1, 1, none⟩ (.bool o)).setCell ⟨w.heap.size + 1, 2, none⟩ (.int .u8 l)).setCell ⟨w.heap.size + 1, 3, none⟩ (.int .u8 h)).setCell ⟨w.heap.size + 1, 4, none⟩ (.int .u8 (Go.bits .and .u8 v 15))).setCell ⟨w.heap.size + 1, 5, none⟩ (.bool md)).heap[w.heap.size + 1]? = some (.cells #[.int .i64 5, .bool o, .int .u8 l, .int .u8 h, .int .u8 (Go.bits .and .u8 v 15), .bool md] 32 (0, 0)) := (blk_put (blk_put (blk_put (blk_put (blk_put (blk_put m0.out 0 _ rfl) 1 _ rfl) 2 _ rfl) 3 _ rfl) 4 _ rfl) 5 _ rfl)
  have q2 : Below w.heap.size w ((((((w2.setCell ⟨w.heap.size + 1, 0, none⟩ (.int .i64 5)).setCell ⟨w.heap.size + 1, 1, none⟩ (.bool o)).setCell ⟨w.heap.size + 1, 2, none⟩ (.int .u8 l)).setCell ⟨w.heap.size + 1, 3, none⟩ (.int .u8 h)).setCell ⟨w.heap.size + 1, 4, none⟩ (.int .u8 (Go.bits .and .u8 v 15))).setCell ⟨w.heap.size + 1, 5, none⟩ (.bool md)) := (below_set (below_set (below_set (below_set (below_set (below_set n1.out (Nat.le_succ _)) (Nat.le_succ _)) (Nat.le_succ _)) (Nat.le_succ _)) (Nat.le_succ _)) (Nat.le_succ _))
  generalize ((((((w2.setCell ⟨w.heap.size + 1, 0, none⟩ (.int .i64 5)).setCell ⟨w.heap.size + 1, 1, none⟩ (.bool o)).setCell ⟨w.heap.size + 1, 2, none⟩ (.int .u8 l)).setCell ⟨w.heap.size + 1, 3, none⟩ (.int .u8 h)).setCell ⟨w.heap.size + 1, 4, none⟩ (.int .u8 (Go.bits .and .u8 v 15))).setCell ⟨w.heap.size + 1, 5, none⟩ (.bool md)) = Y at q1 q2 ⊢
  have u0 : Y.cell? ⟨w.heap.size + 1, 0, none⟩ = some (.int .i64 5) := (blk_cell q1 0).trans rfl
  have u1 : Y.cell? ⟨w.heap.size + 1, 1, none⟩ = some (.bool o) := (blk_cell q1 1).trans rfl
  have u2 : Y.cell? ⟨w.heap.size + 1, 2, none⟩ = some (.int .u8 l) := (blk_cell q1 2).trans rfl
  have u3 : Y.cell? ⟨w.heap.size + 1, 3, none⟩ = some (.int .u8 h) := (blk_cell q1 3).trans rfl
  have u4 : Y.cell? ⟨w.heap.size + 1, 4, none⟩ = some (.int .u8 (Go.bits .and .u8 v 15)) := (blk_cell q1 4).trans rfl
  have u5 : Y.cell? ⟨w.heap.size + 1, 5, none⟩ = some (.bool md) := (blk_cell q1 5).trans rfl
  exact bodyPost_ret (v := .agg #[.int .i64 5, .bool o, .int .u8 l, .int .u8 h, .int .u8 (Go.bits .and .u8 v 15), .bool md]) (by simp [results, Try.results41, go_sem, u0, u1, u2, u3, u4, u5]) rfl ⟨rfl, q2⟩
set_option maxRecDepth 100000 in
set_option maxHeartbeats 400000 in
theorem wr_fifth5 (k : Int) (o : Bool) (l h r : Int) (md : Bool) (a v : Int) (hp : IntKind.i64.wrap (a / 4096) = 5) (ha : ¬ a ≥ 32768) (w : World) :
    Calls Try.prog 41 #[.agg #[.int .i64 5, .bool o, .int .u8 l, .int .u8 h, .int .u8 r, .bool md], .int .u16 a, .int .u8 v] w fun e' w' => e' = .returned (.agg #[.int .i64 5, .bool o, .int .u8 l, .int .u8 h, .int .u8 (Go.bits .and .u8 v 15), .bool md]) ∧ Below w.heap.size w w' := by
  go_enter Try.func41, Try.ntmps41
  go_wp2
  have bk := blk_alloc (blk_new w (.cells #[.int .i64 5, .bool o, .int .u8 l, .int .u8 h, .int .u8 r, .bool md] 32)) (.cells #[.int .i64 0, .bool false, .int .u8 0, .int .u8 0, .int .u8 0, .bool false] 32)
  have br := blk_at1 w (.cells #[.int .i64 5, .bool o, .int .u8 l, .int .u8 h, .int .u8 r, .bool md] 32) (.cells #[.int .i64 0, .bool false, .int .u8 0, .int .u8 0, .int .u8 0, .bool false] 32)
  have hB := below_alloc (below_alloc (Below.refl w.heap.size w) (.cells #[.int .i64 5, .bool o, .int .u8 l, .int .u8 h, .int .u8 r, .bool md] 32)) (.cells #[.int .i64 0, .bool false, .int .u8 0, .int .u8 0, .int .u8 0, .bool false] 32)
  generalize (w.alloc (.cells #[.int .i64 5, .bool o, .int .u8 l, .int .u8 h, .int .u8 r, .bool md] 32)).alloc (.cells #[.int .i64 0, .bool false, .int .u8 0, .int .u8 0, .int .u8 0, .bool false] 32) = W at bk br hB ⊢
  have BK := Aside0.mk bk
  have BR := Aside0.mk br
  have HB := Aside0.mk hB
  clear bk br hB
  have c0 : W.cell? ⟨w.heap.size, 0, none⟩ = some (.int .i64 5) := (blk_cell BK.out 0).trans rfl
  have c1 : W.cell? ⟨w.heap.size, 1, none⟩ = some (.bool o) := (blk_cell BK.out 1).trans rfl
  have c2 : W.cell? ⟨w.heap.size, 2, none⟩ = some (.int .u8 l) := (blk_cell BK.out 2).trans rfl
  have c3 : W.cell? ⟨w.heap.size, 3, none⟩ = some (.int .u8 h) := (blk_cell BK.out 3).trans rfl
  have c4 : W.cell? ⟨w.heap.size, 4, none⟩ = some (.int .u8 r) := (blk_cell BK.out 4).trans rfl
  have c5 : W.cell? ⟨w.heap.size, 5, none⟩ = some (.bool md) := (blk_cell BK.out 5).trans rfl
  have z0 : W.cell? ⟨w.heap.size + 1, 0, none⟩ = some (.int .i64 0) := (blk_cell BR.out 0).trans rfl
  have z1 : W.cell? ⟨w.heap.size + 1, 1, none⟩ = some (.bool false) := (blk_cell BR.out 1).trans rfl
  have z2 : W.cell? ⟨w.heap.size + 1, 2, none⟩ = some (.int .u8 0) := (blk_cell BR.out 2).trans rfl
  have z3 : W.cell? ⟨w.heap.size + 1, 3, none⟩ = some (.int .u8 0) := (blk_cell BR.out 3).trans rfl
  have z4 : W.cell? ⟨w.heap.size + 1, 4, none⟩ = some (.int .u8 0) := (blk_cell BR.out 4).trans rfl
  have z5 : W.cell? ⟨w.heap.size + 1, 5, none⟩ = some (.bool false) := (blk_cell BR.out 5).trans rfl
  have fr := fun i => blk_frozen BR.out i
  go_region_held3 (fun w' => w'.cell? ⟨w.heap.size, 0, none⟩ = some (.int .i64 5) ∧ w'.cell? ⟨w.heap.size, 1, none⟩ = some (.bool o) ∧ w'.cell? ⟨w.heap.size, 2, none⟩ = some (.int .u8 l) ∧ w'.cell? ⟨w.heap.size, 3, none⟩ = some (.int .u8 h) ∧ w'.cell? ⟨w.heap.size, 4, none⟩ = some (.int .u8 r) ∧ w'.cell? ⟨w.heap.size, 5, none⟩ = some (.bool md)) (go_keep)
    (first | (go_at_call 68; ((with_reducible refine (of5 _).mono ?_)); rintro e' w2 ⟨rfl, rfl⟩)
           | (go_at_call 108; ((with_reducible refine (write_fifth5 5 5 v o l h r md rfl _).mono ?_)); rintro e' w2 ⟨rfl, hb⟩; have n0 := Aside0.mk (blk_below (blk_drew BK.out) hb); have m0 := Aside0.mk (blk_below (blk_drew BR.out) hb); have n1 := Aside0.mk (below_step (below_drew1 HB.out) hb); clear hb; have d0 : w2.cell? ⟨w.heap.size, 0, none⟩ = some (.int .i64 5) := (blk_cell n0.out 0).trans rfl; have d1 : w2.cell? ⟨w.heap.size, 1, none⟩ = some (.bool o) := (blk_cell n0.out 1).trans rfl; have d2 : w2.cell? ⟨w.heap.size, 2, none⟩ = some (.int .u8 l) := (blk_cell n0.out 2).trans rfl; have d3 : w2.cell? ⟨w.heap.size, 3, none⟩ = some (.int .u8 h) := (blk_cell n0.out 3).trans rfl; have d4 : w2.cell? ⟨w.heap.size, 4, none⟩ = some (.int .u8 r) := (blk_cell n0.out 4).trans rfl; have d5 : w2.cell? ⟨w.heap.size, 5, none⟩ = some (.bool md) := (blk_cell n0.out 5).trans rfl; have y0 : w2.cell? ⟨w.heap.size + 1, 0, none⟩ = some (.int .i64 0) := (blk_cell m0.out 0).trans rfl; have y1 : w2.cell? ⟨w.heap.size + 1, 1, none⟩ = some (.bool false) := (blk_cell m0.out 1).trans rfl; have y2 : w2.cell? ⟨w.heap.size + 1, 2, none⟩ = some (.int .u8 0) := (blk_cell m0.out 2).trans rfl; have y3 : w2.cell? ⟨w.heap.size + 1, 3, none⟩ = some (.int .u8 0) := (blk_cell m0.out 3).trans rfl; have y4 : w2.cell? ⟨w.heap.size + 1, 4, none⟩ = some (.int .u8 0) := (blk_cell m0.out 4).trans rfl; have y5 : w2.cell? ⟨w.heap.size + 1, 5, none⟩ = some (.bool false) := (blk_cell m0.out 5).trans rfl; have fy := fun i => blk_frozen m0.out i))
  rename_i hHeld
  clear hHeld
  go_wp2
  have q1 : ((((((w2.setCell ⟨w.heap.size + 1, 0, none⟩ (.int .i64 5)).setCell ⟨w.heap.size + 1, 1, none⟩ (.bool o)).setCell ⟨w.heap.size + 1, 2, none⟩ (.int .u8 l)).setCell ⟨w.heap.size + 1, 3, none⟩ (.int .u8 h)).setCell ⟨w.heap.size + 1, 4, none⟩ (.int .u8 (Go.bits .and .u8 v 15))).setCell ⟨w.heap.size + 1, 5, none⟩ (.bool md)).heap[w.heap.size + 1]? = some (.cells #[.int .i64 5, .bool o, .int .u8 l, .int .u8 h, .int .u8 (Go.bits .and .u8 v 15), .bool md] 32 (0, 0)) := (blk_put (blk_put (blk_put (blk_put (blk_put (blk_put m0.out 0 _ rfl) 1 _ rfl) 2 _ rfl) 3 _ rfl) 4 _ rfl) 5 _ rfl)
  have q2 : Below w.heap.size w ((((((w2.setCell ⟨w.heap.size + 1, 0, none⟩ (.int .i64 5)).setCell ⟨w.heap.size + 1, 1, none⟩ (.bool o)).setCell ⟨w.heap.size + 1, 2, none⟩ (.int .u8 l)).setCell ⟨w.heap.size + 1, 3, none⟩ (.int .u8 h)).setCell ⟨w.heap.size + 1, 4, none⟩ (.int .u8 (Go.bits .and .u8 v 15))).setCell ⟨w.heap.size + 1, 5, none⟩ (.bool md)) := (below_set (below_set (below_set (below_set (below_set (below_set n1.out (Nat.le_succ _)) (Nat.le_succ _)) (Nat.le_succ _)) (Nat.le_succ _)) (Nat.le_succ _)) (Nat.le_succ _))
  generalize ((((((w2.setCell ⟨w.heap.size + 1, 0, none⟩ (.int .i64 5)).setCell ⟨w.heap.size + 1, 1, none⟩ (.bool o)).setCell ⟨w.heap.size + 1, 2, none⟩ (.int .u8 l)).setCell ⟨w.heap.size + 1, 3, none⟩ (.int .u8 h)).setCell ⟨w.heap.size + 1, 4, none⟩ (.int .u8 (Go.bits .and .u8 v 15))).setCell ⟨w.heap.size + 1, 5, none⟩ (.bool md)) = Y at q1 q2 ⊢
  have u0 : Y.cell? ⟨w.heap.size + 1, 0, none⟩ = some (.int .i64 5) := (blk_cell q1 0).trans rfl
  have u1 : Y.cell? ⟨w.heap.size + 1, 1, none⟩ = some (.bool o) := (blk_cell q1 1).trans rfl
  have u2 : Y.cell? ⟨w.heap.size + 1, 2, none⟩ = some (.int .u8 l) := (blk_cell q1 2).trans rfl
  have u3 : Y.cell? ⟨w.heap.size + 1, 3, none⟩ = some (.int .u8 h) := (blk_cell q1 3).trans rfl
  have u4 : Y.cell? ⟨w.heap.size + 1, 4, none⟩ = some (.int .u8 (Go.bits .and .u8 v 15)) := (blk_cell q1 4).trans rfl
  have u5 : Y.cell? ⟨w.heap.size + 1, 5, none⟩ = some (.bool md) := (blk_cell q1 5).trans rfl
  exact bodyPost_ret (v := .agg #[.int .i64 5, .bool o, .int .u8 l, .int .u8 h, .int .u8 (Go.bits .and .u8 v 15), .bool md]) (by simp [results, Try.results41, go_sem, u0, u1, u2, u3, u4, u5]) rfl ⟨rfl, q2⟩
set_option maxRecDepth 100000 in
set_option maxHeartbeats 400000 in
theorem wr_fifth_no (k : Int) (o : Bool) (l h r : Int) (md : Bool) (a v : Int) (h0 : ¬ IntKind.i64.wrap (a / 4096) = 0) (h1 : ¬ IntKind.i64.wrap (a / 4096) = 1) (h2 : ¬ IntKind.i64.wrap (a / 4096) = 2) (h3 : ¬ IntKind.i64.wrap (a / 4096) = 3) (h4 : ¬ IntKind.i64.wrap (a / 4096) = 4) (h5 : ¬ IntKind.i64.wrap (a / 4096) = 5) (ha : ¬ a ≥ 32768) (w : World) :
    Calls Try.prog 41 #[.agg #[.int .i64 5, .bool o, .int .u8 l, .int .u8 h, .int .u8 r, .bool md], .int .u16 a, .int .u8 v] w fun e' w' => e' = .returned (.agg #[.int .i64 5, .bool o, .int .u8 l, .int .u8 h, .int .u8 r, .bool md]) ∧ Below w.heap.size w w' := by
  go_enter Try.func41, Try.ntmps41
  go_wp2
  have bk := blk_alloc (blk_new w (.cells #[.int .i64 5, .bool o, .int .u8 l, .int .u8 h, .int .u8 r, .bool md] 32)) (.cells #[.int .i64 0, .bool false, .int .u8 0, .int .u8 0, .int .u8 0, .bool false] 32)
  have br := blk_at1 w (.cells #[.int .i64 5, .bool o, .int .u8 l, .int .u8 h, .int .u8 r, .bool md] 32) (.cells #[.int .i64 0, .bool false, .int .u8 0, .int .u8 0, .int .u8 0, .bool false] 32)
  have hB := below_alloc (below_alloc (Below.refl w.heap.size w) (.cells #[.int .i64 5, .bool o, .int .u8 l, .int .u8 h, .int .u8 r, .bool md] 32)) (.cells #[.int .i64 0, .bool false, .int .u8 0, .int .u8 0, .int .u8 0, .bool false] 32)
  generalize (w.alloc (.cells #[.int .i64 5, .bool o, .int .u8 l, .int .u8 h, .int .u8 r, .bool md] 32)).alloc (.cells #[.int .i64 0, .bool false, .int .u8 0, .int .u8 0, .int .u8 0, .bool false] 32) = W at bk br hB ⊢
  have BK := Aside0.mk bk
  have BR := Aside0.mk br
  have HB := Aside0.mk hB
  clear bk br hB
  have c0 : W.cell? ⟨w.heap.size, 0, none⟩ = some (.int .i64 5) := (blk_cell BK.out 0).trans rfl
  have c1 : W.cell? ⟨w.heap.size, 1, none⟩ = some (.bool o) := (blk_cell BK.out 1).trans rfl
  have c2 : W.cell? ⟨w.heap.size, 2, none⟩ = some (.int .u8 l) := (blk_cell BK.out 2).trans rfl
  have c3 : W.cell? ⟨w.heap.size, 3, none⟩ = some (.int .u8 h) := (blk_cell BK.out 3).trans rfl
  have c4 : W.cell? ⟨w.heap.size, 4, none⟩ = some (.int .u8 r) := (blk_cell BK.out 4).trans rfl
  have c5 : W.cell? ⟨w.heap.size, 5, none⟩ = some (.bool md) := (blk_cell BK.out 5).trans rfl
  have z0 : W.cell? ⟨w.heap.size + 1, 0, none⟩ = some (.int .i64 0) := (blk_cell BR.out 0).trans rfl
  have z1 : W.cell? ⟨w.heap.size + 1, 1, none⟩ = some (.bool false) := (blk_cell BR.out 1).trans rfl
  have z2 : W.cell? ⟨w.heap.size + 1, 2, none⟩ = some (.int .u8 0) := (blk_cell BR.out 2).trans rfl
  have z3 : W.cell? ⟨w.heap.size + 1, 3, none⟩ = some (.int .u8 0) := (blk_cell BR.out 3).trans rfl
  have z4 : W.cell? ⟨w.heap.size + 1, 4, none⟩ = some (.int .u8 0) := (blk_cell BR.out 4).trans rfl
  have z5 : W.cell? ⟨w.heap.size + 1, 5, none⟩ = some (.bool false) := (blk_cell BR.out 5).trans rfl
  have fr := fun i => blk_frozen BR.out i
  go_region_held3 (fun w' => w'.cell? ⟨w.heap.size, 0, none⟩ = some (.int .i64 5) ∧ w'.cell? ⟨w.heap.size, 1, none⟩ = some (.bool o) ∧ w'.cell? ⟨w.heap.size, 2, none⟩ = some (.int .u8 l) ∧ w'.cell? ⟨w.heap.size, 3, none⟩ = some (.int .u8 h) ∧ w'.cell? ⟨w.heap.size, 4, none⟩ = some (.int .u8 r) ∧ w'.cell? ⟨w.heap.size, 5, none⟩ = some (.bool md)) (go_keep)
    (first | (go_at_call 68; ((with_reducible refine (of5 _).mono ?_)); rintro e' w2 ⟨rfl, rfl⟩)
           | (go_at_call 108; ((with_reducible refine (write_fifth_no 5 (IntKind.i64.wrap (a / 4096)) v o l h r md h0 h1 h2 h3 h4 h5 _).mono ?_)); rintro e' w2 ⟨rfl, hb⟩; have n0 := Aside0.mk (blk_below (blk_drew BK.out) hb); have m0 := Aside0.mk (blk_below (blk_drew BR.out) hb); have n1 := Aside0.mk (below_step (below_drew1 HB.out) hb); clear hb; have d0 : w2.cell? ⟨w.heap.size, 0, none⟩ = some (.int .i64 5) := (blk_cell n0.out 0).trans rfl; have d1 : w2.cell? ⟨w.heap.size, 1, none⟩ = some (.bool o) := (blk_cell n0.out 1).trans rfl; have d2 : w2.cell? ⟨w.heap.size, 2, none⟩ = some (.int .u8 l) := (blk_cell n0.out 2).trans rfl; have d3 : w2.cell? ⟨w.heap.size, 3, none⟩ = some (.int .u8 h) := (blk_cell n0.out 3).trans rfl; have d4 : w2.cell? ⟨w.heap.size, 4, none⟩ = some (.int .u8 r) := (blk_cell n0.out 4).trans rfl; have d5 : w2.cell? ⟨w.heap.size, 5, none⟩ = some (.bool md) := (blk_cell n0.out 5).trans rfl; have y0 : w2.cell? ⟨w.heap.size + 1, 0, none⟩ = some (.int .i64 0) := (blk_cell m0.out 0).trans rfl; have y1 : w2.cell? ⟨w.heap.size + 1, 1, none⟩ = some (.bool false) := (blk_cell m0.out 1).trans rfl; have y2 : w2.cell? ⟨w.heap.size + 1, 2, none⟩ = some (.int .u8 0) := (blk_cell m0.out 2).trans rfl; have y3 : w2.cell? ⟨w.heap.size + 1, 3, none⟩ = some (.int .u8 0) := (blk_cell m0.out 3).trans rfl; have y4 : w2.cell? ⟨w.heap.size + 1, 4, none⟩ = some (.int .u8 0) := (blk_cell m0.out 4).trans rfl; have y5 : w2.cell? ⟨w.heap.size + 1, 5, none⟩ = some (.bool false) := (blk_cell m0.out 5).trans rfl; have fy := fun i => blk_frozen m0.out i))
  rename_i hHeld
  clear hHeld
  go_wp2
  have q1 : ((((((w2.setCell ⟨w.heap.size + 1, 0, none⟩ (.int .i64 5)).setCell ⟨w.heap.size + 1, 1, none⟩ (.bool o)).setCell ⟨w.heap.size + 1, 2, none⟩ (.int .u8 l)).setCell ⟨w.heap.size + 1, 3, none⟩ (.int .u8 h)).setCell ⟨w.heap.size + 1, 4, none⟩ (.int .u8 r)).setCell ⟨w.heap.size + 1, 5, none⟩ (.bool md)).heap[w.heap.size + 1]? = some (.cells #[.int .i64 5, .bool o, .int .u8 l, .int .u8 h, .int .u8 r, .bool md] 32 (0, 0)) := (blk_put (blk_put (blk_put (blk_put (blk_put (blk_put m0.out 0 _ rfl) 1 _ rfl) 2 _ rfl) 3 _ rfl) 4 _ rfl) 5 _ rfl)
  have q2 : Below w.heap.size w ((((((w2.setCell ⟨w.heap.size + 1, 0, none⟩ (.int .i64 5)).setCell ⟨w.heap.size + 1, 1, none⟩ (.bool o)).setCell ⟨w.heap.size + 1, 2, none⟩ (.int .u8 l)).setCell ⟨w.heap.size + 1, 3, none⟩ (.int .u8 h)).setCell ⟨w.heap.size + 1, 4, none⟩ (.int .u8 r)).setCell ⟨w.heap.size + 1, 5, none⟩ (.bool md)) := (below_set (below_set (below_set (below_set (below_set (below_set n1.out (Nat.le_succ _)) (Nat.le_succ _)) (Nat.le_succ _)) (Nat.le_succ _)) (Nat.le_succ _)) (Nat.le_succ _))
  generalize ((((((w2.setCell ⟨w.heap.size + 1, 0, none⟩ (.int .i64 5)).setCell ⟨w.heap.size + 1, 1, none⟩ (.bool o)).setCell ⟨w.heap.size + 1, 2, none⟩ (.int .u8 l)).setCell ⟨w.heap.size + 1, 3, none⟩ (.int .u8 h)).setCell ⟨w.heap.size + 1, 4, none⟩ (.int .u8 r)).setCell ⟨w.heap.size + 1, 5, none⟩ (.bool md)) = Y at q1 q2 ⊢
  have u0 : Y.cell? ⟨w.heap.size + 1, 0, none⟩ = some (.int .i64 5) := (blk_cell q1 0).trans rfl
  have u1 : Y.cell? ⟨w.heap.size + 1, 1, none⟩ = some (.bool o) := (blk_cell q1 1).trans rfl
  have u2 : Y.cell? ⟨w.heap.size + 1, 2, none⟩ = some (.int .u8 l) := (blk_cell q1 2).trans rfl
  have u3 : Y.cell? ⟨w.heap.size + 1, 3, none⟩ = some (.int .u8 h) := (blk_cell q1 3).trans rfl
  have u4 : Y.cell? ⟨w.heap.size + 1, 4, none⟩ = some (.int .u8 r) := (blk_cell q1 4).trans rfl
  have u5 : Y.cell? ⟨w.heap.size + 1, 5, none⟩ = some (.bool md) := (blk_cell q1 5).trans rfl
  exact bodyPost_ret (v := .agg #[.int .i64 5, .bool o, .int .u8 l, .int .u8 h, .int .u8 r, .bool md]) (by simp [results, Try.results41, go_sem, u0, u1, u2, u3, u4, u5]) rfl ⟨rfl, q2⟩
set_option maxRecDepth 100000 in
set_option maxHeartbeats 400000 in
theorem wr_plain (k : Int) (o : Bool) (l h r : Int) (md : Bool) (a v : Int) (h1 : ¬ k = 1) (h3 : ¬ k = 3) (h5 : ¬ k = 5) (ha : ¬ a ≥ 32768) (w : World) :
    Calls Try.prog 41 #[.agg #[.int .i64 k, .bool o, .int .u8 l, .int .u8 h, .int .u8 r, .bool md], .int .u16 a, .int .u8 v] w fun e' w' => e' = .returned (.agg #[.int .i64 k, .bool o, .int .u8 l, .int .u8 h, .int .u8 r, .bool md]) ∧ Below w.heap.size w w' := by
  go_enter Try.func41, Try.ntmps41
  go_wp2
  have bk := blk_alloc (blk_new w (.cells #[.int .i64 k, .bool o, .int .u8 l, .int .u8 h, .int .u8 r, .bool md] 32)) (.cells #[.int .i64 0, .bool false, .int .u8 0, .int .u8 0, .int .u8 0, .bool false] 32)
  have br := blk_at1 w (.cells #[.int .i64 k, .bool o, .int .u8 l, .int .u8 h, .int .u8 r, .bool md] 32) (.cells #[.int .i64 0, .bool false, .int .u8 0, .int .u8 0, .int .u8 0, .bool false] 32)
  have hB := below_alloc (below_alloc (Below.refl w.heap.size w) (.cells #[.int .i64 k, .bool o, .int .u8 l, .int .u8 h, .int .u8 r, .bool md] 32)) (.cells #[.int .i64 0, .bool false, .int .u8 0, .int .u8 0, .int .u8 0, .bool false] 32)
  generalize (w.alloc (.cells #[.int .i64 k, .bool o, .int .u8 l, .int .u8 h, .int .u8 r, .bool md] 32)).alloc (.cells #[.int .i64 0, .bool false, .int .u8 0, .int .u8 0, .int .u8 0, .bool false] 32) = W at bk br hB ⊢
  have BK := Aside0.mk bk
  have BR := Aside0.mk br
  have HB := Aside0.mk hB
  clear bk br hB
  have c0 : W.cell? ⟨w.heap.size, 0, none⟩ = some (.int .i64 k) := (blk_cell BK.out 0).trans rfl
  have c1 : W.cell? ⟨w.heap.size, 1, none⟩ = some (.bool o) := (blk_cell BK.out 1).trans rfl
  have c2 : W.cell? ⟨w.heap.size, 2, none⟩ = some (.int .u8 l) := (blk_cell BK.out 2).trans rfl
  have c3 : W.cell? ⟨w.heap.size, 3, none⟩ = some (.int .u8 h) := (blk_cell BK.out 3).trans rfl
  have c4 : W.cell? ⟨w.heap.size, 4, none⟩ = some (.int .u8 r) := (blk_cell BK.out 4).trans rfl
  have c5 : W.cell? ⟨w.heap.size, 5, none⟩ = some (.bool md) := (blk_cell BK.out 5).trans rfl
  have z0 : W.cell? ⟨w.heap.size + 1, 0, none⟩ = some (.int .i64 0) := (blk_cell BR.out 0).trans rfl
  have z1 : W.cell? ⟨w.heap.size + 1, 1, none⟩ = some (.bool false) := (blk_cell BR.out 1).trans rfl
  have z2 : W.cell? ⟨w.heap.size + 1, 2, none⟩ = some (.int .u8 0) := (blk_cell BR.out 2).trans rfl
  have z3 : W.cell? ⟨w.heap.size + 1, 3, none⟩ = some (.int .u8 0) := (blk_cell BR.out 3).trans rfl
  have z4 : W.cell? ⟨w.heap.size + 1, 4, none⟩ = some (.int .u8 0) := (blk_cell BR.out 4).trans rfl
  have z5 : W.cell? ⟨w.heap.size + 1, 5, none⟩ = some (.bool false) := (blk_cell BR.out 5).trans rfl
  have fr := fun i => blk_frozen BR.out i
  go_region_held3 (fun w' => w'.cell? ⟨w.heap.size, 0, none⟩ = some (.int .i64 k) ∧ w'.cell? ⟨w.heap.size, 1, none⟩ = some (.bool o) ∧ w'.cell? ⟨w.heap.size, 2, none⟩ = some (.int .u8 l) ∧ w'.cell? ⟨w.heap.size, 3, none⟩ = some (.int .u8 h) ∧ w'.cell? ⟨w.heap.size, 4, none⟩ = some (.int .u8 r) ∧ w'.cell? ⟨w.heap.size, 5, none⟩ = some (.bool md)) (go_keep)
    (first | (go_at_call 68; ((with_reducible refine (of0 k h1 h3 h5 _).mono ?_)); rintro e' w2 ⟨rfl, rfl⟩)
           | (go_at_call 112; ((with_reducible refine (write_plain k (IntKind.i64.wrap (a / 4096)) v o l h r md _).mono ?_)); rintro e' w2 ⟨rfl, hb⟩; have n0 := Aside0.mk (blk_below (blk_drew BK.out) hb); have m0 := Aside0.mk (blk_below (blk_drew BR.out) hb); have n1 := Aside0.mk (below_step (below_drew1 HB.out) hb); clear hb; have d0 : w2.cell? ⟨w.heap.size, 0, none⟩ = some (.int .i64 k) := (blk_cell n0.out 0).trans rfl; have d1 : w2.cell? ⟨w.heap.size, 1, none⟩ = some (.bool o) := (blk_cell n0.out 1).trans rfl; have d2 : w2.cell? ⟨w.heap.size, 2, none⟩ = some (.int .u8 l) := (blk_cell n0.out 2).trans rfl; have d3 : w2.cell? ⟨w.heap.size, 3, none⟩ = some (.int .u8 h) := (blk_cell n0.out 3).trans rfl; have d4 : w2.cell? ⟨w.heap.size, 4, none⟩ = some (.int .u8 r) := (blk_cell n0.out 4).trans rfl; have d5 : w2.cell? ⟨w.heap.size, 5, none⟩ = some (.bool md) := (blk_cell n0.out 5).trans rfl; have y0 : w2.cell? ⟨w.heap.size + 1, 0, none⟩ = some (.int .i64 0) := (blk_cell m0.out 0).trans rfl; have y1 : w2.cell? ⟨w.heap.size + 1, 1, none⟩ = some (.bool false) := (blk_cell m0.out 1).trans rfl; have y2 : w2.cell? ⟨w.heap.size + 1, 2, none⟩ = some (.int .u8 0) := (blk_cell m0.out 2).trans rfl; have y3 : w2.cell? ⟨w.heap.size + 1, 3, none⟩ = some (.int .u8 0) := (blk_cell m0.out 3).trans rfl; have y4 : w2.cell? ⟨w.heap.size + 1, 4, none⟩ = some (.int .u8 0) := (blk_cell m0.out 4).trans rfl; have y5 : w2.cell? ⟨w.heap.size + 1, 5, none⟩ = some (.bool false) := (blk_cell m0.out 5).trans rfl; have fy := fun i => blk_frozen m0.out i))
  rename_i hHeld
  clear hHeld
  go_wp2
  have q1 : ((((((w2.setCell ⟨w.heap.size + 1, 0, none⟩ (.int .i64 k)).setCell ⟨w.heap.size + 1, 1, none⟩ (.bool o)).setCell ⟨w.heap.size + 1, 2, none⟩ (.int .u8 l)).setCell ⟨w.heap.size + 1, 3, none⟩ (.int .u8 h)).setCell ⟨w.heap.size + 1, 4, none⟩ (.int .u8 r)).setCell ⟨w.heap.size + 1, 5, none⟩ (.bool md)).heap[w.heap.size + 1]? = some (.cells #[.int .i64 k, .bool o, .int .u8 l, .int .u8 h, .int .u8 r, .bool md] 32 (0, 0)) := (blk_put (blk_put (blk_put (blk_put (blk_put (blk_put m0.out 0 _ rfl) 1 _ rfl) 2 _ rfl) 3 _ rfl) 4 _ rfl) 5 _ rfl)
  have q2 : Below w.heap.size w ((((((w2.setCell ⟨w.heap.size + 1, 0, none⟩ (.int .i64 k)).setCell ⟨w.heap.size + 1, 1, none⟩ (.bool o)).setCell ⟨w.heap.size + 1, 2, none⟩ (.int .u8 l)).setCell ⟨w.heap.size + 1, 3, none⟩ (.int .u8 h)).setCell ⟨w.heap.size + 1, 4, none⟩ (.int .u8 r)).setCell ⟨w.heap.size + 1, 5, none⟩ (.bool md)) := (below_set (below_set (below_set (below_set (below_set (below_set n1.out (Nat.le_succ _)) (Nat.le_succ _)) (Nat.le_succ _)) (Nat.le_succ _)) (Nat.le_succ _)) (Nat.le_succ _))
  generalize ((((((w2.setCell ⟨w.heap.size + 1, 0, none⟩ (.int .i64 k)).setCell ⟨w.heap.size + 1, 1, none⟩ (.bool o)).setCell ⟨w.heap.size + 1, 2, none⟩ (.int .u8 l)).setCell ⟨w.heap.size + 1, 3, none⟩ (.int .u8 h)).setCell ⟨w.heap.size + 1, 4, none⟩ (.int .u8 r)).setCell ⟨w.heap.size + 1, 5, none⟩ (.bool md)) = Y at q1 q2 ⊢
  have u0 : Y.cell? ⟨w.heap.size + 1, 0, none⟩ = some (.int .i64 k) := (blk_cell q1 0).trans rfl
  have u1 : Y.cell? ⟨w.heap.size + 1, 1, none⟩ = some (.bool o) := (blk_cell q1 1).trans rfl
  have u2 : Y.cell? ⟨w.heap.size + 1, 2, none⟩ = some (.int .u8 l) := (blk_cell q1 2).trans rfl
  have u3 : Y.cell? ⟨w.heap.size + 1, 3, none⟩ = some (.int .u8 h) := (blk_cell q1 3).trans rfl
  have u4 : Y.cell? ⟨w.heap.size + 1, 4, none⟩ = some (.int .u8 r) := (blk_cell q1 4).trans rfl
  have u5 : Y.cell? ⟨w.heap.size + 1, 5, none⟩ = some (.bool md) := (blk_cell q1 5).trans rfl
  exact bodyPost_ret (v := .agg #[.int .i64 k, .bool o, .int .u8 l, .int .u8 h, .int .u8 r, .bool md]) (by simp [results, Try.results41, go_sem, u0, u1, u2, u3, u4, u5]) rfl ⟨rfl, q2⟩
set_option maxRecDepth 100000 in
set_option maxHeartbeats 400000 in
theorem wr_far (k : Int) (o : Bool) (l h r : Int) (md : Bool) (a v : Int) (ha : a ≥ 32768) (w : World) :
    Calls Try.prog 41 #[.agg #[.int .i64 k, .bool o, .int .u8 l, .int .u8 h, .int .u8 r, .bool md], .int .u16 a, .int .u8 v] w fun e' w' => e' = .returned (.agg #[.int .i64 k, .bool o, .int .u8 l, .int .u8 h, .int .u8 r, .bool md]) ∧ Below w.heap.size w w' := by
  go_enter Try.func41, Try.ntmps41
  go_wp2
  go_returns
  exact ⟨rfl, by go_grown⟩
def writeF (k : Int) (o : Bool) (l h r : Int) (md : Bool) (a v : Int) : Int × Bool × Int × Int × Int × Bool :=
  if a ≥ 32768 then (k, o, l, h, r, md) else
  if k = 1 then (if wrap64 (Int.tdiv (IntKind.i64.wrap (a / 4096)) 2) = 0 then (k, ((Go.bits .and .u8 v 15) == 10), l, h, r, md) else if wrap64 (Int.tdiv (IntKind.i64.wrap (a / 4096)) 2) = 1 then (k, o, (Go.bits .and .u8 v 31), h, r, md) else if wrap64 (Int.tdiv (IntKind.i64.wrap (a / 4096)) 2) = 2 then (k, o, l, (Go.bits .and .u8 v 3), r, md) else if wrap64 (Int.tdiv (IntKind.i64.wrap (a / 4096)) 2) = 3 then (k, o, l, h, r, ((Go.bits .and .u8 v 1) == 1)) else (k, o, l, h, r, md)) else
  if k = 3 then (if wrap64 (Int.tdiv (IntKind.i64.wrap (a / 4096)) 2) = 0 then (k, ((Go.bits .and .u8 v 15) == 10), l, h, r, md) else if wrap64 (Int.tdiv (IntKind.i64.wrap (a / 4096)) 2) = 1 then (k, o, (Go.bits .and .u8 v 127), h, r, md) else if wrap64 (Int.tdiv (IntKind.i64.wrap (a / 4096)) 2) = 2 then (k, o, l, h, (Go.bits .and .u8 v 15), md) else (k, o, l, h, r, md)) else
  if k = 5 then (if IntKind.i64.wrap (a / 4096) = 0 then (k, (v == 10), l, h, r, md) else if IntKind.i64.wrap (a / 4096) = 1 then (k, (v == 10), l, h, r, md) else if IntKind.i64.wrap (a / 4096) = 2 then (k, o, v, h, r, md) else if IntKind.i64.wrap (a / 4096) = 3 then (k, o, l, (Go.bits .and .u8 v 1), r, md) else if IntKind.i64.wrap (a / 4096) = 4 then (k, o, l, h, (Go.bits .and .u8 v 15), md) else if IntKind.i64.wrap (a / 4096) = 5 then (k, o, l, h, (Go.bits .and .u8 v 15), md) else (k, o, l, h, r, md)) else
  (k, o, l, h, r, md)
def mapper_Write.f (a0_0 : Int) (a0_1 : Bool) (a0_2 a0_3 a0_4 : Int) (a0_5 : Bool) (a1 a2 : Int) : Option (Int × Bool × Int × Int × Int × Bool) := some (writeF a0_0 a0_1 a0_2 a0_3 a0_4 a0_5 a1 a2)
theorem mapper_Write.calls (a0_0 : Int) (a0_1 : Bool) (a0_2 a0_3 a0_4 : Int) (a0_5 : Bool) (a1 a2 : Int) (r1 : Int) (r2 : Bool) (r3 r4 r5 : Int) (r6 : Bool) (w : World) (hf : mapper_Write.f a0_0 a0_1 a0_2 a0_3 a0_4 a0_5 a1 a2 = some (r1, r2, r3, r4, r5, r6)) :
    Calls Try.prog 41 #[.agg #[.int .i64 a0_0, .bool a0_1, .int .u8 a0_2, .int .u8 a0_3, .int .u8 a0_4, .bool a0_5], .int .u16 a1, .int .u8 a2] w fun e w' => e = .returned (.agg #[.int .i64 r1, .bool r2, .int .u8 r3, .int .u8 r4, .int .u8 r5, .bool r6]) ∧ Below w.heap.size w w' := by
  replace hf := Option.some.inj hf
  unfold writeF at hf
  by_cases hA : a1 ≥ 32768
  · rw [if_pos hA] at hf
    cases hf
    exact wr_far _ _ _ _ _ _ _ _ hA w
  rw [if_neg hA] at hf
  by_cases k1 : a0_0 = 1
  · subst k1
    rw [if_pos rfl] at hf
    by_cases h0 : wrap64 (Int.tdiv (IntKind.i64.wrap (a1 / 4096)) 2) = 0
    · rw [if_pos h0] at hf
      cases hf
      exact wr_first0 0 _ _ _ _ _ _ _ h0 hA w
    rw [if_neg h0] at hf
    by_cases h1 : wrap64 (Int.tdiv (IntKind.i64.wrap (a1 / 4096)) 2) = 1
    · rw [if_pos h1] at hf
      cases hf
      exact wr_first1 0 _ _ _ _ _ _ _ h1 hA w
    rw [if_neg h1] at hf
    by_cases h2 : wrap64 (Int.tdiv (IntKind.i64.wrap (a1 / 4096)) 2) = 2
    · rw [if_pos h2] at hf
      cases hf
      exact wr_first2 0 _ _ _ _ _ _ _ h2 hA w
    rw [if_neg h2] at hf
    by_cases h3 : wrap64 (Int.tdiv (IntKind.i64.wrap (a1 / 4096)) 2) = 3
    · rw [if_pos h3] at hf
      cases hf
      exact wr_first3 0 _ _ _ _ _ _ _ h3 hA w
    rw [if_neg h3] at hf
    cases hf
    exact wr_first_no 0 _ _ _ _ _ _ _ h0 h1 h2 h3 hA w
  rw [if_neg k1] at hf
  by_cases k3 : a0_0 = 3
  · subst k3
    rw [if_pos rfl] at hf
    by_cases h0 : wrap64 (Int.tdiv (IntKind.i64.wrap (a1 / 4096)) 2) = 0
    · rw [if_pos h0] at hf
      cases hf
      exact wr_third0 0 _ _ _ _ _ _ _ h0 hA w
    rw [if_neg h0] at hf
    by_cases h1 : wrap64 (Int.tdiv (IntKind.i64.wrap (a1 / 4096)) 2) = 1
    · rw [if_pos h1] at hf
      cases hf
      exact wr_third1 0 _ _ _ _ _ _ _ h1 hA w
    rw [if_neg h1] at hf
    by_cases h2 : wrap64 (Int.tdiv (IntKind.i64.wrap (a1 / 4096)) 2) = 2
    · rw [if_pos h2] at hf
      cases hf
      exact wr_third2 0 _ _ _ _ _ _ _ h2 hA w
    rw [if_neg h2] at hf
    cases hf
    exact wr_third_no 0 _ _ _ _ _ _ _ h0 h1 h2 hA w
  rw [if_neg k3] at hf
  by_cases k5 : a0_0 = 5
  · subst k5
    rw [if_pos rfl] at hf
    by_cases h0 : IntKind.i64.wrap (a1 / 4096) = 0
    · rw [if_pos h0] at hf
      cases hf
      exact wr_fifth0 0 _ _ _ _ _ _ _ h0 hA w
    rw [if_neg h0] at hf
    by_cases h1 : IntKind.i64.wrap (a1 / 4096) = 1
    · rw [if_pos h1] at hf
      cases hf
      exact wr_fifth1 0 _ _ _ _ _ _ _ h1 hA w
    rw [if_neg h1] at hf
    by_cases h2 : IntKind.i64.wrap (a1 / 4096) = 2
    · rw [if_pos h2] at hf
      cases hf
      exact wr_fifth2 0 _ _ _ _ _ _ _ h2 hA w
    rw [if_neg h2] at hf
    by_cases h3 : IntKind.i64.wrap (a1 / 4096) = 3
    · rw [if_pos h3] at hf
      cases hf
      exact wr_fifth3 0 _ _ _ _ _ _ _ h3 hA w
    rw [if_neg h3] at hf
    by_cases h4 : IntKind.i64.wrap (a1 / 4096) = 4
    · rw [if_pos h4] at hf
      cases hf
      exact wr_fifth4 0 _ _ _ _ _ _ _ h4 hA w
    rw [if_neg h4] at hf
    by_cases h5 : IntKind.i64.wrap (a1 / 4096) = 5
    · rw [if_pos h5] at hf
      cases hf
      exact wr_fifth5 0 _ _ _ _ _ _ _ h5 hA w
    rw [if_neg h5] at hf
    cases hf
    exact wr_fifth_no 0 _ _ _ _ _ _ _ h0 h1 h2 h3 h4 h5 hA w
  rw [if_neg k5] at hf
  cases hf
  exact wr_plain _ _ _ _ _ _ _ _ k1 k3 k5 hA w
end Go.Proofs.Ytmjjojbedllmgaa.Hand
end
section
namespace Go.Proofs.Ytmjjojbedllmgaa.G
end Go.Proofs.Ytmjjojbedllmgaa.G
end
section
namespace Go.Proofs.Ytmjjojbedllmgaa.Hand
open Go.RowKit
open Go.Proofs.Ytmjjojbedllmgaa.G
open Go.Proofs.YtmjjojbedllmgaaW.PrintWords Go.Proofs.YtmjjojbedllmgaaW.PrintLast Go.Proofs.YtmjjojbedllmgaaW.PrintMore
set_option linter.unusedVariables false
def clock_Write.f (a0_0 : Int) (a0_1 : Int) (a0_2 : Int) (a0_3 : Int) (a0_4 : Bool) (a0_5 : Bool) (a1 : Int) (a2 : Int) : Option (Int × Int × Int × Int × Bool × Bool × Int) := (clock_Norm.f a0_0 a0_1 a0_2 a0_3 a0_4 a0_5).bind fun bt340 => (if a1 = 8 then ((clock_Norm.f a2 bt340.2.1 bt340.2.2.1 bt340.2.2.2.1 bt340.2.2.2.2.1 bt340.2.2.2.2.2).bind fun bt346 => (some (bt346.1, bt346.2.1, bt346.2.2.1, bt346.2.2.2.1, bt346.2.2.2.2.1, bt346.2.2.2.2.2, 0))) else (if a1 = 9 then ((clock_Norm.f bt340.1 a2 bt340.2.2.1 bt340.2.2.2.1 bt340.2.2.2.2.1 bt340.2.2.2.2.2).bind fun bt352 => (some (bt352.1, bt352.2.1, bt352.2.2.1, bt352.2.2.2.1, bt352.2.2.2.2.1, bt352.2.2.2.2.2, 0))) else (if a1 = 10 then ((clock_Norm.f bt340.1 bt340.2.1 a2 bt340.2.2.2.1 bt340.2.2.2.2.1 bt340.2.2.2.2.2).bind fun bt358 => (some (bt358.1, bt358.2.1, bt358.2.2.1, bt358.2.2.2.1, bt358.2.2.2.2.1, bt358.2.2.2.2.2, 0))) else (if a1 = 11 then ((clock_Norm.f bt340.1 bt340.2.1 bt340.2.2.1 (Go.bits .or .u16 (Go.bits .and .u16 bt340.2.2.2.1 256) (IntKind.u16.wrap (a2))) bt340.2.2.2.2.1 bt340.2.2.2.2.2).bind fun bt364 => (some (bt364.1, bt364.2.1, bt364.2.2.1, bt364.2.2.2.1, bt364.2.2.2.2.1, bt364.2.2.2.2.2, 0))) else (if a1 = 12 then ((clock_Norm.f bt340.1 bt340.2.1 bt340.2.2.1 (Go.bits .or .u16 (Go.bits .and .u16 bt340.2.2.2.1 255) (IntKind.u16.wrap ((IntKind.u16.wrap (Go.bits .and .u8 a2 1)) * 256))) ((Go.bits .and .u8 a2 64) != 0) ((Go.bits .and .u8 a2 128) != 0)).bind fun bt370 => (some (bt370.1, bt370.2.1, bt370.2.2.1, bt370.2.2.2.1, bt370.2.2.2.2.1, bt370.2.2.2.2.2, 0))) else (some (0, 0, 0, 0, false, false, 7)))))))
set_option maxRecDepth 100000 in
set_option maxHeartbeats 4000000 in
theorem clock_Write.calls (a0_0 a0_1 a0_2 a0_3 : Int) (a0_4 a0_5 : Bool) (a1 a2 : Int) (r1 r2 r3 r4 : Int) (r5 r6 : Bool) (r7 : Int) (w : World) (h : clock_Write.f a0_0 a0_1 a0_2 a0_3 a0_4 a0_5 a1 a2 = some (r1, r2, r3, r4, r5, r6, r7)) :
    Calls Try.prog 43 #[.agg #[.int .u8 a0_0, .int .u8 a0_1, .int .u8 a0_2, .int .u16 a0_3, .bool a0_4, .bool a0_5], .int .i64 a1, .int .u8 a2] w fun e w' => e = .returned (.tuple #[.agg #[.int .u8 r1, .int .u8 r2, .int .u8 r3, .int .u16 r4, .bool r5, .bool r6], .int .i64 r7]) ∧ Below w.heap.size w w' := by
  unfold clock_Write.f clock_Norm.f at h
  simp only [Option.bind_some] at h
  by_cases c8 : a1 = 8
  · subst c8
    rw [if_pos rfl] at h
    cases h
    go_enter Try.func43, Try.ntmps43
    go_wp2
    go_returns
    exact ⟨rfl, by go_grown⟩
  rw [if_neg c8] at h
  by_cases c9 : a1 = 9
  · subst c9
    rw [if_pos rfl] at h
    cases h
    go_enter Try.func43, Try.ntmps43
    go_wp2
    go_returns
    exact ⟨rfl, by go_grown⟩
  rw [if_neg c9] at h
  by_cases c10 : a1 = 10
  · subst c10
    rw [if_pos rfl] at h
    cases h
    go_enter Try.func43, Try.ntmps43
    go_wp2
    go_returns
    exact ⟨rfl, by go_grown⟩
  rw [if_neg c10] at h
  by_cases c11 : a1 = 11
  · subst c11
    rw [if_pos rfl] at h
    cases h
    go_enter Try.func43, Try.ntmps43
    go_wp2
    go_returns
    exact ⟨rfl, by go_grown⟩
  rw [if_neg c11] at h
  by_cases c12 : a1 = 12
  · subst c12
    rw [if_pos rfl] at h
    cases h
    go_enter Try.func43, Try.ntmps43
    go_wp2
    go_returns
    exact ⟨rfl, by go_grown⟩
  rw [if_neg c12] at h
  cases h
  go_enter Try.func43, Try.ntmps43
  go_wp2
  go_returns
  exact ⟨rfl, by go_grown⟩
end Go.Proofs.Ytmjjojbedllmgaa.Hand
end
section
namespace Go.Proofs.Ytmjjojbedllmgaa.Hand
open Go.RowKit
open Go.Proofs.Ytmjjojbedllmgaa.G
open Go.Proofs.YtmjjojbedllmgaaW.PrintWords Go.Proofs.YtmjjojbedllmgaaW.PrintLast Go.Proofs.YtmjjojbedllmgaaW.PrintMore
set_option linter.unusedVariables false
set_option linter.unusedSimpArgs false
def Mp.write (m : Mp) (ad v : Int) : Mp := match writeF m.k m.o m.l m.h m.r m.md ad v with | (k, o, l, h, r, md) => ⟨k, o, l, h, r, md⟩
theorem Mp.write_eq (m : Mp) (ad v : Int) : mapper_Write.f m.k m.o m.l m.h m.r m.md ad v = some ((m.write ad v).k, (m.write ad v).o, (m.write ad v).l, (m.write ad v).h, (m.write ad v).r, (m.write ad v).md) := rfl
def Ck.write (c : Ck) (n v : Int) : Ck := match (clock_Write.f c.s c.m c.h c.d c.ht c.cy n v).getD (0, 0, 0, 0, false, false, 0) with | (s, m, h, d, ht, cy, _) => ⟨s, m, h, d, ht, cy⟩
def Ck.writeE (c : Ck) (n v : Int) : Int := ((clock_Write.f c.s c.m c.h c.d c.ht c.cy n v).getD (0, 0, 0, 0, false, false, 0)).2.2.2.2.2.2
theorem clock_write_some (a b c d : Int) (e f : Bool) (n v : Int) : ∃ x, clock_Write.f a b c d e f n v = some x := by
  unfold clock_Write.f clock_Norm.f
  simp only [Option.bind_some]
  repeat' split
  all_goals exact ⟨_, rfl⟩
theorem Ck.write_eq (c : Ck) (n v : Int) : clock_Write.f c.s c.m c.h c.d c.ht c.cy n v = some ((c.write n v).s, (c.write n v).m, (c.write n v).h, (c.write n v).d, (c.write n v).ht, (c.write n v).cy, c.writeE n v) := by
  obtain ⟨x, hx⟩ := clock_write_some c.s c.m c.h c.d c.ht c.cy n v
  unfold Ck.write Ck.writeE
  rw [hx]
  rfl
def Ct.write (s : Ct) (ad v : Int) : Ct :=
  if ad < 32768 then
    if s.hdr.ck = true ∧ ad ≥ 24576 then Ct.latch { s with mp := s.mp.write ad v } v else { s with mp := s.mp.write ad v }
  else if (s.reg ad).getD 0 > 0 then { s with lv := s.lv.write ((s.reg ad).getD 0) v }
  else if s.at ad ≥ 0 then { s with ram := s.ram.set (s.at ad).toNat v } else s
set_option maxRecDepth 100000 in
set_option maxHeartbeats 4000000 in
theorem write_lo {w : World} {a : Ad} {s : Ct} (h : CartAt w a s) (ad v : Int) (hlo : ad < 32768) (hck : s.hdr.ck = false) :
    Calls Try.prog 18 #[a.p, .int .u16 ad, .int .u8 v] w fun e w' => e = .returned (.tuple #[]) ∧ CartAt w' a { s with mp := s.mp.write ad v } ∧ Upto a.S w w' := by
  have HH := Aside0.mk h
  clear h
  go_enter Try.func18, Try.ntmps18
  go_wp2_with fail
  refine (none_at HH.out).mono ?_
  rintro e' w1 ⟨rfl, hw⟩
  replace hw := hw.symm
  subst hw
  have c0 := HH.out.c0
  have c1 := HH.out.c1
  have c2 := HH.out.c2
  have c3 := HH.out.c3
  have c4 := HH.out.c4
  have c5 := HH.out.c5
  go_wp2_with fail
  refine (mapper_Write.calls _ _ _ _ _ _ _ _ _ _ _ _ _ _ _ (s.mp.write_eq ad v)).mono ?_
  rintro e' w1 ⟨rfl, hb⟩
  have h1 := HH.out.below hb
  have d0 := h1.c0
  have d1 := h1.c1
  have d2 := h1.c2
  have d3 := h1.c3
  have d4 := h1.c4
  have d5 := h1.c5
  have d24 := h1.c24
  rw [hck] at d24
  have fz := h1.frozen
  have H1 := Aside0.mk h1
  have HB := Aside0.mk hb
  clear h1 hb c0 c1 c2 c3 c4 c5
  go_wp2
  go_returns
  refine ⟨rfl, HH.out.stored (by
    have p := (blk_setL (blk_setL (blk_setL (blk_setL (blk_setL (blk_setL H1.out.box 0 (.int .i64 (s.mp.write ad v).k)) 1 (.bool (s.mp.write ad v).o)) 2 (.int .u8 (s.mp.write ad v).l)) 3 (.int .u8 (s.mp.write ad v).h)) 4 (.int .u8 (s.mp.write ad v).r)) 5 (.bool (s.mp.write ad v).md))
    rw [cells_mp] at p
    exact p) ?_ rfl rfl⟩
  with_reducible (refine Upto.setB ?_ _ _; refine Upto.setB ?_ _ _; refine Upto.setB ?_ _ _; refine Upto.setB ?_ _ _; refine Upto.setB ?_ _ _; refine Upto.setB ?_ _ _; exact Upto.of_below HB.out)
set_option maxRecDepth 100000 in
set_option maxHeartbeats 4000000 in
theorem write_lo2 {w : World} {a : Ad} {s : Ct} (h : CartAt w a s) (ad v : Int) (hlo : ad < 32768) (hck : s.hdr.ck = true) (ha : ¬ ad ≥ 24576) :
    Calls Try.prog 18 #[a.p, .int .u16 ad, .int .u8 v] w fun e w' => e = .returned (.tuple #[]) ∧ CartAt w' a { s with mp := s.mp.write ad v } ∧ Upto a.S w w' := by
  have HH := Aside0.mk h
  clear h
  go_enter Try.func18, Try.ntmps18
  go_wp2_with fail
  refine (none_at HH.out).mono ?_
  rintro e' w1 ⟨rfl, hw⟩
  replace hw := hw.symm
  subst hw
  have c0 := HH.out.c0
  have c1 := HH.out.c1
  have c2 := HH.out.c2
  have c3 := HH.out.c3
  have c4 := HH.out.c4
  have c5 := HH.out.c5
  go_wp2_with fail
  refine (mapper_Write.calls _ _ _ _ _ _ _ _ _ _ _ _ _ _ _ (s.mp.write_eq ad v)).mono ?_
  rintro e' w1 ⟨rfl, hb⟩
  have h1 := HH.out.below hb
  have d0 := h1.c0
  have d1 := h1.c1
  have d2 := h1.c2
  have d3 := h1.c3
  have d4 := h1.c4
  have d5 := h1.c5
  have d24 := h1.c24
  rw [hck] at d24
  have fz := h1.frozen
  have H1 := Aside0.mk h1
  have HB := Aside0.mk hb
  clear h1 hb c0 c1 c2 c3 c4 c5
  go_wp2
  go_returns
  refine ⟨rfl, HH.out.stored (by
    have p := (blk_setL (blk_setL (blk_setL (blk_setL (blk_setL (blk_setL H1.out.box 0 (.int .i64 (s.mp.write ad v).k)) 1 (.bool (s.mp.write ad v).o)) 2 (.int .u8 (s.mp.write ad v).l)) 3 (.int .u8 (s.mp.write ad v).h)) 4 (.int .u8 (s.mp.write ad v).r)) 5 (.bool (s.mp.write ad v).md))
    rw [cells_mp] at p
    exact p) ?_ rfl rfl⟩
  with_reducible (refine Upto.setB ?_ _ _; refine Upto.setB ?_ _ _; refine Upto.setB ?_ _ _; refine Upto.setB ?_ _ _; refine Upto.setB ?_ _ _; refine Upto.setB ?_ _ _; exact Upto.of_below HB.out)
set_option maxRecDepth 100000 in
set_option maxHeartbeats 4000000 in
theorem write_latch {w : World} {a : Ad} {s : Ct} (h : CartAt w a s) (ad v : Int) (hlo : ad < 32768) (hck : s.hdr.ck = true) (ha : ad ≥ 24576) :
    Calls Try.prog 18 #[a.p, .int .u16 ad, .int .u8 v] w fun e w' => e = .returned (.tuple #[]) ∧ CartAt w' a (Ct.latch { s with mp := s.mp.write ad v } v) ∧ Upto a.S w w' := by
  have HH := Aside0.mk h
  clear h
  go_enter Try.func18, Try.ntmps18
  go_wp2_with fail
  refine (none_at HH.out).mono ?_
  rintro e' w1 ⟨rfl, hw⟩
  replace hw := hw.symm
  subst hw
  have c0 := HH.out.c0
  have c1 := HH.out.c1
  have c2 := HH.out.c2
  have c3 := HH.out.c3
  have c4 := HH.out.c4
  have c5 := HH.out.c5
  go_wp2_with fail
  refine (mapper_Write.calls _ _ _ _ _ _ _ _ _ _ _ _ _ _ _ (s.mp.write_eq ad v)).mono ?_
  rintro e' w1 ⟨rfl, hb⟩
  have h1 := HH.out.below hb
  have d0 := h1.c0
  have d1 := h1.c1
  have d2 := h1.c2
  have d3 := h1.c3
  have d4 := h1.c4
  have d5 := h1.c5
  have d24 := h1.c24
  rw [hck] at d24
  have fz := h1.frozen
  have H1 := Aside0.mk h1
  have HB := Aside0.mk hb
  clear h1 hb c0 c1 c2 c3 c4 c5
  go_wp2_with fail
  have hs := HH.out.stored (W := ((((((w1.setCell ⟨a.b, 0, none⟩ (.int .i64 (s.mp.write ad v).k)).setCell ⟨a.b, 1, none⟩ (.bool (s.mp.write ad v).o)).setCell ⟨a.b, 2, none⟩ (.int .u8 (s.mp.write ad v).l)).setCell ⟨a.b, 3, none⟩ (.int .u8 (s.mp.write ad v).h)).setCell ⟨a.b, 4, none⟩ (.int .u8 (s.mp.write ad v).r)).setCell ⟨a.b, 5, none⟩ (.bool (s.mp.write ad v).md))) (s' := { s with mp := s.mp.write ad v }) (by
    have p := (blk_setL (blk_setL (blk_setL (blk_setL (blk_setL (blk_setL H1.out.box 0 (.int .i64 (s.mp.write ad v).k)) 1 (.bool (s.mp.write ad v).o)) 2 (.int .u8 (s.mp.write ad v).l)) 3 (.int .u8 (s.mp.write ad v).h)) 4 (.int .u8 (s.mp.write ad v).r)) 5 (.bool (s.mp.write ad v).md))
    rw [cells_mp] at p
    exact p) (by with_reducible (refine Upto.setB ?_ _ _; refine Upto.setB ?_ _ _; refine Upto.setB ?_ _ _; refine Upto.setB ?_ _ _; refine Upto.setB ?_ _ _; refine Upto.setB ?_ _ _; exact Upto.of_below HB.out)) rfl rfl
  have HS := Aside0.mk hs
  clear hs
  refine (latch_at HS.out.1 v).mono ?_
  rintro e' w2 ⟨rfl, h2, u2⟩
  have H2 := Aside0.mk h2
  have U2 := Aside0.mk u2
  clear h2 u2
  go_wp2
  go_returns
  exact ⟨rfl, H2.out, Upto.trans HS.out.2 U2.out⟩
set_option maxRecDepth 100000 in
set_option maxHeartbeats 4000000 in
theorem write_reg {w : World} {a : Ad} {s : Ct} (h : CartAt w a s) (ad v m : Int) (hlo : ¬ ad < 32768) (hg : s.reg ad = some m) (hm : m > 0) :
    Calls Try.prog 18 #[a.p, .int .u16 ad, .int .u8 v] w fun e w' => e = .returned (.tuple #[]) ∧ CartAt w' a { s with lv := s.lv.write m v } ∧ Upto a.S w w' := by
  have HH := Aside0.mk h
  clear h
  have HG := Aside0.mk hg
  clear hg
  go_enter Try.func18, Try.ntmps18
  go_wp2_with fail
  refine (none_at HH.out).mono ?_
  rintro e' w1 ⟨rfl, hw⟩
  replace hw := hw.symm
  subst hw
  go_wp2_with fail
  refine (reg_at HH.out ad m HG.out).mono ?_
  rintro e' w1 ⟨rfl, hb⟩
  have h1 := HH.out.below hb
  have H1 := Aside0.mk h1
  have HB := Aside0.mk hb
  clear h1 hb
  have c6 := H1.out.c6
  have c7 := H1.out.c7
  have c8 := H1.out.c8
  have c9 := H1.out.c9
  have c10 := H1.out.c10
  have c11 := H1.out.c11
  go_wp2_with fail
  refine (clock_Write.calls _ _ _ _ _ _ _ _ _ _ _ _ _ _ _ _ (s.lv.write_eq m v)).mono ?_
  rintro e' w2 ⟨rfl, hb⟩
  have h2 := H1.out.below hb
  have d6 := h2.c6
  have d7 := h2.c7
  have d8 := h2.c8
  have d9 := h2.c9
  have d10 := h2.c10
  have d11 := h2.c11
  have fz := h2.frozen
  have H2 := Aside0.mk h2
  have HB2 := Aside0.mk (below_step HB.out hb)
  clear h2 hb c6 c7 c8 c9 c10 c11
  go_wp2
  go_returns
  refine ⟨rfl, HH.out.stored ?_ ?_ rfl rfl⟩
  · have p := (blk_setL (blk_setL (blk_setL (blk_setL (blk_setL (blk_setL H2.out.box 6 (.int .u8 (s.lv.write m v).s)) 7 (.int .u8 (s.lv.write m v).m)) 8 (.int .u8 (s.lv.write m v).h)) 9 (.int .u16 (s.lv.write m v).d)) 10 (.bool (s.lv.write m v).ht)) 11 (.bool (s.lv.write m v).cy))
    rw [cells_lv] at p
    exact p
  · with_reducible (refine Upto.setB ?_ _ _; refine Upto.setB ?_ _ _; refine Upto.setB ?_ _ _; refine Upto.setB ?_ _ _; refine Upto.setB ?_ _ _; refine Upto.setB ?_ _ _; exact Upto.of_below HB2.out)
set_option maxRecDepth 100000 in
set_option maxHeartbeats 4000000 in
theorem write_ram {w : World} {a : Ad} {s : Ct} (h : CartAt w a s) (ad v m : Int) (hlo : ¬ ad < 32768) (hg : s.reg ad = some m) (hm : ¬ m > 0) (n : Int) (hat : s.at ad = n) (h0 : n ≥ 0) (hn : n < s.ram.length) :
    Calls Try.prog 18 #[a.p, .int .u16 ad, .int .u8 v] w fun e w' => e = .returned (.tuple #[]) ∧ CartAt w' a { s with ram := s.ram.set n.toNat v } ∧ Upto a.S w w' := by
  have HH := Aside0.mk h
  clear h
  have HG := Aside0.mk hg
  clear hg
  have HA : Aside0 (mapper_Ram.f s.mp.k s.mp.o s.mp.l s.mp.h s.mp.r s.mp.md ad s.ram.length = some n) := Aside0.mk ((at_eq s ad).trans (congrArg some hat))
  clear hat
  go_enter Try.func18, Try.ntmps18
  go_wp2_with fail
  refine (none_at HH.out).mono ?_
  rintro e' w1 ⟨rfl, hw⟩
  replace hw := hw.symm
  subst hw
  go_wp2_with fail
  refine (reg_at HH.out ad m HG.out).mono ?_
  rintro e' w1 ⟨rfl, hb⟩
  have h1 := HH.out.below hb
  have H1 := Aside0.mk h1
  have HB := Aside0.mk hb
  clear h1 hb
  have c0 := H1.out.c0
  have c1 := H1.out.c1
  have c2 := H1.out.c2
  have c3 := H1.out.c3
  have c4 := H1.out.c4
  have c5 := H1.out.c5
  have c30 := H1.out.c30
  go_wp2_with fail
  go_region_with ((go_at_call 36; ((with_reducible refine (mapper_Ram.calls _ _ _ _ _ _ _ _ _ _ HA.out).mono ?_)); rintro e' w3 ⟨rfl, hb⟩; have HB3 : Aside0 (Below w.heap.size w w3) := Aside0.mk (below_step HB.out (Below.trans (below_drew1 (Below.refl _ _)) hb)); have H3 : Aside0 (CartAt w3 a s) := Aside0.mk (H1.out.below (Below.trans (below_drew1 (Below.refl _ _)) hb)); clear hb))
  all_goals (
    have g30 := H3.out.c30
    have hcell := H3.out.row.cell n.toNat (by omega)
    have hx : ((n.toNat : Nat) : Int) = n := by omega
    rw [hx] at hcell
    have hfz := H3.out.row.frozen n.toNat
    clear hx c0 c1 c2 c3 c4 c5 c30
    go_wp2
    go_returns
    refine ⟨rfl, ⟨?_, ?_, ?_, HH.out.n1, HH.out.n2, HH.out.n3⟩, Upto.set (p := ⟨a.gr, n.toNat, none⟩) (Upto.of_below HB3.out) (Or.inr rfl) _⟩
    · have p := blk_far H3.out.box (p := ⟨a.gr, n.toNat, none⟩) HH.out.n1 (.int .u8 v)
      rw [show (Ct.cells { s with ram := s.ram.set n.toNat v } a) = s.cells a by simp [Ct.cells]]
      exact p
    · exact H3.out.image.of_block (Below.heap_setCell _ _ _ _ HH.out.n2)
    · exact H3.out.row.put n.toNat v)
set_option maxRecDepth 100000 in
set_option maxHeartbeats 4000000 in
theorem write_no {w : World} {a : Ad} {s : Ct} (h : CartAt w a s) (ad v m : Int) (hlo : ¬ ad < 32768) (hg : s.reg ad = some m) (hm : ¬ m > 0) (n : Int) (hat : s.at ad = n) (h0 : ¬ n ≥ 0) :
    Calls Try.prog 18 #[a.p, .int .u16 ad, .int .u8 v] w fun e w' => e = .returned (.tuple #[]) ∧ CartAt w' a s ∧ Upto a.S w w' := by
  have HH := Aside0.mk h
  clear h
  have HG := Aside0.mk hg
  clear hg
  have HA : Aside0 (mapper_Ram.f s.mp.k s.mp.o s.mp.l s.mp.h s.mp.r s.mp.md ad s.ram.length = some n) := Aside0.mk ((at_eq s ad).trans (congrArg some hat))
  clear hat
  go_enter Try.func18, Try.ntmps18
  go_wp2_with fail
  refine (none_at HH.out).mono ?_
  rintro e' w1 ⟨rfl, hw⟩
  replace hw := hw.symm
  subst hw
  go_wp2_with fail
  refine (reg_at HH.out ad m HG.out).mono ?_
  rintro e' w1 ⟨rfl, hb⟩
  have h1 := HH.out.below hb
  have H1 := Aside0.mk h1
  have HB := Aside0.mk hb
  clear h1 hb
  have c0 := H1.out.c0
  have c1 := H1.out.c1
  have c2 := H1.out.c2
  have c3 := H1.out.c3
  have c4 := H1.out.c4
  have c5 := H1.out.c5
  have c30 := H1.out.c30
  go_wp2_with fail
  go_region_with ((go_at_call 36; ((with_reducible refine (mapper_Ram.calls _ _ _ _ _ _ _ _ _ _ HA.out).mono ?_)); rintro e' w3 ⟨rfl, hb⟩; have HB3 : Aside0 (Below w.heap.size w w3) := Aside0.mk (below_step HB.out (Below.trans (below_drew1 (Below.refl _ _)) hb)); have H3 : Aside0 (CartAt w3 a s) := Aside0.mk (H1.out.below (Below.trans (below_drew1 (Below.refl _ _)) hb)); clear hb))
  all_goals (
    go_wp2
    go_returns
    exact ⟨rfl, H3.out, Upto.of_below HB3.out⟩)
set_option maxRecDepth 100000 in
set_option maxHeartbeats 4000000 in
theorem write_nil (ad v : Int) (w : World) :
    Calls Try.prog 18 #[.pointer none, .int .u16 ad, .int .u8 v] w fun e w' => e = .returned (.tuple #[]) ∧ Below w.heap.size w w' := by
  go_enter Try.func18, Try.ntmps18
  go_wp2
  go_returns
  exact ⟨rfl, by go_grown⟩
end Go.Proofs.Ytmjjojbedllmgaa.Hand
end
section
namespace Go.Proofs.Ytmjjojbedllmgaa.Hand
end Go.Proofs.Ytmjjojbedllmgaa.Hand
end
section
namespace Go.Proofs.Ytmjjojbedllmgaa.Hand
open Go.RowKit
open Go.Proofs.Ytmjjojbedllmgaa.G
open Go.Proofs.YtmjjojbedllmgaaW.PrintWords Go.Proofs.YtmjjojbedllmgaaW.PrintLast Go.Proofs.YtmjjojbedllmgaaW.PrintMore
set_option linter.unusedVariables false
set_option linter.unusedSimpArgs false
set_option maxRecDepth 100000 in
set_option maxHeartbeats 4000000 in
theorem save_nil (w : World) :
    Calls Try.prog 22 #[.pointer none] w fun e w' => e = .returned (.slice none 0 0) ∧ Below w.heap.size w w' := by
  go_enter Try.func22, Try.ntmps22
  go_wp2
  go_ret
  exact ⟨rfl, Below.refl _ _⟩
set_option maxRecDepth 100000 in
set_option maxHeartbeats 4000000 in
theorem ram_nil (w : World) :
    Calls Try.prog 15 #[.pointer none] w fun e w' => e = .returned (.slice none 0 0) ∧ Below w.heap.size w w' := by
  go_enter Try.func15, Try.ntmps15
  go_wp2
  go_ret
  exact ⟨rfl, Below.refl _ _⟩
end Go.Proofs.Ytmjjojbedllmgaa.Hand
end
section
namespace Go.Proofs.Ytmjjojbedllmgaa.Hand
end Go.Proofs.Ytmjjojbedllmgaa.Hand
end
section
namespace Go.Proofs.Ytmjjojbedllmgaa.Hand
end Go.Proofs.Ytmjjojbedllmgaa.Hand
end
section
namespace Go.Proofs.Ytmjjojbedllmgaa.Hand
end Go.Proofs.Ytmjjojbedllmgaa.Hand
end
section
namespace Go.Proofs.Ytmjjojbedllmgaa.Hand
end Go.Proofs.Ytmjjojbedllmgaa.Hand
end
section
namespace Go.Proofs.Ytmjjojbedllmgaa.Hand
open Go.RowKit
open Go.Proofs.Ytmjjojbedllmgaa.G
open Go.Proofs.YtmjjojbedllmgaaW.PrintWords Go.Proofs.YtmjjojbedllmgaaW.PrintLast Go.Proofs.YtmjjojbedllmgaaW.PrintMore
set_option linter.unusedVariables false
set_option linter.unusedSimpArgs false
set_option maxRecDepth 100000 in
set_option maxHeartbeats 4000000 in
theorem load_nil (v : Value) (w : World) :
    Calls Try.prog 24 #[.pointer none, v] w fun e w' => e = .returned (.int .i64 7) ∧ w' = w := by
  go_enter Try.func24, Try.ntmps24
  go_wp2
  go_ret
  exact ⟨rfl, rfl⟩
end Go.Proofs.Ytmjjojbedllmgaa.Hand
end
section
namespace Go.Proofs.Ytmjjojbedllmgaa.Hand
open Go.RowKit
open Go.Proofs.Ytmjjojbedllmgaa.G
open Go.Proofs.YtmjjojbedllmgaaW.PrintWords Go.Proofs.YtmjjojbedllmgaaW.PrintLast Go.Proofs.YtmjjojbedllmgaaW.PrintMore
set_option linter.unusedVariables false
set_option linter.unusedSimpArgs false
set_option maxRecDepth 100000 in
set_option maxHeartbeats 4000000 in
theorem none_zero {w : World} {b : Nat} (c31 : w.cell? ⟨b, 31, none⟩ = some (.bool false)) :
    Calls Try.prog 32 #[.pointer (some ⟨b, 0, none⟩)] w fun e w' => e = .returned (.bool true) ∧ w' = w := by
  go_enter Try.func32, Try.ntmps32
  go_wp2
  go_returns
  exact ⟨rfl, rfl⟩
theorem zero_kept {w w' : World} {b : Nat} (hlt : b < w.heap.size) (c31 : w.cell? ⟨b, 31, none⟩ = some (.bool false)) (hb : Below w.heap.size w w') : w'.cell? ⟨b, 31, none⟩ = some (.bool false) := (hb.cell (p := ⟨b, 31, none⟩) hlt).trans c31
set_option maxRecDepth 100000 in
set_option maxHeartbeats 4000000 in
theorem write_zero {w : World} {b : Nat} (hlt : b < w.heap.size) (c31 : w.cell? ⟨b, 31, none⟩ = some (.bool false)) (ad v : Int) :
    Calls Try.prog 18 #[.pointer (some ⟨b, 0, none⟩), .int .u16 ad, .int .u8 v] w fun e w' => e = .returned (.tuple #[]) ∧ Below w.heap.size w w' := by
  have n0 : ¬ b = w.heap.size := by omega
  have n1 : ¬ b = w.heap.size + 1 := by omega
  have n2 : ¬ b = w.heap.size + 2 := by omega
  have n3 : ¬ b = w.heap.size + 1 + 1 := by omega
  have HL := Aside0.mk hlt
  have HC := Aside0.mk c31
  clear hlt
  go_enter Try.func18, Try.ntmps18
  go_wp2
  go_returns
  exact ⟨rfl, by go_grown⟩
set_option maxRecDepth 100000 in
set_option maxHeartbeats 4000000 in
theorem tick_zero {w : World} {b : Nat} (hlt : b < w.heap.size) (c31 : w.cell? ⟨b, 31, none⟩ = some (.bool false)) :
    Calls Try.prog 20 #[.pointer (some ⟨b, 0, none⟩)] w fun e w' => e = .returned (.tuple #[]) ∧ Below w.heap.size w w' := by
  have n0 : ¬ b = w.heap.size := by omega
  have n1 : ¬ b = w.heap.size + 1 := by omega
  have n2 : ¬ b = w.heap.size + 2 := by omega
  have n3 : ¬ b = w.heap.size + 1 + 1 := by omega
  have HL := Aside0.mk hlt
  have HC := Aside0.mk c31
  clear hlt
  go_enter Try.func20, Try.ntmps20
  go_wp2
  go_returns
  exact ⟨rfl, by go_grown⟩
set_option maxRecDepth 100000 in
set_option maxHeartbeats 4000000 in
theorem state_zero {w : World} {b : Nat} (hlt : b < w.heap.size) (c31 : w.cell? ⟨b, 31, none⟩ = some (.bool false)) :
    Calls Try.prog 17 #[.pointer (some ⟨b, 0, none⟩)] w fun e w' => e = .returned (.tuple #[Mp.v ⟨0, false, 0, 0, 0, false⟩, Ck.v ⟨0, 0, 0, 0, false, false⟩, Ck.v ⟨0, 0, 0, 0, false, false⟩]) ∧ Below w.heap.size w w' := by
  have n0 : ¬ b = w.heap.size := by omega
  have n1 : ¬ b = w.heap.size + 1 := by omega
  have n2 : ¬ b = w.heap.size + 2 := by omega
  have n3 : ¬ b = w.heap.size + 1 + 1 := by omega
  have HL := Aside0.mk hlt
  have HC := Aside0.mk c31
  clear hlt
  go_enter Try.func17, Try.ntmps17
  go_wp2_with fail
  refine (none_zero (zero_kept HL.out HC.out (by go_grown))).mono ?_
  rintro e' w1 ⟨rfl, hw⟩
  replace hw := hw.symm
  subst hw
  go_wp2
  go_returns
  exact ⟨rfl, by go_grown⟩
set_option maxRecDepth 100000 in
set_option maxHeartbeats 4000000 in
theorem read_zero {w : World} {b : Nat} (hlt : b < w.heap.size) (c31 : w.cell? ⟨b, 31, none⟩ = some (.bool false)) (ad : Int) :
    Calls Try.prog 13 #[.pointer (some ⟨b, 0, none⟩), .int .u16 ad] w fun e w' => e = .returned (.int .u8 255) ∧ Below w.heap.size w w' := by
  have n0 : ¬ b = w.heap.size := by omega
  have n1 : ¬ b = w.heap.size + 1 := by omega
  have n2 : ¬ b = w.heap.size + 2 := by omega
  have n3 : ¬ b = w.heap.size + 1 + 1 := by omega
  have HL := Aside0.mk hlt
  have HC := Aside0.mk c31
  clear hlt
  go_enter Try.func13, Try.ntmps13
  go_wp2
  go_returns
  exact ⟨rfl, by go_grown⟩
set_option maxRecDepth 100000 in
set_option maxHeartbeats 4000000 in
theorem head_zero {w : World} {b : Nat} (hlt : b < w.heap.size) (c31 : w.cell? ⟨b, 31, none⟩ = some (.bool false)) :
    Calls Try.prog 12 #[.pointer (some ⟨b, 0, none⟩)] w fun e w' => e = .returned (Hd.v ⟨⟨#[]⟩, 0, 0, false, false, false, 0, 0, 0, 0⟩) ∧ Below w.heap.size w w' := by
  have n0 : ¬ b = w.heap.size := by omega
  have n1 : ¬ b = w.heap.size + 1 := by omega
  have n2 : ¬ b = w.heap.size + 2 := by omega
  have n3 : ¬ b = w.heap.size + 1 + 1 := by omega
  have HL := Aside0.mk hlt
  have HC := Aside0.mk c31
  clear hlt
  go_enter Try.func12, Try.ntmps12
  go_wp2_with fail
  refine (none_zero (zero_kept HL.out HC.out (by go_grown))).mono ?_
  rintro e' w1 ⟨rfl, hw⟩
  replace hw := hw.symm
  subst hw
  go_wp2
  go_returns
  exact ⟨rfl, by go_grown⟩
set_option maxRecDepth 100000 in
set_option maxHeartbeats 4000000 in
theorem ram_zero {w : World} {b : Nat} (hlt : b < w.heap.size) (c31 : w.cell? ⟨b, 31, none⟩ = some (.bool false)) :
    Calls Try.prog 15 #[.pointer (some ⟨b, 0, none⟩)] w fun e w' => e = .returned (.slice none 0 0) ∧ Below w.heap.size w w' := by
  have n0 : ¬ b = w.heap.size := by omega
  have n1 : ¬ b = w.heap.size + 1 := by omega
  have n2 : ¬ b = w.heap.size + 2 := by omega
  have n3 : ¬ b = w.heap.size + 1 + 1 := by omega
  have HL := Aside0.mk hlt
  have HC := Aside0.mk c31
  clear hlt
  go_enter Try.func15, Try.ntmps15
  go_wp2
  go_returns
  exact ⟨rfl, by go_grown⟩
set_option maxRecDepth 100000 in
set_option maxHeartbeats 4000000 in
theorem save_zero {w : World} {b : Nat} (hlt : b < w.heap.size) (c31 : w.cell? ⟨b, 31, none⟩ = some (.bool false)) :
    Calls Try.prog 22 #[.pointer (some ⟨b, 0, none⟩)] w fun e w' => e = .returned (.slice none 0 0) ∧ Below w.heap.size w w' := by
  have n0 : ¬ b = w.heap.size := by omega
  have n1 : ¬ b = w.heap.size + 1 := by omega
  have n2 : ¬ b = w.heap.size + 2 := by omega
  have n3 : ¬ b = w.heap.size + 1 + 1 := by omega
  have HL := Aside0.mk hlt
  have HC := Aside0.mk c31
  clear hlt
  go_enter Try.func22, Try.ntmps22
  go_wp2
  go_returns
  exact ⟨rfl, by go_grown⟩
set_option maxRecDepth 100000 in
set_option maxHeartbeats 4000000 in
theorem load_zero {w : World} {b : Nat} (hlt : b < w.heap.size) (c31 : w.cell? ⟨b, 31, none⟩ = some (.bool false)) (v : Value) :
    Calls Try.prog 24 #[.pointer (some ⟨b, 0, none⟩), v] w fun e w' => e = .returned (.int .i64 7) ∧ Below w.heap.size w w' := by
  have n0 : ¬ b = w.heap.size := by omega
  have n1 : ¬ b = w.heap.size + 1 := by omega
  have n2 : ¬ b = w.heap.size + 2 := by omega
  have n3 : ¬ b = w.heap.size + 1 + 1 := by omega
  have HL := Aside0.mk hlt
  have HC := Aside0.mk c31
  clear hlt
  go_enter Try.func24, Try.ntmps24
  go_wp2
  go_returns
  exact ⟨rfl, by go_grown⟩
set_option maxRecDepth 100000 in
set_option maxHeartbeats 4000000 in
theorem tick_nil (w : World) :
    Calls Try.prog 20 #[.pointer none] w fun e w' => e = .returned (.tuple #[]) ∧ Below w.heap.size w w' := by
  go_enter Try.func20, Try.ntmps20
  go_wp2
  go_returns
  exact ⟨rfl, by go_grown⟩
set_option maxRecDepth 100000 in
set_option maxHeartbeats 4000000 in
theorem tick_no {w : World} {a : Ad} {s : Ct} (h : CartAt w a s) (hck : s.hdr.ck = false) :
    Calls Try.prog 20 #[a.p] w fun e w' => e = .returned (.tuple #[]) ∧ Below w.heap.size w w' := by
  have c31 := h.c31
  have c24 := h.c24
  rw [hck] at c24
  clear h
  go_enter Try.func20, Try.ntmps20
  go_wp2
  go_returns
  exact ⟨rfl, by go_grown⟩
end Go.Proofs.Ytmjjojbedllmgaa.Hand
end
section
namespace Go.Proofs.Ytmjjojbedllmgaa.Hand
open Go.RowKit
open Go.Proofs.Ytmjjojbedllmgaa.G
open Go.Proofs.YtmjjojbedllmgaaW.PrintWords Go.Proofs.YtmjjojbedllmgaaW.PrintLast Go.Proofs.YtmjjojbedllmgaaW.PrintMore
set_option linter.unusedVariables false
set_option linter.unusedSimpArgs false
set_option maxRecDepth 100000
structure Mp.Ok (m : Mp) : Prop where
  l0 : 0 ≤ m.l
  l1 : m.l ≤ 255
  h0 : 0 ≤ m.h
  h1 : m.h ≤ 255
  r0 : 0 ≤ m.r
  r1 : m.r ≤ 255
structure Ct.Ok (s : Ct) : Prop where
  i0 : 0 < s.img.length
  i1 : s.img.length ≤ 16777216
  r1 : s.ram.length ≤ 1048576
  m : s.mp.Ok
def Ct.romN (s : Ct) (ad : Int) : Int := (s.rom ad).getD (-1)
def Ct.regN (s : Ct) (ad : Int) : Int := (s.reg ad).getD 0
def Ck.read (c : Ck) (n : Int) : Int := ((clock_Read.f c.s c.m c.h c.d c.ht c.cy n).getD (0, 0)).1
theorem clock_read_some (a b c d : Int) (e f : Bool) (n : Int) : ∃ v x, clock_Read.f a b c d e f n = some (v, x) := by
  unfold clock_Read.f clock_Norm.f clock_bit.f
  simp only [Option.bind_some]
  repeat' (first | exact ⟨_, _, rfl⟩ | split)
  all_goals (simp only [Option.bind_some]; repeat' (first | exact ⟨_, _, rfl⟩ | split))
  all_goals (simp only [Option.bind_some]; repeat' (first | exact ⟨_, _, rfl⟩ | split))
theorem rom_lo {s : Ct} (ok : s.Ok) (ad : Int) (ha : 0 ≤ ad ∧ ad ≤ 65535) (hlo : ad < 32768) : s.rom ad = some (s.romN ad) ∧ 0 ≤ s.romN ad ∧ s.romN ad < s.img.length := by
  have q := Pure.rom_is s.mp.k s.mp.o s.mp.l s.mp.h s.mp.r s.mp.md ad s.img.length ⟨ok.m.l0, ok.m.l1⟩ ⟨ok.m.h0, ok.m.h1⟩ ha
  have hi := ok.i0
  rw [if_neg (by omega), if_neg (by omega)] at q
  have e : s.rom ad = some ((bankF s.mp.k s.mp.l s.mp.h s.mp.md (ad / 16384) * 16384 + ad % 16384) % s.img.length) := q
  have e2 : s.romN ad = (bankF s.mp.k s.mp.l s.mp.h s.mp.md (ad / 16384) * 16384 + ad % 16384) % s.img.length := by rw [Ct.romN, e]; rfl
  rw [e2]
  exact ⟨e, Int.emod_nonneg _ (by omega), Int.emod_lt_of_pos _ (by omega)⟩
theorem rom_hi {s : Ct} (ok : s.Ok) (ad : Int) (ha : 0 ≤ ad ∧ ad ≤ 65535) (hlo : ¬ ad < 32768) : s.rom ad = some (-1) := by
  have q := Pure.rom_is s.mp.k s.mp.o s.mp.l s.mp.h s.mp.r s.mp.md ad s.img.length ⟨ok.m.l0, ok.m.l1⟩ ⟨ok.m.h0, ok.m.h1⟩ ha
  have hi := ok.i0
  rw [if_neg (by omega), if_pos (by omega)] at q
  exact q
theorem reg_of {s : Ct} (ok : s.Ok) (ad : Int) : s.reg ad = some (s.regN ad) := by
  have h : ∃ z, s.reg ad = some z := by
    unfold Ct.reg
    split
    · obtain ⟨z, hz, _⟩ := Pure.reg_bd s.mp.k s.mp.o s.mp.l s.mp.h s.mp.r s.mp.md ad ⟨ok.m.r0, ok.m.r1⟩
      exact ⟨z, hz⟩
    · exact ⟨0, rfl⟩
  obtain ⟨z, hz⟩ := h
  rw [Ct.regN, hz]; rfl
theorem at_lt {s : Ct} (ok : s.Ok) (ad : Int) (ha : 0 ≤ ad ∧ ad ≤ 65535) (h0 : s.at ad ≥ 0) : s.at ad < s.ram.length := by
  obtain ⟨x, hx, _, h2⟩ := Pure.ram_bd s.mp.k s.mp.o s.mp.l s.mp.h s.mp.r s.mp.md ad s.ram.length ⟨ok.m.h0, ok.m.h1⟩ ⟨ok.m.r0, ok.m.r1⟩ ha
  rw [at_eq] at hx
  cases hx
  exact (h2 h0).1
def Ct.read (s : Ct) (ad : Int) : Int :=
  if ad < 32768 then rd s.img (s.romN ad)
  else if s.regN ad > 0 then s.hd.read (s.regN ad)
  else if s.at ad ≥ 0 then rd s.ram (s.at ad) else 255
theorem read_at {w : World} {a : Ad} {s : Ct} (h : CartAt w a s) (ok : s.Ok) (ad : Int) (ha : 0 ≤ ad ∧ ad ≤ 65535) :
    Calls Try.prog 13 #[a.p, .int .u16 ad] w fun e w' => e = .returned (.int .u8 (s.read ad)) ∧ Below w.heap.size w w' := by
  unfold Ct.read
  by_cases hlo : ad < 32768
  · rw [if_pos hlo]
    obtain ⟨h1, h2, h3⟩ := rom_lo ok ad ha hlo
    exact read_rom h ad _ h1 h2 h3
  rw [if_neg hlo]
  have hr := rom_hi ok ad ha hlo
  have hg := reg_of ok ad
  by_cases hm : s.regN ad > 0
  · rw [if_pos hm]
    obtain ⟨v, x, hv⟩ := clock_read_some s.hd.s s.hd.m s.hd.h s.hd.d s.hd.ht s.hd.cy (s.regN ad)
    have q := read_reg h ad _ v x hr hg hm hv
    have e : s.hd.read (s.regN ad) = v := by rw [Ck.read, hv]; rfl
    rw [e]
    exact q
  rw [if_neg hm]
  by_cases h0 : s.at ad ≥ 0
  · rw [if_pos h0]
    exact read_ram h ad _ _ hr hg hm rfl h0 (at_lt ok ad ha h0)
  · rw [if_neg h0]
    exact read_no h ad _ _ hr hg hm rfl h0
theorem write_at {w : World} {a : Ad} {s : Ct} (h : CartAt w a s) (ok : s.Ok) (ad v : Int) (ha : 0 ≤ ad ∧ ad ≤ 65535) :
    Calls Try.prog 18 #[a.p, .int .u16 ad, .int .u8 v] w fun e w' => e = .returned (.tuple #[]) ∧ CartAt w' a (s.write ad v) ∧ Upto a.S w w' := by
  unfold Ct.write
  by_cases hlo : ad < 32768
  · rw [if_pos hlo]
    cases hck : s.hdr.ck with
    | false =>
      rw [if_neg (fun q => by simp at q)]
      exact write_lo h ad v hlo hck
    | true =>
      by_cases hb : ad ≥ 24576
      · rw [if_pos ⟨rfl, hb⟩]
        exact write_latch h ad v hlo hck hb
      · rw [if_neg (fun q => hb q.2)]
        exact write_lo2 h ad v hlo hck hb
  rw [if_neg hlo]
  have hg := reg_of ok ad
  by_cases hm : (s.reg ad).getD 0 > 0
  · rw [if_pos hm]
    exact write_reg h ad v _ hlo hg hm
  rw [if_neg hm]
  by_cases h0 : s.at ad ≥ 0
  · rw [if_pos h0]
    exact write_ram h ad v _ hlo hg hm _ rfl h0 (at_lt ok ad ha h0)
  · rw [if_neg h0]
    exact write_no h ad v _ hlo hg hm _ rfl h0
def Ct.tick (s : Ct) : Ct := if s.hdr.ck = true then { s with lv := s.lv.tick } else s
theorem tick_all {w : World} {a : Ad} {s : Ct} (h : CartAt w a s) :
    Calls Try.prog 20 #[a.p] w fun e w' => e = .returned (.tuple #[]) ∧ CartAt w' a s.tick ∧ Upto a.S w w' := by
  unfold Ct.tick
  cases hck : s.hdr.ck with
  | true =>
    rw [if_pos rfl]
    exact tick_at h hck
  | false =>
    rw [if_neg (by simp)]
    exact (tick_no h hck).mono fun e w' ⟨he, hb⟩ => ⟨he, h.below hb, Upto.of_below hb⟩
end Go.Proofs.Ytmjjojbedllmgaa.Hand
end
section
namespace Go.Proofs.Ytmjjojbedllmgaa.Hand
open Go.RowKit
open Go.Proofs.Ytmjjojbedllmgaa.G
open Go.Proofs.YtmjjojbedllmgaaW.PrintWords Go.Proofs.YtmjjojbedllmgaaW.PrintLast Go.Proofs.YtmjjojbedllmgaaW.PrintMore
set_option linter.unusedVariables false
set_option linter.unusedSimpArgs false
set_option maxRecDepth 100000
def Bytes (l : List Int) : Prop := ∀ x ∈ l, 0 ≤ x ∧ x ≤ 255
theorem Bytes.bd {l : List Int} (h : Bytes l) (i : Int) : 0 ≤ rd l i ∧ rd l i ≤ 255 := by
  unfold rd
  rw [List.getD_eq_getElem?_getD]
  cases e : l[i.toNat]? with
  | none => simp
  | some x => exact h x (List.mem_of_getElem? e)
theorem ware_all : ∀ v : Fin 256, (wareT (v.val : Int)).1 = 0 ∨ (wareT (v.val : Int)).1 = 1 ∨ (wareT (v.val : Int)).1 = 3 ∨ (wareT (v.val : Int)).1 = 5 := by decide +kernel
theorem most_all10 : ∀ v : Fin 9, shl .i64 32768 (v.val : Int) ≤ 8388608 := by decide +kernel
def nilH : Hd := ⟨⟨#[]⟩, 0, 0, false, false, false, 0, 0, 0, 0⟩
def headOf (l : List Int) : Hd := match header_Parse.f l with | some (t, kd, mp, rm, bt, ck, bk, sz, sm, wh, _) => ⟨t, kd, mp, rm, bt, ck, bk, sz, sm, wh⟩ | none => nilH
def headE (l : List Int) : Int := match header_Parse.f l with | some (_, _, _, _, _, _, _, _, _, _, e) => e | none => 1
theorem head_is {l : List Int} (hb : Bytes l) : header_Parse.f l = some ((headOf l).t, (headOf l).kd, (headOf l).mp, (headOf l).rm, (headOf l).bt, (headOf l).ck, (headOf l).bk, (headOf l).sz, (headOf l).sm, (headOf l).wh, headE l) := by
  have h : ∃ r, header_Parse.f l = some r := by
    have b1 := hb.bd 327
    have b2 := hb.bd 328
    have b3 := hb.bd 329
    unfold header_Parse.f
    split
    · rw [if_pos ⟨b1.1, b1.2, b2.1, b3.1⟩]
      repeat' (first | exact ⟨_, rfl⟩ | split)
    · exact ⟨_, rfl⟩
  obtain ⟨⟨t, kd, mp, rm, bt, ck, bk, sz, sm, wh, e⟩, h⟩ := h
  unfold headOf headE
  rw [h]
theorem head_ok {l : List Int} (hb : Bytes l) (he : headE l = 0) :
    336 ≤ l.length ∧ l.length ≤ 8388608 ∧ mapper_New.f (headOf l).mp = some ((headOf l).mp, false, 0, 0, 0, false, 0) ∧ 0 ≤ (headOf l).sz ∧ (headOf l).sz ≤ 131072 := by
  have h := head_is hb
  rw [he] at h
  have b1 := hb.bd 327
  have b2 := hb.bd 328
  have b3 := hb.bd 329
  generalize headOf l = H at h ⊢
  unfold header_Parse.f at h
  split at h
  case isFalse => simp at h
  rename_i h336
  rw [if_pos ⟨b1.1, b1.2, b2.1, b3.1⟩] at h
  split at h
  case isFalse => simp at h
  split at h
  case isFalse => simp at h
  rename_i hsz
  split at h
  case isFalse => simp at h
  simp only [Option.some.injEq, Prod.mk.injEq] at h
  obtain ⟨-, -, hmp, -, -, -, -, hz, -, -, -⟩ := h
  have hw : H.mp = 0 ∨ H.mp = 1 ∨ H.mp = 3 ∨ H.mp = 5 := by
    obtain ⟨v, hv⟩ : ∃ v : Fin 256, rd l 327 = (v.val : Int) := ⟨⟨(rd l 327).toNat, by omega⟩, by show rd l 327 = ((rd l 327).toNat : Int); omega⟩
    have q := ware_all v
    rw [← hv, hmp] at q
    exact q
  have hm : shl .i64 32768 (rd l 328) ≤ 8388608 := by
    obtain ⟨v, hv⟩ : ∃ v : Fin 9, rd l 328 = (v.val : Int) := ⟨⟨(rd l 328).toNat, by omega⟩, by show rd l 328 = ((rd l 328).toNat : Int); omega⟩
    rw [hv]
    exact most_all10 v
  have hs : 0 ≤ H.sz ∧ H.sz ≤ 131072 := by
    rw [← hz]
    unfold ramT sizeT
    repeat' (first | omega | split)
  refine ⟨by omega, by omega, ?_, hs.1, hs.2⟩
  unfold mapper_New.f
  rcases hw with e | e | e | e <;> (rw [e]; rfl)
def newC (l : List Int) : Ct := Ct.new (headOf l) l
theorem newC_ok {l : List Int} (hb : Bytes l) (he : headE l = 0) : (newC l).Ok := by
  obtain ⟨h1, h2, h3, h4, h5⟩ := head_ok hb he
  refine ⟨?_, ?_, ?_, ⟨?_, ?_, ?_, ?_, ?_, ?_⟩⟩ <;> simp only [newC, Ct.new, List.length_replicate] <;> omega
theorem new_at (A : Option Addr) (c : Nat) (l : List Int) (w : World) (hr : Kd.C (Kd.int .u8) w A l.length l) (hc : l.length ≤ c) (hb : Bytes l) (he : headE l = 0) :
    Calls Try.prog 10 #[.slice A l.length c] w fun e' w' => ∃ a : Ad, e' = .returned (.tuple #[.pointer (some ⟨a.b, 0, none⟩), .int .i64 0]) ∧ CartAt w' a (newC l) ∧ w.heap.size ≤ a.b ∧ w.heap.size ≤ a.gi ∧ w.heap.size ≤ a.gr ∧ Below w.heap.size w w' := by
  have hp := head_is hb
  rw [he] at hp
  obtain ⟨h1, h2, h3, h4, h5⟩ := head_ok hb he
  exact new_ok A c l (headOf l) w hr hc hp h3 h4 (by omega) (by omega) (by omega)
theorem bits10 : ∀ v : Fin 256, (0 ≤ Go.bits .and .u8 (v.val : Int) 31 ∧ Go.bits .and .u8 (v.val : Int) 31 ≤ 255) ∧ (0 ≤ Go.bits .and .u8 (v.val : Int) 3 ∧ Go.bits .and .u8 (v.val : Int) 3 ≤ 255) ∧ (0 ≤ Go.bits .and .u8 (v.val : Int) 127 ∧ Go.bits .and .u8 (v.val : Int) 127 ≤ 255) ∧ (0 ≤ Go.bits .and .u8 (v.val : Int) 15 ∧ Go.bits .and .u8 (v.val : Int) 15 ≤ 255) ∧ (0 ≤ Go.bits .and .u8 (v.val : Int) 1 ∧ Go.bits .and .u8 (v.val : Int) 1 ≤ 255) := by decide +kernel
theorem writeF_bd (k : Int) (o : Bool) (l h r : Int) (md : Bool) (ad v : Int) (hl : 0 ≤ l ∧ l ≤ 255) (hh : 0 ≤ h ∧ h ≤ 255) (hr : 0 ≤ r ∧ r ≤ 255) (hv : 0 ≤ v ∧ v ≤ 255) :
    (0 ≤ (writeF k o l h r md ad v).2.2.1 ∧ (writeF k o l h r md ad v).2.2.1 ≤ 255) ∧ (0 ≤ (writeF k o l h r md ad v).2.2.2.1 ∧ (writeF k o l h r md ad v).2.2.2.1 ≤ 255) ∧ (0 ≤ (writeF k o l h r md ad v).2.2.2.2.1 ∧ (writeF k o l h r md ad v).2.2.2.2.1 ≤ 255) := by
  obtain ⟨u, rfl⟩ : ∃ u : Fin 256, v = (u.val : Int) := ⟨⟨v.toNat, by omega⟩, by show v = (v.toNat : Int); omega⟩
  obtain ⟨b1, b2, b3, b4, b5⟩ := bits10 u
  unfold writeF
  repeat' split
  all_goals (refine ⟨?_, ?_, ?_⟩ <;> first | exact hl | exact hh | exact hr | exact b1 | exact b2 | exact b3 | exact b4 | exact b5 | exact hv)
theorem Mp.Ok.write {m : Mp} (h : m.Ok) (ad v : Int) (hv : 0 ≤ v ∧ v ≤ 255) : (m.write ad v).Ok := by
  obtain ⟨⟨a1, a2⟩, ⟨b1, b2⟩, ⟨c1, c2⟩⟩ := writeF_bd m.k m.o m.l m.h m.r m.md ad v ⟨h.l0, h.l1⟩ ⟨h.h0, h.h1⟩ ⟨h.r0, h.r1⟩ hv
  exact ⟨a1, a2, b1, b2, c1, c2⟩
theorem latch_keeps (s : Ct) (v : Int) : (s.latch v).img = s.img ∧ (s.latch v).ram = s.ram ∧ (s.latch v).mp = s.mp ∧ (s.latch v).hdr = s.hdr := by
  unfold Ct.latch
  split <;> exact ⟨rfl, rfl, rfl, rfl⟩
theorem write_keeps (s : Ct) (ad v : Int) : (s.write ad v).img = s.img ∧ (s.write ad v).ram.length = s.ram.length ∧ (s.write ad v).hdr = s.hdr ∧ ((s.write ad v).mp = s.mp ∨ (s.write ad v).mp = s.mp.write ad v) := by
  unfold Ct.write
  split
  · split
    · obtain ⟨h1, h2, h3, h4⟩ := latch_keeps { s with mp := s.mp.write ad v } v
      exact ⟨h1, by rw [h2], h4, Or.inr h3⟩
    · exact ⟨rfl, rfl, rfl, Or.inr rfl⟩
  · split
    · exact ⟨rfl, rfl, rfl, Or.inl rfl⟩
    · split
      · exact ⟨rfl, by simp, rfl, Or.inl rfl⟩
      · exact ⟨rfl, rfl, rfl, Or.inl rfl⟩
theorem Ct.Ok.write {s : Ct} (h : s.Ok) (ad v : Int) (hv : 0 ≤ v ∧ v ≤ 255) : (s.write ad v).Ok := by
  obtain ⟨h1, h2, h3, h4⟩ := write_keeps s ad v
  refine ⟨by rw [h1]; exact h.i0, by rw [h1]; exact h.i1, by rw [h2]; exact h.r1, ?_⟩
  rcases h4 with e | e <;> rw [e]
  · exact h.m
  · exact h.m.write ad v hv
theorem tick_keeps (s : Ct) : s.tick.img = s.img ∧ s.tick.ram = s.ram ∧ s.tick.hdr = s.hdr ∧ s.tick.mp = s.mp ∧ s.tick.hd = s.hd := by
  unfold Ct.tick
  split <;> exact ⟨rfl, rfl, rfl, rfl, rfl⟩
theorem Ct.Ok.tick {s : Ct} (h : s.Ok) : s.tick.Ok := by
  obtain ⟨h1, h2, h3, h4, _⟩ := tick_keeps s
  exact ⟨by rw [h1]; exact h.i0, by rw [h1]; exact h.i1, by rw [h2]; exact h.r1, by rw [h4]; exact h.m⟩
theorem CartAt.other {w w' : World} {a d : Ad} {s : Ct} (h : CartAt w d s) (u : Upto a.S w w') (B : Nat) (h1 : a.b < B) (h2 : a.gr < B) (h3 : B ≤ d.b) (h4 : B ≤ d.gi) (h5 : B ≤ d.gr) : CartAt w' d s :=
  h.kept u (by rintro (q | q) <;> omega) (by rintro (q | q) <;> omega) (by rintro (q | q) <;> omega)
theorem CartAt.first {w w' : World} {a d : Ad} {s : Ct} (h : CartAt w a s) (u : Upto d.S w w') (B : Nat) (h1 : a.b < B) (h2 : a.gi < B) (h3 : a.gr < B) (h4 : B ≤ d.b) (h5 : B ≤ d.gr) : CartAt w' a s :=
  h.kept u (by rintro (q | q) <;> omega) (by rintro (q | q) <;> omega) (by rintro (q | q) <;> omega)
theorem upto_step {B : Nat} {w0 w w' : World} {a : Ad} (hb : Below B w0 w) (hB : B ≤ w0.heap.size) (u : Upto a.S w w') (h1 : B ≤ a.b) (h2 : B ≤ a.gr) : Below B w0 w' :=
  u.below hb (Nat.le_trans hB hb.size) (by rintro k (q | q) <;> omega)
end Go.Proofs.Ytmjjojbedllmgaa.Hand
end
section
namespace Go.Proofs.Ytmjjojbedllmgaa.Hand
open Go.RowKit
open Go.Proofs.Ytmjjojbedllmgaa.G
open Go.Proofs.YtmjjojbedllmgaaW.PrintWords Go.Proofs.YtmjjojbedllmgaaW.PrintLast Go.Proofs.YtmjjojbedllmgaaW.PrintMore
set_option linter.unusedVariables false
set_option linter.unusedSimpArgs false
theorem bytes_cells (s : ByteArray) : Lib.byteCells s.data.toList = (bytesOf s).map (Value.int .u8) := by
  simp [Lib.byteCells, bytesOf]
theorem wpList_append_run {P : Program} {w w' : World} {ops : Array Oper} {rest : List Oper} {o : Oper} {a : Act} {Q : Exit → Act → World → Prop} (hgd : o.guard = none) (s x : Operand) (t : TypeId)
    (ho : o.op = .call { callee := .builtin .append, args := #[s, x], argTypes := #[t, t] }) (sv xv r : Value) (hs : a.eval s = sv) (hx : a.eval x = xv)
    (hrun : ∀ ty : TypeId, (Builtin.append_ #[t, t] ty #[sv, xv]).run P w = .ok r w') (h : wpList P ops Q rest (a.put o.dst r) w') : wpList P ops Q (o :: rest) a w := by
  refine wpList_plain hgd fun K hK => ?_
  have q := hrun o.type
  unfold Oper.wp
  simp [execOp, ho, resolve, invoke, builtin, hs, hx, q, Result.andThen]
  exact hK _ _ h
theorem makeRow (w : World) (n : Nat) (hn : (n : Int) ≤ 8388272) :
    ∃ w', (Instr.makeSlice 22 (.int .i64 336) (.int .i64 (336 + (n : Int)))).run Try.prog w = .ok (.slice (some ⟨w.heap.size, 0, none⟩) 336 (336 + n)) w' ∧ RowL w' w.heap.size (List.replicate (336 + n) 0) ∧ (∀ (k : Nat) (cs : Array Value) (t : TypeId), w.heap[k]? = some (.cells cs t (0, 0)) → w'.heap[k]? = some (.cells cs t (0, 0))) ∧ (∀ w0 : World, Below w0.heap.size w0 w → Below w0.heap.size w0 w') := by
  obtain ⟨i, hi, hz0, hz1, hz2⟩ := info_parts info5
  have q := run_make (P := Try.prog) w 22 5 i (.int .u8 0) Try.underlying22 hi hz0 .i64 .i64 336 (336 + (n : Int)) (by omega) (by omega) (by rw [hz2]; omega) (by omega)
  rw [show ((336 : Int)).toNat = 336 from rfl, show (336 + (n : Int)).toNat = 336 + n by omega, hz1, Nat.mul_one] at q
  refine ⟨_, q, ?_, fun k cs t hk => blk_alloc hk _, fun w0 hb => below_alloc hb _⟩
  · have e : madeCells (Value.int .u8 0).cells (336 + n) = ((List.replicate (336 + n) (0 : Int)).map (Value.int .u8)).toArray := by
      apply Array.toList_inj.mp
      rw [show (Value.int .u8 0).cells = #[Value.int .u8 0] from rfl, toList_madeCells_one]
      simp
    rw [e]
    exact heap_alloc_new w _
theorem RowL.copyStr {w : World} {g : Nat} {L : List Int} (h : RowL w g L) (o n : Nat) (s : ByteArray) (hle : s.size ≤ n) (hfit : o + s.size ≤ L.length) :
    ∃ w', (∀ (cap : Nat) (ty : TypeId), (Builtin.copy_ #[22, 9] ty #[.slice (some ⟨g, o, none⟩) n cap, .string s]).run Try.prog w = .ok (.int .i64 s.size) w') ∧ RowL w' g (splice L o (bytesOf s)) ∧ (∀ k : Nat, k ≠ g → w'.heap[k]? = w.heap[k]?) ∧ (∀ (B : Nat) (w0 : World), B ≤ g → Below B w0 w → Below B w0 w') := by
  have q := fun (cap : Nat) (ty : TypeId) => Lib.run_copy_row_string (P := Try.prog) w 22 9 ty 5 g o n cap s (L.map (Value.int .u8)).toArray 5 Try.underlying22 (by kernel_rfl) h hle (by simpa using hfit)
  refine ⟨_, q, ?_, fun k hk => setRow_other w g k _ hk, fun B w0 hB hb => below_setRow hb hB _⟩
  refine (setRow_heap w g _ _ 5 (0, 0) h).trans ?_
  rw [bytes_cells]
  simp [splice, bytesOf_length, List.map_take, List.map_drop]
theorem RowL.append {w : World} {g : Nat} {L : List Int} (h : RowL w g L) (n cap : Nat) (A : Option Addr) (c : Nat) (l : List Int) (hr : Kd.C (Kd.int .u8) w A l.length l) (hcap : n + l.length ≤ cap) (hfit : n + l.length ≤ L.length) :
    ∃ w', (∀ ty : TypeId, (Builtin.append_ #[22, 22] ty #[.slice (some ⟨g, 0, none⟩) n cap, .slice A l.length c]).run Try.prog w = .ok (.slice (some ⟨g, 0, none⟩) (n + l.length) cap) w') ∧ RowL w' g (splice L n l) ∧ (∀ k : Nat, k ≠ g → w'.heap[k]? = w.heap[k]?) ∧ (∀ (B : Nat) (w0 : World), B ≤ g → Below B w0 w → Below B w0 w') := by
  have hi := info5
  obtain ⟨i, hi, hz0, hz1, hz2⟩ := info_parts hi
  by_cases h0 : l.length = 0
  · have e : l = [] := List.eq_nil_of_length_eq_zero h0
    subst e
    refine ⟨w, fun ty => ?_, by simpa [splice] using h, fun _ _ => rfl, fun _ _ _ hb => hb⟩
    have hn : n ≤ cap := by simpa using hcap
    cases A <;> simp [Builtin.append_, run_underlying Try.underlying22, sizeOf, typeInfo, hi, Builtin.lenOf, Builtin.firstCells, hn, storeCells, loadCells, loadCellsFrom]
  · obtain ⟨ad, rfl, _⟩ := Kd.at_int hr 0 (by omega) (by omega)
    have hnews : ∀ j u, (l.map (Value.int .u8))[j]? = some u → w.cell? (ad.add j) = some u := by
      intro j u hj
      obtain ⟨hl, hp⟩ := List.getElem?_eq_some_iff.1 hj
      have hl' : j < l.length := by simpa using hl
      obtain ⟨ad', e, hc⟩ := Kd.at_int hr (j : Int) (by omega) (by omega)
      cases e
      rw [Int.toNat_natCast] at hc
      rw [hc, ← hp]
      simp [rd, hl']
    have q := fun ty : TypeId => run_append_room (P := Try.prog) w 22 ty 5 i Try.underlying22 hi g n cap (L.map (Value.int .u8)).toArray h ad l.length c (l.map (Value.int .u8)) (by rw [hz1]; simp) hnews (by intro u hu; simp at hu; obtain ⟨x, _, rfl⟩ := hu; rfl) hcap (by rw [hz1]; simpa using hfit)
    refine ⟨_, q, ?_, fun k hk => setRow_other w g k _ hk, fun B w0 hB hb => below_setRow hb hB _⟩
    refine (setRow_heap w g _ _ 5 (0, 0) h).trans ?_
    rw [hz1]
    simp [splice, List.map_take, List.map_drop]
end Go.Proofs.Ytmjjojbedllmgaa.Hand
end
section
namespace Go.Proofs.Ytmjjojbedllmgaa.G
open Go.RowKit Go.Proofs.YtmjjojbedllmgaaW.PrintWords Go.Proofs.YtmjjojbedllmgaaW.PrintLast Go.Proofs.YtmjjojbedllmgaaW.PrintMore
set_option linter.unusedVariables false
set_option linter.unusedSimpArgs false
def header_Whole.l0 : Nat → Int → List Int → Int → Int → Option (Int)
  | 0, _, _, _, _ => none
  | k + 1, x3, x6, x7, x8 => if x8 < x7 then (if 0 ≤ x8 then (if x8 < (x6.length : Int) then (if x8 = 334 then (header_Whole.l0 k x3 x6 x7 (wrap64 (x8 + 1))) else (if x8 = 335 then (header_Whole.l0 k x3 x6 x7 (wrap64 (x8 + 1))) else (header_Whole.l0 k (IntKind.u16.wrap (x3 + (IntKind.u16.wrap (rd x6 x8)))) x6 x7 (wrap64 (x8 + 1))))) else (none)) else (none)) else (some x3)
def header_Whole.f (k : Nat) (l0 : List Int) : Option (Int) := header_Whole.l0 k 0 l0 (l0.length : Int) 0
set_option maxHeartbeats 8000000 in
set_option maxRecDepth 100000 in
theorem header_Whole.calls (k : Nat) (A0 : Option Addr) (c0 : Nat) (l0 : List Int) (r : Int) (w : World) (hr0 : Kd.C (Kd.int .u8) w A0 l0.length l0) (hc0 : l0.length ≤ c0) (h : header_Whole.f k l0 = some r) :
    Calls Try.prog 78 #[.slice A0 l0.length c0] w fun e w' => e = .returned (.int .u16 r) ∧ Drawn0 w w' := by
  have HR0 := Aside0.mk hr0
  have HC0 := Aside0.mk hc0
  clear hr0 hc0
  have H : (header_Whole.l0 k 0 l0 (l0.length : Int) 0) = some r := h
  clear h
  have H' := Aside0.mk H
  clear H
  go_enter Try.func78, Try.ntmps78
  go_wp2
  go_loopg [3, 8] k (fun kq v3 v8 w' => ∃ (x3_1 : Int) (x8_1 : Int), v3 = .int .u16 x3_1 ∧ v8 = .int .i64 x8_1 ∧ Aside0 (header_Whole.l0 kq x3_1 l0 (l0.length : Int) x8_1 = some r) ∧ Aside0 (kq ≤ k) ∧ Drawn0 w w')
  case atStart => exact ⟨(0), (0), (by first | rfl | (simp; done) | (simp [*]; done)), (by first | rfl | (simp; done) | (simp [*]; done)), H', ⟨Nat.le_refl _⟩, by repeat (first | exact Drawn0.refl _ | apply Drawn0.step)⟩
  case round =>
    clear H'
    obtain ⟨x3_1, x8_1, rfl, rfl, HA, HK1, ⟨m1, rfl⟩⟩ := hrel
    cases gk with
    | zero => exact absurd HA.out (by simp [header_Whole.l0])
    | succ k1 =>
      have H := HA.out
      clear HA
      simp only [header_Whole.l0] at H
      by_cases c2 : x8_1 < (l0.length : Int)
      · rw [if_pos c2] at H
        have c2b0 : decide (x8_1 < (l0.length : Int)) = true := decide_eq_true c2
        clear c2
        by_cases c3 : 0 ≤ x8_1
        · rw [if_pos c3] at H
          have c3b0 : decide (0 ≤ x8_1) = true := decide_eq_true c3
          clear c3
          by_cases c4 : x8_1 < (l0.length : Int)
          · rw [if_pos c4] at H
            have c4b0 : decide (x8_1 < (l0.length : Int)) = true := decide_eq_true c4
            clear c4
            by_cases c5 : x8_1 = 334
            · rw [if_pos c5] at H
              have c5b0 : (x8_1 == 334) = true := beq_iff_eq.mpr c5
              have c5b1 : (x8_1 != 334) = false := bne_eq_false_iff_eq.mpr c5
              clear c5
              have H' := Aside0.mk H
              clear H
              have p120 : 0 ≤ (x8_1 : Int) := of_decide_eq_true (by first | (with_reducible assumption) | assumption)
              have q120 : x8_1 < (l0.length : Int) := of_decide_eq_true (by first | (with_reducible assumption) | assumption)
              obtain ⟨ad120, e120, hx120_0⟩ := Kd.at_int HR0.out x8_1 p120 q120
              cases e120
              replace p120 := eq_true p120
              replace q120 := eq_true q120
              go_wp2
              go_roundg k1
              case measure => have := HK1.out; omega
              case rel => exact ⟨(x3_1), (wrap64 (x8_1 + 1)), (by first | rfl | (simp; done) | (simp [*]; done)), (by first | rfl | (simp; done) | (simp [*]; done)), H', ⟨by have := HK1.out; omega⟩, by repeat (first | exact Drawn0.refl _ | apply Drawn0.step)⟩
            · rw [if_neg c5] at H
              have c5b0 : (x8_1 == 334) = false := beq_eq_false_iff_ne.mpr c5
              have c5b1 : (x8_1 != 334) = true := bne_iff_ne.mpr c5
              by_cases c6 : x8_1 = 335
              · rw [if_pos c6] at H
                have c6b0 : (x8_1 == 335) = true := beq_iff_eq.mpr c6
                have c6b1 : (x8_1 != 335) = false := bne_eq_false_iff_eq.mpr c6
                clear c6
                have H' := Aside0.mk H
                clear H
                have p120 : 0 ≤ (x8_1 : Int) := of_decide_eq_true (by first | (with_reducible assumption) | assumption)
                have q120 : x8_1 < (l0.length : Int) := of_decide_eq_true (by first | (with_reducible assumption) | assumption)
                obtain ⟨ad120, e120, hx120_0⟩ := Kd.at_int HR0.out x8_1 p120 q120
                cases e120
                replace p120 := eq_true p120
                replace q120 := eq_true q120
                go_wp2
                go_roundg k1
                case measure => have := HK1.out; omega
                case rel => exact ⟨(x3_1), (wrap64 (x8_1 + 1)), (by first | rfl | (simp; done) | (simp [*]; done)), (by first | rfl | (simp; done) | (simp [*]; done)), H', ⟨by have := HK1.out; omega⟩, by repeat (first | exact Drawn0.refl _ | apply Drawn0.step)⟩
              · rw [if_neg c6] at H
                have c6b0 : (x8_1 == 335) = false := beq_eq_false_iff_ne.mpr c6
                have c6b1 : (x8_1 != 335) = true := bne_iff_ne.mpr c6
                have H' := Aside0.mk H
                clear H
                have p120 : 0 ≤ (x8_1 : Int) := of_decide_eq_true (by first | (with_reducible assumption) | assumption)
                have q120 : x8_1 < (l0.length : Int) := of_decide_eq_true (by first | (with_reducible assumption) | assumption)
                obtain ⟨ad120, e120, hx120_0⟩ := Kd.at_int HR0.out x8_1 p120 q120
                cases e120
                replace p120 := eq_true p120
                replace q120 := eq_true q120
                go_wp2
                go_roundg k1
                case measure => have := HK1.out; omega
                case rel => exact ⟨(IntKind.u16.wrap (x3_1 + (IntKind.u16.wrap (rd l0 x8_1)))), (wrap64 (x8_1 + 1)), (by first | rfl | (simp; done) | (simp [*]; done)), (by first | rfl | (simp; done) | (simp [*]; done)), H', ⟨by have := HK1.out; omega⟩, by repeat (first | exact Drawn0.refl _ | apply Drawn0.step)⟩
          · rw [if_neg c4] at H
            exact absurd H (by simp)
        · rw [if_neg c3] at H
          exact absurd H (by simp)
      · rw [if_neg c2] at H
        have c2b0 : decide (x8_1 < (l0.length : Int)) = false := decide_eq_false c2
        clear c2
        obtain rfl := Option.some.inj H
        go_wp2
        go_ret
        exact ⟨by first | rfl | (simp; done) | (simp [*]; done), by repeat (first | exact Drawn0.refl _ | apply Drawn0.step)⟩
end Go.Proofs.Ytmjjojbedllmgaa.G
end
section
namespace Go.Proofs.Ytmjjojbedllmgaa.Hand
open Go.RowKit
open Go.Proofs.Ytmjjojbedllmgaa.G
open Go.Proofs.YtmjjojbedllmgaaW.PrintWords Go.Proofs.YtmjjojbedllmgaaW.PrintLast Go.Proofs.YtmjjojbedllmgaaW.PrintMore
set_option linter.unusedVariables false
set_option linter.unusedSimpArgs false
set_option maxRecDepth 100000 in
set_option maxHeartbeats 4000000 in
theorem hmake_long (s : ByteArray) (kd rom ram : Int) (A : Option Addr) (c : Nat) (l : List Int) (w : World) (hr : Kd.C (Kd.int .u8) w A l.length l) (hc : l.length ≤ c) (hs : ¬ (s.size : Int) ≤ 16) :
    Calls Try.prog 52 #[.string s, .int .u8 kd, .int .u8 rom, .int .u8 ram, .slice A l.length c] w fun e' w' => e' = .returned (.tuple #[.slice none 0 0, .int .i64 1]) ∧ Below w.heap.size w w' := by
  have hmf : ∀ (fn : Fn) (first cap : Array Value) (w : World), (Instr.makeFunc fn first cap).run Try.prog w = .ok (.func fn first cap) w := fun _ _ _ _ => rfl
  have HR := Aside0.mk hr
  clear hr
  go_enter_defers Try.func52, Try.ntmps52
  go_wp2_with fail
  have z1 := heap_alloc_new w (.cells #[.int .i64 0] 26)
  have z2 := below_alloc (Below.refl w.heap.size w) (.cells #[.int .i64 0] 26)
  generalize w.alloc (.cells #[.int .i64 0] 26) = W0 at z1 z2 ⊢
  refine (need_no 1 _).mono ?_
  rintro e' w' ⟨rfl, hw⟩
  replace hw := hw.symm
  subst hw
  refine leaves_cons (f := 77) (args := #[.pointer (some ⟨w.heap.size, 0, none⟩)]) (by simp) (by simp [go_sem]) ?_
  refine (make_panicking ⟨w.heap.size, 0, none⟩ 0 1 [] _ ((blk_cell (z1) 0).trans rfl) (blk_frozen (z1) 0)).mono ?_
  rintro e u' w'' ⟨rfl, rfl, rfl⟩
  have m1 : ((W0).setCell ⟨w.heap.size, 0, none⟩ (.int .i64 1)).heap[w.heap.size]? = some (.cells #[.int .i64 1] 26 (0, 0)) := blk_put (z1) 0 _ rfl
  have m2 : Below w.heap.size w ((W0).setCell ⟨w.heap.size, 0, none⟩ (.int .i64 1)) := below_set (z2) (Nat.le_refl _)
  generalize ((W0).setCell ⟨w.heap.size, 0, none⟩ (.int .i64 1)) = Y at m1 m2 ⊢
  have v0 : Y.cell? ⟨w.heap.size, 0, none⟩ = some (.int .i64 1) := (blk_cell m1 0).trans rfl
  simp [Leaves, settle, results, Try.results52, go_sem, v0, m2]
set_option maxRecDepth 100000 in
set_option maxHeartbeats 4000000 in
theorem hmake_sign (s : ByteArray) (kd rom ram : Int) (A : Option Addr) (c : Nat) (l : List Int) (w : World) (hr : Kd.C (Kd.int .u8) w A l.length l) (hc : l.length ≤ c) (hs : (s.size : Int) ≤ 16) (j0 : Nat) (hj0 : (j0 : Int) < s.size) (hpr : ∀ i : Nat, i < j0 → prb (bt s (i : Int)) = true) (hno : prb (bt s (j0 : Int)) = false) :
    Calls Try.prog 52 #[.string s, .int .u8 kd, .int .u8 rom, .int .u8 ram, .slice A l.length c] w fun e' w' => e' = .returned (.tuple #[.slice none 0 0, .int .i64 1]) ∧ Below w.heap.size w w' := by
  have hmf : ∀ (fn : Fn) (first cap : Array Value) (w : World), (Instr.makeFunc fn first cap).run Try.prog w = .ok (.func fn first cap) w := fun _ _ _ _ => rfl
  have HR := Aside0.mk hr
  clear hr
  go_enter_defers Try.func52, Try.ntmps52
  go_wp2_with fail
  have z1 := heap_alloc_new w (.cells #[.int .i64 0] 26)
  have z2 := below_alloc (Below.refl w.heap.size w) (.cells #[.int .i64 0] 26)
  generalize w.alloc (.cells #[.int .i64 0] 26) = W0 at z1 z2 ⊢
  refine (need_ok 1 _).mono ?_
  rintro e' w' ⟨rfl, hw⟩
  replace hw := hw.symm
  subst hw
  go_wp2_with fail
  go_loopw [24] (fun i w' => ∃ (j : Nat), i = .int .i64 j ∧ Aside0 (j ≤ j0 ∧ w'.heap[w.heap.size]? = some (.cells #[.int .i64 0] 26 (0, 0)) ∧ Below w.heap.size w w')) (fun i _ => 20 - (intOf i).toNat)
  case atStart => exact ⟨0, rfl, Aside0.mk ⟨by omega, z1, z2⟩⟩
  case round =>
    obtain ⟨j, rfl, HA⟩ := hrel
    obtain ⟨hj, z1, z2⟩ := HA.out
    clear HA
    by_cases hjJ : j = j0
    · have hpr' := hpr
      clear hpr
      have h16 : (j : Int) ≤ 16 := by omega
      subst hjJ
      have p9 : 0 ≤ (j : Int) := by omega
      have q9 : (j : Int) < (s.size : Int) := by omega
      replace p9 := eq_true p9
      replace q9 := eq_true q9
      have hjs : j < s.size := by omega
      have hbt : bt s (j : Int) = ((s[j]'hjs).toNat : Int) := by simp [bt, hjs]
      rw [hbt] at hno
      go_wp2_with fail
      (with_reducible refine (header_printable.calls _ _ _ (prb_calls _)).mono ?_)
      rintro e' w' ⟨rfl, ⟨nd, rfl⟩⟩
      rw [hno]
      go_wp2_with fail
      refine (need_no 1 _).mono ?_
      rintro e' w' ⟨rfl, rfl⟩
      have D1 := blk_drewN z1 nd
      have D2 := pw_below_drewN z2 nd
      generalize wr.drewN nd = W1 at D1 D2 ⊢
      refine leaves_cons (f := 77) (args := #[.pointer (some ⟨w.heap.size, 0, none⟩)]) (by simp) (by simp [go_sem]) ?_
      refine (make_panicking ⟨w.heap.size, 0, none⟩ 0 1 [] _ ((blk_cell (D1) 0).trans rfl) (blk_frozen (D1) 0)).mono ?_
      rintro e u' w'' ⟨rfl, rfl, rfl⟩
      have m1 : ((W1).setCell ⟨w.heap.size, 0, none⟩ (.int .i64 1)).heap[w.heap.size]? = some (.cells #[.int .i64 1] 26 (0, 0)) := blk_put (D1) 0 _ rfl
      have m2 : Below w.heap.size w ((W1).setCell ⟨w.heap.size, 0, none⟩ (.int .i64 1)) := below_set (D2) (Nat.le_refl _)
      generalize ((W1).setCell ⟨w.heap.size, 0, none⟩ (.int .i64 1)) = Y at m1 m2 ⊢
      have v0 : Y.cell? ⟨w.heap.size, 0, none⟩ = some (.int .i64 1) := (blk_cell m1 0).trans rfl
      simp [Leaves, settle, results, Try.results52, go_sem, v0, m2]

    have hb := hpr j (by omega)
    have p9 : 0 ≤ (j : Int) := by omega
    have q9 : (j : Int) < (s.size : Int) := by omega
    have hx9 := bt_at s (j : Int)
    have q9' := q9
    replace p9 := eq_true p9
    replace q9 := eq_true q9
    have hjs : j < s.size := by omega
    have hbt : bt s (j : Int) = ((s[j]'hjs).toNat : Int) := by simp [bt, hjs]
    rw [hbt] at hb
    clear hx9
    go_wp2_with fail
    (with_reducible refine (header_printable.calls _ _ _ (prb_calls _)).mono ?_)
    rintro e' w' ⟨rfl, ⟨nd, rfl⟩⟩
    rw [hb]
    go_wp2_with fail
    refine (need_ok 1 _).mono ?_
    rintro e' w' ⟨rfl, rfl⟩
    go_wp2_with fail
    exact ⟨⟨j + 1, by simp, Aside0.mk ⟨by omega, blk_drewN z1 nd, pw_below_drewN z2 nd⟩⟩, by simp [intOf]; omega⟩
set_option maxRecDepth 100000 in
set_option maxHeartbeats 4000000 in
theorem hmake_kind (s : ByteArray) (kd rom ram : Int) (A : Option Addr) (c : Nat) (l : List Int) (w : World) (hr : Kd.C (Kd.int .u8) w A l.length l) (hc : l.length ≤ c) (hs : (s.size : Int) ≤ 16) (hpr : ∀ i : Nat, i < s.size → prb (bt s (i : Int)) = true) (hk : 0 ≤ kd ∧ kd ≤ 255) (hok : (wareT kd).2.2.2.2 = false) :
    Calls Try.prog 52 #[.string s, .int .u8 kd, .int .u8 rom, .int .u8 ram, .slice A l.length c] w fun e' w' => e' = .returned (.tuple #[.slice none 0 0, .int .i64 4]) ∧ Below w.heap.size w w' := by
  have hmf : ∀ (fn : Fn) (first cap : Array Value) (w : World), (Instr.makeFunc fn first cap).run Try.prog w = .ok (.func fn first cap) w := fun _ _ _ _ => rfl
  have HR := Aside0.mk hr
  clear hr
  go_enter_defers Try.func52, Try.ntmps52
  go_wp2_with fail
  have z1 := heap_alloc_new w (.cells #[.int .i64 0] 26)
  have z2 := below_alloc (Below.refl w.heap.size w) (.cells #[.int .i64 0] 26)
  generalize w.alloc (.cells #[.int .i64 0] 26) = W0 at z1 z2 ⊢
  refine (need_ok 1 _).mono ?_
  rintro e' w' ⟨rfl, hw⟩
  replace hw := hw.symm
  subst hw
  go_wp2_with fail
  go_loopw [24] (fun i w' => ∃ (j : Nat), i = .int .i64 j ∧ Aside0 (j ≤ s.size ∧ w'.heap[w.heap.size]? = some (.cells #[.int .i64 0] 26 (0, 0)) ∧ Below w.heap.size w w')) (fun i _ => 20 - (intOf i).toNat)
  case atStart => exact ⟨0, rfl, Aside0.mk ⟨by omega, z1, z2⟩⟩
  case round =>
    obtain ⟨j, rfl, HA⟩ := hrel
    obtain ⟨hj, z1, z2⟩ := HA.out
    clear HA
    by_cases hjJ : j = s.size
    · have hpr' := hpr
      clear hpr
      have h16 : (j : Int) ≤ 16 := by omega
      have hge : ¬ (j : Int) < (s.size : Int) := by omega
      go_wp2_with fail
      refine (header_ware.calls kd hk _).mono ?_
      rintro e' w1 ⟨rfl, hb⟩
      have B1 := blk_below z1 hb
      have B2 := Below.trans z2 (hb.mono z2.size)
      rw [hok]
      go_wp2_with fail
      refine (need_no 4 _).mono ?_
      rintro e' w' ⟨rfl, rfl⟩
      have D1 := blk_alloc B1 (.cells #[.string ⟨#[]⟩, .int .u8 0, .int .i64 (wareT kd).1, .bool (wareT kd).2.1, .bool (wareT kd).2.2.1, .bool (wareT kd).2.2.2.1, .int .i64 0, .int .i64 0, .int .u8 0, .int .u16 0] 30)
      have D2 := below_alloc B2 (.cells #[.string ⟨#[]⟩, .int .u8 0, .int .i64 (wareT kd).1, .bool (wareT kd).2.1, .bool (wareT kd).2.2.1, .bool (wareT kd).2.2.2.1, .int .i64 0, .int .i64 0, .int .u8 0, .int .u16 0] 30)
      generalize w1.alloc (.cells #[.string ⟨#[]⟩, .int .u8 0, .int .i64 (wareT kd).1, .bool (wareT kd).2.1, .bool (wareT kd).2.2.1, .bool (wareT kd).2.2.2.1, .int .i64 0, .int .i64 0, .int .u8 0, .int .u16 0] 30) = W1 at D1 D2 ⊢
      clear z1 z2 B1 B2 hb
      refine leaves_cons (f := 77) (args := #[.pointer (some ⟨w.heap.size, 0, none⟩)]) (by simp) (by simp [go_sem]) ?_
      refine (make_panicking ⟨w.heap.size, 0, none⟩ 0 4 [] _ ((blk_cell (D1) 0).trans rfl) (blk_frozen (D1) 0)).mono ?_
      rintro e u' w'' ⟨rfl, rfl, rfl⟩
      have m1 : ((W1).setCell ⟨w.heap.size, 0, none⟩ (.int .i64 4)).heap[w.heap.size]? = some (.cells #[.int .i64 4] 26 (0, 0)) := blk_put (D1) 0 _ rfl
      have m2 : Below w.heap.size w ((W1).setCell ⟨w.heap.size, 0, none⟩ (.int .i64 4)) := below_set (D2) (Nat.le_refl _)
      generalize ((W1).setCell ⟨w.heap.size, 0, none⟩ (.int .i64 4)) = Y at m1 m2 ⊢
      have v0 : Y.cell? ⟨w.heap.size, 0, none⟩ = some (.int .i64 4) := (blk_cell m1 0).trans rfl
      simp [Leaves, settle, results, Try.results52, go_sem, v0, m2]

    have hb := hpr j (by omega)
    have p9 : 0 ≤ (j : Int) := by omega
    have q9 : (j : Int) < (s.size : Int) := by omega
    have hx9 := bt_at s (j : Int)
    have q9' := q9
    replace p9 := eq_true p9
    replace q9 := eq_true q9
    have hjs : j < s.size := by omega
    have hbt : bt s (j : Int) = ((s[j]'hjs).toNat : Int) := by simp [bt, hjs]
    rw [hbt] at hb
    clear hx9
    go_wp2_with fail
    (with_reducible refine (header_printable.calls _ _ _ (prb_calls _)).mono ?_)
    rintro e' w' ⟨rfl, ⟨nd, rfl⟩⟩
    rw [hb]
    go_wp2_with fail
    refine (need_ok 1 _).mono ?_
    rintro e' w' ⟨rfl, rfl⟩
    go_wp2_with fail
    exact ⟨⟨j + 1, by simp, Aside0.mk ⟨by omega, blk_drewN z1 nd, pw_below_drewN z2 nd⟩⟩, by simp [intOf]; omega⟩
set_option maxRecDepth 100000 in
set_option maxHeartbeats 4000000 in
theorem hmake_size_a (s : ByteArray) (kd rom ram : Int) (A : Option Addr) (c : Nat) (l : List Int) (w : World) (hr : Kd.C (Kd.int .u8) w A l.length l) (hc : l.length ≤ c) (hs : (s.size : Int) ≤ 16) (hpr : ∀ i : Nat, i < s.size → prb (bt s (i : Int)) = true) (hk : 0 ≤ kd ∧ kd ≤ 255) (hok : (wareT kd).2.2.2.2 = true) (h8 : decide (rom ≤ 8) = false) :
    Calls Try.prog 52 #[.string s, .int .u8 kd, .int .u8 rom, .int .u8 ram, .slice A l.length c] w fun e' w' => e' = .returned (.tuple #[.slice none 0 0, .int .i64 5]) ∧ Below w.heap.size w w' := by
  have hmf : ∀ (fn : Fn) (first cap : Array Value) (w : World), (Instr.makeFunc fn first cap).run Try.prog w = .ok (.func fn first cap) w := fun _ _ _ _ => rfl
  have HR := Aside0.mk hr
  clear hr
  go_enter_defers Try.func52, Try.ntmps52
  go_wp2_with fail
  have z1 := heap_alloc_new w (.cells #[.int .i64 0] 26)
  have z2 := below_alloc (Below.refl w.heap.size w) (.cells #[.int .i64 0] 26)
  generalize w.alloc (.cells #[.int .i64 0] 26) = W0 at z1 z2 ⊢
  refine (need_ok 1 _).mono ?_
  rintro e' w' ⟨rfl, hw⟩
  replace hw := hw.symm
  subst hw
  go_wp2_with fail
  go_loopw [24] (fun i w' => ∃ (j : Nat), i = .int .i64 j ∧ Aside0 (j ≤ s.size ∧ w'.heap[w.heap.size]? = some (.cells #[.int .i64 0] 26 (0, 0)) ∧ Below w.heap.size w w')) (fun i _ => 20 - (intOf i).toNat)
  case atStart => exact ⟨0, rfl, Aside0.mk ⟨by omega, z1, z2⟩⟩
  case round =>
    obtain ⟨j, rfl, HA⟩ := hrel
    obtain ⟨hj, z1, z2⟩ := HA.out
    clear HA
    by_cases hjJ : j = s.size
    · have hpr' := hpr
      clear hpr
      have h16 : (j : Int) ≤ 16 := by omega
      have hge : ¬ (j : Int) < (s.size : Int) := by omega
      go_wp2_with fail
      refine (header_ware.calls kd hk _).mono ?_
      rintro e' w1 ⟨rfl, hb⟩
      have B1 := blk_below z1 hb
      have B2 := Below.trans z2 (hb.mono z2.size)
      rw [hok]
      go_wp2_with fail
      refine (need_ok 4 _).mono ?_
      rintro e' w' ⟨rfl, rfl⟩
      have D1 := blk_alloc B1 (.cells #[.string ⟨#[]⟩, .int .u8 kd, .int .i64 (wareT kd).1, .bool (wareT kd).2.1, .bool (wareT kd).2.2.1, .bool (wareT kd).2.2.2.1, .int .i64 0, .int .i64 0, .int .u8 0, .int .u16 0] 30)
      have D2 := below_alloc B2 (.cells #[.string ⟨#[]⟩, .int .u8 kd, .int .i64 (wareT kd).1, .bool (wareT kd).2.1, .bool (wareT kd).2.2.1, .bool (wareT kd).2.2.2.1, .int .i64 0, .int .i64 0, .int .u8 0, .int .u16 0] 30)
      generalize w1.alloc (.cells #[.string ⟨#[]⟩, .int .u8 kd, .int .i64 (wareT kd).1, .bool (wareT kd).2.1, .bool (wareT kd).2.2.1, .bool (wareT kd).2.2.2.1, .int .i64 0, .int .i64 0, .int .u8 0, .int .u16 0] 30) = W1 at D1 D2 ⊢
      clear z1 z2 B1 B2 hb
      go_wp2_with fail
      refine (need_no 5 _).mono ?_
      rintro e' w' ⟨rfl, hw⟩
      replace hw := hw.symm
      subst hw
      refine leaves_cons (f := 77) (args := #[.pointer (some ⟨w.heap.size, 0, none⟩)]) (by simp) (by simp [go_sem]) ?_
      refine (make_panicking ⟨w.heap.size, 0, none⟩ 0 5 [] _ ((blk_cell (D1) 0).trans rfl) (blk_frozen (D1) 0)).mono ?_
      rintro e u' w'' ⟨rfl, rfl, rfl⟩
      have m1 : ((W1).setCell ⟨w.heap.size, 0, none⟩ (.int .i64 5)).heap[w.heap.size]? = some (.cells #[.int .i64 5] 26 (0, 0)) := blk_put (D1) 0 _ rfl
      have m2 : Below w.heap.size w ((W1).setCell ⟨w.heap.size, 0, none⟩ (.int .i64 5)) := below_set (D2) (Nat.le_refl _)
      generalize ((W1).setCell ⟨w.heap.size, 0, none⟩ (.int .i64 5)) = Y at m1 m2 ⊢
      have v0 : Y.cell? ⟨w.heap.size, 0, none⟩ = some (.int .i64 5) := (blk_cell m1 0).trans rfl
      simp [Leaves, settle, results, Try.results52, go_sem, v0, m2]

    have hb := hpr j (by omega)
    have p9 : 0 ≤ (j : Int) := by omega
    have q9 : (j : Int) < (s.size : Int) := by omega
    have hx9 := bt_at s (j : Int)
    have q9' := q9
    replace p9 := eq_true p9
    replace q9 := eq_true q9
    have hjs : j < s.size := by omega
    have hbt : bt s (j : Int) = ((s[j]'hjs).toNat : Int) := by simp [bt, hjs]
    rw [hbt] at hb
    clear hx9
    go_wp2_with fail
    (with_reducible refine (header_printable.calls _ _ _ (prb_calls _)).mono ?_)
    rintro e' w' ⟨rfl, ⟨nd, rfl⟩⟩
    rw [hb]
    go_wp2_with fail
    refine (need_ok 1 _).mono ?_
    rintro e' w' ⟨rfl, rfl⟩
    go_wp2_with fail
    exact ⟨⟨j + 1, by simp, Aside0.mk ⟨by omega, blk_drewN z1 nd, pw_below_drewN z2 nd⟩⟩, by simp [intOf]; omega⟩
set_option maxRecDepth 100000 in
set_option maxHeartbeats 4000000 in
theorem hmake_size_b (s : ByteArray) (kd rom ram : Int) (A : Option Addr) (c : Nat) (l : List Int) (w : World) (hr : Kd.C (Kd.int .u8) w A l.length l) (hc : l.length ≤ c) (hs : (s.size : Int) ≤ 16) (hpr : ∀ i : Nat, i < s.size → prb (bt s (i : Int)) = true) (hk : 0 ≤ kd ∧ kd ≤ 255) (hok : (wareT kd).2.2.2.2 = true) (h8 : decide (rom ≤ 8) = true) (h5 : decide (ram ≤ 5) = false) :
    Calls Try.prog 52 #[.string s, .int .u8 kd, .int .u8 rom, .int .u8 ram, .slice A l.length c] w fun e' w' => e' = .returned (.tuple #[.slice none 0 0, .int .i64 5]) ∧ Below w.heap.size w w' := by
  have hmf : ∀ (fn : Fn) (first cap : Array Value) (w : World), (Instr.makeFunc fn first cap).run Try.prog w = .ok (.func fn first cap) w := fun _ _ _ _ => rfl
  have HR := Aside0.mk hr
  clear hr
  go_enter_defers Try.func52, Try.ntmps52
  go_wp2_with fail
  have z1 := heap_alloc_new w (.cells #[.int .i64 0] 26)
  have z2 := below_alloc (Below.refl w.heap.size w) (.cells #[.int .i64 0] 26)
  generalize w.alloc (.cells #[.int .i64 0] 26) = W0 at z1 z2 ⊢
  refine (need_ok 1 _).mono ?_
  rintro e' w' ⟨rfl, hw⟩
  replace hw := hw.symm
  subst hw
  go_wp2_with fail
  go_loopw [24] (fun i w' => ∃ (j : Nat), i = .int .i64 j ∧ Aside0 (j ≤ s.size ∧ w'.heap[w.heap.size]? = some (.cells #[.int .i64 0] 26 (0, 0)) ∧ Below w.heap.size w w')) (fun i _ => 20 - (intOf i).toNat)
  case atStart => exact ⟨0, rfl, Aside0.mk ⟨by omega, z1, z2⟩⟩
  case round =>
    obtain ⟨j, rfl, HA⟩ := hrel
    obtain ⟨hj, z1, z2⟩ := HA.out
    clear HA
    by_cases hjJ : j = s.size
    · have hpr' := hpr
      clear hpr
      have h16 : (j : Int) ≤ 16 := by omega
      have hge : ¬ (j : Int) < (s.size : Int) := by omega
      go_wp2_with fail
      refine (header_ware.calls kd hk _).mono ?_
      rintro e' w1 ⟨rfl, hb⟩
      have B1 := blk_below z1 hb
      have B2 := Below.trans z2 (hb.mono z2.size)
      rw [hok]
      go_wp2_with fail
      refine (need_ok 4 _).mono ?_
      rintro e' w' ⟨rfl, rfl⟩
      have D1 := blk_alloc B1 (.cells #[.string ⟨#[]⟩, .int .u8 kd, .int .i64 (wareT kd).1, .bool (wareT kd).2.1, .bool (wareT kd).2.2.1, .bool (wareT kd).2.2.2.1, .int .i64 0, .int .i64 0, .int .u8 0, .int .u16 0] 30)
      have D2 := below_alloc B2 (.cells #[.string ⟨#[]⟩, .int .u8 kd, .int .i64 (wareT kd).1, .bool (wareT kd).2.1, .bool (wareT kd).2.2.1, .bool (wareT kd).2.2.2.1, .int .i64 0, .int .i64 0, .int .u8 0, .int .u16 0] 30)
      generalize w1.alloc (.cells #[.string ⟨#[]⟩, .int .u8 kd, .int .i64 (wareT kd).1, .bool (wareT kd).2.1, .bool (wareT kd).2.2.1, .bool (wareT kd).2.2.2.1, .int .i64 0, .int .i64 0, .int .u8 0, .int .u16 0] 30) = W1 at D1 D2 ⊢
      clear z1 z2 B1 B2 hb
      go_wp2_with fail
      refine (need_no 5 _).mono ?_
      rintro e' w' ⟨rfl, hw⟩
      replace hw := hw.symm
      subst hw
      refine leaves_cons (f := 77) (args := #[.pointer (some ⟨w.heap.size, 0, none⟩)]) (by simp) (by simp [go_sem]) ?_
      refine (make_panicking ⟨w.heap.size, 0, none⟩ 0 5 [] _ ((blk_cell (D1) 0).trans rfl) (blk_frozen (D1) 0)).mono ?_
      rintro e u' w'' ⟨rfl, rfl, rfl⟩
      have m1 : ((W1).setCell ⟨w.heap.size, 0, none⟩ (.int .i64 5)).heap[w.heap.size]? = some (.cells #[.int .i64 5] 26 (0, 0)) := blk_put (D1) 0 _ rfl
      have m2 : Below w.heap.size w ((W1).setCell ⟨w.heap.size, 0, none⟩ (.int .i64 5)) := below_set (D2) (Nat.le_refl _)
      generalize ((W1).setCell ⟨w.heap.size, 0, none⟩ (.int .i64 5)) = Y at m1 m2 ⊢
      have v0 : Y.cell? ⟨w.heap.size, 0, none⟩ = some (.int .i64 5) := (blk_cell m1 0).trans rfl
      simp [Leaves, settle, results, Try.results52, go_sem, v0, m2]

    have hb := hpr j (by omega)
    have p9 : 0 ≤ (j : Int) := by omega
    have q9 : (j : Int) < (s.size : Int) := by omega
    have hx9 := bt_at s (j : Int)
    have q9' := q9
    replace p9 := eq_true p9
    replace q9 := eq_true q9
    have hjs : j < s.size := by omega
    have hbt : bt s (j : Int) = ((s[j]'hjs).toNat : Int) := by simp [bt, hjs]
    rw [hbt] at hb
    clear hx9
    go_wp2_with fail
    (with_reducible refine (header_printable.calls _ _ _ (prb_calls _)).mono ?_)
    rintro e' w' ⟨rfl, ⟨nd, rfl⟩⟩
    rw [hb]
    go_wp2_with fail
    refine (need_ok 1 _).mono ?_
    rintro e' w' ⟨rfl, rfl⟩
    go_wp2_with fail
    exact ⟨⟨j + 1, by simp, Aside0.mk ⟨by omega, blk_drewN z1 nd, pw_below_drewN z2 nd⟩⟩, by simp [intOf]; omega⟩
set_option maxRecDepth 100000 in
set_option maxHeartbeats 4000000 in
theorem hmake_size_c (s : ByteArray) (kd rom ram : Int) (A : Option Addr) (c : Nat) (l : List Int) (w : World) (hr : Kd.C (Kd.int .u8) w A l.length l) (hc : l.length ≤ c) (hs : (s.size : Int) ≤ 16) (hpr : ∀ i : Nat, i < s.size → prb (bt s (i : Int)) = true) (hk : 0 ≤ kd ∧ kd ≤ 255) (hok : (wareT kd).2.2.2.2 = true) (h80 : 0 ≤ rom) (h8 : decide (rom ≤ 8) = true) (h5 : decide (ram ≤ 5) = true) (hm : decide ((l.length : Int) ≤ wrap64 (shl .i64 32768 rom - 336)) = false) :
    Calls Try.prog 52 #[.string s, .int .u8 kd, .int .u8 rom, .int .u8 ram, .slice A l.length c] w fun e' w' => e' = .returned (.tuple #[.slice none 0 0, .int .i64 5]) ∧ Below w.heap.size w w' := by
  have hmf : ∀ (fn : Fn) (first cap : Array Value) (w : World), (Instr.makeFunc fn first cap).run Try.prog w = .ok (.func fn first cap) w := fun _ _ _ _ => rfl
  have HR := Aside0.mk hr
  clear hr
  go_enter_defers Try.func52, Try.ntmps52
  go_wp2_with fail
  have z1 := heap_alloc_new w (.cells #[.int .i64 0] 26)
  have z2 := below_alloc (Below.refl w.heap.size w) (.cells #[.int .i64 0] 26)
  generalize w.alloc (.cells #[.int .i64 0] 26) = W0 at z1 z2 ⊢
  refine (need_ok 1 _).mono ?_
  rintro e' w' ⟨rfl, hw⟩
  replace hw := hw.symm
  subst hw
  go_wp2_with fail
  go_loopw [24] (fun i w' => ∃ (j : Nat), i = .int .i64 j ∧ Aside0 (j ≤ s.size ∧ w'.heap[w.heap.size]? = some (.cells #[.int .i64 0] 26 (0, 0)) ∧ Below w.heap.size w w')) (fun i _ => 20 - (intOf i).toNat)
  case atStart => exact ⟨0, rfl, Aside0.mk ⟨by omega, z1, z2⟩⟩
  case round =>
    obtain ⟨j, rfl, HA⟩ := hrel
    obtain ⟨hj, z1, z2⟩ := HA.out
    clear HA
    by_cases hjJ : j = s.size
    · have hpr' := hpr
      clear hpr
      have h16 : (j : Int) ≤ 16 := by omega
      have hge : ¬ (j : Int) < (s.size : Int) := by omega
      go_wp2_with fail
      refine (header_ware.calls kd hk _).mono ?_
      rintro e' w1 ⟨rfl, hb⟩
      have B1 := blk_below z1 hb
      have B2 := Below.trans z2 (hb.mono z2.size)
      rw [hok]
      go_wp2_with fail
      refine (need_ok 4 _).mono ?_
      rintro e' w' ⟨rfl, rfl⟩
      have D1 := blk_alloc B1 (.cells #[.string ⟨#[]⟩, .int .u8 kd, .int .i64 (wareT kd).1, .bool (wareT kd).2.1, .bool (wareT kd).2.2.1, .bool (wareT kd).2.2.2.1, .int .i64 0, .int .i64 0, .int .u8 0, .int .u16 0] 30)
      have D2 := below_alloc B2 (.cells #[.string ⟨#[]⟩, .int .u8 kd, .int .i64 (wareT kd).1, .bool (wareT kd).2.1, .bool (wareT kd).2.2.1, .bool (wareT kd).2.2.2.1, .int .i64 0, .int .i64 0, .int .u8 0, .int .u16 0] 30)
      generalize w1.alloc (.cells #[.string ⟨#[]⟩, .int .u8 kd, .int .i64 (wareT kd).1, .bool (wareT kd).2.1, .bool (wareT kd).2.2.1, .bool (wareT kd).2.2.2.1, .int .i64 0, .int .i64 0, .int .u8 0, .int .u16 0] 30) = W1 at D1 D2 ⊢
      clear z1 z2 B1 B2 hb
      go_wp2_with fail
      (with_reducible refine (header_most.calls rom _ _ (by unfold header_most.f; rw [if_pos h80])).mono ?_)
      rintro e' w' ⟨rfl, ⟨nd, rfl⟩⟩
      go_wp2_with fail
      refine (need_no 5 _).mono ?_
      rintro e' w' ⟨rfl, rfl⟩
      have E1 := blk_drewN D1 nd
      have E2 := pw_below_drewN D2 nd
      generalize W1.drewN nd = W2 at E1 E2 ⊢
      refine leaves_cons (f := 77) (args := #[.pointer (some ⟨w.heap.size, 0, none⟩)]) (by simp) (by simp [go_sem]) ?_
      refine (make_panicking ⟨w.heap.size, 0, none⟩ 0 5 [] _ ((blk_cell (E1) 0).trans rfl) (blk_frozen (E1) 0)).mono ?_
      rintro e u' w'' ⟨rfl, rfl, rfl⟩
      have m1 : ((W2).setCell ⟨w.heap.size, 0, none⟩ (.int .i64 5)).heap[w.heap.size]? = some (.cells #[.int .i64 5] 26 (0, 0)) := blk_put (E1) 0 _ rfl
      have m2 : Below w.heap.size w ((W2).setCell ⟨w.heap.size, 0, none⟩ (.int .i64 5)) := below_set (E2) (Nat.le_refl _)
      generalize ((W2).setCell ⟨w.heap.size, 0, none⟩ (.int .i64 5)) = Y at m1 m2 ⊢
      have v0 : Y.cell? ⟨w.heap.size, 0, none⟩ = some (.int .i64 5) := (blk_cell m1 0).trans rfl
      simp [Leaves, settle, results, Try.results52, go_sem, v0, m2]

    have hb := hpr j (by omega)
    have p9 : 0 ≤ (j : Int) := by omega
    have q9 : (j : Int) < (s.size : Int) := by omega
    have hx9 := bt_at s (j : Int)
    have q9' := q9
    replace p9 := eq_true p9
    replace q9 := eq_true q9
    have hjs : j < s.size := by omega
    have hbt : bt s (j : Int) = ((s[j]'hjs).toNat : Int) := by simp [bt, hjs]
    rw [hbt] at hb
    clear hx9
    go_wp2_with fail
    (with_reducible refine (header_printable.calls _ _ _ (prb_calls _)).mono ?_)
    rintro e' w' ⟨rfl, ⟨nd, rfl⟩⟩
    rw [hb]
    go_wp2_with fail
    refine (need_ok 1 _).mono ?_
    rintro e' w' ⟨rfl, rfl⟩
    go_wp2_with fail
    exact ⟨⟨j + 1, by simp, Aside0.mk ⟨by omega, blk_drewN z1 nd, pw_below_drewN z2 nd⟩⟩, by simp [intOf]; omega⟩
end Go.Proofs.Ytmjjojbedllmgaa.Hand
end
section
namespace Go.Proofs.Ytmjjojbedllmgaa.Hand
open Go.RowKit
open Go.Proofs.Ytmjjojbedllmgaa.G
open Go.Proofs.YtmjjojbedllmgaaW.PrintWords Go.Proofs.YtmjjojbedllmgaaW.PrintLast Go.Proofs.YtmjjojbedllmgaaW.PrintMore
set_option linter.unusedVariables false
set_option linter.unusedSimpArgs false
theorem most_le (rom : Int) (h0 : 0 ≤ rom) (h8 : rom ≤ 8) : wrap64 (shl .i64 32768 rom - 336) ≤ 8388272 := by
  have h : rom = 0 ∨ rom = 1 ∨ rom = 2 ∨ rom = 3 ∨ rom = 4 ∨ rom = 5 ∨ rom = 6 ∨ rom = 7 ∨ rom = 8 := by omega
  rcases h with rfl | rfl | rfl | rfl | rfl | rfl | rfl | rfl | rfl <;> decide +kernel
set_option maxRecDepth 100000 in
set_option maxHeartbeats 4000000 in
theorem hmake_ok (s : ByteArray) (kd rom ram : Int) (A : Option Addr) (c : Nat) (l : List Int) (w : World) (hr : Kd.C (Kd.int .u8) w A l.length l) (hc : l.length ≤ c) (hs : (s.size : Int) ≤ 16) (hpr : ∀ i : Nat, i < s.size → prb (bt s (i : Int)) = true) (hk : 0 ≤ kd ∧ kd ≤ 255) (hok : (wareT kd).2.2.2.2 = true) (h80 : 0 ≤ rom) (h8 : decide (rom ≤ 8) = true) (h5 : decide (ram ≤ 5) = true) (hm : decide ((l.length : Int) ≤ wrap64 (shl .i64 32768 rom - 336)) = true) (kW : Nat) (wv : Int) (hW : header_Whole.f kW (splice (((((splice (splice (List.replicate (336 + l.length) 0) 256 (bytesOf ⟨#[0, 195, 80, 1]⟩)) 308 (bytesOf s)).set 327 kd).set 328 rom).set 329 ram).set 333 (sumTo (((((splice (splice (List.replicate (336 + l.length) 0) 256 (bytesOf ⟨#[0, 195, 80, 1]⟩)) 308 (bytesOf s)).set 327 kd).set 328 rom).set 329 ram).take 336) 25)) 336 l) = some wv) :
    Calls Try.prog 52 #[.string s, .int .u8 kd, .int .u8 rom, .int .u8 ram, .slice A l.length c] w fun e' w' => ∃ v0_ : Value, e' = .returned (.tuple #[v0_, .int .i64 0]) ∧ Kd.R (Kd.int .u8) 5 w' w.heap.size (fun _ => True) v0_ (((splice (((((splice (splice (List.replicate (336 + l.length) 0) 256 (bytesOf ⟨#[0, 195, 80, 1]⟩)) 308 (bytesOf s)).set 327 kd).set 328 rom).set 329 ram).set 333 (sumTo (((((splice (splice (List.replicate (336 + l.length) 0) 256 (bytesOf ⟨#[0, 195, 80, 1]⟩)) 308 (bytesOf s)).set 327 kd).set 328 rom).set 329 ram).take 336) 25)) 336 l).set 334 (wv / 256 % 256)).set 335 (wv % 256)) ∧ Below w.heap.size w w' := by
  have hmf : ∀ (fn : Fn) (first cap : Array Value) (w : World), (Instr.makeFunc fn first cap).run Try.prog w = .ok (.func fn first cap) w := fun _ _ _ _ => rfl
  have HR := Aside0.mk hr
  clear hr
  go_enter_defers Try.func52, Try.ntmps52
  go_wp2_with fail
  have z1 := heap_alloc_new w (.cells #[.int .i64 0] 26)
  have z2 := below_alloc (Below.refl w.heap.size w) (.cells #[.int .i64 0] 26)
  generalize w.alloc (.cells #[.int .i64 0] 26) = W0 at z1 z2 ⊢
  refine (need_ok 1 _).mono ?_
  rintro e' w' ⟨rfl, hw⟩
  replace hw := hw.symm
  subst hw
  go_wp2_with fail
  go_loopw [24] (fun i w' => ∃ (j : Nat), i = .int .i64 j ∧ Aside0 (j ≤ s.size ∧ w'.heap[w.heap.size]? = some (.cells #[.int .i64 0] 26 (0, 0)) ∧ Below w.heap.size w w')) (fun i _ => 20 - (intOf i).toNat)
  case atStart => exact ⟨0, rfl, Aside0.mk ⟨by omega, z1, z2⟩⟩
  case round =>
    obtain ⟨j, rfl, HA⟩ := hrel
    obtain ⟨hj, z1, z2⟩ := HA.out
    clear HA
    by_cases hjJ : j = s.size
    · have hpr' := hpr
      clear hpr
      have h16 : (j : Int) ≤ 16 := by omega
      have hge : ¬ (j : Int) < (s.size : Int) := by omega
      go_wp2_with fail
      refine (header_ware.calls kd hk _).mono ?_
      rintro e' w1 ⟨rfl, hb⟩
      have B1 := blk_below z1 hb
      have B2 := Below.trans z2 (hb.mono z2.size)
      rw [hok]
      go_wp2_with fail
      refine (need_ok 4 _).mono ?_
      rintro e' w' ⟨rfl, rfl⟩
      have D1 := blk_alloc B1 (.cells #[.string ⟨#[]⟩, .int .u8 kd, .int .i64 (wareT kd).1, .bool (wareT kd).2.1, .bool (wareT kd).2.2.1, .bool (wareT kd).2.2.2.1, .int .i64 0, .int .i64 0, .int .u8 0, .int .u16 0] 30)
      have D2 := below_alloc B2 (.cells #[.string ⟨#[]⟩, .int .u8 kd, .int .i64 (wareT kd).1, .bool (wareT kd).2.1, .bool (wareT kd).2.2.1, .bool (wareT kd).2.2.2.1, .int .i64 0, .int .i64 0, .int .u8 0, .int .u16 0] 30)
      generalize w1.alloc (.cells #[.string ⟨#[]⟩, .int .u8 kd, .int .i64 (wareT kd).1, .bool (wareT kd).2.1, .bool (wareT kd).2.2.1, .bool (wareT kd).2.2.2.1, .int .i64 0, .int .i64 0, .int .u8 0, .int .u16 0] 30) = W1 at D1 D2 ⊢
      clear z1 z2 B1 B2 hb
      go_wp2_with fail
      (with_reducible refine (header_most.calls rom _ _ (by unfold header_most.f; rw [if_pos h80])).mono ?_)
      rintro e' w' ⟨rfl, ⟨nd, rfl⟩⟩
      go_wp2_with fail
      refine (need_ok 5 _).mono ?_
      rintro e' w' ⟨rfl, rfl⟩
      have E1 := blk_drewN D1 nd
      have E2 := pw_below_drewN D2 nd
      generalize W1.drewN nd = W2 at E1 E2 ⊢
      clear D1 D2
      have hn : (l.length : Int) ≤ 8388272 := Int.le_trans (of_decide_eq_true hm) (most_le rom h80 (of_decide_eq_true h8))
      have hw1 : wrap64 (336 + (l.length : Int)) = 336 + (l.length : Int) := by unfold wrap64; omega
      have hgt : w.heap.size < W2.heap.size := blk_lt E1
      obtain ⟨w3, hmk, R3, K3, B3⟩ := makeRow W2 l.length hn
      have E1 := K3 _ _ _ E1
      have E2 := B3 w E2
      generalize W2.heap.size = g at hgt hmk R3
      have hne : ¬ w.heap.size = g := by omega
      have hz1 : (List.replicate (336 + l.length) (0 : Int)).length = 336 + l.length := by simp
      obtain ⟨w4, hc4, R4, K4, B4⟩ := R3.copyStr 256 80 ⟨#[0, 195, 80, 1]⟩ (by decide) (by rw [hz1]; show 256 + 4 ≤ _; omega)
      have hz2 : (splice (List.replicate (336 + l.length) 0) 256 (bytesOf ⟨#[0, 195, 80, 1]⟩)).length = 336 + l.length := by rw [length_splice _ _ _ (by rw [hz1, bytesOf_length]; show 256 + 4 ≤ _; omega), hz1]
      obtain ⟨w5, hc5, R5, K5, B5⟩ := R4.copyStr 308 28 s (by omega) (by rw [hz2]; omega)
      have hz3 : (splice (splice (List.replicate (336 + l.length) 0) 256 (bytesOf ⟨#[0, 195, 80, 1]⟩)) 308 (bytesOf s)).length = 336 + l.length := by rw [length_splice _ _ _ (by rw [hz2, bytesOf_length]; omega), hz2]
      have E1 := (K5 _ hne).trans ((K4 _ hne).trans E1)
      have E2 := B5 _ _ (by omega) (B4 _ _ (by omega) E2)
      have x327 := R5.cell 327 (by rw [hz3]; omega)
      have x328 := R5.cell 328 (by rw [hz3]; omega)
      have x329 := R5.cell 329 (by rw [hz3]; omega)
      have fz := fun i => R5.frozen i
      go_wp2_with fail
      have R6 := ((R5.put 327 kd).put 328 rom).put 329 ram
      have E1 : (((w5.setCell ⟨g, 327, none⟩ (.int .u8 kd)).setCell ⟨g, 328, none⟩ (.int .u8 rom)).setCell ⟨g, 329, none⟩ (.int .u8 ram)).heap[w.heap.size]? = some (.cells #[.int .i64 0] 26 (0, 0)) := blk_far (blk_far (blk_far E1 hne _) hne _) hne _
      have E2 : Below w.heap.size w (((w5.setCell ⟨g, 327, none⟩ (.int .u8 kd)).setCell ⟨g, 328, none⟩ (.int .u8 rom)).setCell ⟨g, 329, none⟩ (.int .u8 ram)) := below_set (below_set (below_set E2 (by omega)) (by omega)) (by omega)
      clear x327 x328 x329 fz hc4 hc5 hmk R3 R4 R5 K3 K4 K5 B3 B4 B5
      generalize (((w5.setCell ⟨g, 327, none⟩ (.int .u8 kd)).setCell ⟨g, 328, none⟩ (.int .u8 rom)).setCell ⟨g, 329, none⟩ (.int .u8 ram)) = w6 at R6 E1 E2 ⊢
      have hz4 : ((((splice (splice (List.replicate (336 + l.length) 0) 256 (bytesOf ⟨#[0, 195, 80, 1]⟩)) 308 (bytesOf s)).set 327 kd).set 328 rom).set 329 ram).length = 336 + l.length := by rw [List.length_set, List.length_set, List.length_set, hz3]
      have hl3 : (((((splice (splice (List.replicate (336 + l.length) 0) 256 (bytesOf ⟨#[0, 195, 80, 1]⟩)) 308 (bytesOf s)).set 327 kd).set 328 rom).set 329 ram).take 336).length = 336 := by rw [List.length_take, hz4]; omega
      have q := header_sum.calls (some ⟨g, 0, none⟩) (336 + l.length) (((((splice (splice (List.replicate (336 + l.length) 0) 256 (bytesOf ⟨#[0, 195, 80, 1]⟩)) 308 (bytesOf s)).set 327 kd).set 328 rom).set 329 ram).take 336) (sumTo (((((splice (splice (List.replicate (336 + l.length) 0) 256 (bytesOf ⟨#[0, 195, 80, 1]⟩)) 308 (bytesOf s)).set 327 kd).set 328 rom).set 329 ram).take 336) 25) w6 (by rw [hl3]; exact R6.reads 336 (by omega) (by omega)) (by rw [hl3]; omega) (by unfold header_sum.f; rw [if_pos (by rw [hl3]; omega)])
      rw [hl3] at q
      refine q.mono ?_
      clear q
      rintro e' w' ⟨rfl, hw⟩
      replace hw := hw.symm
      subst hw
      have x333 := R6.cell 333 (by rw [hz4]; omega)
      have fz := fun i => R6.frozen i
      have R7 := R6.put 333 (sumTo (((((splice (splice (List.replicate (336 + l.length) 0) 256 (bytesOf ⟨#[0, 195, 80, 1]⟩)) 308 (bytesOf s)).set 327 kd).set 328 rom).set 329 ram).take 336) 25)
      have E1 := blk_far (p := ⟨g, 333, none⟩) E1 hne (.int .u8 (sumTo (((((splice (splice (List.replicate (336 + l.length) 0) 256 (bytesOf ⟨#[0, 195, 80, 1]⟩)) 308 (bytesOf s)).set 327 kd).set 328 rom).set 329 ram).take 336) 25))
      have E2 := below_set (j := 333) (v := .int .u8 (sumTo (((((splice (splice (List.replicate (336 + l.length) 0) 256 (bytesOf ⟨#[0, 195, 80, 1]⟩)) 308 (bytesOf s)).set 327 kd).set 328 rom).set 329 ram).take 336) 25)) E2 (show w.heap.size ≤ g by omega)
      have hz7 : (((((splice (splice (List.replicate (336 + l.length) 0) 256 (bytesOf ⟨#[0, 195, 80, 1]⟩)) 308 (bytesOf s)).set 327 kd).set 328 rom).set 329 ram).set 333 (sumTo (((((splice (splice (List.replicate (336 + l.length) 0) 256 (bytesOf ⟨#[0, 195, 80, 1]⟩)) 308 (bytesOf s)).set 327 kd).set 328 rom).set 329 ram).take 336) 25)).length = 336 + l.length := by rw [List.length_set, hz4]
      obtain ⟨w8, ha, R8, K8, B8⟩ := R7.append 336 (336 + l.length) A c l (Kd.C_below HR.out E2) (Nat.le_refl _) (by rw [hz7]; omega)
      have E1 := (K8 _ hne).trans E1
      have E2 := B8 _ _ (by omega) E2
      have hz8 : (splice (((((splice (splice (List.replicate (336 + l.length) 0) 256 (bytesOf ⟨#[0, 195, 80, 1]⟩)) 308 (bytesOf s)).set 327 kd).set 328 rom).set 329 ram).set 333 (sumTo (((((splice (splice (List.replicate (336 + l.length) 0) 256 (bytesOf ⟨#[0, 195, 80, 1]⟩)) 308 (bytesOf s)).set 327 kd).set 328 rom).set 329 ram).take 336) 25)) 336 l).length = 336 + l.length := by rw [length_splice _ _ _ (by rw [hz7]; omega), hz7]
      go_wp2_with (at_builtin; refine wpList_append_run rfl _ _ 22 rfl _ _ _ rfl rfl ha ?_)
      have q := header_Whole.calls kW (some ⟨g, 0, none⟩) (336 + l.length) (splice (((((splice (splice (List.replicate (336 + l.length) 0) 256 (bytesOf ⟨#[0, 195, 80, 1]⟩)) 308 (bytesOf s)).set 327 kd).set 328 rom).set 329 ram).set 333 (sumTo (((((splice (splice (List.replicate (336 + l.length) 0) 256 (bytesOf ⟨#[0, 195, 80, 1]⟩)) 308 (bytesOf s)).set 327 kd).set 328 rom).set 329 ram).take 336) 25)) 336 l) wv w8 (by rw [hz8]; have z := R8.reads (336 + l.length) (by omega) (by omega); rwa [List.take_of_length_le (by omega)] at z) (by rw [hz8]; omega) hW
      rw [hz8] at q
      refine q.mono ?_
      clear q
      rintro e' w' ⟨rfl, ⟨nW, rfl⟩⟩
      have R9 : RowL (w8.drewN nW) g (splice (((((splice (splice (List.replicate (336 + l.length) 0) 256 (bytesOf ⟨#[0, 195, 80, 1]⟩)) 308 (bytesOf s)).set 327 kd).set 328 rom).set 329 ram).set 333 (sumTo (((((splice (splice (List.replicate (336 + l.length) 0) 256 (bytesOf ⟨#[0, 195, 80, 1]⟩)) 308 (bytesOf s)).set 327 kd).set 328 rom).set 329 ram).take 336) 25)) 336 l) := blk_drewN R8 nW
      have E1 := blk_drewN E1 nW
      have E2 := pw_below_drewN E2 nW
      clear ha R6 R7 R8 K8 B8 x333 fz
      generalize w8.drewN nW = w9 at R9 E1 E2 ⊢
      have x334 := R9.cell 334 (by rw [hz8]; omega)
      have x335 := R9.cell 335 (by rw [hz8]; omega)
      have fz := fun i => R9.frozen i
      have e0 : w9.cell? ⟨w.heap.size, 0, none⟩ = some (.int .i64 0) := (blk_cell E1 0).trans rfl
      have fe := fun i => blk_frozen E1 i
      have hne2 : ¬ g = w.heap.size := by omega
      have hwa : (334 : Int) < 336 + (l.length : Int) := by omega
      have hwb : (335 : Int) < 336 + (l.length : Int) := by omega
      go_wp2_with fail
      have R10 := ((R9.put 334 (wv / 256 % 256)).put 335 (wv % 256)).far hne2 0 (.int .i64 0)
      have m1 : (((w9.setCell ⟨g, 334, none⟩ (.int .u8 (wv / 256 % 256))).setCell ⟨g, 335, none⟩ (.int .u8 (wv % 256))).setCell ⟨w.heap.size, 0, none⟩ (.int .i64 0)).heap[w.heap.size]? = some (.cells #[.int .i64 0] 26 (0, 0)) := blk_put (blk_far (blk_far E1 hne _) hne _) 0 _ rfl
      have m2 : Below w.heap.size w (((w9.setCell ⟨g, 334, none⟩ (.int .u8 (wv / 256 % 256))).setCell ⟨g, 335, none⟩ (.int .u8 (wv % 256))).setCell ⟨w.heap.size, 0, none⟩ (.int .i64 0)) := below_set (below_set (below_set E2 (by omega)) (by omega)) (Nat.le_refl _)
      clear x334 x335 fz e0 fe hwa hwb E1 E2 R9
      generalize (((w9.setCell ⟨g, 334, none⟩ (.int .u8 (wv / 256 % 256))).setCell ⟨g, 335, none⟩ (.int .u8 (wv % 256))).setCell ⟨w.heap.size, 0, none⟩ (.int .i64 0)) = Y at R10 m1 m2 ⊢
      have v0 : Y.cell? ⟨w.heap.size, 0, none⟩ = some (.int .i64 0) := (blk_cell m1 0).trans rfl
      have hz10 : (((splice (((((splice (splice (List.replicate (336 + l.length) 0) 256 (bytesOf ⟨#[0, 195, 80, 1]⟩)) 308 (bytesOf s)).set 327 kd).set 328 rom).set 329 ram).set 333 (sumTo (((((splice (splice (List.replicate (336 + l.length) 0) 256 (bytesOf ⟨#[0, 195, 80, 1]⟩)) 308 (bytesOf s)).set 327 kd).set 328 rom).set 329 ram).take 336) 25)) 336 l).set 334 (wv / 256 % 256)).set 335 (wv % 256)).length = 336 + l.length := by rw [List.length_set, List.length_set, hz8]
      have hv := R10.row (base := w.heap.size) (by omega) (by rw [hz10]; simp only [maxLen]; omega)
      rw [hz10] at hv
      refine leaves_cons (f := 77) (args := #[.pointer (some ⟨w.heap.size, 0, none⟩)]) (by simp) (by simp [go_sem]) ?_
      refine (make_idle ⟨w.heap.size, 0, none⟩ _).mono ?_
      rintro e u' w'' ⟨rfl, rfl, rfl⟩
      simp [Leaves, settle, results, Try.results52, go_sem, v0]
      exact ⟨hv, m2⟩

    have hb := hpr j (by omega)
    have p9 : 0 ≤ (j : Int) := by omega
    have q9 : (j : Int) < (s.size : Int) := by omega
    have hx9 := bt_at s (j : Int)
    have q9' := q9
    replace p9 := eq_true p9
    replace q9 := eq_true q9
    have hjs : j < s.size := by omega
    have hbt : bt s (j : Int) = ((s[j]'hjs).toNat : Int) := by simp [bt, hjs]
    rw [hbt] at hb
    clear hx9
    go_wp2_with fail
    (with_reducible refine (header_printable.calls _ _ _ (prb_calls _)).mono ?_)
    rintro e' w' ⟨rfl, ⟨nd, rfl⟩⟩
    rw [hb]
    go_wp2_with fail
    refine (need_ok 1 _).mono ?_
    rintro e' w' ⟨rfl, rfl⟩
    go_wp2_with fail
    exact ⟨⟨j + 1, by simp, Aside0.mk ⟨by omega, blk_drewN z1 nd, pw_below_drewN z2 nd⟩⟩, by simp [intOf]; omega⟩
end Go.Proofs.Ytmjjojbedllmgaa.Hand
end
section
namespace Go.Proofs.Ytmjjojbedllmgaa.Hand
open Go.RowKit
open Go.Proofs.Ytmjjojbedllmgaa.G
open Go.Proofs.YtmjjojbedllmgaaW.PrintWords Go.Proofs.YtmjjojbedllmgaaW.PrintLast Go.Proofs.YtmjjojbedllmgaaW.PrintMore
set_option linter.unusedVariables false
set_option linter.unusedSimpArgs false
def titleOk (s : ByteArray) : Bool := (List.range s.size).all fun i => prb (bt s (i : Int))
theorem first_no (p : Nat → Bool) : ∀ n, (∃ i, i < n ∧ p i = false) → ∃ j, j < n ∧ (∀ i, i < j → p i = true) ∧ p j = false
  | 0, h => by obtain ⟨i, hi, _⟩ := h; omega
  | n + 1, h => by
    by_cases q : ∃ i, i < n ∧ p i = false
    · obtain ⟨j, hj, h1, h2⟩ := first_no p n q
      exact ⟨j, by omega, h1, h2⟩
    · obtain ⟨i, hi, hp⟩ := h
      have hin : i = n := by
        rcases Nat.lt_or_ge i n with z | z
        · exact absurd ⟨i, z, hp⟩ q
        · omega
      subst hin
      refine ⟨i, by omega, fun k hk => ?_, hp⟩
      cases e : p k with
      | true => rfl
      | false => exact absurd ⟨k, hk, e⟩ q
theorem titleOk_iff (s : ByteArray) : titleOk s = true ↔ ∀ i : Nat, i < s.size → prb (bt s (i : Int)) = true := by
  unfold titleOk
  rw [List.all_eq_true]
  constructor
  · intro h i hi; exact h i (List.mem_range.mpr hi)
  · intro h i hi; exact h i (List.mem_range.mp hi)
def makeL (s : ByteArray) (kd rom ram : Int) (l : List Int) : List Int := (splice (((((splice (splice (List.replicate (336 + l.length) 0) 256 (bytesOf ⟨#[0, 195, 80, 1]⟩)) 308 (bytesOf s)).set 327 kd).set 328 rom).set 329 ram).set 333 (sumTo (((((splice (splice (List.replicate (336 + l.length) 0) 256 (bytesOf ⟨#[0, 195, 80, 1]⟩)) 308 (bytesOf s)).set 327 kd).set 328 rom).set 329 ram).take 336) 25)) 336 l)
def header_Make.f (s : ByteArray) (kd rom ram : Int) (l : List Int) : Option (List Int × Int) :=
  if (s.size : Int) ≤ 16 then
    if titleOk s = true then
      if 0 ≤ kd ∧ kd ≤ 255 ∧ 0 ≤ rom then
        if (wareT kd).2.2.2.2 = true then
          if rom ≤ 8 ∧ ram ≤ 5 ∧ (l.length : Int) ≤ wrap64 (shl .i64 32768 rom - 336) then
            (header_Whole.f (337 + l.length) (makeL s kd rom ram l)).bind fun wv => some (((makeL s kd rom ram l).set 334 (wv / 256 % 256)).set 335 (wv % 256), 0)
          else some ([], 5)
        else some ([], 4)
      else none
    else some ([], 1)
  else some ([], 1)
theorem of_refused {f : FuncId} {args : Array Value} {w : World} {n : Int} (h : Calls Try.prog f args w fun e' w' => e' = .returned (.tuple #[.slice none 0 0, .int .i64 n]) ∧ Below w.heap.size w w') :
    Calls Try.prog f args w fun e w' => ∃ v0_ : Value, e = .returned (.tuple #[v0_, .int .i64 n]) ∧ Kd.R (Kd.int .u8) 5 w' w.heap.size (fun _ => True) v0_ [] ∧ Below w.heap.size w w' :=
  h.mono fun _ _ ⟨e, b⟩ => ⟨_, e, Kd.R_nil _ _ _ _ _, b⟩
theorem header_Make.calls (a0 : ByteArray) (a1 a2 a3 : Int) (A4 : Option Addr) (c4 : Nat) (l4 : List Int) (r1 : List Int) (r2 : Int) (w : World) (hr4 : Kd.C (Kd.int .u8) w A4 l4.length l4) (hc4 : l4.length ≤ c4) (h : header_Make.f a0 a1 a2 a3 l4 = some (r1, r2)) :
    Calls Try.prog 52 #[.string a0, .int .u8 a1, .int .u8 a2, .int .u8 a3, .slice A4 l4.length c4] w fun e w' => ∃ v0_ : Value, e = .returned (.tuple #[v0_, .int .i64 r2]) ∧ Kd.R (Kd.int .u8) 5 w' w.heap.size (fun _ => True) v0_ r1 ∧ Below w.heap.size w w' := by
  unfold header_Make.f at h
  by_cases hs : (a0.size : Int) ≤ 16
  case neg =>
    rw [if_neg hs] at h
    cases h
    exact of_refused (hmake_long a0 a1 a2 a3 A4 c4 l4 w hr4 hc4 hs)
  rw [if_pos hs] at h
  by_cases ht : titleOk a0 = true
  case neg =>
    rw [if_neg ht] at h
    cases h
    have hex : ∃ i, i < a0.size ∧ (fun i : Nat => prb (bt a0 (i : Int))) i = false := by
      refine Classical.byContradiction fun q => ht ((titleOk_iff a0).mpr fun i hi => ?_)
      cases e : prb (bt a0 (i : Int)) with
      | true => rfl
      | false => exact absurd ⟨i, hi, e⟩ q
    obtain ⟨j, hj, h1, h2⟩ := first_no _ _ hex
    exact of_refused (hmake_sign a0 a1 a2 a3 A4 c4 l4 w hr4 hc4 hs j (by omega) h1 h2)
  rw [if_pos ht] at h
  have hpr := (titleOk_iff a0).mp ht
  by_cases hk : 0 ≤ a1 ∧ a1 ≤ 255 ∧ 0 ≤ a2
  case neg => rw [if_neg hk] at h; cases h
  rw [if_pos hk] at h
  obtain ⟨k1, k2, k3⟩ := hk
  by_cases hok : (wareT a1).2.2.2.2 = true
  case neg =>
    rw [if_neg hok] at h
    cases h
    exact of_refused (hmake_kind a0 a1 a2 a3 A4 c4 l4 w hr4 hc4 hs hpr ⟨k1, k2⟩ (Bool.eq_false_iff.mpr hok))
  rw [if_pos hok] at h
  by_cases h8 : a2 ≤ 8
  case neg =>
    rw [if_neg (fun z => h8 z.1)] at h
    cases h
    exact of_refused (hmake_size_a a0 a1 a2 a3 A4 c4 l4 w hr4 hc4 hs hpr ⟨k1, k2⟩ hok (decide_eq_false h8))
  by_cases h5 : a3 ≤ 5
  case neg =>
    rw [if_neg (fun z => h5 z.2.1)] at h
    cases h
    exact of_refused (hmake_size_b a0 a1 a2 a3 A4 c4 l4 w hr4 hc4 hs hpr ⟨k1, k2⟩ hok (decide_eq_true h8) (decide_eq_false h5))
  by_cases hm : (l4.length : Int) ≤ wrap64 (shl .i64 32768 a2 - 336)
  case neg =>
    rw [if_neg (fun z => hm z.2.2)] at h
    cases h
    exact of_refused (hmake_size_c a0 a1 a2 a3 A4 c4 l4 w hr4 hc4 hs hpr ⟨k1, k2⟩ hok k3 (decide_eq_true h8) (decide_eq_true h5) (decide_eq_false hm))
  rw [if_pos ⟨h8, h5, hm⟩] at h
  obtain ⟨wv, hW, h⟩ := Option.bind_eq_some_iff.mp h
  cases h
  exact hmake_ok a0 a1 a2 a3 A4 c4 l4 w hr4 hc4 hs hpr ⟨k1, k2⟩ hok k3 (decide_eq_true h8) (decide_eq_true h5) (decide_eq_true hm) _ wv hW
end Go.Proofs.Ytmjjojbedllmgaa.Hand
end
section
namespace Go.Proofs.Ytmjjojbedllmgaa.G
open Go.RowKit Go.Proofs.YtmjjojbedllmgaaW.PrintWords Go.Proofs.YtmjjojbedllmgaaW.PrintLast Go.Proofs.YtmjjojbedllmgaaW.PrintMore
set_option linter.unusedVariables false
set_option linter.unusedSimpArgs false
open Go.Proofs.Ytmjjojbedllmgaa.Hand
def whirligiglaw10_made.f (a0 : Int) (a1 : Int) : Option (List Int) := (header_Make.f (⟨#[83, 72, 79, 87, 78]⟩ : ByteArray) a0 0 a1 (([1, 2, 3] : List Int))).bind fun bt124 => (some bt124.1)
set_option maxHeartbeats 8000000 in
set_option maxRecDepth 100000 in
theorem whirligiglaw10_made.calls (a0 : Int) (a1 : Int) (r : List Int) (w : World) (h : whirligiglaw10_made.f a0 a1 = some r) :
    Calls Try.prog 27 #[.int .u8 a0, .int .u8 a1] w fun e w' => ∃ v0_ : Value, e = .returned (v0_) ∧ Kd.R (Kd.int .u8) 5 w' w.heap.size (fun _ => True) v0_ r ∧ Below w.heap.size w w' := by
  have HB := Aside0.mk (Below.refl w.heap.size w)
  have H : ((header_Make.f (⟨#[83, 72, 79, 87, 78]⟩ : ByteArray) a0 0 a1 (([1, 2, 3] : List Int))).bind fun bt124 => (some bt124.1)) = some r := h
  clear h
  obtain ⟨y121, hy121⟩ : ∃ y_ : List Int, y_ = (([1, 2, 3] : List Int)) := ⟨_, rfl⟩
  replace H : ((header_Make.f (⟨#[83, 72, 79, 87, 78]⟩ : ByteArray) a0 0 a1 y121).bind fun bt124 => (some bt124.1)) = some r := by first | (rw [hy121]; with_reducible exact H) | (have H2_ := (Option.bind_some _ _).symm.trans H; rw [hy121]; with_reducible exact H2_) | (have H2_ := (Option.bind_some _ _).symm.trans H; with_reducible exact H2_) | with_reducible exact H | (rw [hy121]; exact H) | exact H
  have Ny121 := Aside0.mk hy121
  clear hy121
  replace H := Option.bind_eq_some_iff.mp H
  obtain ⟨⟨t124, t125⟩, A30, H⟩ := H
  replace H : (some t124) = some r := H
  have A3 := Aside0.mk A30
  clear A30
  obtain rfl := Option.some.inj H
  go_enter Try.func27, Try.ntmps27
  go_wp2_with (first | ((with_reducible refine gate_dst (N := 10) rfl ?_); refine Kd.R_lit (Kd.int .u8) _ 5 ?hg (N := 10) ?hd (xs := ([1, 2, 3] : List Int)) (inner := [.int .u8 1, .int .u8 2, .int .u8 3]) (ok := fun _ => True) (okp := fun _ => True) ?hr ?hp (fun _ hk => hk) trivial (Below.refl _ _) (Nat.le_refl _) (by simp) ?_; (case hd => rfl); (case hg => rfl); (case hr => first | (go_simp; done) | (go_simp; rfl)); (case hp => exact (Reps.one (show Kd.M (Kd.int .u8) _ _ _ 1 [.int .u8 1] from rfl) (Reps.one (show Kd.M (Kd.int .u8) _ _ _ 2 [.int .u8 2] from rfl) (Reps.one (show Kd.M (Kd.int .u8) _ _ _ 3 [.int .u8 3] from rfl) (Reps.none _ _))))); intro v122 w4 ho5 hb hg_ hnew_; clear hg_ hnew_; (first | rw [← Ny121.out] at ho5 | (simp only [Int.reduceToNat] at ho5; rw [← Ny121.out] at ho5)); have n0_ := Aside0.mk (Kd.R_lower ho5 (below_size (by repeat (first | (with_reducible first | exact HB.out | apply below_alloc | apply pw_below_drewN | apply below_drew1) | exact HB.out)))); have n1_ := Aside0.mk (below_step (by repeat (first | (with_reducible first | exact HB.out | apply below_alloc | apply pw_below_drewN | apply below_drew1) | exact HB.out)) hb); clear HB; have HO123 := n0_; have HB := n1_; clear n0_ n1_; clear hb ho5; obtain ⟨Ao6, co6, eo6⟩ := Kd.R_slice HO123.out; subst eo6) | ((with_reducible refine gate_callee (f := 52) rfl ?_); refine goesL_ (some 11) rfl rfl Try.func52 (by kernel_rfl) rfl #[.string (⟨#[83, 72, 79, 87, 78]⟩ : ByteArray), .int .u8 a0, .int .u8 0, .int .u8 a1, .slice Ao6 y121.length co6] rfl (by (try simp only [List.map_toArray, List.map_cons, List.map_nil]); first | done | rfl | (simp only [List.length_drop, List.length_take]; rfl)) ?_; (with_reducible refine (header_Make.calls (⟨#[83, 72, 79, 87, 78]⟩ : ByteArray) a0 0 a1 _ _ y121 t124 t125 _ ?side1 ?side2 A3.out).mono ?_); (case side1 => repeat (first | exact (Kd.R_reads' HO123.out).2.2 | (with_reducible refine Kd.C_alloc ?_ _) | (with_reducible refine Kd.C_drewN ?_ _) | (with_reducible refine Kd.C_drew ?_))); (case side2 => exact (Kd.R_reads' HO123.out).2.1); rintro e w7 ⟨v126, rfl, ho0, hb⟩; refine ⟨_, rfl, ?_⟩; have n0_ := Aside0.mk (Kd.R_elder' (by (with_reducible repeat (first | apply Kd.R_alloc | apply Kd.R_drewN | apply Kd.R_drew)); exact HO123.out) (Kd.R_base ho0) hb); have n1_ := Aside0.mk (Kd.R_lower (Kd.R_new' ho0 (Kd.R_lt (by (with_reducible repeat (first | apply Kd.R_alloc | apply Kd.R_drewN | apply Kd.R_drew)); exact HO123.out))) (below_size (by repeat (first | (with_reducible first | exact HB.out | apply below_alloc | apply pw_below_drewN | apply below_drew1) | exact HB.out)))); have n2_ := Aside0.mk (below_step (by repeat (first | (with_reducible first | exact HB.out | apply below_alloc | apply pw_below_drewN | apply below_drew1) | exact HB.out)) hb); clear HO123; clear HB; have HO123 := n0_; have HO127 := n1_; have HB := n2_; clear n0_ n1_ n2_; (try clear hb); (try clear hb2); (try clear hk); (try clear hi); (try clear ho0)))
  go_ret
  exact ⟨_, by first | rfl | (simp [errW_none, errW_some] <;> rfl) | (simp [*, errW_none, errW_some] <;> rfl), by (with_reducible repeat (first | apply Kd.R_alloc | apply Kd.R_drewN | apply Kd.R_drew)); exact Kd.R_mono HO127.out (fun _ hk => trivial), by repeat (first | (with_reducible first | exact HB.out | apply below_alloc | apply pw_below_drewN | apply below_drew1) | exact HB.out)⟩
end Go.Proofs.Ytmjjojbedllmgaa.G
end
section
namespace Go.Proofs.Ytmjjojbedllmgaa.Hand
open Go.RowKit
open Go.Proofs.Ytmjjojbedllmgaa.G
open Go.Proofs.YtmjjojbedllmgaaW.PrintWords Go.Proofs.YtmjjojbedllmgaaW.PrintLast Go.Proofs.YtmjjojbedllmgaaW.PrintMore
set_option linter.unusedVariables false
set_option linter.unusedSimpArgs false
set_option maxRecDepth 100000
def madeL (k : Int) : List Int := (whirligiglaw10_made.f k 2).getD []
theorem made_is2 : whirligiglaw10_made.f 2 2 = some (madeL 2) ∧ headE (madeL 2) = 0 ∧ ((madeL 2).all fun x => decide (0 ≤ x) && decide (x ≤ 255)) = true := by decide +kernel
theorem made_is16 : whirligiglaw10_made.f 16 2 = some (madeL 16) ∧ headE (madeL 16) = 0 ∧ ((madeL 16).all fun x => decide (0 ≤ x) && decide (x ≤ 255)) = true := by decide +kernel
theorem bytes_all {l : List Int} (h : (l.all fun x => decide (0 ≤ x) && decide (x ≤ 255)) = true) : Bytes l := by
  intro x hx
  have q := List.all_eq_true.mp h x hx
  simpa using q
def sc0 : Ct := (newC (madeL 2))
def sc1 : Ct := (sc0.write 40960 5)
def sc2 : Ct := (sc1.write 0 10)
def sc3 : Ct := (sc2.write 40960 5)
def sd0 : Ct := (newC (madeL 16))
def sd1 : Ct := (sd0.write 0 10)
def sd2 : Ct := (sd1.write 16384 8)
def sd3 : Ct := sd2.tick
def sd4 : Ct := (sd3.write 24576 0)
def sd5 : Ct := (sd4.write 24576 1)
theorem sc0_ok : sc0.Ok := newC_ok (bytes_all made_is2.2.2) made_is2.2.1
theorem sc1_ok : sc1.Ok := sc0_ok.write _ _ (by decide)
theorem sc2_ok : sc2.Ok := sc1_ok.write _ _ (by decide)
theorem sc3_ok : sc3.Ok := sc2_ok.write _ _ (by decide)
theorem sd0_ok : sd0.Ok := newC_ok (bytes_all made_is16.2.2) made_is16.2.1
theorem sd1_ok : sd1.Ok := sd0_ok.write _ _ (by decide)
theorem sd2_ok : sd2.Ok := sd1_ok.write _ _ (by decide)
theorem sd3_ok : sd3.Ok := sd2_ok.tick
theorem sd4_ok : sd4.Ok := sd3_ok.write _ _ (by decide)
theorem sd5_ok : sd5.Ok := sd4_ok.write _ _ (by decide)
theorem sc_reads : sc1.read 40960 = 255 ∧ sc3.read 40960 = 5 ∧ sc3.read 336 = 1 := by decide +kernel
theorem sd_reads : sd3.read 40960 = 0 ∧ sd5.read 40960 = 1 := by decide +kernel
set_option maxHeartbeats 4000000 in
theorem shown_at (w : World) : Calls Try.prog 9 #[] w fun e w' => e = .returned (.bool true) ∧ Below w.heap.size w w' := by
  go_enter Try.func9, Try.ntmps9
  go_wp2_with fail
  refine (whirligiglaw10_made.calls 2 2 (madeL 2) _ made_is2.1).mono ?_
  rintro e' w1 ⟨v0, rfl, hR, hb⟩
  obtain ⟨A, c, rfl⟩ := Kd.R_slice hR
  obtain ⟨-, hc, hC⟩ := Kd.R_reads' hR
  have HB := Aside0.mk hb
  have HN := Aside0.mk (new_at A c (madeL 2) w1 hC hc (bytes_all made_is2.2.2) made_is2.2.1)
  clear hb hR hC hc
  go_wp2_with fail
  refine HN.out.mono ?_
  rintro e' w2 ⟨a, rfl, hCa, ha1, ha2, ha3, hb⟩
  have CA := Aside0.mk (show CartAt w2 a sc0 from hCa)
  have HA := Aside0.mk (show w.heap.size ≤ a.b ∧ w.heap.size ≤ a.gr from ⟨Nat.le_trans HB.out.size ha1, Nat.le_trans HB.out.size ha3⟩)
  have HB2 := Aside0.mk (below_step HB.out hb)
  clear hCa ha1 ha2 ha3 hb HB HN
  go_wp2_with fail
  refine (whirligiglaw10_made.calls 16 2 (madeL 16) _ made_is16.1).mono ?_
  rintro e' w3 ⟨v0, rfl, hR, hb⟩
  obtain ⟨A, c, rfl⟩ := Kd.R_slice hR
  obtain ⟨-, hc, hC⟩ := Kd.R_reads' hR
  have CA2 := Aside0.mk (CA.out.below hb)
  have HB := Aside0.mk (below_step HB2.out hb)
  have HN := Aside0.mk (new_at _ c (madeL 16) w3 hC hc (bytes_all made_is16.2.2) made_is16.2.1)
  clear CA HB2 hb hR hC hc
  go_wp2_with fail
  refine HN.out.mono ?_
  rintro e' w4 ⟨d, rfl, hCd, hd1, hd2, hd3, hb⟩
  have CD := Aside0.mk (show CartAt w4 d sd0 from hCd)
  have HD := Aside0.mk (show w.heap.size ≤ d.b ∧ w.heap.size ≤ d.gr from ⟨Nat.le_trans HB.out.size hd1, Nat.le_trans HB.out.size hd3⟩)
  have HAD := Aside0.mk (show (a.b < w3.heap.size ∧ a.gi < w3.heap.size ∧ a.gr < w3.heap.size) ∧ w3.heap.size ≤ d.b ∧ w3.heap.size ≤ d.gi ∧ w3.heap.size ≤ d.gr from ⟨⟨CA2.out.ltb, CA2.out.lti, CA2.out.ltr⟩, hd1, hd2, hd3⟩)
  have CA := Aside0.mk (CA2.out.below hb)
  have HB2 := Aside0.mk (below_step HB.out hb)
  clear hCd hd1 hd2 hd3 hb HB HN CA2
  go_wp2_with fail
  refine (write_at CA.out sc0_ok 40960 5 (by decide)).mono ?_
  rintro e' w5 ⟨rfl, hC, hu⟩
  have X := Aside0.mk (show CartAt w5 a sc1 from hC)
  have Y := Aside0.mk (CD.out.other hu _ HAD.out.1.1 HAD.out.1.2.2 HAD.out.2.1 HAD.out.2.2.1 HAD.out.2.2.2)
  have HB := Aside0.mk (upto_step HB2.out (Nat.le_refl _) hu HA.out.1 HA.out.2)
  clear hC hu HB2 CA CD
  have CA := X
  have CD := Y
  clear X Y
  go_wp2_with fail
  refine (read_at CA.out sc1_ok 40960 (by decide)).mono ?_
  rintro e' w6 ⟨rfl, hb⟩
  rw [sc_reads.1]
  have X := Aside0.mk (CA.out.below hb)
  have Y := Aside0.mk (CD.out.below hb)
  have HB2 := Aside0.mk (below_step HB.out hb)
  clear hb HB CA CD
  have CA := X
  have CD := Y
  clear X Y
  go_wp2_with fail
  refine (write_at CA.out sc1_ok 0 10 (by decide)).mono ?_
  rintro e' w7 ⟨rfl, hC, hu⟩
  have X := Aside0.mk (show CartAt w7 a sc2 from hC)
  have Y := Aside0.mk (CD.out.other hu _ HAD.out.1.1 HAD.out.1.2.2 HAD.out.2.1 HAD.out.2.2.1 HAD.out.2.2.2)
  have HB := Aside0.mk (upto_step HB2.out (Nat.le_refl _) hu HA.out.1 HA.out.2)
  clear hC hu HB2 CA CD
  have CA := X
  have CD := Y
  clear X Y
  go_wp2_with fail
  refine (write_at CA.out sc2_ok 40960 5 (by decide)).mono ?_
  rintro e' w8 ⟨rfl, hC, hu⟩
  have X := Aside0.mk (show CartAt w8 a sc3 from hC)
  have Y := Aside0.mk (CD.out.other hu _ HAD.out.1.1 HAD.out.1.2.2 HAD.out.2.1 HAD.out.2.2.1 HAD.out.2.2.2)
  have HB2 := Aside0.mk (upto_step HB.out (Nat.le_refl _) hu HA.out.1 HA.out.2)
  clear hC hu HB CA CD
  have CA := X
  have CD := Y
  clear X Y
  go_wp2_with fail
  refine (write_at CD.out sd0_ok 0 10 (by decide)).mono ?_
  rintro e' w9 ⟨rfl, hC, hu⟩
  have X := Aside0.mk (show CartAt w9 d sd1 from hC)
  have Y := Aside0.mk (CA.out.first hu _ HAD.out.1.1 HAD.out.1.2.1 HAD.out.1.2.2 HAD.out.2.1 HAD.out.2.2.2)
  have HB := Aside0.mk (upto_step HB2.out (Nat.le_refl _) hu HD.out.1 HD.out.2)
  clear hC hu HB2 CA CD
  have CD := X
  have CA := Y
  clear X Y
  go_wp2_with fail
  refine (write_at CD.out sd1_ok 16384 8 (by decide)).mono ?_
  rintro e' w10 ⟨rfl, hC, hu⟩
  have X := Aside0.mk (show CartAt w10 d sd2 from hC)
  have Y := Aside0.mk (CA.out.first hu _ HAD.out.1.1 HAD.out.1.2.1 HAD.out.1.2.2 HAD.out.2.1 HAD.out.2.2.2)
  have HB2 := Aside0.mk (upto_step HB.out (Nat.le_refl _) hu HD.out.1 HD.out.2)
  clear hC hu HB CA CD
  have CD := X
  have CA := Y
  clear X Y
  go_wp2_with fail
  refine (tick_all CD.out).mono ?_
  rintro e' w11 ⟨rfl, hC, hu⟩
  have X := Aside0.mk (show CartAt w11 d sd3 from hC)
  have Y := Aside0.mk (CA.out.first hu _ HAD.out.1.1 HAD.out.1.2.1 HAD.out.1.2.2 HAD.out.2.1 HAD.out.2.2.2)
  have HB := Aside0.mk (upto_step HB2.out (Nat.le_refl _) hu HD.out.1 HD.out.2)
  clear hC hu HB2 CA CD
  have CD := X
  have CA := Y
  clear X Y
  go_wp2_with fail
  refine (read_at CD.out sd3_ok 40960 (by decide)).mono ?_
  rintro e' w12 ⟨rfl, hb⟩
  rw [sd_reads.1]
  have X := Aside0.mk (CA.out.below hb)
  have Y := Aside0.mk (CD.out.below hb)
  have HB2 := Aside0.mk (below_step HB.out hb)
  clear hb HB CA CD
  have CA := X
  have CD := Y
  clear X Y
  go_wp2_with fail
  refine (write_at CD.out sd3_ok 24576 0 (by decide)).mono ?_
  rintro e' w13 ⟨rfl, hC, hu⟩
  have X := Aside0.mk (show CartAt w13 d sd4 from hC)
  have Y := Aside0.mk (CA.out.first hu _ HAD.out.1.1 HAD.out.1.2.1 HAD.out.1.2.2 HAD.out.2.1 HAD.out.2.2.2)
  have HB := Aside0.mk (upto_step HB2.out (Nat.le_refl _) hu HD.out.1 HD.out.2)
  clear hC hu HB2 CA CD
  have CD := X
  have CA := Y
  clear X Y
  go_wp2_with fail
  refine (write_at CD.out sd4_ok 24576 1 (by decide)).mono ?_
  rintro e' w14 ⟨rfl, hC, hu⟩
  have X := Aside0.mk (show CartAt w14 d sd5 from hC)
  have Y := Aside0.mk (CA.out.first hu _ HAD.out.1.1 HAD.out.1.2.1 HAD.out.1.2.2 HAD.out.2.1 HAD.out.2.2.2)
  have HB2 := Aside0.mk (upto_step HB.out (Nat.le_refl _) hu HD.out.1 HD.out.2)
  clear hC hu HB CA CD
  have CD := X
  have CA := Y
  clear X Y
  go_wp2_with fail
  refine (read_at CA.out sc3_ok 40960 (by decide)).mono ?_
  rintro e' w15 ⟨rfl, hb⟩
  rw [sc_reads.2.1]
  have X := Aside0.mk (CA.out.below hb)
  have Y := Aside0.mk (CD.out.below hb)
  have HB := Aside0.mk (below_step HB2.out hb)
  clear hb HB2 CA CD
  have CA := X
  have CD := Y
  clear X Y
  go_wp2_with fail
  refine (read_at CA.out sc3_ok 336 (by decide)).mono ?_
  rintro e' w16 ⟨rfl, hb⟩
  rw [sc_reads.2.2]
  have X := Aside0.mk (CA.out.below hb)
  have Y := Aside0.mk (CD.out.below hb)
  have HB2 := Aside0.mk (below_step HB.out hb)
  clear hb HB CA CD
  have CA := X
  have CD := Y
  clear X Y
  go_wp2_with fail
  refine (read_at CD.out sd5_ok 40960 (by decide)).mono ?_
  rintro e' w17 ⟨rfl, hb⟩
  rw [sd_reads.2]
  have X := Aside0.mk (CA.out.below hb)
  have Y := Aside0.mk (CD.out.below hb)
  have HB := Aside0.mk (below_step HB2.out hb)
  clear hb HB2 CA CD
  have CA := X
  have CD := Y
  clear X Y
  go_wp2_with fail
  go_returns
  exact ⟨rfl, HB.out⟩
end Go.Proofs.Ytmjjojbedllmgaa.Hand
end
section
namespace Go.Proofs.Ytmjjojbedllmgaa.Hand
open Go.RowKit
open Go.Proofs.Ytmjjojbedllmgaa.G
open Go.Proofs.YtmjjojbedllmgaaW.PrintWords Go.Proofs.YtmjjojbedllmgaaW.PrintLast Go.Proofs.YtmjjojbedllmgaaW.PrintMore
set_option linter.unusedVariables false
set_option linter.unusedSimpArgs false
theorem blk_at2 (w : World) (A B : Obj) : ((w.alloc A).alloc B).heap[w.heap.size + 1]? = some B := by
  have q := blk_new (w.alloc A) B
  simpa using q
theorem blk_at3 (w : World) (A B C : Obj) : (((w.alloc A).alloc B).alloc C).heap[w.heap.size + 2]? = some C := by
  have q := blk_new ((w.alloc A).alloc B) C
  simpa using q
set_option maxRecDepth 100000 in
set_option maxHeartbeats 4000000 in
theorem state_nil (w : World) :
    Calls Try.prog 17 #[.pointer none] w fun e w' => e = .returned (.tuple #[Mp.v ⟨0, false, 0, 0, 0, false⟩, Ck.v ⟨0, 0, 0, 0, false, false⟩, Ck.v ⟨0, 0, 0, 0, false, false⟩]) ∧ Below w.heap.size w w' := by
  go_enter Try.func17, Try.ntmps17
  go_wp2
  go_returns
  exact ⟨rfl, by go_grown⟩
end Go.Proofs.Ytmjjojbedllmgaa.Hand
end
section
namespace Go.Proofs.Ytmjjojbedllmgaa.Hand
open Go.RowKit
open Go.Proofs.Ytmjjojbedllmgaa.G
open Go.Proofs.YtmjjojbedllmgaaW.PrintWords Go.Proofs.YtmjjojbedllmgaaW.PrintLast Go.Proofs.YtmjjojbedllmgaaW.PrintMore
set_option linter.unusedVariables false
set_option linter.unusedSimpArgs false
set_option maxRecDepth 100000
theorem load_nil' (v : Value) (w : World) : Calls Try.prog 24 #[.pointer none, v] w fun e w' => e = .returned (.int .i64 7) ∧ Below w.heap.size w w' :=
  (load_nil v w).mono fun e w' ⟨h1, h2⟩ => ⟨h1, by rw [h2]; exact Below.refl _ _⟩
def whirligiglaw10_CartNobody.f (a0 a1 : Int) (l2 : List Int) : Option Bool := some true
set_option maxHeartbeats 8000000 in
theorem whirligiglaw10_CartNobody.calls (a0 : Int) (a1 : Int) (A2 : Option Addr) (c2 : Nat) (l2 : List Int) (r : Bool) (w : World) (hr2 : Kd.C (Kd.int .u8) w A2 l2.length l2) (hc2 : l2.length ≤ c2) (h : whirligiglaw10_CartNobody.f a0 a1 l2 = some r) :
    Calls Try.prog 8 #[.int .u16 a0, .int .u8 a1, .slice A2 l2.length c2] w fun e w' => e = .returned (.bool r) ∧ Below w.heap.size w w' := by
  cases h
  clear hr2 hc2
  go_enter Try.func8, Try.ntmps8
  go_wp2_with fail
  refine (shown_at _).mono ?_
  rintro e' w1 ⟨rfl, hb⟩
  have HB := Aside0.mk hb
  clear hb
  go_wp2_with fail
  have bz := blk_new w1 (.cells #[.int .i64 0, .bool false, .int .u8 0, .int .u8 0, .int .u8 0, .bool false, .int .u8 0, .int .u8 0, .int .u8 0, .int .u16 0, .bool false, .bool false, .int .u8 0, .int .u8 0, .int .u8 0, .int .u16 0, .bool false, .bool false, .int .u8 0, .string ⟨#[]⟩, .int .u8 0, .int .i64 0, .bool false, .bool false, .bool false, .int .i64 0, .int .i64 0, .int .u8 0, .int .u16 0, .slice none 0 0, .slice none 0 0, .bool false] 64)
  have hB := below_alloc HB.out (.cells #[.int .i64 0, .bool false, .int .u8 0, .int .u8 0, .int .u8 0, .bool false, .int .u8 0, .int .u8 0, .int .u8 0, .int .u16 0, .bool false, .bool false, .int .u8 0, .int .u8 0, .int .u8 0, .int .u16 0, .bool false, .bool false, .int .u8 0, .string ⟨#[]⟩, .int .u8 0, .int .i64 0, .bool false, .bool false, .bool false, .int .i64 0, .int .i64 0, .int .u8 0, .int .u16 0, .slice none 0 0, .slice none 0 0, .bool false] 64)
  generalize w1.alloc (.cells #[.int .i64 0, .bool false, .int .u8 0, .int .u8 0, .int .u8 0, .bool false, .int .u8 0, .int .u8 0, .int .u8 0, .int .u16 0, .bool false, .bool false, .int .u8 0, .int .u8 0, .int .u8 0, .int .u16 0, .bool false, .bool false, .int .u8 0, .string ⟨#[]⟩, .int .u8 0, .int .i64 0, .bool false, .bool false, .bool false, .int .i64 0, .int .i64 0, .int .u8 0, .int .u16 0, .slice none 0 0, .slice none 0 0, .bool false] 64) = u0 at bz hB ⊢
  have BZ := Aside0.mk bz
  have HB0 := Aside0.mk hB
  clear bz hB HB
  refine wp_loop_rounds 3 ?_
  rw [rounds_succ]
  go_wp2_with fail
  refine (write_nil a0 a1 _).mono ?_
  rintro e' u1 ⟨rfl, hb⟩
  have X := Aside0.mk (blk_below BZ.out hb)
  have HB1 := Aside0.mk (below_step HB0.out hb)
  clear BZ HB0
  have BZ := X
  clear X
  go_wp2_with fail
  refine (tick_nil _).mono ?_
  rintro e' u2 ⟨rfl, hb⟩
  have X := Aside0.mk (blk_below BZ.out hb)
  have HB2 := Aside0.mk (below_step HB1.out hb)
  clear BZ HB1
  have BZ := X
  clear X
  go_wp2_with fail
  refine (state_nil _).mono ?_
  rintro e' u3 ⟨rfl, hb⟩
  have X := Aside0.mk (blk_below BZ.out hb)
  have HB3 := Aside0.mk (below_step HB2.out hb)
  clear BZ HB2
  have BZ := X
  clear X
  go_wp2_with fail
  have b12 := blk_alloc (blk_alloc (blk_new u3 (.cells #[.int .i64 0, .bool false, .int .u8 0, .int .u8 0, .int .u8 0, .bool false] 32)) (.cells #[.int .u8 0, .int .u8 0, .int .u8 0, .int .u16 0, .bool false, .bool false] 34)) (.cells #[.int .u8 0, .int .u8 0, .int .u8 0, .int .u16 0, .bool false, .bool false] 34)
  have b13 := blk_alloc (blk_at2 u3 (.cells #[.int .i64 0, .bool false, .int .u8 0, .int .u8 0, .int .u8 0, .bool false] 32) (.cells #[.int .u8 0, .int .u8 0, .int .u8 0, .int .u16 0, .bool false, .bool false] 34)) (.cells #[.int .u8 0, .int .u8 0, .int .u8 0, .int .u16 0, .bool false, .bool false] 34)
  have b14 := blk_at3 u3 (.cells #[.int .i64 0, .bool false, .int .u8 0, .int .u8 0, .int .u8 0, .bool false] 32) (.cells #[.int .u8 0, .int .u8 0, .int .u8 0, .int .u16 0, .bool false, .bool false] 34) (.cells #[.int .u8 0, .int .u8 0, .int .u8 0, .int .u16 0, .bool false, .bool false] 34)
  have bz := blk_alloc (blk_alloc (blk_alloc BZ.out (.cells #[.int .i64 0, .bool false, .int .u8 0, .int .u8 0, .int .u8 0, .bool false] 32)) (.cells #[.int .u8 0, .int .u8 0, .int .u8 0, .int .u16 0, .bool false, .bool false] 34)) (.cells #[.int .u8 0, .int .u8 0, .int .u8 0, .int .u16 0, .bool false, .bool false] 34)
  have hB := below_alloc (below_alloc (below_alloc HB3.out (.cells #[.int .i64 0, .bool false, .int .u8 0, .int .u8 0, .int .u8 0, .bool false] 32)) (.cells #[.int .u8 0, .int .u8 0, .int .u8 0, .int .u16 0, .bool false, .bool false] 34)) (.cells #[.int .u8 0, .int .u8 0, .int .u8 0, .int .u16 0, .bool false, .bool false] 34)
  generalize ((u3.alloc (.cells #[.int .i64 0, .bool false, .int .u8 0, .int .u8 0, .int .u8 0, .bool false] 32)).alloc (.cells #[.int .u8 0, .int .u8 0, .int .u8 0, .int .u16 0, .bool false, .bool false] 34)).alloc (.cells #[.int .u8 0, .int .u8 0, .int .u8 0, .int .u16 0, .bool false, .bool false] 34) = u4 at b12 b13 b14 bz hB ⊢
  clear BZ HB3
  have B12 := Aside0.mk b12
  have B13 := Aside0.mk b13
  have B14 := Aside0.mk b14
  have BZ := Aside0.mk bz
  have HB4 := Aside0.mk hB
  clear b12 b13 b14 bz hB
  refine (read_nil a0 _).mono ?_
  rintro e' u5 ⟨rfl, hb⟩
  have X := Aside0.mk (blk_below BZ.out hb)
  have X12 := Aside0.mk (blk_below B12.out hb)
  have X13 := Aside0.mk (blk_below B13.out hb)
  have X14 := Aside0.mk (blk_below B14.out hb)
  have HB5 := Aside0.mk (below_step HB4.out hb)
  clear BZ HB4 B12 B13 B14 hb
  have BZ := X
  have B12 := X12
  have B13 := X13
  have B14 := X14
  clear X X12 X13 X14
  go_wp2_with fail
  refine (head_nil _).mono ?_
  rintro e' u6 ⟨rfl, hb⟩
  have X := Aside0.mk (blk_below BZ.out hb)
  have X12 := Aside0.mk (blk_below B12.out hb)
  have X13 := Aside0.mk (blk_below B13.out hb)
  have X14 := Aside0.mk (blk_below B14.out hb)
  have HB6 := Aside0.mk (below_step HB5.out hb)
  clear BZ HB5 B12 B13 B14 hb
  have BZ := X
  have B12 := X12
  have B13 := X13
  have B14 := X14
  clear X X12 X13 X14
  have fB12_0 : u6.cell? ⟨u3.heap.size, 0, none⟩ = some (.int .i64 0) := (blk_cell B12.out 0).trans rfl
  have fB12_1 : u6.cell? ⟨u3.heap.size, 1, none⟩ = some (.bool false) := (blk_cell B12.out 1).trans rfl
  have fB12_2 : u6.cell? ⟨u3.heap.size, 2, none⟩ = some (.int .u8 0) := (blk_cell B12.out 2).trans rfl
  have fB12_3 : u6.cell? ⟨u3.heap.size, 3, none⟩ = some (.int .u8 0) := (blk_cell B12.out 3).trans rfl
  have fB12_4 : u6.cell? ⟨u3.heap.size, 4, none⟩ = some (.int .u8 0) := (blk_cell B12.out 4).trans rfl
  have fB12_5 : u6.cell? ⟨u3.heap.size, 5, none⟩ = some (.bool false) := (blk_cell B12.out 5).trans rfl
  have fB13_0 : u6.cell? ⟨u3.heap.size + 1, 0, none⟩ = some (.int .u8 0) := (blk_cell B13.out 0).trans rfl
  have fB13_1 : u6.cell? ⟨u3.heap.size + 1, 1, none⟩ = some (.int .u8 0) := (blk_cell B13.out 1).trans rfl
  have fB13_2 : u6.cell? ⟨u3.heap.size + 1, 2, none⟩ = some (.int .u8 0) := (blk_cell B13.out 2).trans rfl
  have fB13_3 : u6.cell? ⟨u3.heap.size + 1, 3, none⟩ = some (.int .u16 0) := (blk_cell B13.out 3).trans rfl
  have fB13_4 : u6.cell? ⟨u3.heap.size + 1, 4, none⟩ = some (.bool false) := (blk_cell B13.out 4).trans rfl
  have fB13_5 : u6.cell? ⟨u3.heap.size + 1, 5, none⟩ = some (.bool false) := (blk_cell B13.out 5).trans rfl
  have fB14_0 : u6.cell? ⟨u3.heap.size + 2, 0, none⟩ = some (.int .u8 0) := (blk_cell B14.out 0).trans rfl
  have fB14_1 : u6.cell? ⟨u3.heap.size + 2, 1, none⟩ = some (.int .u8 0) := (blk_cell B14.out 1).trans rfl
  have fB14_2 : u6.cell? ⟨u3.heap.size + 2, 2, none⟩ = some (.int .u8 0) := (blk_cell B14.out 2).trans rfl
  have fB14_3 : u6.cell? ⟨u3.heap.size + 2, 3, none⟩ = some (.int .u16 0) := (blk_cell B14.out 3).trans rfl
  have fB14_4 : u6.cell? ⟨u3.heap.size + 2, 4, none⟩ = some (.bool false) := (blk_cell B14.out 4).trans rfl
  have fB14_5 : u6.cell? ⟨u3.heap.size + 2, 5, none⟩ = some (.bool false) := (blk_cell B14.out 5).trans rfl
  go_wp2_with fail
  clear fB12_0 fB12_1 fB12_2 fB12_3 fB12_4 fB12_5 fB13_0 fB13_1 fB13_2 fB13_3 fB13_4 fB13_5 fB14_0 fB14_1 fB14_2 fB14_3 fB14_4 fB14_5
  refine (ram_nil _).mono ?_
  rintro e' u7 ⟨rfl, hb⟩
  have X := Aside0.mk (blk_below BZ.out hb)
  have X12 := Aside0.mk (blk_below B12.out hb)
  have X13 := Aside0.mk (blk_below B13.out hb)
  have X14 := Aside0.mk (blk_below B14.out hb)
  have HB7 := Aside0.mk (below_step HB6.out hb)
  clear BZ HB6 B12 B13 B14 hb
  have BZ := X
  have B12 := X12
  have B13 := X13
  have B14 := X14
  clear X X12 X13 X14
  go_wp2_with fail
  refine (save_nil _).mono ?_
  rintro e' u8 ⟨rfl, hb⟩
  have X := Aside0.mk (blk_below BZ.out hb)
  have X12 := Aside0.mk (blk_below B12.out hb)
  have X13 := Aside0.mk (blk_below B13.out hb)
  have X14 := Aside0.mk (blk_below B14.out hb)
  have HB8 := Aside0.mk (below_step HB7.out hb)
  clear BZ HB7 B12 B13 B14 hb
  have BZ := X
  have B12 := X12
  have B13 := X13
  have B14 := X14
  clear X X12 X13 X14
  go_wp2_with fail
  refine (load_nil' _ _).mono ?_
  rintro e' u9 ⟨rfl, hb⟩
  have X := Aside0.mk (blk_below BZ.out hb)
  have X12 := Aside0.mk (blk_below B12.out hb)
  have X13 := Aside0.mk (blk_below B13.out hb)
  have X14 := Aside0.mk (blk_below B14.out hb)
  have HB9 := Aside0.mk (below_step HB8.out hb)
  clear BZ HB8 B12 B13 B14 hb
  have BZ := X
  have B12 := X12
  have B13 := X13
  have B14 := X14
  clear X X12 X13 X14
  go_wp2_with fail
  rw [rounds_succ]
  go_wp2_with fail
  refine (write_zero (blk_lt BZ.out) ((blk_cell BZ.out 31).trans rfl) a0 a1 ).mono ?_
  rintro e' u10 ⟨rfl, hb⟩
  have X := Aside0.mk (blk_below BZ.out hb)
  have HB10 := Aside0.mk (below_step HB9.out hb)
  clear BZ HB9
  have BZ := X
  clear X
  go_wp2_with fail
  refine (tick_zero (blk_lt BZ.out) ((blk_cell BZ.out 31).trans rfl) ).mono ?_
  rintro e' u11 ⟨rfl, hb⟩
  have X := Aside0.mk (blk_below BZ.out hb)
  have HB11 := Aside0.mk (below_step HB10.out hb)
  clear BZ HB10
  have BZ := X
  clear X
  go_wp2_with fail
  refine (state_zero (blk_lt BZ.out) ((blk_cell BZ.out 31).trans rfl) ).mono ?_
  rintro e' u12 ⟨rfl, hb⟩
  have X := Aside0.mk (blk_below BZ.out hb)
  have HB12 := Aside0.mk (below_step HB11.out hb)
  clear BZ HB11
  have BZ := X
  clear X
  go_wp2_with fail
  have b12 := blk_alloc (blk_alloc (blk_new u12 (.cells #[.int .i64 0, .bool false, .int .u8 0, .int .u8 0, .int .u8 0, .bool false] 32)) (.cells #[.int .u8 0, .int .u8 0, .int .u8 0, .int .u16 0, .bool false, .bool false] 34)) (.cells #[.int .u8 0, .int .u8 0, .int .u8 0, .int .u16 0, .bool false, .bool false] 34)
  have b13 := blk_alloc (blk_at2 u12 (.cells #[.int .i64 0, .bool false, .int .u8 0, .int .u8 0, .int .u8 0, .bool false] 32) (.cells #[.int .u8 0, .int .u8 0, .int .u8 0, .int .u16 0, .bool false, .bool false] 34)) (.cells #[.int .u8 0, .int .u8 0, .int .u8 0, .int .u16 0, .bool false, .bool false] 34)
  have b14 := blk_at3 u12 (.cells #[.int .i64 0, .bool false, .int .u8 0, .int .u8 0, .int .u8 0, .bool false] 32) (.cells #[.int .u8 0, .int .u8 0, .int .u8 0, .int .u16 0, .bool false, .bool false] 34) (.cells #[.int .u8 0, .int .u8 0, .int .u8 0, .int .u16 0, .bool false, .bool false] 34)
  have bz := blk_alloc (blk_alloc (blk_alloc BZ.out (.cells #[.int .i64 0, .bool false, .int .u8 0, .int .u8 0, .int .u8 0, .bool false] 32)) (.cells #[.int .u8 0, .int .u8 0, .int .u8 0, .int .u16 0, .bool false, .bool false] 34)) (.cells #[.int .u8 0, .int .u8 0, .int .u8 0, .int .u16 0, .bool false, .bool false] 34)
  have hB := below_alloc (below_alloc (below_alloc HB12.out (.cells #[.int .i64 0, .bool false, .int .u8 0, .int .u8 0, .int .u8 0, .bool false] 32)) (.cells #[.int .u8 0, .int .u8 0, .int .u8 0, .int .u16 0, .bool false, .bool false] 34)) (.cells #[.int .u8 0, .int .u8 0, .int .u8 0, .int .u16 0, .bool false, .bool false] 34)
  generalize ((u12.alloc (.cells #[.int .i64 0, .bool false, .int .u8 0, .int .u8 0, .int .u8 0, .bool false] 32)).alloc (.cells #[.int .u8 0, .int .u8 0, .int .u8 0, .int .u16 0, .bool false, .bool false] 34)).alloc (.cells #[.int .u8 0, .int .u8 0, .int .u8 0, .int .u16 0, .bool false, .bool false] 34) = u13 at b12 b13 b14 bz hB ⊢
  clear BZ HB12
  have B12 := Aside0.mk b12
  have B13 := Aside0.mk b13
  have B14 := Aside0.mk b14
  have BZ := Aside0.mk bz
  have HB13 := Aside0.mk hB
  clear b12 b13 b14 bz hB
  refine (read_zero (blk_lt BZ.out) ((blk_cell BZ.out 31).trans rfl) a0 ).mono ?_
  rintro e' u14 ⟨rfl, hb⟩
  have X := Aside0.mk (blk_below BZ.out hb)
  have X12 := Aside0.mk (blk_below B12.out hb)
  have X13 := Aside0.mk (blk_below B13.out hb)
  have X14 := Aside0.mk (blk_below B14.out hb)
  have HB14 := Aside0.mk (below_step HB13.out hb)
  clear BZ HB13 B12 B13 B14 hb
  have BZ := X
  have B12 := X12
  have B13 := X13
  have B14 := X14
  clear X X12 X13 X14
  go_wp2_with fail
  refine (head_zero (blk_lt BZ.out) ((blk_cell BZ.out 31).trans rfl) ).mono ?_
  rintro e' u15 ⟨rfl, hb⟩
  have X := Aside0.mk (blk_below BZ.out hb)
  have X12 := Aside0.mk (blk_below B12.out hb)
  have X13 := Aside0.mk (blk_below B13.out hb)
  have X14 := Aside0.mk (blk_below B14.out hb)
  have HB15 := Aside0.mk (below_step HB14.out hb)
  clear BZ HB14 B12 B13 B14 hb
  have BZ := X
  have B12 := X12
  have B13 := X13
  have B14 := X14
  clear X X12 X13 X14
  have fB12_0 : u15.cell? ⟨u12.heap.size, 0, none⟩ = some (.int .i64 0) := (blk_cell B12.out 0).trans rfl
  have fB12_1 : u15.cell? ⟨u12.heap.size, 1, none⟩ = some (.bool false) := (blk_cell B12.out 1).trans rfl
  have fB12_2 : u15.cell? ⟨u12.heap.size, 2, none⟩ = some (.int .u8 0) := (blk_cell B12.out 2).trans rfl
  have fB12_3 : u15.cell? ⟨u12.heap.size, 3, none⟩ = some (.int .u8 0) := (blk_cell B12.out 3).trans rfl
  have fB12_4 : u15.cell? ⟨u12.heap.size, 4, none⟩ = some (.int .u8 0) := (blk_cell B12.out 4).trans rfl
  have fB12_5 : u15.cell? ⟨u12.heap.size, 5, none⟩ = some (.bool false) := (blk_cell B12.out 5).trans rfl
  have fB13_0 : u15.cell? ⟨u12.heap.size + 1, 0, none⟩ = some (.int .u8 0) := (blk_cell B13.out 0).trans rfl
  have fB13_1 : u15.cell? ⟨u12.heap.size + 1, 1, none⟩ = some (.int .u8 0) := (blk_cell B13.out 1).trans rfl
  have fB13_2 : u15.cell? ⟨u12.heap.size + 1, 2, none⟩ = some (.int .u8 0) := (blk_cell B13.out 2).trans rfl
  have fB13_3 : u15.cell? ⟨u12.heap.size + 1, 3, none⟩ = some (.int .u16 0) := (blk_cell B13.out 3).trans rfl
  have fB13_4 : u15.cell? ⟨u12.heap.size + 1, 4, none⟩ = some (.bool false) := (blk_cell B13.out 4).trans rfl
  have fB13_5 : u15.cell? ⟨u12.heap.size + 1, 5, none⟩ = some (.bool false) := (blk_cell B13.out 5).trans rfl
  have fB14_0 : u15.cell? ⟨u12.heap.size + 2, 0, none⟩ = some (.int .u8 0) := (blk_cell B14.out 0).trans rfl
  have fB14_1 : u15.cell? ⟨u12.heap.size + 2, 1, none⟩ = some (.int .u8 0) := (blk_cell B14.out 1).trans rfl
  have fB14_2 : u15.cell? ⟨u12.heap.size + 2, 2, none⟩ = some (.int .u8 0) := (blk_cell B14.out 2).trans rfl
  have fB14_3 : u15.cell? ⟨u12.heap.size + 2, 3, none⟩ = some (.int .u16 0) := (blk_cell B14.out 3).trans rfl
  have fB14_4 : u15.cell? ⟨u12.heap.size + 2, 4, none⟩ = some (.bool false) := (blk_cell B14.out 4).trans rfl
  have fB14_5 : u15.cell? ⟨u12.heap.size + 2, 5, none⟩ = some (.bool false) := (blk_cell B14.out 5).trans rfl
  go_wp2_with fail
  clear fB12_0 fB12_1 fB12_2 fB12_3 fB12_4 fB12_5 fB13_0 fB13_1 fB13_2 fB13_3 fB13_4 fB13_5 fB14_0 fB14_1 fB14_2 fB14_3 fB14_4 fB14_5
  refine (ram_zero (blk_lt BZ.out) ((blk_cell BZ.out 31).trans rfl) ).mono ?_
  rintro e' u16 ⟨rfl, hb⟩
  have X := Aside0.mk (blk_below BZ.out hb)
  have X12 := Aside0.mk (blk_below B12.out hb)
  have X13 := Aside0.mk (blk_below B13.out hb)
  have X14 := Aside0.mk (blk_below B14.out hb)
  have HB16 := Aside0.mk (below_step HB15.out hb)
  clear BZ HB15 B12 B13 B14 hb
  have BZ := X
  have B12 := X12
  have B13 := X13
  have B14 := X14
  clear X X12 X13 X14
  go_wp2_with fail
  refine (save_zero (blk_lt BZ.out) ((blk_cell BZ.out 31).trans rfl) ).mono ?_
  rintro e' u17 ⟨rfl, hb⟩
  have X := Aside0.mk (blk_below BZ.out hb)
  have X12 := Aside0.mk (blk_below B12.out hb)
  have X13 := Aside0.mk (blk_below B13.out hb)
  have X14 := Aside0.mk (blk_below B14.out hb)
  have HB17 := Aside0.mk (below_step HB16.out hb)
  clear BZ HB16 B12 B13 B14 hb
  have BZ := X
  have B12 := X12
  have B13 := X13
  have B14 := X14
  clear X X12 X13 X14
  go_wp2_with fail
  refine (load_zero (blk_lt BZ.out) ((blk_cell BZ.out 31).trans rfl) _ ).mono ?_
  rintro e' u18 ⟨rfl, hb⟩
  have X := Aside0.mk (blk_below BZ.out hb)
  have X12 := Aside0.mk (blk_below B12.out hb)
  have X13 := Aside0.mk (blk_below B13.out hb)
  have X14 := Aside0.mk (blk_below B14.out hb)
  have HB18 := Aside0.mk (below_step HB17.out hb)
  clear BZ HB17 B12 B13 B14 hb
  have BZ := X
  have B12 := X12
  have B13 := X13
  have B14 := X14
  clear X X12 X13 X14
  go_wp2_with fail
  rw [rounds_succ]
  go_wp2_with fail
  go_returns
  exact ⟨rfl, HB18.out⟩
end Go.Proofs.Ytmjjojbedllmgaa.Hand
end
section
namespace Go.Proofs.Ytmjjojbedllmgaa.Pure
open Go.RowKit Go.Proofs.Ytmjjojbedllmgaa.Hand
set_option linter.unusedVariables false
theorem CartNobody (a0 a1 : Int) (l2 : List Int) (w0 : (Lit.int .u16 a0).wf = true) (w1 : (Lit.int .u8 a1).wf = true) (w2 : l2.length ≤ 9223372036854775807) (y2 : ∀ x ∈ l2, 0 ≤ x ∧ x ≤ 255) : whirligiglaw10_CartNobody.f a0 a1 l2 = some true := rfl
end Go.Proofs.Ytmjjojbedllmgaa.Pure
end
namespace Go.Proofs.Ytmjjojbedllmgaa.cartNobody
open Go.ChangeShapes Go.WideShapes Go.ChangeAt Go.RowKit
open Go.ChangeMaps (open_string shut_string)
set_option linter.unusedVariables false
theorem own : ownKnob Try.prog.godebug = none := by kernel_rfl
theorem laidOut : laidOutB Try.prog = true := by kernel_rfl
set_option maxRecDepth 100000 in
theorem lifted (os : Os) (started : os.Started) (H : Type) (enc : TypeId × Value → H) :
    ReturnsInHanded {} Try.checked os 8 .any (Rows.cartNobodySpec.pre6 enc Try.prog Try.f8 Rows.cartNobodyRow.domain false) (Rows.cartNobodySpec.post enc Try.prog Try.f8 false true false false) := by
  refine Frame.lifted_of (C := Try.checked) (bt := 4) own started (by kernel_rfl) Try.func8
    (ChangeSpec.witness6 (enc := enc) (C := Try.checked) false ⟨#[], #[.int .u16 0, .int .u8 0, .slice none 0 0], []⟩ 8 (by kernel_rfl) (by kernel_rfl) (by kernel_rfl) (by kernel_rfl)) rfl rfl Try.underlying4 ?_ laidOut (by kernel_rfl) ?_
  · intro ds h
    have h' : ds.length = 3 := h
    match ds, h' with
    | [d0, d1, d2], _ => rfl
  · intro W base vs ds p hval0 hA0 hsz0
    have hval : ∀ (j : Nat) (t : TypeId) (v : Value), Try.f8.params.toList[j]? = some t → vs[j]? = some v → Value.okWide Try.prog W .any base t v := hval0
    have hA : DataW.TrodAll enc Try.prog W 0 (fun _ => true) true Try.f8.params.toList vs ds p := hA0
    have hsz : (DataW.weightsEach Try.prog Try.f8.params.toList ds).all (· ≤ reachBytes) = true := hsz0
    rw [Try.params8] at hA hval hsz
    clear hval0 hA0 hsz0
    obtain ⟨v0, vs0, d0, ds0, p0, q0, rfl, rfl, rfl, h0, r0⟩ := trodAll_cons hA
    obtain ⟨v1, vs1, d1, ds1, p1, q1, rfl, rfl, rfl, h1, r1⟩ := trodAll_cons r0
    obtain ⟨v2, vs2, d2, ds2, p2, q2, rfl, rfl, rfl, h2, r2⟩ := trodAll_cons r1
    obtain ⟨rfl, rfl, rfl⟩ := trodAll_nil r2
    obtain ⟨a0, rfl, _, _, w0⟩ := open_int Try.underlying23 (hval 0 23 v0 rfl rfl) h0
    obtain ⟨a1, rfl, _, _, w1⟩ := open_int Try.underlying5 (hval 1 5 v1 rfl rfl) h1
    obtain ⟨A2, l2, c2, rfl, hr2, hc2, w2, y2⟩ := Pairs.open_bytes (okWide_slice Try.underlying22 (hval 2 22 v2 rfl rfl)) h2
    have hk := Pure.CartNobody a0 a1 l2 w0 w1 w2 y2
    exact (Hand.whirligiglaw10_CartNobody.calls a0 a1 A2 c2 l2 true W hr2 hc2 hk).mono fun e w' ⟨he, hb⟩ => ⟨he, hb⟩
theorem over : Rows.cartNobodyRow.holds Try.pinned (OpenSpec.ofChange Rows.cartNobodySpec) :=
  OpenClaim.holds_of_wide 8 Try.f8 rfl rfl rfl rfl rfl rfl rfl ⟨rfl, rfl, rfl, rfl, rfl⟩ rfl rfl rfl rfl rfl (by kernel_rfl) Try.func8 (by kernel_rfl)
    (of_decide_eq_true (by kernel_rfl)) (by unfold Func.isWrapper; first | (rw [if_pos (by decide +kernel)]; kernel_rfl) | (rw [if_neg (by decide +kernel)]; exact ⟨rfl, rfl⟩))
    (fun os started H enc _ => lifted os started H enc)
theorem proved : Rows.CartNobodySaid := over
end Go.Proofs.Ytmjjojbedllmgaa.cartNobody
namespace Go.Proofs.Ytmjjojbedllmgaa
theorem cartNobody_holds : Rows.CartNobodySaid := cartNobody.proved
end Go.Proofs.Ytmjjojbedllmgaa
