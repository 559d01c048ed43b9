/- What the proof of the statement CartBack stands on, part 3. (Packed by pack.py out of this session's texts.) -/
import Derived.Handy
import Derived.Deep.MidRow
import Derived.Deep.RegionWith
import Derived.BigRegion
import Derived.Deep.RegionLaw
import Derived.Deep.RegionHeld2
import Derived.Deep.RegionHeld3
import Derived.Test.YtmjjojbedllmgaaQCartBack0
import Derived.Test.YtmjjojbedllmgaaQCartBack1
import Derived.Test.YtmjjojbedllmgaaQCartBack2
section
namespace Go.Proofs.Ytmjjojbedllmgaa.Hand
open Go.RowKit
open Go.Proofs.Ytmjjojbedllmgaa.G
open Go.Proofs.YtmjjojbedllmgaaW.PrintWords Go.Proofs.YtmjjojbedllmgaaW.PrintLast Go.Proofs.YtmjjojbedllmgaaW.PrintMore
set_option linter.unusedVariables false
set_option linter.unusedSimpArgs false
theorem blk_at1 (w : World) (A B : Obj) : ((w.alloc A).alloc B).heap[w.heap.size + 1]? = some B := by
  have z := heap_alloc_new (w.alloc A) B
  have e : (w.alloc A).heap.size = w.heap.size + 1 := by simp
  rwa [e] at z
set_option maxRecDepth 100000 in
set_option maxHeartbeats 400000 in
theorem wr_first0 (k : Int) (o : Bool) (l h r : Int) (md : Bool) (a v : Int) (hp : wrap64 (Int.tdiv (IntKind.i64.wrap (a / 4096)) 2) = 0) (ha : ¬ a ≥ 32768) (w : World) :
    Calls Try.prog 41 #[.agg #[.int .i64 1, .bool o, .int .u8 l, .int .u8 h, .int .u8 r, .bool md], .int .u16 a, .int .u8 v] w fun e' w' => e' = .returned (.agg #[.int .i64 1, .bool ((Go.bits .and .u8 v 15) == 10), .int .u8 l, .int .u8 h, .int .u8 r, .bool md]) ∧ Below w.heap.size w w' := by
  go_enter Try.func41, Try.ntmps41
  go_wp2
  have bk := blk_alloc (blk_new w (.cells #[.int .i64 1, .bool o, .int .u8 l, .int .u8 h, .int .u8 r, .bool md] 32)) (.cells #[.int .i64 0, .bool false, .int .u8 0, .int .u8 0, .int .u8 0, .bool false] 32)
  have br := blk_at1 w (.cells #[.int .i64 1, .bool o, .int .u8 l, .int .u8 h, .int .u8 r, .bool md] 32) (.cells #[.int .i64 0, .bool false, .int .u8 0, .int .u8 0, .int .u8 0, .bool false] 32)
  have hB := below_alloc (below_alloc (Below.refl w.heap.size w) (.cells #[.int .i64 1, .bool o, .int .u8 l, .int .u8 h, .int .u8 r, .bool md] 32)) (.cells #[.int .i64 0, .bool false, .int .u8 0, .int .u8 0, .int .u8 0, .bool false] 32)
  generalize (w.alloc (.cells #[.int .i64 1, .bool o, .int .u8 l, .int .u8 h, .int .u8 r, .bool md] 32)).alloc (.cells #[.int .i64 0, .bool false, .int .u8 0, .int .u8 0, .int .u8 0, .bool false] 32) = W at bk br hB ⊢
  have BK := Aside0.mk bk
  have BR := Aside0.mk br
  have HB := Aside0.mk hB
  clear bk br hB
  have c0 : W.cell? ⟨w.heap.size, 0, none⟩ = some (.int .i64 1) := (blk_cell BK.out 0).trans rfl
  have c1 : W.cell? ⟨w.heap.size, 1, none⟩ = some (.bool o) := (blk_cell BK.out 1).trans rfl
  have c2 : W.cell? ⟨w.heap.size, 2, none⟩ = some (.int .u8 l) := (blk_cell BK.out 2).trans rfl
  have c3 : W.cell? ⟨w.heap.size, 3, none⟩ = some (.int .u8 h) := (blk_cell BK.out 3).trans rfl
  have c4 : W.cell? ⟨w.heap.size, 4, none⟩ = some (.int .u8 r) := (blk_cell BK.out 4).trans rfl
  have c5 : W.cell? ⟨w.heap.size, 5, none⟩ = some (.bool md) := (blk_cell BK.out 5).trans rfl
  have z0 : W.cell? ⟨w.heap.size + 1, 0, none⟩ = some (.int .i64 0) := (blk_cell BR.out 0).trans rfl
  have z1 : W.cell? ⟨w.heap.size + 1, 1, none⟩ = some (.bool false) := (blk_cell BR.out 1).trans rfl
  have z2 : W.cell? ⟨w.heap.size + 1, 2, none⟩ = some (.int .u8 0) := (blk_cell BR.out 2).trans rfl
  have z3 : W.cell? ⟨w.heap.size + 1, 3, none⟩ = some (.int .u8 0) := (blk_cell BR.out 3).trans rfl
  have z4 : W.cell? ⟨w.heap.size + 1, 4, none⟩ = some (.int .u8 0) := (blk_cell BR.out 4).trans rfl
  have z5 : W.cell? ⟨w.heap.size + 1, 5, none⟩ = some (.bool false) := (blk_cell BR.out 5).trans rfl
  have fr := fun i => blk_frozen BR.out i
  go_region_held3 (fun w' => w'.cell? ⟨w.heap.size, 0, none⟩ = some (.int .i64 1) ∧ w'.cell? ⟨w.heap.size, 1, none⟩ = some (.bool o) ∧ w'.cell? ⟨w.heap.size, 2, none⟩ = some (.int .u8 l) ∧ w'.cell? ⟨w.heap.size, 3, none⟩ = some (.int .u8 h) ∧ w'.cell? ⟨w.heap.size, 4, none⟩ = some (.int .u8 r) ∧ w'.cell? ⟨w.heap.size, 5, none⟩ = some (.bool md)) (go_keep)
    (first | (go_at_call 68; ((with_reducible refine (of1 _).mono ?_)); rintro e' w2 ⟨rfl, rfl⟩)
           | (go_at_call 98; ((with_reducible refine (write_first0 1 (IntKind.i64.wrap (a / 4096)) v o l h r md hp _).mono ?_)); rintro e' w2 ⟨rfl, hb⟩; have n0 := Aside0.mk (blk_below (blk_drew BK.out) hb); have m0 := Aside0.mk (blk_below (blk_drew BR.out) hb); have n1 := Aside0.mk (below_step (below_drew1 HB.out) hb); clear hb; have d0 : w2.cell? ⟨w.heap.size, 0, none⟩ = some (.int .i64 1) := (blk_cell n0.out 0).trans rfl; have d1 : w2.cell? ⟨w.heap.size, 1, none⟩ = some (.bool o) := (blk_cell n0.out 1).trans rfl; have d2 : w2.cell? ⟨w.heap.size, 2, none⟩ = some (.int .u8 l) := (blk_cell n0.out 2).trans rfl; have d3 : w2.cell? ⟨w.heap.size, 3, none⟩ = some (.int .u8 h) := (blk_cell n0.out 3).trans rfl; have d4 : w2.cell? ⟨w.heap.size, 4, none⟩ = some (.int .u8 r) := (blk_cell n0.out 4).trans rfl; have d5 : w2.cell? ⟨w.heap.size, 5, none⟩ = some (.bool md) := (blk_cell n0.out 5).trans rfl; have y0 : w2.cell? ⟨w.heap.size + 1, 0, none⟩ = some (.int .i64 0) := (blk_cell m0.out 0).trans rfl; have y1 : w2.cell? ⟨w.heap.size + 1, 1, none⟩ = some (.bool false) := (blk_cell m0.out 1).trans rfl; have y2 : w2.cell? ⟨w.heap.size + 1, 2, none⟩ = some (.int .u8 0) := (blk_cell m0.out 2).trans rfl; have y3 : w2.cell? ⟨w.heap.size + 1, 3, none⟩ = some (.int .u8 0) := (blk_cell m0.out 3).trans rfl; have y4 : w2.cell? ⟨w.heap.size + 1, 4, none⟩ = some (.int .u8 0) := (blk_cell m0.out 4).trans rfl; have y5 : w2.cell? ⟨w.heap.size + 1, 5, none⟩ = some (.bool false) := (blk_cell m0.out 5).trans rfl; have fy := fun i => blk_frozen m0.out i))
  rename_i hHeld
  clear hHeld
  go_wp2
  have q1 : ((((((w2.setCell ⟨w.heap.size + 1, 0, none⟩ (.int .i64 1)).setCell ⟨w.heap.size + 1, 1, none⟩ (.bool ((Go.bits .and .u8 v 15) == 10))).setCell ⟨w.heap.size + 1, 2, none⟩ (.int .u8 l)).setCell ⟨w.heap.size + 1, 3, none⟩ (.int .u8 h)).setCell ⟨w.heap.size + 1, 4, none⟩ (.int .u8 r)).setCell ⟨w.heap.size + 1, 5, none⟩ (.bool md)).heap[w.heap.size + 1]? = some (.cells #[.int .i64 1, .bool ((Go.bits .and .u8 v 15) == 10), .int .u8 l, .int .u8 h, .int .u8 r, .bool md] 32 (0, 0)) := (blk_put (blk_put (blk_put (blk_put (blk_put (blk_put m0.out 0 _ rfl) 1 _ rfl) 2 _ rfl) 3 _ rfl) 4 _ rfl) 5 _ rfl)
  have q2 : Below w.heap.size w ((((((w2.setCell ⟨w.heap.size + 1, 0, none⟩ (.int .i64 1)).setCell ⟨w.heap.size + 1, 1, none⟩ (.bool ((Go.bits .and .u8 v 15) == 10))).setCell ⟨w.heap.size + 1, 2, none⟩ (.int .u8 l)).setCell ⟨w.heap.size + 1, 3, none⟩ (.int .u8 h)).setCell ⟨w.heap.size + 1, 4, none⟩ (.int .u8 r)).setCell ⟨w.heap.size + 1, 5, none⟩ (.bool md)) := (below_set (below_set (below_set (below_set (below_set (below_set n1.out (Nat.le_succ _)) (Nat.le_succ _)) (Nat.le_succ _)) (Nat.le_succ _)) (Nat.le_succ _)) (Nat.le_succ _))
  generalize ((((((w2.setCell ⟨w.heap.size + 1, 0, none⟩ (.int .i64 1)).setCell ⟨w.heap.size + 1, 1, none⟩ (.bool ((Go.bits .and .u8 v 15) == 10))).setCell ⟨w.heap.size + 1, 2, none⟩ (.int .u8 l)).setCell ⟨w.heap.size + 1, 3, none⟩ (.int .u8 h)).setCell ⟨w.heap.size + 1, 4, none⟩ (.int .u8 r)).setCell ⟨w.heap.size + 1, 5, none⟩ (.bool md)) = Y at q1 q2 ⊢
  have u0 : Y.cell? ⟨w.heap.size + 1, 0, none⟩ = some (.int .i64 1) := (blk_cell q1 0).trans rfl
  have u1 : Y.cell? ⟨w.heap.size + 1, 1, none⟩ = some (.bool ((Go.bits .and .u8 v 15) == 10)) := (blk_cell q1 1).trans rfl
  have u2 : Y.cell? ⟨w.heap.size + 1, 2, none⟩ = some (.int .u8 l) := (blk_cell q1 2).trans rfl
  have u3 : Y.cell? ⟨w.heap.size + 1, 3, none⟩ = some (.int .u8 h) := (blk_cell q1 3).trans rfl
  have u4 : Y.cell? ⟨w.heap.size + 1, 4, none⟩ = some (.int .u8 r) := (blk_cell q1 4).trans rfl
  have u5 : Y.cell? ⟨w.heap.size + 1, 5, none⟩ = some (.bool md) := (blk_cell q1 5).trans rfl
  exact bodyPost_ret (v := .agg #[.int .i64 1, .bool ((Go.bits .and .u8 v 15) == 10), .int .u8 l, .int .u8 h, .int .u8 r, .bool md]) (by simp [results, Try.results41, go_sem, u0, u1, u2, u3, u4, u5]) rfl ⟨rfl, q2⟩
set_option maxRecDepth 100000 in
set_option maxHeartbeats 400000 in
theorem wr_first1 (k : Int) (o : Bool) (l h r : Int) (md : Bool) (a v : Int) (hp : wrap64 (Int.tdiv (IntKind.i64.wrap (a / 4096)) 2) = 1) (ha : ¬ a ≥ 32768) (w : World) :
    Calls Try.prog 41 #[.agg #[.int .i64 1, .bool o, .int .u8 l, .int .u8 h, .int .u8 r, .bool md], .int .u16 a, .int .u8 v] w fun e' w' => e' = .returned (.agg #[.int .i64 1, .bool o, .int .u8 (Go.bits .and .u8 v 31), .int .u8 h, .int .u8 r, .bool md]) ∧ Below w.heap.size w w' := by
  go_enter Try.func41, Try.ntmps41
  go_wp2
  have bk := blk_alloc (blk_new w (.cells #[.int .i64 1, .bool o, .int .u8 l, .int .u8 h, .int .u8 r, .bool md] 32)) (.cells #[.int .i64 0, .bool false, .int .u8 0, .int .u8 0, .int .u8 0, .bool false] 32)
  have br := blk_at1 w (.cells #[.int .i64 1, .bool o, .int .u8 l, .int .u8 h, .int .u8 r, .bool md] 32) (.cells #[.int .i64 0, .bool false, .int .u8 0, .int .u8 0, .int .u8 0, .bool false] 32)
  have hB := below_alloc (below_alloc (Below.refl w.heap.size w) (.cells #[.int .i64 1, .bool o, .int .u8 l, .int .u8 h, .int .u8 r, .bool md] 32)) (.cells #[.int .i64 0, .bool false, .int .u8 0, .int .u8 0, .int .u8 0, .bool false] 32)
  generalize (w.alloc (.cells #[.int .i64 1, .bool o, .int .u8 l, .int .u8 h, .int .u8 r, .bool md] 32)).alloc (.cells #[.int .i64 0, .bool false, .int .u8 0, .int .u8 0, .int .u8 0, .bool false] 32) = W at bk br hB ⊢
  have BK := Aside0.mk bk
  have BR := Aside0.mk br
  have HB := Aside0.mk hB
  clear bk br hB
  have c0 : W.cell? ⟨w.heap.size, 0, none⟩ = some (.int .i64 1) := (blk_cell BK.out 0).trans rfl
  have c1 : W.cell? ⟨w.heap.size, 1, none⟩ = some (.bool o) := (blk_cell BK.out 1).trans rfl
  have c2 : W.cell? ⟨w.heap.size, 2, none⟩ = some (.int .u8 l) := (blk_cell BK.out 2).trans rfl
  have c3 : W.cell? ⟨w.heap.size, 3, none⟩ = some (.int .u8 h) := (blk_cell BK.out 3).trans rfl
  have c4 : W.cell? ⟨w.heap.size, 4, none⟩ = some (.int .u8 r) := (blk_cell BK.out 4).trans rfl
  have c5 : W.cell? ⟨w.heap.size, 5, none⟩ = some (.bool md) := (blk_cell BK.out 5).trans rfl
  have z0 : W.cell? ⟨w.heap.size + 1, 0, none⟩ = some (.int .i64 0) := (blk_cell BR.out 0).trans rfl
  have z1 : W.cell? ⟨w.heap.size + 1, 1, none⟩ = some (.bool false) := (blk_cell BR.out 1).trans rfl
  have z2 : W.cell? ⟨w.heap.size + 1, 2, none⟩ = some (.int .u8 0) := (blk_cell BR.out 2).trans rfl
  have z3 : W.cell? ⟨w.heap.size + 1, 3, none⟩ = some (.int .u8 0) := (blk_cell BR.out 3).trans rfl
  have z4 : W.cell? ⟨w.heap.size + 1, 4, none⟩ = some (.int .u8 0) := (blk_cell BR.out 4).trans rfl
  have z5 : W.cell? ⟨w.heap.size + 1, 5, none⟩ = some (.bool false) := (blk_cell BR.out 5).trans rfl
  have fr := fun i => blk_frozen BR.out i
  go_region_held3 (fun w' => w'.cell? ⟨w.heap.size, 0, none⟩ = some (.int .i64 1) ∧ w'.cell? ⟨w.heap.size, 1, none⟩ = some (.bool o) ∧ w'.cell? ⟨w.heap.size, 2, none⟩ = some (.int .u8 l) ∧ w'.cell? ⟨w.heap.size, 3, none⟩ = some (.int .u8 h) ∧ w'.cell? ⟨w.heap.size, 4, none⟩ = some (.int .u8 r) ∧ w'.cell? ⟨w.heap.size, 5, none⟩ = some (.bool md)) (go_keep)
    (first | (go_at_call 68; ((with_reducible refine (of1 _).mono ?_)); rintro e' w2 ⟨rfl, rfl⟩)
           | (go_at_call 98; ((with_reducible refine (write_first1 1 (IntKind.i64.wrap (a / 4096)) v o l h r md hp _).mono ?_)); rintro e' w2 ⟨rfl, hb⟩; have n0 := Aside0.mk (blk_below (blk_drew BK.out) hb); have m0 := Aside0.mk (blk_below (blk_drew BR.out) hb); have n1 := Aside0.mk (below_step (below_drew1 HB.out) hb); clear hb; have d0 : w2.cell? ⟨w.heap.size, 0, none⟩ = some (.int .i64 1) := (blk_cell n0.out 0).trans rfl; have d1 : w2.cell? ⟨w.heap.size, 1, none⟩ = some (.bool o) := (blk_cell n0.out 1).trans rfl; have d2 : w2.cell? ⟨w.heap.size, 2, none⟩ = some (.int .u8 l) := (blk_cell n0.out 2).trans rfl; have d3 : w2.cell? ⟨w.heap.size, 3, none⟩ = some (.int .u8 h) := (blk_cell n0.out 3).trans rfl; have d4 : w2.cell? ⟨w.heap.size, 4, none⟩ = some (.int .u8 r) := (blk_cell n0.out 4).trans rfl; have d5 : w2.cell? ⟨w.heap.size, 5, none⟩ = some (.bool md) := (blk_cell n0.out 5).trans rfl; have y0 : w2.cell? ⟨w.heap.size + 1, 0, none⟩ = some (.int .i64 0) := (blk_cell m0.out 0).trans rfl; have y1 : w2.cell? ⟨w.heap.size + 1, 1, none⟩ = some (.bool false) := (blk_cell m0.out 1).trans rfl; have y2 : w2.cell? ⟨w.heap.size + 1, 2, none⟩ = some (.int .u8 0) := (blk_cell m0.out 2).trans rfl; have y3 : w2.cell? ⟨w.heap.size + 1, 3, none⟩ = some (.int .u8 0) := (blk_cell m0.out 3).trans rfl; have y4 : w2.cell? ⟨w.heap.size + 1, 4, none⟩ = some (.int .u8 0) := (blk_cell m0.out 4).trans rfl; have y5 : w2.cell? ⟨w.heap.size + 1, 5, none⟩ = some (.bool false) := (blk_cell m0.out 5).trans rfl; have fy := fun i => blk_frozen m0.out i))
  rename_i hHeld
  clear hHeld
  go_wp2
  have q1 : ((((((w2.setCell ⟨w.heap.size + 1, 0, none⟩ (.int .i64 1)).setCell ⟨w.heap.size + 1, 1, none⟩ (.bool o)).setCell ⟨w.heap.size + 1, 2, none⟩ (.int .u8 (Go.bits .and .u8 v 31))).setCell ⟨w.heap.size + 1, 3, none⟩ (.int .u8 h)).setCell ⟨w.heap.size + 1, 4, none⟩ (.int .u8 r)).setCell ⟨w.heap.size + 1, 5, none⟩ (.bool md)).heap[w.heap.size + 1]? = some (.cells #[.int .i64 1, .bool o, .int .u8 (Go.bits .and .u8 v 31), .int .u8 h, .int .u8 r, .bool md] 32 (0, 0)) := (blk_put (blk_put (blk_put (blk_put (blk_put (blk_put m0.out 0 _ rfl) 1 _ rfl) 2 _ rfl) 3 _ rfl) 4 _ rfl) 5 _ rfl)
  have q2 : Below w.heap.size w ((((((w2.setCell ⟨w.heap.size + 1, 0, none⟩ (.int .i64 1)).setCell ⟨w.heap.size + 1, 1, none⟩ (.bool o)).setCell ⟨w.heap.size + 1, 2, none⟩ (.int .u8 (Go.bits .and .u8 v 31))).setCell ⟨w.heap.size + 1, 3, none⟩ (.int .u8 h)).setCell ⟨w.heap.size + 1, 4, none⟩ (.int .u8 r)).setCell ⟨w.heap.size + 1, 5, none⟩ (.bool md)) := (below_set (below_set (below_set (below_set (below_set (below_set n1.out (Nat.le_succ _)) (Nat.le_succ _)) (Nat.le_succ _)) (Nat.le_succ _)) (Nat.le_succ _)) (Nat.le_succ _))
  generalize ((((((w2.setCell ⟨w.heap.size + 1, 0, none⟩ (.int .i64 1)).setCell ⟨w.heap.size + 1, 1, none⟩ (.bool o)).setCell ⟨w.heap.size + 1, 2, none⟩ (.int .u8 (Go.bits .and .u8 v 31))).setCell ⟨w.heap.size + 1, 3, none⟩ (.int .u8 h)).setCell ⟨w.heap.size + 1, 4, none⟩ (.int .u8 r)).setCell ⟨w.heap.size + 1, 5, none⟩ (.bool md)) = Y at q1 q2 ⊢
  have u0 : Y.cell? ⟨w.heap.size + 1, 0, none⟩ = some (.int .i64 1) := (blk_cell q1 0).trans rfl
  have u1 : Y.cell? ⟨w.heap.size + 1, 1, none⟩ = some (.bool o) := (blk_cell q1 1).trans rfl
  have u2 : Y.cell? ⟨w.heap.size + 1, 2, none⟩ = some (.int .u8 (Go.bits .and .u8 v 31)) := (blk_cell q1 2).trans rfl
  have u3 : Y.cell? ⟨w.heap.size + 1, 3, none⟩ = some (.int .u8 h) := (blk_cell q1 3).trans rfl
  have u4 : Y.cell? ⟨w.heap.size + 1, 4, none⟩ = some (.int .u8 r) := (blk_cell q1 4).trans rfl
  have u5 : Y.cell? ⟨w.heap.size + 1, 5, none⟩ = some (.bool md) := (blk_cell q1 5).trans rfl
  exact bodyPost_ret (v := .agg #[.int .i64 1, .bool o, .int .u8 (Go.bits .and .u8 v 31), .int .u8 h, .int .u8 r, .bool md]) (by simp [results, Try.results41, go_sem, u0, u1, u2, u3, u4, u5]) rfl ⟨rfl, q2⟩
set_option maxRecDepth 100000 in
set_option maxHeartbeats 400000 in
theorem wr_first2 (k : Int) (o : Bool) (l h r : Int) (md : Bool) (a v : Int) (hp : wrap64 (Int.tdiv (IntKind.i64.wrap (a / 4096)) 2) = 2) (ha : ¬ a ≥ 32768) (w : World) :
    Calls Try.prog 41 #[.agg #[.int .i64 1, .bool o, .int .u8 l, .int .u8 h, .int .u8 r, .bool md], .int .u16 a, .int .u8 v] w fun e' w' => e' = .returned (.agg #[.int .i64 1, .bool o, .int .u8 l, .int .u8 (Go.bits .and .u8 v 3), .int .u8 r, .bool md]) ∧ Below w.heap.size w w' := by
  go_enter Try.func41, Try.ntmps41
  go_wp2
  have bk := blk_alloc (blk_new w (.cells #[.int .i64 1, .bool o, .int .u8 l, .int .u8 h, .int .u8 r, .bool md] 32)) (.cells #[.int .i64 0, .bool false, .int .u8 0, .int .u8 0, .int .u8 0, .bool false] 32)
  have br := blk_at1 w (.cells #[.int .i64 1, .bool o, .int .u8 l, .int .u8 h, .int .u8 r, .bool md] 32) (.cells #[.int .i64 0, .bool false, .int .u8 0, .int .u8 0, .int .u8 0, .bool false] 32)
  have hB := below_alloc (below_alloc (Below.refl w.heap.size w) (.cells #[.int .i64 1, .bool o, .int .u8 l, .int .u8 h, .int .u8 r, .bool md] 32)) (.cells #[.int .i64 0, .bool false, .int .u8 0, .int .u8 0, .int .u8 0, .bool false] 32)
  generalize (w.alloc (.cells #[.int .i64 1, .bool o, .int .u8 l, .int .u8 h, .int .u8 r, .bool md] 32)).alloc (.cells #[.int .i64 0, .bool false, .int .u8 0, .int .u8 0, .int .u8 0, .bool false] 32) = W at bk br hB ⊢
  have BK := Aside0.mk bk
  have BR := Aside0.mk br
  have HB := Aside0.mk hB
  clear bk br hB
  have c0 : W.cell? ⟨w.heap.size, 0, none⟩ = some (.int .i64 1) := (blk_cell BK.out 0).trans rfl
  have c1 : W.cell? ⟨w.heap.size, 1, none⟩ = some (.bool o) := (blk_cell BK.out 1).trans rfl
  have c2 : W.cell? ⟨w.heap.size, 2, none⟩ = some (.int .u8 l) := (blk_cell BK.out 2).trans rfl
  have c3 : W.cell? ⟨w.heap.size, 3, none⟩ = some (.int .u8 h) := (blk_cell BK.out 3).trans rfl
  have c4 : W.cell? ⟨w.heap.size, 4, none⟩ = some (.int .u8 r) := (blk_cell BK.out 4).trans rfl
  have c5 : W.cell? ⟨w.heap.size, 5, none⟩ = some (.bool md) := (blk_cell BK.out 5).trans rfl
  have z0 : W.cell? ⟨w.heap.size + 1, 0, none⟩ = some (.int .i64 0) := (blk_cell BR.out 0).trans rfl
  have z1 : W.cell? ⟨w.heap.size + 1, 1, none⟩ = some (.bool false) := (blk_cell BR.out 1).trans rfl
  have z2 : W.cell? ⟨w.heap.size + 1, 2, none⟩ = some (.int .u8 0) := (blk_cell BR.out 2).trans rfl
  have z3 : W.cell? ⟨w.heap.size + 1, 3, none⟩ = some (.int .u8 0) := (blk_cell BR.out 3).trans rfl
  have z4 : W.cell? ⟨w.heap.size + 1, 4, none⟩ = some (.int .u8 0) := (blk_cell BR.out 4).trans rfl
  have z5 : W.cell? ⟨w.heap.size + 1, 5, none⟩ = some (.bool false) := (blk_cell BR.out 5).trans rfl
  have fr := fun i => blk_frozen BR.out i
  go_region_held3 (fun w' => w'.cell? ⟨w.heap.size, 0, none⟩ = some (.int .i64 1) ∧ w'.cell? ⟨w.heap.size, 1, none⟩ = some (.bool o) ∧ w'.cell? ⟨w.heap.size, 2, none⟩ = some (.int .u8 l) ∧ w'.cell? ⟨w.heap.size, 3, none⟩ = some (.int .u8 h) ∧ w'.cell? ⟨w.heap.size, 4, none⟩ = some (.int .u8 r) ∧ w'.cell? ⟨w.heap.size, 5, none⟩ = some (.bool md)) (go_keep)
    (first | (go_at_call 68; ((with_reducible refine (of1 _).mono ?_)); rintro e' w2 ⟨rfl, rfl⟩)
           | (go_at_call 98; ((with_reducible refine (write_first2 1 (IntKind.i64.wrap (a / 4096)) v o l h r md hp _).mono ?_)); rintro e' w2 ⟨rfl, hb⟩; have n0 := Aside0.mk (blk_below (blk_drew BK.out) hb); have m0 := Aside0.mk (blk_below (blk_drew BR.out) hb); have n1 := Aside0.mk (below_step (below_drew1 HB.out) hb); clear hb; have d0 : w2.cell? ⟨w.heap.size, 0, none⟩ = some (.int .i64 1) := (blk_cell n0.out 0).trans rfl; have d1 : w2.cell? ⟨w.heap.size, 1, none⟩ = some (.bool o) := (blk_cell n0.out 1).trans rfl; have d2 : w2.cell? ⟨w.heap.size, 2, none⟩ = some (.int .u8 l) := (blk_cell n0.out 2).trans rfl; have d3 : w2.cell? ⟨w.heap.size, 3, none⟩ = some (.int .u8 h) := (blk_cell n0.out 3).trans rfl; have d4 : w2.cell? ⟨w.heap.size, 4, none⟩ = some (.int .u8 r) := (blk_cell n0.out 4).trans rfl; have d5 : w2.cell? ⟨w.heap.size, 5, none⟩ = some (.bool md) := (blk_cell n0.out 5).trans rfl; have y0 : w2.cell? ⟨w.heap.size + 1, 0, none⟩ = some (.int .i64 0) := (blk_cell m0.out 0).trans rfl; have y1 : w2.cell? ⟨w.heap.size + 1, 1, none⟩ = some (.bool false) := (blk_cell m0.out 1).trans rfl; have y2 : w2.cell? ⟨w.heap.size + 1, 2, none⟩ = some (.int .u8 0) := (blk_cell m0.out 2).trans rfl; have y3 : w2.cell? ⟨w.heap.size + 1, 3, none⟩ = some (.int .u8 0) := (blk_cell m0.out 3).trans rfl; have y4 : w2.cell? ⟨w.heap.size + 1, 4, none⟩ = some (.int .u8 0) := (blk_cell m0.out 4).trans rfl; have y5 : w2.cell? ⟨w.heap.size + 1, 5, none⟩ = some (.bool false) := (blk_cell m0.out 5).trans rfl; have fy := fun i => blk_frozen m0.out i))
  rename_i hHeld
  clear hHeld
  go_wp2
  have q1 : ((((((w2.setCell ⟨w.heap.size + 1, 0, none⟩ (.int .i64 1)).setCell ⟨w.heap.size + 1, 1, none⟩ (.bool o)).setCell ⟨w.heap.size + 1, 2, none⟩ (.int .u8 l)).setCell ⟨w.heap.size + 1, 3, none⟩ (.int .u8 (Go.bits .and .u8 v 3))).setCell ⟨w.heap.size + 1, 4, none⟩ (.int .u8 r)).setCell ⟨w.heap.size + 1, 5, none⟩ (.bool md)).heap[w.heap.size + 1]? = some (.cells #[.int .i64 1, .bool o, .int .u8 l, .int .u8 (Go.bits .and .u8 v 3), .int .u8 r, .bool md] 32 (0, 0)) := (blk_put (blk_put (blk_put (blk_put (blk_put (blk_put m0.out 0 _ rfl) 1 _ rfl) 2 _ rfl) 3 _ rfl) 4 _ rfl) 5 _ rfl)
  have q2 : Below w.heap.size w ((((((w2.setCell ⟨w.heap.size + 1, 0, none⟩ (.int .i64 1)).setCell ⟨w.heap.size + 1, 1, none⟩ (.bool o)).setCell ⟨w.heap.size + 1, 2, none⟩ (.int .u8 l)).setCell ⟨w.heap.size + 1, 3, none⟩ (.int .u8 (Go.bits .and .u8 v 3))).setCell ⟨w.heap.size + 1, 4, none⟩ (.int .u8 r)).setCell ⟨w.heap.size + 1, 5, none⟩ (.bool md)) := (below_set (below_set (below_set (below_set (below_set (below_set n1.out (Nat.le_succ _)) (Nat.le_succ _)) (Nat.le_succ _)) (Nat.le_succ _)) (Nat.le_succ _)) (Nat.le_succ _))
  generalize ((((((w2.setCell ⟨w.heap.size + 1, 0, none⟩ (.int .i64 1)).setCell ⟨w.heap.size + 1, 1, none⟩ (.bool o)).setCell ⟨w.heap.size + 1, 2, none⟩ (.int .u8 l)).setCell ⟨w.heap.size + 1, 3, none⟩ (.int .u8 (Go.bits .and .u8 v 3))).setCell ⟨w.heap.size + 1, 4, none⟩ (.int .u8 r)).setCell ⟨w.heap.size + 1, 5, none⟩ (.bool md)) = Y at q1 q2 ⊢
  have u0 : Y.cell? ⟨w.heap.size + 1, 0, none⟩ = some (.int .i64 1) := (blk_cell q1 0).trans rfl
  have u1 : Y.cell? ⟨w.heap.size + 1, 1, none⟩ = some (.bool o) := (blk_cell q1 1).trans rfl
  have u2 : Y.cell? ⟨w.heap.size + 1, 2, none⟩ = some (.int .u8 l) := (blk_cell q1 2).trans rfl
  have u3 : Y.cell? ⟨w.heap.size + 1, 3, none⟩ = some (.int .u8 (Go.bits .and .u8 v 3)) := (blk_cell q1 3).trans rfl
  have u4 : Y.cell? ⟨w.heap.size + 1, 4, none⟩ = some (.int .u8 r) := (blk_cell q1 4).trans rfl
  have u5 : Y.cell? ⟨w.heap.size + 1, 5, none⟩ = some (.bool md) := (blk_cell q1 5).trans rfl
  exact bodyPost_ret (v := .agg #[.int .i64 1, .bool o, .int .u8 l, .int .u8 (Go.bits .and .u8 v 3), .int .u8 r, .bool md]) (by simp [results, Try.results41, go_sem, u0, u1, u2, u3, u4, u5]) rfl ⟨rfl, q2⟩
set_option maxRecDepth 100000 in
set_option maxHeartbeats 400000 in
theorem wr_first3 (k : Int) (o : Bool) (l h r : Int) (md : Bool) (a v : Int) (hp : wrap64 (Int.tdiv (IntKind.i64.wrap (a / 4096)) 2) = 3) (ha : ¬ a ≥ 32768) (w : World) :
    Calls Try.prog 41 #[.agg #[.int .i64 1, .bool o, .int .u8 l, .int .u8 h, .int .u8 r, .bool md], .int .u16 a, .int .u8 v] w fun e' w' => e' = .returned (.agg #[.int .i64 1, .bool o, .int .u8 l, .int .u8 h, .int .u8 r, .bool ((Go.bits .and .u8 v 1) == 1)]) ∧ Below w.heap.size w w' := by
  go_enter Try.func41, Try.ntmps41
  go_wp2
  have bk := blk_alloc (blk_new w (.cells #[.int .i64 1, .bool o, .int .u8 l, .int .u8 h, .int .u8 r, .bool md] 32)) (.cells #[.int .i64 0, .bool false, .int .u8 0, .int .u8 0, .int .u8 0, .bool false] 32)
  have br := blk_at1 w (.cells #[.int .i64 1, .bool o, .int .u8 l, .int .u8 h, .int .u8 r, .bool md] 32) (.cells #[.int .i64 0, .bool false, .int .u8 0, .int .u8 0, .int .u8 0, .bool false] 32)
  have hB := below_alloc (below_alloc (Below.refl w.heap.size w) (.cells #[.int .i64 1, .bool o, .int .u8 l, .int .u8 h, .int .u8 r, .bool md] 32)) (.cells #[.int .i64 0, .bool false, .int .u8 0, .int .u8 0, .int .u8 0, .bool false] 32)
  generalize (w.alloc (.cells #[.int .i64 1, .bool o, .int .u8 l, .int .u8 h, .int .u8 r, .bool md] 32)).alloc (.cells #[.int .i64 0, .bool false, .int .u8 0, .int .u8 0, .int .u8 0, .bool false] 32) = W at bk br hB ⊢
  have BK := Aside0.mk bk
  have BR := Aside0.mk br
  have HB := Aside0.mk hB
  clear bk br hB
  have c0 : W.cell? ⟨w.heap.size, 0, none⟩ = some (.int .i64 1) := (blk_cell BK.out 0).trans rfl
  have c1 : W.cell? ⟨w.heap.size, 1, none⟩ = some (.bool o) := (blk_cell BK.out 1).trans rfl
  have c2 : W.cell? ⟨w.heap.size, 2, none⟩ = some (.int .u8 l) := (blk_cell BK.out 2).trans rfl
  have c3 : W.cell? ⟨w.heap.size, 3, none⟩ = some (.int .u8 h) := (blk_cell BK.out 3).trans rfl
  have c4 : W.cell? ⟨w.heap.size, 4, none⟩ = some (.int .u8 r) := (blk_cell BK.out 4).trans rfl
  have c5 : W.cell? ⟨w.heap.size, 5, none⟩ = some (.bool md) := (blk_cell BK.out 5).trans rfl
  have z0 : W.cell? ⟨w.heap.size + 1, 0, none⟩ = some (.int .i64 0) := (blk_cell BR.out 0).trans rfl
  have z1 : W.cell? ⟨w.heap.size + 1, 1, none⟩ = some (.bool false) := (blk_cell BR.out 1).trans rfl
  have z2 : W.cell? ⟨w.heap.size + 1, 2, none⟩ = some (.int .u8 0) := (blk_cell BR.out 2).trans rfl
  have z3 : W.cell? ⟨w.heap.size + 1, 3, none⟩ = some (.int .u8 0) := (blk_cell BR.out 3).trans rfl
  have z4 : W.cell? ⟨w.heap.size + 1, 4, none⟩ = some (.int .u8 0) := (blk_cell BR.out 4).trans rfl
  have z5 : W.cell? ⟨w.heap.size + 1, 5, none⟩ = some (.bool false) := (blk_cell BR.out 5).trans rfl
  have fr := fun i => blk_frozen BR.out i
  go_region_held3 (fun w' => w'.cell? ⟨w.heap.size, 0, none⟩ = some (.int .i64 1) ∧ w'.cell? ⟨w.heap.size, 1, none⟩ = some (.bool o) ∧ w'.cell? ⟨w.heap.size, 2, none⟩ = some (.int .u8 l) ∧ w'.cell? ⟨w.heap.size, 3, none⟩ = some (.int .u8 h) ∧ w'.cell? ⟨w.heap.size, 4, none⟩ = some (.int .u8 r) ∧ w'.cell? ⟨w.heap.size, 5, none⟩ = some (.bool md)) (go_keep)
    (first | (go_at_call 68; ((with_reducible refine (of1 _).mono ?_)); rintro e' w2 ⟨rfl, rfl⟩)
           | (go_at_call 98; ((with_reducible refine (write_first3 1 (IntKind.i64.wrap (a / 4096)) v o l h r md hp _).mono ?_)); rintro e' w2 ⟨rfl, hb⟩; have n0 := Aside0.mk (blk_below (blk_drew BK.out) hb); have m0 := Aside0.mk (blk_below (blk_drew BR.out) hb); have n1 := Aside0.mk (below_step (below_drew1 HB.out) hb); clear hb; have d0 : w2.cell? ⟨w.heap.size, 0, none⟩ = some (.int .i64 1) := (blk_cell n0.out 0).trans rfl; have d1 : w2.cell? ⟨w.heap.size, 1, none⟩ = some (.bool o) := (blk_cell n0.out 1).trans rfl; have d2 : w2.cell? ⟨w.heap.size, 2, none⟩ = some (.int .u8 l) := (blk_cell n0.out 2).trans rfl; have d3 : w2.cell? ⟨w.heap.size, 3, none⟩ = some (.int .u8 h) := (blk_cell n0.out 3).trans rfl; have d4 : w2.cell? ⟨w.heap.size, 4, none⟩ = some (.int .u8 r) := (blk_cell n0.out 4).trans rfl; have d5 : w2.cell? ⟨w.heap.size, 5, none⟩ = some (.bool md) := (blk_cell n0.out 5).trans rfl; have y0 : w2.cell? ⟨w.heap.size + 1, 0, none⟩ = some (.int .i64 0) := (blk_cell m0.out 0).trans rfl; have y1 : w2.cell? ⟨w.heap.size + 1, 1, none⟩ = some (.bool false) := (blk_cell m0.out 1).trans rfl; have y2 : w2.cell? ⟨w.heap.size + 1, 2, none⟩ = some (.int .u8 0) := (blk_cell m0.out 2).trans rfl; have y3 : w2.cell? ⟨w.heap.size + 1, 3, none⟩ = some (.int .u8 0) := (blk_cell m0.out 3).trans rfl; have y4 : w2.cell? ⟨w.heap.size + 1, 4, none⟩ = some (.int .u8 0) := (blk_cell m0.out 4).trans rfl; have y5 : w2.cell? ⟨w.heap.size + 1, 5, none⟩ = some (.bool false) := (blk_cell m0.out 5).trans rfl; have fy := fun i => blk_frozen m0.out i))
  rename_i hHeld
  clear hHeld
  go_wp2
  have q1 : ((((((w2.setCell ⟨w.heap.size + 1, 0, none⟩ (.int .i64 1)).setCell ⟨w.heap.size + 1, 1, none⟩ (.bool o)).setCell ⟨w.heap.size + 1, 2, none⟩ (.int .u8 l)).setCell ⟨w.heap.size + 1, 3, none⟩ (.int .u8 h)).setCell ⟨w.heap.size + 1, 4, none⟩ (.int .u8 r)).setCell ⟨w.heap.size + 1, 5, none⟩ (.bool ((Go.bits .and .u8 v 1) == 1))).heap[w.heap.size + 1]? = some (.cells #[.int .i64 1, .bool o, .int .u8 l, .int .u8 h, .int .u8 r, .bool ((Go.bits .and .u8 v 1) == 1)] 32 (0, 0)) := (blk_put (blk_put (blk_put (blk_put (blk_put (blk_put m0.out 0 _ rfl) 1 _ rfl) 2 _ rfl) 3 _ rfl) 4 _ rfl) 5 _ rfl)
  have q2 : Below w.heap.size w ((((((w2.setCell ⟨w.heap.size + 1, 0, none⟩ (.int .i64 1)).setCell ⟨w.heap.size + 1, 1, none⟩ (.bool o)).setCell ⟨w.heap.size + 1, 2, none⟩ (.int .u8 l)).setCell ⟨w.heap.size + 1, 3, none⟩ (.int .u8 h)).setCell ⟨w.heap.size + 1, 4, none⟩ (.int .u8 r)).setCell ⟨w.heap.size + 1, 5, none⟩ (.bool ((Go.bits .and .u8 v 1) == 1))) := (below_set (below_set (below_set (below_set (below_set (below_set n1.out (Nat.le_succ _)) (Nat.le_succ _)) (Nat.le_succ _)) (Nat.le_succ _)) (Nat.le_succ _)) (Nat.le_succ _))
  generalize ((((((w2.setCell ⟨w.heap.size + 1, 0, none⟩ (.int .i64 1)).setCell ⟨w.heap.size + 1, 1, none⟩ (.bool o)).setCell ⟨w.heap.size + 1, 2, none⟩ (.int .u8 l)).setCell ⟨w.heap.size + 1, 3, none⟩ (.int .u8 h)).setCell ⟨w.heap.size + 1, 4, none⟩ (.int .u8 r)).setCell ⟨w.heap.size + 1, 5, none⟩ (.bool ((Go.bits .and .u8 v 1) == 1))) = Y at q1 q2 ⊢
  have u0 : Y.cell? ⟨w.heap.size + 1, 0, none⟩ = some (.int .i64 1) := (blk_cell q1 0).trans rfl
  have u1 : Y.cell? ⟨w.heap.size + 1, 1, none⟩ = some (.bool o) := (blk_cell q1 1).trans rfl
  have u2 : Y.cell? ⟨w.heap.size + 1, 2, none⟩ = some (.int .u8 l) := (blk_cell q1 2).trans rfl
  have u3 : Y.cell? ⟨w.heap.size + 1, 3, none⟩ = some (.int .u8 h) := (blk_cell q1 3).trans rfl
  have u4 : Y.cell? ⟨w.heap.size + 1, 4, none⟩ = some (.int .u8 r) := (blk_cell q1 4).trans rfl
  have u5 : Y.cell? ⟨w.heap.size + 1, 5, none⟩ = some (.bool ((Go.bits .and .u8 v 1) == 1)) := (blk_cell q1 5).trans rfl
  exact bodyPost_ret (v := .agg #[.int .i64 1, .bool o, .int .u8 l, .int .u8 h, .int .u8 r, .bool ((Go.bits .and .u8 v 1) == 1)]) (by simp [results, Try.results41, go_sem, u0, u1, u2, u3, u4, u5]) rfl ⟨rfl, q2⟩
set_option maxRecDepth 100000 in
set_option maxHeartbeats 400000 in
theorem wr_first_no (k : Int) (o : Bool) (l h r : Int) (md : Bool) (a v : Int) (h0 : ¬ wrap64 (Int.tdiv (IntKind.i64.wrap (a / 4096)) 2) = 0) (h1 : ¬ wrap64 (Int.tdiv (IntKind.i64.wrap (a / 4096)) 2) = 1) (h2 : ¬ wrap64 (Int.tdiv (IntKind.i64.wrap (a / 4096)) 2) = 2) (h3 : ¬ wrap64 (Int.tdiv (IntKind.i64.wrap (a / 4096)) 2) = 3) (ha : ¬ a ≥ 32768) (w : World) :
    Calls Try.prog 41 #[.agg #[.int .i64 1, .bool o, .int .u8 l, .int .u8 h, .int .u8 r, .bool md], .int .u16 a, .int .u8 v] w fun e' w' => e' = .returned (.agg #[.int .i64 1, .bool o, .int .u8 l, .int .u8 h, .int .u8 r, .bool md]) ∧ Below w.heap.size w w' := by
  go_enter Try.func41, Try.ntmps41
  go_wp2
  have bk := blk_alloc (blk_new w (.cells #[.int .i64 1, .bool o, .int .u8 l, .int .u8 h, .int .u8 r, .bool md] 32)) (.cells #[.int .i64 0, .bool false, .int .u8 0, .int .u8 0, .int .u8 0, .bool false] 32)
  have br := blk_at1 w (.cells #[.int .i64 1, .bool o, .int .u8 l, .int .u8 h, .int .u8 r, .bool md] 32) (.cells #[.int .i64 0, .bool false, .int .u8 0, .int .u8 0, .int .u8 0, .bool false] 32)
  have hB := below_alloc (below_alloc (Below.refl w.heap.size w) (.cells #[.int .i64 1, .bool o, .int .u8 l, .int .u8 h, .int .u8 r, .bool md] 32)) (.cells #[.int .i64 0, .bool false, .int .u8 0, .int .u8 0, .int .u8 0, .bool false] 32)
  generalize (w.alloc (.cells #[.int .i64 1, .bool o, .int .u8 l, .int .u8 h, .int .u8 r, .bool md] 32)).alloc (.cells #[.int .i64 0, .bool false, .int .u8 0, .int .u8 0, .int .u8 0, .bool false] 32) = W at bk br hB ⊢
  have BK := Aside0.mk bk
  have BR := Aside0.mk br
  have HB := Aside0.mk hB
  clear bk br hB
  have c0 : W.cell? ⟨w.heap.size, 0, none⟩ = some (.int .i64 1) := (blk_cell BK.out 0).trans rfl
  have c1 : W.cell? ⟨w.heap.size, 1, none⟩ = some (.bool o) := (blk_cell BK.out 1).trans rfl
  have c2 : W.cell? ⟨w.heap.size, 2, none⟩ = some (.int .u8 l) := (blk_cell BK.out 2).trans rfl
  have c3 : W.cell? ⟨w.heap.size, 3, none⟩ = some (.int .u8 h) := (blk_cell BK.out 3).trans rfl
  have c4 : W.cell? ⟨w.heap.size, 4, none⟩ = some (.int .u8 r) := (blk_cell BK.out 4).trans rfl
  have c5 : W.cell? ⟨w.heap.size, 5, none⟩ = some (.bool md) := (blk_cell BK.out 5).trans rfl
  have z0 : W.cell? ⟨w.heap.size + 1, 0, none⟩ = some (.int .i64 0) := (blk_cell BR.out 0).trans rfl
  have z1 : W.cell? ⟨w.heap.size + 1, 1, none⟩ = some (.bool false) := (blk_cell BR.out 1).trans rfl
  have z2 : W.cell? ⟨w.heap.size + 1, 2, none⟩ = some (.int .u8 0) := (blk_cell BR.out 2).trans rfl
  have z3 : W.cell? ⟨w.heap.size + 1, 3, none⟩ = some (.int .u8 0) := (blk_cell BR.out 3).trans rfl
  have z4 : W.cell? ⟨w.heap.size + 1, 4, none⟩ = some (.int .u8 0) := (blk_cell BR.out 4).trans rfl
  have z5 : W.cell? ⟨w.heap.size + 1, 5, none⟩ = some (.bool false) := (blk_cell BR.out 5).trans rfl
  have fr := fun i => blk_frozen BR.out i
  go_region_held3 (fun w' => w'.cell? ⟨w.heap.size, 0, none⟩ = some (.int .i64 1) ∧ w'.cell? ⟨w.heap.size, 1, none⟩ = some (.bool o) ∧ w'.cell? ⟨w.heap.size, 2, none⟩ = some (.int .u8 l) ∧ w'.cell? ⟨w.heap.size, 3, none⟩ = some (.int .u8 h) ∧ w'.cell? ⟨w.heap.size, 4, none⟩ = some (.int .u8 r) ∧ w'.cell? ⟨w.heap.size, 5, none⟩ = some (.bool md)) (go_keep)
    (first | (go_at_call 68; ((with_reducible refine (of1 _).mono ?_)); rintro e' w2 ⟨rfl, rfl⟩)
           | (go_at_call 98; ((with_reducible refine (write_first_no 1 (IntKind.i64.wrap (a / 4096)) v o l h r md h0 h1 h2 h3 _).mono ?_)); rintro e' w2 ⟨rfl, hb⟩; have n0 := Aside0.mk (blk_below (blk_drew BK.out) hb); have m0 := Aside0.mk (blk_below (blk_drew BR.out) hb); have n1 := Aside0.mk (below_step (below_drew1 HB.out) hb); clear hb; have d0 : w2.cell? ⟨w.heap.size, 0, none⟩ = some (.int .i64 1) := (blk_cell n0.out 0).trans rfl; have d1 : w2.cell? ⟨w.heap.size, 1, none⟩ = some (.bool o) := (blk_cell n0.out 1).trans rfl; have d2 : w2.cell? ⟨w.heap.size, 2, none⟩ = some (.int .u8 l) := (blk_cell n0.out 2).trans rfl; have d3 : w2.cell? ⟨w.heap.size, 3, none⟩ = some (.int .u8 h) := (blk_cell n0.out 3).trans rfl; have d4 : w2.cell? ⟨w.heap.size, 4, none⟩ = some (.int .u8 r) := (blk_cell n0.out 4).trans rfl; have d5 : w2.cell? ⟨w.heap.size, 5, none⟩ = some (.bool md) := (blk_cell n0.out 5).trans rfl; have y0 : w2.cell? ⟨w.heap.size + 1, 0, none⟩ = some (.int .i64 0) := (blk_cell m0.out 0).trans rfl; have y1 : w2.cell? ⟨w.heap.size + 1, 1, none⟩ = some (.bool false) := (blk_cell m0.out 1).trans rfl; have y2 : w2.cell? ⟨w.heap.size + 1, 2, none⟩ = some (.int .u8 0) := (blk_cell m0.out 2).trans rfl; have y3 : w2.cell? ⟨w.heap.size + 1, 3, none⟩ = some (.int .u8 0) := (blk_cell m0.out 3).trans rfl; have y4 : w2.cell? ⟨w.heap.size + 1, 4, none⟩ = some (.int .u8 0) := (blk_cell m0.out 4).trans rfl; have y5 : w2.cell? ⟨w.heap.size + 1, 5, none⟩ = some (.bool false) := (blk_cell m0.out 5).trans rfl; have fy := fun i => blk_frozen m0.out i))
  rename_i hHeld
  clear hHeld
  go_wp2
  have q1 : ((((((w2.setCell ⟨w.heap.size + 1, 0, none⟩ (.int .i64 1)).setCell ⟨w.heap.size + 1, 1, none⟩ (.bool o)).setCell ⟨w.heap.size + 1, 2, none⟩ (.int .u8 l)).setCell ⟨w.heap.size + 1, 3, none⟩ (.int .u8 h)).setCell ⟨w.heap.size + 1, 4, none⟩ (.int .u8 r)).setCell ⟨w.heap.size + 1, 5, none⟩ (.bool md)).heap[w.heap.size + 1]? = some (.cells #[.int .i64 1, .bool o, .int .u8 l, .int .u8 h, .int .u8 r, .bool md] 32 (0, 0)) := (blk_put (blk_put (blk_put (blk_put (blk_put (blk_put m0.out 0 _ rfl) 1 _ rfl) 2 _ rfl) 3 _ rfl) 4 _ rfl) 5 _ rfl)
  have q2 : Below w.heap.size w ((((((w2.setCell ⟨w.heap.size + 1, 0, none⟩ (.int .i64 1)).setCell ⟨w.heap.size + 1, 1, none⟩ (.bool o)).setCell ⟨w.heap.size + 1, 2, none⟩ (.int .u8 l)).setCell ⟨w.heap.size + 1, 3, none⟩ (.int .u8 h)).setCell ⟨w.heap.size + 1, 4, none⟩ (.int .u8 r)).setCell ⟨w.heap.size + 1, 5, none⟩ (.bool md)) := (below_set (below_set (below_set (below_set (below_set (below_set n1.out (Nat.le_succ _)) (Nat.le_succ _)) (Nat.le_succ _)) (Nat.le_succ _)) (Nat.le_succ _)) (Nat.le_succ _))
  generalize ((((((w2.setCell ⟨w.heap.size + 1, 0, none⟩ (.int .i64 1)).setCell ⟨w.heap.size + 1, 1, none⟩ (.bool o)).setCell ⟨w.heap.size + 1, 2, none⟩ (.int .u8 l)).setCell ⟨w.heap.size + 1, 3, none⟩ (.int .u8 h)).setCell ⟨w.heap.size + 1, 4, none⟩ (.int .u8 r)).setCell ⟨w.heap.size + 1, 5, none⟩ (.bool md)) = Y at q1 q2 ⊢
  have u0 : Y.cell? ⟨w.heap.size + 1, 0, none⟩ = some (.int .i64 1) := (blk_cell q1 0).trans rfl
  have u1 : Y.cell? ⟨w.heap.size + 1, 1, none⟩ = some (.bool o) := (blk_cell q1 1).trans rfl
  have u2 : Y.cell? ⟨w.heap.size + 1, 2, none⟩ = some (.int .u8 l) := (blk_cell q1 2).trans rfl
  have u3 : Y.cell? ⟨w.heap.size + 1, 3, none⟩ = some (.int .u8 h) := (blk_cell q1 3).trans rfl
  have u4 : Y.cell? ⟨w.heap.size + 1, 4, none⟩ = some (.int .u8 r) := (blk_cell q1 4).trans rfl
  have u5 : Y.cell? ⟨w.heap.size + 1, 5, none⟩ = some (.bool md) := (blk_cell q1 5).trans rfl
  exact bodyPost_ret (v := .agg #[.int .i64 1, .bool o, .int .u8 l, .int .u8 h, .int .u8 r, .bool md]) (by simp [results, Try.results41, go_sem, u0, u1, u2, u3, u4, u5]) rfl ⟨rfl, q2⟩
set_option maxRecDepth 100000 in
set_option maxHeartbeats 400000 in
theorem wr_third0 (k : Int) (o : Bool) (l h r : Int) (md : Bool) (a v : Int) (hp : wrap64 (Int.tdiv (IntKind.i64.wrap (a / 4096)) 2) = 0) (ha : ¬ a ≥ 32768) (w : World) :
    Calls Try.prog 41 #[.agg #[.int .i64 3, .bool o, .int .u8 l, .int .u8 h, .int .u8 r, .bool md], .int .u16 a, .int .u8 v] w fun e' w' => e' = .returned (.agg #[.int .i64 3, .bool ((Go.bits .and .u8 v 15) == 10), .int .u8 l, .int .u8 h, .int .u8 r, .bool md]) ∧ Below w.heap.size w w' := by
  go_enter Try.func41, Try.ntmps41
  go_wp2
  have bk := blk_alloc (blk_new w (.cells #[.int .i64 3, .bool o, .int .u8 l, .int .u8 h, .int .u8 r, .bool md] 32)) (.cells #[.int .i64 0, .bool false, .int .u8 0, .int .u8 0, .int .u8 0, .bool false] 32)
  have br := blk_at1 w (.cells #[.int .i64 3, .bool o, .int .u8 l, .int .u8 h, .int .u8 r, .bool md] 32) (.cells #[.int .i64 0, .bool false, .int .u8 0, .int .u8 0, .int .u8 0, .bool false] 32)
  have hB := below_alloc (below_alloc (Below.refl w.heap.size w) (.cells #[.int .i64 3, .bool o, .int .u8 l, .int .u8 h, .int .u8 r, .bool md] 32)) (.cells #[.int .i64 0, .bool false, .int .u8 0, .int .u8 0, .int .u8 0, .bool false] 32)
  generalize (w.alloc (.cells #[.int .i64 3, .bool o, .int .u8 l, .int .u8 h, .int .u8 r, .bool md] 32)).alloc (.cells #[.int .i64 0, .bool false, .int .u8 0, .int .u8 0, .int .u8 0, .bool false] 32) = W at bk br hB ⊢
  have BK := Aside0.mk bk
  have BR := Aside0.mk br
  have HB := Aside0.mk hB
  clear bk br hB
  have c0 : W.cell? ⟨w.heap.size, 0, none⟩ = some (.int .i64 3) := (blk_cell BK.out 0).trans rfl
  have c1 : W.cell? ⟨w.heap.size, 1, none⟩ = some (.bool o) := (blk_cell BK.out 1).trans rfl
  have c2 : W.cell? ⟨w.heap.size, 2, none⟩ = some (.int .u8 l) := (blk_cell BK.out 2).trans rfl
  have c3 : W.cell? ⟨w.heap.size, 3, none⟩ = some (.int .u8 h) := (blk_cell BK.out 3).trans rfl
  have c4 : W.cell? ⟨w.heap.size, 4, none⟩ = some (.int .u8 r) := (blk_cell BK.out 4).trans rfl
  have c5 : W.cell? ⟨w.heap.size, 5, none⟩ = some (.bool md) := (blk_cell BK.out 5).trans rfl
  have z0 : W.cell? ⟨w.heap.size + 1, 0, none⟩ = some (.int .i64 0) := (blk_cell BR.out 0).trans rfl
  have z1 : W.cell? ⟨w.heap.size + 1, 1, none⟩ = some (.bool false) := (blk_cell BR.out 1).trans rfl
  have z2 : W.cell? ⟨w.heap.size + 1, 2, none⟩ = some (.int .u8 0) := (blk_cell BR.out 2).trans rfl
  have z3 : W.cell? ⟨w.heap.size + 1, 3, none⟩ = some (.int .u8 0) := (blk_cell BR.out 3).trans rfl
  have z4 : W.cell? ⟨w.heap.size + 1, 4, none⟩ = some (.int .u8 0) := (blk_cell BR.out 4).trans rfl
  have z5 : W.cell? ⟨w.heap.size + 1, 5, none⟩ = some (.bool false) := (blk_cell BR.out 5).trans rfl
  have fr := fun i => blk_frozen BR.out i
  go_region_held3 (fun w' => w'.cell? ⟨w.heap.size, 0, none⟩ = some (.int .i64 3) ∧ w'.cell? ⟨w.heap.size, 1, none⟩ = some (.bool o) ∧ w'.cell? ⟨w.heap.size, 2, none⟩ = some (.int .u8 l) ∧ w'.cell? ⟨w.heap.size, 3, none⟩ = some (.int .u8 h) ∧ w'.cell? ⟨w.heap.size, 4, none⟩ = some (.int .u8 r) ∧ w'.cell? ⟨w.heap.size, 5, none⟩ = some (.bool md)) (go_keep)
    (first | (go_at_call 68; ((with_reducible refine (of3 _).mono ?_)); rintro e' w2 ⟨rfl, rfl⟩)
           | (go_at_call 104; ((with_reducible refine (write_third0 3 (IntKind.i64.wrap (a / 4096)) v o l h r md hp _).mono ?_)); rintro e' w2 ⟨rfl, hb⟩; have n0 := Aside0.mk (blk_below (blk_drew BK.out) hb); have m0 := Aside0.mk (blk_below (blk_drew BR.out) hb); have n1 := Aside0.mk (below_step (below_drew1 HB.out) hb); clear hb; have d0 : w2.cell? ⟨w.heap.size, 0, none⟩ = some (.int .i64 3) := (blk_cell n0.out 0).trans rfl; have d1 : w2.cell? ⟨w.heap.size, 1, none⟩ = some (.bool o) := (blk_cell n0.out 1).trans rfl; have d2 : w2.cell? ⟨w.heap.size, 2, none⟩ = some (.int .u8 l) := (blk_cell n0.out 2).trans rfl; have d3 : w2.cell? ⟨w.heap.size, 3, none⟩ = some (.int .u8 h) := (blk_cell n0.out 3).trans rfl; have d4 : w2.cell? ⟨w.heap.size, 4, none⟩ = some (.int .u8 r) := (blk_cell n0.out 4).trans rfl; have d5 : w2.cell? ⟨w.heap.size, 5, none⟩ = some (.bool md) := (blk_cell n0.out 5).trans rfl; have y0 : w2.cell? ⟨w.heap.size + 1, 0, none⟩ = some (.int .i64 0) := (blk_cell m0.out 0).trans rfl; have y1 : w2.cell? ⟨w.heap.size + 1, 1, none⟩ = some (.bool false) := (blk_cell m0.out 1).trans rfl; have y2 : w2.cell? ⟨w.heap.size + 1, 2, none⟩ = some (.int .u8 0) := (blk_cell m0.out 2).trans rfl; have y3 : w2.cell? ⟨w.heap.size + 1, 3, none⟩ = some (.int .u8 0) := (blk_cell m0.out 3).trans rfl; have y4 : w2.cell? ⟨w.heap.size + 1, 4, none⟩ = some (.int .u8 0) := (blk_cell m0.out 4).trans rfl; have y5 : w2.cell? ⟨w.heap.size + 1, 5, none⟩ = some (.bool false) := (blk_cell m0.out 5).trans rfl; have fy := fun i => blk_frozen m0.out i))
  rename_i hHeld
  clear hHeld
  go_wp2
  have q1 : ((((((w2.setCell ⟨w.heap.size + 1, 0, none⟩ (.int .i64 3)).setCell ⟨w.heap.size + 1, 1, none⟩ (.bool ((Go.bits .and .u8 v 15) == 10))).setCell ⟨w.heap.size + 1, 2, none⟩ (.int .u8 l)).setCell ⟨w.heap.size + 1, 3, none⟩ (.int .u8 h)).setCell ⟨w.heap.size + 1, 4, none⟩ (.int .u8 r)).setCell ⟨w.heap.size + 1, 5, none⟩ (.bool md)).heap[w.heap.size + 1]? = some (.cells #[.int .i64 3, .bool ((Go.bits .and .u8 v 15) == 10), .int .u8 l, .int .u8 h, .int .u8 r, .bool md] 32 (0, 0)) := (blk_put (blk_put (blk_put (blk_put (blk_put (blk_put m0.out 0 _ rfl) 1 _ rfl) 2 _ rfl) 3 _ rfl) 4 _ rfl) 5 _ rfl)
  have q2 : Below w.heap.size w ((((((w2.setCell ⟨w.heap.size + 1, 0, none⟩ (.int .i64 3)).setCell ⟨w.heap.size + 1, 1, none⟩ (.bool ((Go.bits .and .u8 v 15) == 10))).setCell ⟨w.heap.size + 1, 2, none⟩ (.int .u8 l)).setCell ⟨w.heap.size + 1, 3, none⟩ (.int .u8 h)).setCell ⟨w.heap.size + 1, 4, none⟩ (.int .u8 r)).setCell ⟨w.heap.size + 1, 5, none⟩ (.bool md)) := (below_set (below_set (below_set (below_set (below_set (below_set n1.out (Nat.le_succ _)) (Nat.le_succ _)) (Nat.le_succ _)) (Nat.le_succ _)) (Nat.le_succ _)) (Nat.le_succ _))
  generalize ((((((w2.setCell ⟨w.heap.size + 1, 0, none⟩ (.int .i64 3)).setCell ⟨w.heap.size + 1, 1, none⟩ (.bool ((Go.bits .and .u8 v 15) == 10))).setCell ⟨w.heap.size + 1, 2, none⟩ (.int .u8 l)).setCell ⟨w.heap.size + 1, 3, none⟩ (.int .u8 h)).setCell ⟨w.heap.size + 1, 4, none⟩ (.int .u8 r)).setCell ⟨w.heap.size + 1, 5, none⟩ (.bool md)) = Y at q1 q2 ⊢
  have u0 : Y.cell? ⟨w.heap.size + 1, 0, none⟩ = some (.int .i64 3) := (blk_cell q1 0).trans rfl
  have u1 : Y.cell? ⟨w.heap.size + 1, 1, none⟩ = some (.bool ((Go.bits .and .u8 v 15) == 10)) := (blk_cell q1 1).trans rfl
  have u2 : Y.cell? ⟨w.heap.size + 1, 2, none⟩ = some (.int .u8 l) := (blk_cell q1 2).trans rfl
  have u3 : Y.cell? ⟨w.heap.size + 1, 3, none⟩ = some (.int .u8 h) := (blk_cell q1 3).trans rfl
  have u4 : Y.cell? ⟨w.heap.size + 1, 4, none⟩ = some (.int .u8 r) := (blk_cell q1 4).trans rfl
  have u5 : Y.cell? ⟨w.heap.size + 1, 5, none⟩ = some (.bool md) := (blk_cell q1 5).trans rfl
  exact bodyPost_ret (v := .agg #[.int .i64 3, .bool ((Go.bits .and .u8 v 15) == 10), .int .u8 l, .int .u8 h, .int .u8 r, .bool md]) (by simp [results, Try.results41, go_sem, u0, u1, u2, u3, u4, u5]) rfl ⟨rfl, q2⟩
set_option maxRecDepth 100000 in
set_option maxHeartbeats 400000 in
theorem wr_third1 (k : Int) (o : Bool) (l h r : Int) (md : Bool) (a v : Int) (hp : wrap64 (Int.tdiv (IntKind.i64.wrap (a / 4096)) 2) = 1) (ha : ¬ a ≥ 32768) (w : World) :
    Calls Try.prog 41 #[.agg #[.int .i64 3, .bool o, .int .u8 l, .int .u8 h, .int .u8 r, .bool md], .int .u16 a, .int .u8 v] w fun e' w' => e' = .returned (.agg #[.int .i64 3, .bool o, .int .u8 (Go.bits .and .u8 v 127), .int .u8 h, .int .u8 r, .bool md]) ∧ Below w.heap.size w w' := by
  go_enter Try.func41, Try.ntmps41
  go_wp2
  have bk := blk_alloc (blk_new w (.cells #[.int .i64 3, .bool o, .int .u8 l, .int .u8 h, .int .u8 r, .bool md] 32)) (.cells #[.int .i64 0, .bool false, .int .u8 0, .int .u8 0, .int .u8 0, .bool false] 32)
  have br := blk_at1 w (.cells #[.int .i64 3, .bool o, .int .u8 l, .int .u8 h, .int .u8 r, .bool md] 32) (.cells #[.int .i64 0, .bool false, .int .u8 0, .int .u8 0, .int .u8 0, .bool false] 32)
  have hB := below_alloc (below_alloc (Below.refl w.heap.size w) (.cells #[.int .i64 3, .bool o, .int .u8 l, .int .u8 h, .int .u8 r, .bool md] 32)) (.cells #[.int .i64 0, .bool false, .int .u8 0, .int .u8 0, .int .u8 0, .bool false] 32)
  generalize (w.alloc (.cells #[.int .i64 3, .bool o, .int .u8 l, .int .u8 h, .int .u8 r, .bool md] 32)).alloc (.cells #[.int .i64 0, .bool false, .int .u8 0, .int .u8 0, .int .u8 0, .bool false] 32) = W at bk br hB ⊢
  have BK := Aside0.mk bk
  have BR := Aside0.mk br
  have HB := Aside0.mk hB
  clear bk br hB
  have c0 : W.cell? ⟨w.heap.size, 0, none⟩ = some (.int .i64 3) := (blk_cell BK.out 0).trans rfl
  have c1 : W.cell? ⟨w.heap.size, 1, none⟩ = some (.bool o) := (blk_cell BK.out 1).trans rfl
  have c2 : W.cell? ⟨w.heap.size, 2, none⟩ = some (.int .u8 l) := (blk_cell BK.out 2).trans rfl
  have c3 : W.cell? ⟨w.heap.size, 3, none⟩ = some (.int .u8 h) := (blk_cell BK.out 3).trans rfl
  have c4 : W.cell? ⟨w.heap.size, 4, none⟩ = some (.int .u8 r) := (blk_cell BK.out 4).trans rfl
  have c5 : W.cell? ⟨w.heap.size, 5, none⟩ = some (.bool md) := (blk_cell BK.out 5).trans rfl
  have z0 : W.cell? ⟨w.heap.size + 1, 0, none⟩ = some (.int .i64 0) := (blk_cell BR.out 0).trans rfl
  have z1 : W.cell? ⟨w.heap.size + 1, 1, none⟩ = some (.bool false) := (blk_cell BR.out 1).trans rfl
  have z2 : W.cell? ⟨w.heap.size + 1, 2, none⟩ = some (.int .u8 0) := (blk_cell BR.out 2).trans rfl
  have z3 : W.cell? ⟨w.heap.size + 1, 3, none⟩ = some (.int .u8 0) := (blk_cell BR.out 3).trans rfl
  have z4 : W.cell? ⟨w.heap.size + 1, 4, none⟩ = some (.int .u8 0) := (blk_cell BR.out 4).trans rfl
  have z5 : W.cell? ⟨w.heap.size + 1, 5, none⟩ = some (.bool false) := (blk_cell BR.out 5).trans rfl
  have fr := fun i => blk_frozen BR.out i
  go_region_held3 (fun w' => w'.cell? ⟨w.heap.size, 0, none⟩ = some (.int .i64 3) ∧ w'.cell? ⟨w.heap.size, 1, none⟩ = some (.bool o) ∧ w'.cell? ⟨w.heap.size, 2, none⟩ = some (.int .u8 l) ∧ w'.cell? ⟨w.heap.size, 3, none⟩ = some (.int .u8 h) ∧ w'.cell? ⟨w.heap.size, 4, none⟩ = some (.int .u8 r) ∧ w'.cell? ⟨w.heap.size, 5, none⟩ = some (.bool md)) (go_keep)
    (first | (go_at_call 68; ((with_reducible refine (of3 _).mono ?_)); rintro e' w2 ⟨rfl, rfl⟩)
           | (go_at_call 104; ((with_reducible refine (write_third1 3 (IntKind.i64.wrap (a / 4096)) v o l h r md hp _).mono ?_)); rintro e' w2 ⟨rfl, hb⟩; have n0 := Aside0.mk (blk_below (blk_drew BK.out) hb); have m0 := Aside0.mk (blk_below (blk_drew BR.out) hb); have n1 := Aside0.mk (below_step (below_drew1 HB.out) hb); clear hb; have d0 : w2.cell? ⟨w.heap.size, 0, none⟩ = some (.int .i64 3) := (blk_cell n0.out 0).trans rfl; have d1 : w2.cell? ⟨w.heap.size, 1, none⟩ = some (.bool o) := (blk_cell n0.out 1).trans rfl; have d2 : w2.cell? ⟨w.heap.size, 2, none⟩ = some (.int .u8 l) := (blk_cell n0.out 2).trans rfl; have d3 : w2.cell? ⟨w.heap.size, 3, none⟩ = some (.int .u8 h) := (blk_cell n0.out 3).trans rfl; have d4 : w2.cell? ⟨w.heap.size, 4, none⟩ = some (.int .u8 r) := (blk_cell n0.out 4).trans rfl; have d5 : w2.cell? ⟨w.heap.size, 5, none⟩ = some (.bool md) := (blk_cell n0.out 5).trans rfl; have y0 : w2.cell? ⟨w.heap.size + 1, 0, none⟩ = some (.int .i64 0) := (blk_cell m0.out 0).trans rfl; have y1 : w2.cell? ⟨w.heap.size + 1, 1, none⟩ = some (.bool false) := (blk_cell m0.out 1).trans rfl; have y2 : w2.cell? ⟨w.heap.size + 1, 2, none⟩ = some (.int .u8 0) := (blk_cell m0.out 2).trans rfl; have y3 : w2.cell? ⟨w.heap.size + 1, 3, none⟩ = some (.int .u8 0) := (blk_cell m0.out 3).trans rfl; have y4 : w2.cell? ⟨w.heap.size + 1, 4, none⟩ = some (.int .u8 0) := (blk_cell m0.out 4).trans rfl; have y5 : w2.cell? ⟨w.heap.size + 1, 5, none⟩ = some (.bool false) := (blk_cell m0.out 5).trans rfl; have fy := fun i => blk_frozen m0.out i))
  rename_i hHeld
  clear hHeld
  go_wp2
  have q1 : ((((((w2.setCell ⟨w.heap.size + 1, 0, none⟩ (.int .i64 3)).setCell ⟨w.heap.size + 1, 1, none⟩ (.bool o)).setCell ⟨w.heap.size + 1, 2, none⟩ (.int .u8 (Go.bits .and .u8 v 127))).setCell ⟨w.heap.size + 1, 3, none⟩ (.int .u8 h)).setCell ⟨w.heap.size + 1, 4, none⟩ (.int .u8 r)).setCell ⟨w.heap.size + 1, 5, none⟩ (.bool md)).heap[w.heap.size + 1]? = some (.cells #[.int .i64 3, .bool o, .int .u8 (Go.bits .and .u8 v 127), .int .u8 h, .int .u8 r, .bool md] 32 (0, 0)) := (blk_put (blk_put (blk_put (blk_put (blk_put (blk_put m0.out 0 _ rfl) 1 _ rfl) 2 _ rfl) 3 _ rfl) 4 _ rfl) 5 _ rfl)
  have q2 : Below w.heap.size w ((((((w2.setCell ⟨w.heap.size + 1, 0, none⟩ (.int .i64 3)).setCell ⟨w.heap.size + 1, 1, none⟩ (.bool o)).setCell ⟨w.heap.size + 1, 2, none⟩ (.int .u8 (Go.bits .and .u8 v 127))).setCell ⟨w.heap.size + 1, 3, none⟩ (.int .u8 h)).setCell ⟨w.heap.size + 1, 4, none⟩ (.int .u8 r)).setCell ⟨w.heap.size + 1, 5, none⟩ (.bool md)) := (below_set (below_set (below_set (below_set (below_set (below_set n1.out (Nat.le_succ _)) (Nat.le_succ _)) (Nat.le_succ _)) (Nat.le_succ _)) (Nat.le_succ _)) (Nat.le_succ _))
  generalize ((((((w2.setCell ⟨w.heap.size + 1, 0, none⟩ (.int .i64 3)).setCell ⟨w.heap.size + 1, 1, none⟩ (.bool o)).setCell ⟨w.heap.size + 1, 2, none⟩ (.int .u8 (Go.bits .and .u8 v 127))).setCell ⟨w.heap.size + 1, 3, none⟩ (.int .u8 h)).setCell ⟨w.heap.size + 1, 4, none⟩ (.int .u8 r)).setCell ⟨w.heap.size + 1, 5, none⟩ (.bool md)) = Y at q1 q2 ⊢
  have u0 : Y.cell? ⟨w.heap.size + 1, 0, none⟩ = some (.int .i64 3) := (blk_cell q1 0).trans rfl
  have u1 : Y.cell? ⟨w.heap.size + 1, 1, none⟩ = some (.bool o) := (blk_cell q1 1).trans rfl
  have u2 : Y.cell? ⟨w.heap.size + 1, 2, none⟩ = some (.int .u8 (Go.bits .and .u8 v 127)) := (blk_cell q1 2).trans rfl
  have u3 : Y.cell? ⟨w.heap.size + 1, 3, none⟩ = some (.int .u8 h) := (blk_cell q1 3).trans rfl
  have u4 : Y.cell? ⟨w.heap.size + 1, 4, none⟩ = some (.int .u8 r) := (blk_cell q1 4).trans rfl
  have u5 : Y.cell? ⟨w.heap.size + 1, 5, none⟩ = some (.bool md) := (blk_cell q1 5).trans rfl
  exact bodyPost_ret (v := .agg #[.int .i64 3, .bool o, .int .u8 (Go.bits .and .u8 v 127), .int .u8 h, .int .u8 r, .bool md]) (by simp [results, Try.results41, go_sem, u0, u1, u2, u3, u4, u5]) rfl ⟨rfl, q2⟩
set_option maxRecDepth 100000 in
set_option maxHeartbeats 400000 in
theorem wr_third2 (k : Int) (o : Bool) (l h r : Int) (md : Bool) (a v : Int) (hp : wrap64 (Int.tdiv (IntKind.i64.wrap (a / 4096)) 2) = 2) (ha : ¬ a ≥ 32768) (w : World) :
    Calls Try.prog 41 #[.agg #[.int .i64 3, .bool o, .int .u8 l, .int .u8 h, .int .u8 r, .bool md], .int .u16 a, .int .u8 v] w fun e' w' => e' = .returned (.agg #[.int .i64 3, .bool o, .int .u8 l, .int .u8 h, .int .u8 (Go.bits .and .u8 v 15), .bool md]) ∧ Below w.heap.size w w' := by
  go_enter Try.func41, Try.ntmps41
  go_wp2
  have bk := blk_alloc (blk_new w (.cells #[.int .i64 3, .bool o, .int .u8 l, .int .u8 h, .int .u8 r, .bool md] 32)) (.cells #[.int .i64 0, .bool false, .int .u8 0, .int .u8 0, .int .u8 0, .bool false] 32)
  have br := blk_at1 w (.cells #[.int .i64 3, .bool o, .int .u8 l, .int .u8 h, .int .u8 r, .bool md] 32) (.cells #[.int .i64 0, .bool false, .int .u8 0, .int .u8 0, .int .u8 0, .bool false] 32)
  have hB := below_alloc (below_alloc (Below.refl w.heap.size w) (.cells #[.int .i64 3, .bool o, .int .u8 l, .int .u8 h, .int .u8 r, .bool md] 32)) (.cells #[.int .i64 0, .bool false, .int .u8 0, .int .u8 0, .int .u8 0, .bool false] 32)
  generalize (w.alloc (.cells #[.int .i64 3, .bool o, .int .u8 l, .int .u8 h, .int .u8 r, .bool md] 32)).alloc (.cells #[.int .i64 0, .bool false, .int .u8 0, .int .u8 0, .int .u8 0, .bool false] 32) = W at bk br hB ⊢
  have BK := Aside0.mk bk
  have BR := Aside0.mk br
  have HB := Aside0.mk hB
  clear bk br hB
  have c0 : W.cell? ⟨w.heap.size, 0, none⟩ = some (.int .i64 3) := (blk_cell BK.out 0).trans rfl
  have c1 : W.cell? ⟨w.heap.size, 1, none⟩ = some (.bool o) := (blk_cell BK.out 1).trans rfl
  have c2 : W.cell? ⟨w.heap.size, 2, none⟩ = some (.int .u8 l) := (blk_cell BK.out 2).trans rfl
  have c3 : W.cell? ⟨w.heap.size, 3, none⟩ = some (.int .u8 h) := (blk_cell BK.out 3).trans rfl
  have c4 : W.cell? ⟨w.heap.size, 4, none⟩ = some (.int .u8 r) := (blk_cell BK.out 4).trans rfl
  have c5 : W.cell? ⟨w.heap.size, 5, none⟩ = some (.bool md) := (blk_cell BK.out 5).trans rfl
  have z0 : W.cell? ⟨w.heap.size + 1, 0, none⟩ = some (.int .i64 0) := (blk_cell BR.out 0).trans rfl
  have z1 : W.cell? ⟨w.heap.size + 1, 1, none⟩ = some (.bool false) := (blk_cell BR.out 1).trans rfl
  have z2 : W.cell? ⟨w.heap.size + 1, 2, none⟩ = some (.int .u8 0) := (blk_cell BR.out 2).trans rfl
  have z3 : W.cell? ⟨w.heap.size + 1, 3, none⟩ = some (.int .u8 0) := (blk_cell BR.out 3).trans rfl
  have z4 : W.cell? ⟨w.heap.size + 1, 4, none⟩ = some (.int .u8 0) := (blk_cell BR.out 4).trans rfl
  have z5 : W.cell? ⟨w.heap.size + 1, 5, none⟩ = some (.bool false) := (blk_cell BR.out 5).trans rfl
  have fr := fun i => blk_frozen BR.out i
  go_region_held3 (fun w' => w'.cell? ⟨w.heap.size, 0, none⟩ = some (.int .i64 3) ∧ w'.cell? ⟨w.heap.size, 1, none⟩ = some (.bool o) ∧ w'.cell? ⟨w.heap.size, 2, none⟩ = some (.int .u8 l) ∧ w'.cell? ⟨w.heap.size, 3, none⟩ = some (.int .u8 h) ∧ w'.cell? ⟨w.heap.size, 4, none⟩ = some (.int .u8 r) ∧ w'.cell? ⟨w.heap.size, 5, none⟩ = some (.bool md)) (go_keep)
    (first | (go_at_call 68; ((with_reducible refine (of3 _).mono ?_)); rintro e' w2 ⟨rfl, rfl⟩)
           | (go_at_call 104; ((with_reducible refine (write_third2 3 (IntKind.i64.wrap (a / 4096)) v o l h r md hp _).mono ?_)); rintro e' w2 ⟨rfl, hb⟩; have n0 := Aside0.mk (blk_below (blk_drew BK.out) hb); have m0 := Aside0.mk (blk_below (blk_drew BR.out) hb); have n1 := Aside0.mk (below_step (below_drew1 HB.out) hb); clear hb; have d0 : w2.cell? ⟨w.heap.size, 0, none⟩ = some (.int .i64 3) := (blk_cell n0.out 0).trans rfl; have d1 : w2.cell? ⟨w.heap.size, 1, none⟩ = some (.bool o) := (blk_cell n0.out 1).trans rfl; have d2 : w2.cell? ⟨w.heap.size, 2, none⟩ = some (.int .u8 l) := (blk_cell n0.out 2).trans rfl; have d3 : w2.cell? ⟨w.heap.size, 3, none⟩ = some (.int .u8 h) := (blk_cell n0.out 3).trans rfl; have d4 : w2.cell? ⟨w.heap.size, 4, none⟩ = some (.int .u8 r) := (blk_cell n0.out 4).trans rfl; have d5 : w2.cell? ⟨w.heap.size, 5, none⟩ = some (.bool md) := (blk_cell n0.out 5).trans rfl; have y0 : w2.cell? ⟨w.heap.size + 1, 0, none⟩ = some (.int .i64 0) := (blk_cell m0.out 0).trans rfl; have y1 : w2.cell? ⟨w.heap.size + 1, 1, none⟩ = some (.bool false) := (blk_cell m0.out 1).trans rfl; have y2 : w2.cell? ⟨w.heap.size + 1, 2, none⟩ = some (.int .u8 0) := (blk_cell m0.out 2).trans rfl; have y3 : w2.cell? ⟨w.heap.size + 1, 3, none⟩ = some (.int .u8 0) := (blk_cell m0.out 3).trans rfl; have y4 : w2.cell? ⟨w.heap.size + 1, 4, none⟩ = some (.int .u8 0) := (blk_cell m0.out 4).trans rfl; have y5 : w2.cell? ⟨w.heap.size + 1, 5, none⟩ = some (.bool false) := (blk_cell m0.out 5).trans rfl; have fy := fun i => blk_frozen m0.out i))
  rename_i hHeld
  clear hHeld
  go_wp2
  have q1 : ((((((w2.setCell ⟨w.heap.size + 1, 0, none⟩ (.int .i64 3)).setCell ⟨w.heap.size + 1, 1, none⟩ (.bool o)).setCell ⟨w.heap.size + 1, 2, none⟩ (.int .u8 l)).setCell ⟨w.heap.size + 1, 3, none⟩ (.int .u8 h)).setCell ⟨w.heap.size + 1, 4, none⟩ (.int .u8 (Go.bits .and .u8 v 15))).setCell ⟨w.heap.size + 1, 5, none⟩ (.bool md)).heap[w.heap.size + 1]? = some (.cells #[.int .i64 3, .bool o, .int .u8 l, .int .u8 h, .int .u8 (Go.bits .and .u8 v 15), .bool md] 32 (0, 0)) := (blk_put (blk_put (blk_put (blk_put (blk_put (blk_put m0.out 0 _ rfl) 1 _ rfl) 2 _ rfl) 3 _ rfl) 4 _ rfl) 5 _ rfl)
  have q2 : Below w.heap.size w ((((((w2.setCell ⟨w.heap.size + 1, 0, none⟩ (.int .i64 3)).setCell ⟨w.heap.size + 1, 1, none⟩ (.bool o)).setCell ⟨w.heap.size + 1, 2, none⟩ (.int .u8 l)).setCell ⟨w.heap.size + 1, 3, none⟩ (.int .u8 h)).setCell ⟨w.heap.size + 1, 4, none⟩ (.int .u8 (Go.bits .and .u8 v 15))).setCell ⟨w.heap.size + 1, 5, none⟩ (.bool md)) := (below_set (below_set (below_set (below_set (below_set (below_set n1.out (Nat.le_succ _)) (Nat.le_succ _)) (Nat.le_succ _)) (Nat.le_succ _)) (Nat.le_succ _)) (Nat.le_succ _))
  generalize ((((((w2.setCell ⟨w.heap.size + 1, 0, none⟩ (.int .i64 3)).setCell ⟨w.heap.size + 1, 1, none⟩ (.bool o)).setCell ⟨w.heap.size + 1, 2, none⟩ (.int .u8 l)).setCell ⟨w.heap.size + 1, 3, none⟩ (.int .u8 h)).setCell ⟨w.heap.size + 1, 4, none⟩ (.int .u8 (Go.bits .and .u8 v 15))).setCell ⟨w.heap.size + 1, 5, none⟩ (.bool md)) = Y at q1 q2 ⊢
  have u0 : Y.cell? ⟨w.heap.size + 1, 0, none⟩ = some (.int .i64 3) := (blk_cell q1 0).trans rfl
  have u1 : Y.cell? ⟨w.heap.size + 1, 1, none⟩ = some (.bool o) := (blk_cell q1 1).trans rfl
  have u2 : Y.cell? ⟨w.heap.size + 1, 2, none⟩ = some (.int .u8 l) := (blk_cell q1 2).trans rfl
  have u3 : Y.cell? ⟨w.heap.size + 1, 3, none⟩ = some (.int .u8 h) := (blk_cell q1 3).trans rfl
  have u4 : Y.cell? ⟨w.heap.size + 1, 4, none⟩ = some (.int .u8 (Go.bits .and .u8 v 15)) := (blk_cell q1 4).trans rfl
  have u5 : Y.cell? ⟨w.heap.size + 1, 5, none⟩ = some (.bool md) := (blk_cell q1 5).trans rfl
  exact bodyPost_ret (v := .agg #[.int .i64 3, .bool o, .int .u8 l, .int .u8 h, .int .u8 (Go.bits .and .u8 v 15), .bool md]) (by simp [results, Try.results41, go_sem, u0, u1, u2, u3, u4, u5]) rfl ⟨rfl, q2⟩
set_option maxRecDepth 100000 in
set_option maxHeartbeats 400000 in
theorem wr_third_no (k : Int) (o : Bool) (l h r : Int) (md : Bool) (a v : Int) (h0 : ¬ wrap64 (Int.tdiv (IntKind.i64.wrap (a / 4096)) 2) = 0) (h1 : ¬ wrap64 (Int.tdiv (IntKind.i64.wrap (a / 4096)) 2) = 1) (h2 : ¬ wrap64 (Int.tdiv (IntKind.i64.wrap (a / 4096)) 2) = 2) (ha : ¬ a ≥ 32768) (w : World) :
    Calls Try.prog 41 #[.agg #[.int .i64 3, .bool o, .int .u8 l, .int .u8 h, .int .u8 r, .bool md], .int .u16 a, .int .u8 v] w fun e' w' => e' = .returned (.agg #[.int .i64 3, .bool o, .int .u8 l, .int .u8 h, .int .u8 r, .bool md]) ∧ Below w.heap.size w w' := by
  go_enter Try.func41, Try.ntmps41
  go_wp2
  have bk := blk_alloc (blk_new w (.cells #[.int .i64 3, .bool o, .int .u8 l, .int .u8 h, .int .u8 r, .bool md] 32)) (.cells #[.int .i64 0, .bool false, .int .u8 0, .int .u8 0, .int .u8 0, .bool false] 32)
  have br := blk_at1 w (.cells #[.int .i64 3, .bool o, .int .u8 l, .int .u8 h, .int .u8 r, .bool md] 32) (.cells #[.int .i64 0, .bool false, .int .u8 0, .int .u8 0, .int .u8 0, .bool false] 32)
  have hB := below_alloc (below_alloc (Below.refl w.heap.size w) (.cells #[.int .i64 3, .bool o, .int .u8 l, .int .u8 h, .int .u8 r, .bool md] 32)) (.cells #[.int .i64 0, .bool false, .int .u8 0, .int .u8 0, .int .u8 0, .bool false] 32)
  generalize (w.alloc (.cells #[.int .i64 3, .bool o, .int .u8 l, .int .u8 h, .int .u8 r, .bool md] 32)).alloc (.cells #[.int .i64 0, .bool false, .int .u8 0, .int .u8 0, .int .u8 0, .bool false] 32) = W at bk br hB ⊢
  have BK := Aside0.mk bk
  have BR := Aside0.mk br
  have HB := Aside0.mk hB
  clear bk br hB
  have c0 : W.cell? ⟨w.heap.size, 0, none⟩ = some (.int .i64 3) := (blk_cell BK.out 0).trans rfl
  have c1 : W.cell? ⟨w.heap.size, 1, none⟩ = some (.bool o) := (blk_cell BK.out 1).trans rfl
  have c2 : W.cell? ⟨w.heap.size, 2, none⟩ = some (.int .u8 l) := (blk_cell BK.out 2).trans rfl
  have c3 : W.cell? ⟨w.heap.size, 3, none⟩ = some (.int .u8 h) := (blk_cell BK.out 3).trans rfl
  have c4 : W.cell? ⟨w.heap.size, 4, none⟩ = some (.int .u8 r) := (blk_cell BK.out 4).trans rfl
  have c5 : W.cell? ⟨w.heap.size, 5, none⟩ = some (.bool md) := (blk_cell BK.out 5).trans rfl
  have z0 : W.cell? ⟨w.heap.size + 1, 0, none⟩ = some (.int .i64 0) := (blk_cell BR.out 0).trans rfl
  have z1 : W.cell? ⟨w.heap.size + 1, 1, none⟩ = some (.bool false) := (blk_cell BR.out 1).trans rfl
  have z2 : W.cell? ⟨w.heap.size + 1, 2, none⟩ = some (.int .u8 0) := (blk_cell BR.out 2).trans rfl
  have z3 : W.cell? ⟨w.heap.size + 1, 3, none⟩ = some (.int .u8 0) := (blk_cell BR.out 3).trans rfl
  have z4 : W.cell? ⟨w.heap.size + 1, 4, none⟩ = some (.int .u8 0) := (blk_cell BR.out 4).trans rfl
  have z5 : W.cell? ⟨w.heap.size + 1, 5, none⟩ = some (.bool false) := (blk_cell BR.out 5).trans rfl
  have fr := fun i => blk_frozen BR.out i
  go_region_held3 (fun w' => w'.cell? ⟨w.heap.size, 0, none⟩ = some (.int .i64 3) ∧ w'.cell? ⟨w.heap.size, 1, none⟩ = some (.bool o) ∧ w'.cell? ⟨w.heap.size, 2, none⟩ = some (.int .u8 l) ∧ w'.cell? ⟨w.heap.size, 3, none⟩ = some (.int .u8 h) ∧ w'.cell? ⟨w.heap.size, 4, none⟩ = some (.int .u8 r) ∧ w'.cell? ⟨w.heap.size, 5, none⟩ = some (.bool md)) (go_keep)
    (first | (go_at_call 68; ((with_reducible refine (of3 _).mono ?_)); rintro e' w2 ⟨rfl, rfl⟩)
           | (go_at_call 104; ((with_reducible refine (write_third_no 3 (IntKind.i64.wrap (a / 4096)) v o l h r md h0 h1 h2 _).mono ?_)); rintro e' w2 ⟨rfl, hb⟩; have n0 := Aside0.mk (blk_below (blk_drew BK.out) hb); have m0 := Aside0.mk (blk_below (blk_drew BR.out) hb); have n1 := Aside0.mk (below_step (below_drew1 HB.out) hb); clear hb; have d0 : w2.cell? ⟨w.heap.size, 0, none⟩ = some (.int .i64 3) := (blk_cell n0.out 0).trans rfl; have d1 : w2.cell? ⟨w.heap.size, 1, none⟩ = some (.bool o) := (blk_cell n0.out 1).trans rfl; have d2 : w2.cell? ⟨w.heap.size, 2, none⟩ = some (.int .u8 l) := (blk_cell n0.out 2).trans rfl; have d3 : w2.cell? ⟨w.heap.size, 3, none⟩ = some (.int .u8 h) := (blk_cell n0.out 3).trans rfl; have d4 : w2.cell? ⟨w.heap.size, 4, none⟩ = some (.int .u8 r) := (blk_cell n0.out 4).trans rfl; have d5 : w2.cell? ⟨w.heap.size, 5, none⟩ = some (.bool md) := (blk_cell n0.out 5).trans rfl; have y0 : w2.cell? ⟨w.heap.size + 1, 0, none⟩ = some (.int .i64 0) := (blk_cell m0.out 0).trans rfl; have y1 : w2.cell? ⟨w.heap.size + 1, 1, none⟩ = some (.bool false) := (blk_cell m0.out 1).trans rfl; have y2 : w2.cell? ⟨w.heap.size + 1, 2, none⟩ = some (.int .u8 0) := (blk_cell m0.out 2).trans rfl; have y3 : w2.cell? ⟨w.heap.size + 1, 3, none⟩ = some (.int .u8 0) := (blk_cell m0.out 3).trans rfl; have y4 : w2.cell? ⟨w.heap.size + 1, 4, none⟩ = some (.int .u8 0) := (blk_cell m0.out 4).trans rfl; have y5 : w2.cell? ⟨w.heap.size + 1, 5, none⟩ = some (.bool false) := (blk_cell m0.out 5).trans rfl; have fy := fun i => blk_frozen m0.out i))
  rename_i hHeld
  clear hHeld
  go_wp2
  have q1 : ((((((w2.setCell ⟨w.heap.size + 1, 0, none⟩ (.int .i64 3)).setCell ⟨w.heap.size + 1, 1, none⟩ (.bool o)).setCell ⟨w.heap.size + 1, 2, none⟩ (.int .u8 l)).setCell ⟨w.heap.size + 1, 3, none⟩ (.int .u8 h)).setCell ⟨w.heap.size + 1, 4, none⟩ (.int .u8 r)).setCell ⟨w.heap.size + 1, 5, none⟩ (.bool md)).heap[w.heap.size + 1]? = some (.cells #[.int .i64 3, .bool o, .int .u8 l, .int .u8 h, .int .u8 r, .bool md] 32 (0, 0)) := (blk_put (blk_put (blk_put (blk_put (blk_put (blk_put m0.out 0 _ rfl) 1 _ rfl) 2 _ rfl) 3 _ rfl) 4 _ rfl) 5 _ rfl)
  have q2 : Below w.heap.size w ((((((w2.setCell ⟨w.heap.size + 1, 0, none⟩ (.int .i64 3)).setCell ⟨w.heap.size + 1, 1, none⟩ (.bool o)).setCell ⟨w.heap.size + 1, 2, none⟩ (.int .u8 l)).setCell ⟨w.heap.size + 1, 3, none⟩ (.int .u8 h)).setCell ⟨w.heap.size + 1, 4, none⟩ (.int .u8 r)).setCell ⟨w.heap.size + 1, 5, none⟩ (.bool md)) := (below_set (below_set (below_set (below_set (below_set (below_set n1.out (Nat.le_succ _)) (Nat.le_succ _)) (Nat.le_succ _)) (Nat.le_succ _)) (Nat.le_succ _)) (Nat.le_succ _))
  generalize ((((((w2.setCell ⟨w.heap.size + 1, 0, none⟩ (.int .i64 3)).setCell ⟨w.heap.size + 1, 1, none⟩ (.bool o)).setCell ⟨w.heap.size + 1, 2, none⟩ (.int .u8 l)).setCell ⟨w.heap.size + 1, 3, none⟩ (.int .u8 h)).setCell ⟨w.heap.size + 1, 4, none⟩ (.int .u8 r)).setCell ⟨w.heap.size + 1, 5, none⟩ (.bool md)) = Y at q1 q2 ⊢
  have u0 : Y.cell? ⟨w.heap.size + 1, 0, none⟩ = some (.int .i64 3) := (blk_cell q1 0).trans rfl
  have u1 : Y.cell? ⟨w.heap.size + 1, 1, none⟩ = some (.bool o) := (blk_cell q1 1).trans rfl
  have u2 : Y.cell? ⟨w.heap.size + 1, 2, none⟩ = some (.int .u8 l) := (blk_cell q1 2).trans rfl
  have u3 : Y.cell? ⟨w.heap.size + 1, 3, none⟩ = some (.int .u8 h) := (blk_cell q1 3).trans rfl
  have u4 : Y.cell? ⟨w.heap.size + 1, 4, none⟩ = some (.int .u8 r) := (blk_cell q1 4).trans rfl
  have u5 : Y.cell? ⟨w.heap.size + 1, 5, none⟩ = some (.bool md) := (blk_cell q1 5).trans rfl
  exact bodyPost_ret (v := .agg #[.int .i64 3, .bool o, .int .u8 l, .int .u8 h, .int .u8 r, .bool md]) (by simp [results, Try.results41, go_sem, u0, u1, u2, u3, u4, u5]) rfl ⟨rfl, q2⟩
set_option maxRecDepth 100000 in
set_option maxHeartbeats 400000 in
theorem wr_fifth0 (k : Int) (o : Bool) (l h r : Int) (md : Bool) (a v : Int) (hp : IntKind.i64.wrap (a / 4096) = 0) (ha : ¬ a ≥ 32768) (w : World) :
    Calls Try.prog 41 #[.agg #[.int .i64 5, .bool o, .int .u8 l, .int .u8 h, .int .u8 r, .bool md], .int .u16 a, .int .u8 v] w fun e' w' => e' = .returned (.agg #[.int .i64 5, .bool (v == 10), .int .u8 l, .int .u8 h, .int .u8 r, .bool md]) ∧ Below w.heap.size w w' := by
  go_enter Try.func41, Try.ntmps41
  go_wp2
  have bk := blk_alloc (blk_new w (.cells #[.int .i64 5, .bool o, .int .u8 l, .int .u8 h, .int .u8 r, .bool md] 32)) (.cells #[.int .i64 0, .bool false, .int .u8 0, .int .u8 0, .int .u8 0, .bool false] 32)
  have br := blk_at1 w (.cells #[.int .i64 5, .bool o, .int .u8 l, .int .u8 h, .int .u8 r, .bool md] 32) (.cells #[.int .i64 0, .bool false, .int .u8 0, .int .u8 0, .int .u8 0, .bool false] 32)
  have hB := below_alloc (below_alloc (Below.refl w.heap.size w) (.cells #[.int .i64 5, .bool o, .int .u8 l, .int .u8 h, .int .u8 r, .bool md] 32)) (.cells #[.int .i64 0, .bool false, .int .u8 0, .int .u8 0, .int .u8 0, .bool false] 32)
  generalize (w.alloc (.cells #[.int .i64 5, .bool o, .int .u8 l, .int .u8 h, .int .u8 r, .bool md] 32)).alloc (.cells #[.int .i64 0, .bool false, .int .u8 0, .int .u8 0, .int .u8 0, .bool false] 32) = W at bk br hB ⊢
  have BK := Aside0.mk bk
  have BR := Aside0.mk br
  have HB := Aside0.mk hB
  clear bk br hB
  have c0 : W.cell? ⟨w.heap.size, 0, none⟩ = some (.int .i64 5) := (blk_cell BK.out 0).trans rfl
  have c1 : W.cell? ⟨w.heap.size, 1, none⟩ = some (.bool o) := (blk_cell BK.out 1).trans rfl
  have c2 : W.cell? ⟨w.heap.size, 2, none⟩ = some (.int .u8 l) := (blk_cell BK.out 2).trans rfl
  have c3 : W.cell? ⟨w.heap.size, 3, none⟩ = some (.int .u8 h) := (blk_cell BK.out 3).trans rfl
  have c4 : W.cell? ⟨w.heap.size, 4, none⟩ = some (.int .u8 r) := (blk_cell BK.out 4).trans rfl
  have c5 : W.cell? ⟨w.heap.size, 5, none⟩ = some (.bool md) := (blk_cell BK.out 5).trans rfl
  have z0 : W.cell? ⟨w.heap.size + 1, 0, none⟩ = some (.int .i64 0) := (blk_cell BR.out 0).trans rfl
  have z1 : W.cell? ⟨w.heap.size + 1, 1, none⟩ = some (.bool false) := (blk_cell BR.out 1).trans rfl
  have z2 : W.cell? ⟨w.heap.size + 1, 2, none⟩ = some (.int .u8 0) := (blk_cell BR.out 2).trans rfl
  have z3 : W.cell? ⟨w.heap.size + 1, 3, none⟩ = some (.int .u8 0) := (blk_cell BR.out 3).trans rfl
  have z4 : W.cell? ⟨w.heap.size + 1, 4, none⟩ = some (.int .u8 0) := (blk_cell BR.out 4).trans rfl
  have z5 : W.cell? ⟨w.heap.size + 1, 5, none⟩ = some (.bool false) := (blk_cell BR.out 5).trans rfl
  have fr := fun i => blk_frozen BR.out i
  go_region_held3 (fun w' => w'.cell? ⟨w.heap.size, 0, none⟩ = some (.int .i64 5) ∧ w'.cell? ⟨w.heap.size, 1, none⟩ = some (.bool o) ∧ w'.cell? ⟨w.heap.size, 2, none⟩ = some (.int .u8 l) ∧ w'.cell? ⟨w.heap.size, 3, none⟩ = some (.int .u8 h) ∧ w'.cell? ⟨w.heap.size, 4, none⟩ = some (.int .u8 r) ∧ w'.cell? ⟨w.heap.size, 5, none⟩ = some (.bool md)) (go_keep)
    (first | (go_at_call 68; ((with_reducible refine (of5 _).mono ?_)); rintro e' w2 ⟨rfl, rfl⟩)
           | (go_at_call 108; ((with_reducible refine (write_fifth0 5 0 v o l h r md rfl _).mono ?_)); rintro e' w2 ⟨rfl, hb⟩; have n0 := Aside0.mk (blk_below (blk_drew BK.out) hb); have m0 := Aside0.mk (blk_below (blk_drew BR.out) hb); have n1 := Aside0.mk (below_step (below_drew1 HB.out) hb); clear hb; have d0 : w2.cell? ⟨w.heap.size, 0, none⟩ = some (.int .i64 5) := (blk_cell n0.out 0).trans rfl; have d1 : w2.cell? ⟨w.heap.size, 1, none⟩ = some (.bool o) := (blk_cell n0.out 1).trans rfl; have d2 : w2.cell? ⟨w.heap.size, 2, none⟩ = some (.int .u8 l) := (blk_cell n0.out 2).trans rfl; have d3 : w2.cell? ⟨w.heap.size, 3, none⟩ = some (.int .u8 h) := (blk_cell n0.out 3).trans rfl; have d4 : w2.cell? ⟨w.heap.size, 4, none⟩ = some (.int .u8 r) := (blk_cell n0.out 4).trans rfl; have d5 : w2.cell? ⟨w.heap.size, 5, none⟩ = some (.bool md) := (blk_cell n0.out 5).trans rfl; have y0 : w2.cell? ⟨w.heap.size + 1, 0, none⟩ = some (.int .i64 0) := (blk_cell m0.out 0).trans rfl; have y1 : w2.cell? ⟨w.heap.size + 1, 1, none⟩ = some (.bool false) := (blk_cell m0.out 1).trans rfl; have y2 : w2.cell? ⟨w.heap.size + 1, 2, none⟩ = some (.int .u8 0) := (blk_cell m0.out 2).trans rfl; have y3 : w2.cell? ⟨w.heap.size + 1, 3, none⟩ = some (.int .u8 0) := (blk_cell m0.out 3).trans rfl; have y4 : w2.cell? ⟨w.heap.size + 1, 4, none⟩ = some (.int .u8 0) := (blk_cell m0.out 4).trans rfl; have y5 : w2.cell? ⟨w.heap.size + 1, 5, none⟩ = some (.bool false) := (blk_cell m0.out 5).trans rfl; have fy := fun i => blk_frozen m0.out i))
  rename_i hHeld
  clear hHeld
  go_wp2
  have q1 : ((((((w2.setCell ⟨w.heap.size + 1, 0, none⟩ (.int .i64 5)).setCell ⟨w.heap.size + 1, 1, none⟩ (.bool (v == 10))).setCell ⟨w.heap.size + 1, 2, none⟩ (.int .u8 l)).setCell ⟨w.heap.size + 1, 3, none⟩ (.int .u8 h)).setCell ⟨w.heap.size + 1, 4, none⟩ (.int .u8 r)).setCell ⟨w.heap.size + 1, 5, none⟩ (.bool md)).heap[w.heap.size + 1]? = some (.cells #[.int .i64 5, .bool (v == 10), .int .u8 l, .int .u8 h, .int .u8 r, .bool md] 32 (0, 0)) := (blk_put (blk_put (blk_put (blk_put (blk_put (blk_put m0.out 0 _ rfl) 1 _ rfl) 2 _ rfl) 3 _ rfl) 4 _ rfl) 5 _ rfl)
  have q2 : Below w.heap.size w ((((((w2.setCell ⟨w.heap.size + 1, 0, none⟩ (.int .i64 5)).setCell ⟨w.heap.size + 1, 1, none⟩ (.bool (v == 10))).setCell ⟨w.heap.size + 1, 2, none⟩ (.int .u8 l)).setCell ⟨w.heap.size + 1, 3, none⟩ (.int .u8 h)).setCell ⟨w.heap.size + 1, 4, none⟩ (.int .u8 r)).setCell ⟨w.heap.size + 1, 5, none⟩ (.bool md)) := (below_set (below_set (below_set (below_set (below_set (below_set n1.out (Nat.le_succ _)) (Nat.le_succ _)) (Nat.le_succ _)) (Nat.le_succ _)) (Nat.le_succ _)) (Nat.le_succ _))
  generalize ((((((w2.setCell ⟨w.heap.size + 1, 0, none⟩ (.int .i64 5)).setCell ⟨w.heap.size + 1, 1, none⟩ (.bool (v == 10))).setCell ⟨w.heap.size + 1, 2, none⟩ (.int .u8 l)).setCell ⟨w.heap.size + 1, 3, none⟩ (.int .u8 h)).setCell ⟨w.heap.size + 1, 4, none⟩ (.int .u8 r)).setCell ⟨w.heap.size + 1, 5, none⟩ (.bool md)) = Y at q1 q2 ⊢
  have u0 : Y.cell? ⟨w.heap.size + 1, 0, none⟩ = some (.int .i64 5) := (blk_cell q1 0).trans rfl
  have u1 : Y.cell? ⟨w.heap.size + 1, 1, none⟩ = some (.bool (v == 10)) := (blk_cell q1 1).trans rfl
  have u2 : Y.cell? ⟨w.heap.size + 1, 2, none⟩ = some (.int .u8 l) := (blk_cell q1 2).trans rfl
  have u3 : Y.cell? ⟨w.heap.size + 1, 3, none⟩ = some (.int .u8 h) := (blk_cell q1 3).trans rfl
  have u4 : Y.cell? ⟨w.heap.size + 1, 4, none⟩ = some (.int .u8 r) := (blk_cell q1 4).trans rfl
  have u5 : Y.cell? ⟨w.heap.size + 1, 5, none⟩ = some (.bool md) := (blk_cell q1 5).trans rfl
  exact bodyPost_ret (v := .agg #[.int .i64 5, .bool (v == 10), .int .u8 l, .int .u8 h, .int .u8 r, .bool md]) (by simp [results, Try.results41, go_sem, u0, u1, u2, u3, u4, u5]) rfl ⟨rfl, q2⟩
set_option maxRecDepth 100000 in
set_option maxHeartbeats 400000 in
theorem wr_fifth1 (k : Int) (o : Bool) (l h r : Int) (md : Bool) (a v : Int) (hp : IntKind.i64.wrap (a / 4096) = 1) (ha : ¬ a ≥ 32768) (w : World) :
    Calls Try.prog 41 #[.agg #[.int .i64 5, .bool o, .int .u8 l, .int .u8 h, .int .u8 r, .bool md], .int .u16 a, .int .u8 v] w fun e' w' => e' = .returned (.agg #[.int .i64 5, .bool (v == 10), .int .u8 l, .int .u8 h, .int .u8 r, .bool md]) ∧ Below w.heap.size w w' := by
  go_enter Try.func41, Try.ntmps41
  go_wp2
  have bk := blk_alloc (blk_new w (.cells #[.int .i64 5, .bool o, .int .u8 l, .int .u8 h, .int .u8 r, .bool md] 32)) (.cells #[.int .i64 0, .bool false, .int .u8 0, .int .u8 0, .int .u8 0, .bool false] 32)
  have br := blk_at1 w (.cells #[.int .i64 5, .bool o, .int .u8 l, .int .u8 h, .int .u8 r, .bool md] 32) (.cells #[.int .i64 0, .bool false, .int .u8 0, .int .u8 0, .int .u8 0, .bool false] 32)
  have hB := below_alloc (below_alloc (Below.refl w.heap.size w) (.cells #[.int .i64 5, .bool o, .int .u8 l, .int .u8 h, .int .u8 r, .bool md] 32)) (.cells #[.int .i64 0, .bool false, .int .u8 0, .int .u8 0, .int .u8 0, .bool false] 32)
  generalize (w.alloc (.cells #[.int .i64 5, .bool o, .int .u8 l, .int .u8 h, .int .u8 r, .bool md] 32)).alloc (.cells #[.int .i64 0, .bool false, .int .u8 0, .int .u8 0, .int .u8 0, .bool false] 32) = W at bk br hB ⊢
  have BK := Aside0.mk bk
  have BR := Aside0.mk br
  have HB := Aside0.mk hB
  clear bk br hB
  have c0 : W.cell? ⟨w.heap.size, 0, none⟩ = some (.int .i64 5) := (blk_cell BK.out 0).trans rfl
  have c1 : W.cell? ⟨w.heap.size, 1, none⟩ = some (.bool o) := (blk_cell BK.out 1).trans rfl
  have c2 : W.cell? ⟨w.heap.size, 2, none⟩ = some (.int .u8 l) := (blk_cell BK.out 2).trans rfl
  have c3 : W.cell? ⟨w.heap.size, 3, none⟩ = some (.int .u8 h) := (blk_cell BK.out 3).trans rfl
  have c4 : W.cell? ⟨w.heap.size, 4, none⟩ = some (.int .u8 r) := (blk_cell BK.out 4).trans rfl
  have c5 : W.cell? ⟨w.heap.size, 5, none⟩ = some (.bool md) := (blk_cell BK.out 5).trans rfl
  have z0 : W.cell? ⟨w.heap.size + 1, 0, none⟩ = some (.int .i64 0) := (blk_cell BR.out 0).trans rfl
  have z1 : W.cell? ⟨w.heap.size + 1, 1, none⟩ = some (.bool false) := (blk_cell BR.out 1).trans rfl
  have z2 : W.cell? ⟨w.heap.size + 1, 2, none⟩ = some (.int .u8 0) := (blk_cell BR.out 2).trans rfl
  have z3 : W.cell? ⟨w.heap.size + 1, 3, none⟩ = some (.int .u8 0) := (blk_cell BR.out 3).trans rfl
  have z4 : W.cell? ⟨w.heap.size + 1, 4, none⟩ = some (.int .u8 0) := (blk_cell BR.out 4).trans rfl
  have z5 : W.cell? ⟨w.heap.size + 1, 5, none⟩ = some (.bool false) := (blk_cell BR.out 5).trans rfl
  have fr := fun i => blk_frozen BR.out i
  go_region_held3 (fun w' => w'.cell? ⟨w.heap.size, 0, none⟩ = some (.int .i64 5) ∧ w'.cell? ⟨w.heap.size, 1, none⟩ = some (.bool o) ∧ w'.cell? ⟨w.heap.size, 2, none⟩ = some (.int .u8 l) ∧ w'.cell? ⟨w.heap.size, 3, none⟩ = some (.int .u8 h) ∧ w'.cell? ⟨w.heap.size, 4, none⟩ = some (.int .u8 r) ∧ w'.cell? ⟨w.heap.size, 5, none⟩ = some (.bool md)) (go_keep)
    (first | (go_at_call 68; ((with_reducible refine (of5 _).mono ?_)); rintro e' w2 ⟨rfl, rfl⟩)
           | (go_at_call 108; ((with_reducible refine (write_fifth1 5 1 v o l h r md rfl _).mono ?_)); rintro e' w2 ⟨rfl, hb⟩; have n0 := Aside0.mk (blk_below (blk_drew BK.out) hb); have m0 := Aside0.mk (blk_below (blk_drew BR.out) hb); have n1 := Aside0.mk (below_step (below_drew1 HB.out) hb); clear hb; have d0 : w2.cell? ⟨w.heap.size, 0, none⟩ = some (.int .i64 5) := (blk_cell n0.out 0).trans rfl; have d1 : w2.cell? ⟨w.heap.size, 1, none⟩ = some (.bool o) := (blk_cell n0.out 1).trans rfl; have d2 : w2.cell? ⟨w.heap.size, 2, none⟩ = some (.int .u8 l) := (blk_cell n0.out 2).trans rfl; have d3 : w2.cell? ⟨w.heap.size, 3, none⟩ = some (.int .u8 h) := (blk_cell n0.out 3).trans rfl; have d4 : w2.cell? ⟨w.heap.size, 4, none⟩ = some (.int .u8 r) := (blk_cell n0.out 4).trans rfl; have d5 : w2.cell? ⟨w.heap.size, 5, none⟩ = some (.bool md) := (blk_cell n0.out 5).trans rfl; have y0 : w2.cell? ⟨w.heap.size + 1, 0, none⟩ = some (.int .i64 0) := (blk_cell m0.out 0).trans rfl; have y1 : w2.cell? ⟨w.heap.size + 1, 1, none⟩ = some (.bool false) := (blk_cell m0.out 1).trans rfl; have y2 : w2.cell? ⟨w.heap.size + 1, 2, none⟩ = some (.int .u8 0) := (blk_cell m0.out 2).trans rfl; have y3 : w2.cell? ⟨w.heap.size + 1, 3, none⟩ = some (.int .u8 0) := (blk_cell m0.out 3).trans rfl; have y4 : w2.cell? ⟨w.heap.size + 1, 4, none⟩ = some (.int .u8 0) := (blk_cell m0.out 4).trans rfl; have y5 : w2.cell? ⟨w.heap.size + 1, 5, none⟩ = some (.bool false) := (blk_cell m0.out 5).trans rfl; have fy := fun i => blk_frozen m0.out i))
  rename_i hHeld
  clear hHeld
  go_wp2
  have q1 : ((((((w2.setCell ⟨w.heap.size + 1, 0, none⟩ (.int .i64 5)).setCell ⟨w.heap.size + 1, 1, none⟩ (.bool (v == 10))).setCell ⟨w.heap.size + 1, 2, none⟩ (.int .u8 l)).setCell ⟨w.heap.size + 1, 3, none⟩ (.int .u8 h)).setCell ⟨w.heap.size + 1, 4, none⟩ (.int .u8 r)).setCell ⟨w.heap.size + 1, 5, none⟩ (.bool md)).heap[w.heap.size + 1]? = some (.cells #[.int .i64 5, .bool (v == 10), .int .u8 l, .int .u8 h, .int .u8 r, .bool md] 32 (0, 0)) := (blk_put (blk_put (blk_put (blk_put (blk_put (blk_put m0.out 0 _ rfl) 1 _ rfl) 2 _ rfl) 3 _ rfl) 4 _ rfl) 5 _ rfl)
  have q2 : Below w.heap.size w ((((((w2.setCell ⟨w.heap.size + 1, 0, none⟩ (.int .i64 5)).setCell ⟨w.heap.size + 1, 1, none⟩ (.bool (v == 10))).setCell ⟨w.heap.size + 1, 2, none⟩ (.int .u8 l)).setCell ⟨w.heap.size + 1, 3, none⟩ (.int .u8 h)).setCell ⟨w.heap.size + 1, 4, none⟩ (.int .u8 r)).setCell ⟨w.heap.size + 1, 5, none⟩ (.bool md)) := (below_set (below_set (below_set (below_set (below_set (below_set n1.out (Nat.le_succ _)) (Nat.le_succ _)) (Nat.le_succ _)) (Nat.le_succ _)) (Nat.le_succ _)) (Nat.le_succ _))
  generalize ((((((w2.setCell ⟨w.heap.size + 1, 0, none⟩ (.int .i64 5)).setCell ⟨w.heap.size + 1, 1, none⟩ (.bool (v == 10))).setCell ⟨w.heap.size + 1, 2, none⟩ (.int .u8 l)).setCell ⟨w.heap.size + 1, 3, none⟩ (.int .u8 h)).setCell ⟨w.heap.size + 1, 4, none⟩ (.int .u8 r)).setCell ⟨w.heap.size + 1, 5, none⟩ (.bool md)) = Y at q1 q2 ⊢
  have u0 : Y.cell? ⟨w.heap.size + 1, 0, none⟩ = some (.int .i64 5) := (blk_cell q1 0).trans rfl
  have u1 : Y.cell? ⟨w.heap.size + 1, 1, none⟩ = some (.bool (v == 10)) := (blk_cell q1 1).trans rfl
  have u2 : Y.cell? ⟨w.heap.size + 1, 2, none⟩ = some (.int .u8 l) := (blk_cell q1 2).trans rfl
  have u3 : Y.cell? ⟨w.heap.size + 1, 3, none⟩ = some (.int .u8 h) := (blk_cell q1 3).trans rfl
  have u4 : Y.cell? ⟨w.heap.size + 1, 4, none⟩ = some (.int .u8 r) := (blk_cell q1 4).trans rfl
  have u5 : Y.cell? ⟨w.heap.size + 1, 5, none⟩ = some (.bool md) := (blk_cell q1 5).trans rfl
  exact bodyPost_ret (v := .agg #[.int .i64 5, .bool (v == 10), .int .u8 l, .int .u8 h, .int .u8 r, .bool md]) (by simp [results, Try.results41, go_sem, u0, u1, u2, u3, u4, u5]) rfl ⟨rfl, q2⟩
set_option maxRecDepth 100000 in
set_option maxHeartbeats 400000 in
theorem wr_fifth2 (k : Int) (o : Bool) (l h r : Int) (md : Bool) (a v : Int) (hp : IntKind.i64.wrap (a / 4096) = 2) (ha : ¬ a ≥ 32768) (w : World) :
    Calls Try.prog 41 #[.agg #[.int .i64 5, .bool o, .int .u8 l, .int .u8 h, .int .u8 r, .bool md], .int .u16 a, .int .u8 v] w fun e' w' => e' = .returned (.agg #[.int .i64 5, .bool o, .int .u8 v, .int .u8 h, .int .u8 r, .bool md]) ∧ Below w.heap.size w w' := by
  go_enter Try.func41, Try.ntmps41
  go_wp2
  have bk := blk_alloc (blk_new w (.cells #[.int .i64 5, .bool o, .int .u8 l, .int .u8 h, .int .u8 r, .bool md] 32)) (.cells #[.int .i64 0, .bool false, .int .u8 0, .int .u8 0, .int .u8 0, .bool false] 32)
  have br := blk_at1 w (.cells #[.int .i64 5, .bool o, .int .u8 l, .int .u8 h, .int .u8 r, .bool md] 32) (.cells #[.int .i64 0, .bool false, .int .u8 0, .int .u8 0, .int .u8 0, .bool false] 32)
  have hB := below_alloc (below_alloc (Below.refl w.heap.size w) (.cells #[.int .i64 5, .bool o, .int .u8 l, .int .u8 h, .int .u8 r, .bool md] 32)) (.cells #[.int .i64 0, .bool false, .int .u8 0, .int .u8 0, .int .u8 0, .bool false] 32)
  generalize (w.alloc (.cells #[.int .i64 5, .bool o, .int .u8 l, .int .u8 h, .int .u8 r, .bool md] 32)).alloc (.cells #[.int .i64 0, .bool false, .int .u8 0, .int .u8 0, .int .u8 0, .bool false] 32) = W at bk br hB ⊢
  have BK := Aside0.mk bk
  have BR := Aside0.mk br
  have HB := Aside0.mk hB
  clear bk br hB
  have c0 : W.cell? ⟨w.heap.size, 0, none⟩ = some (.int .i64 5) := (blk_cell BK.out 0).trans rfl
  have c1 : W.cell? ⟨w.heap.size, 1, none⟩ = some (.bool o) := (blk_cell BK.out 1).trans rfl
  have c2 : W.cell? ⟨w.heap.size, 2, none⟩ = some (.int .u8 l) := (blk_cell BK.out 2).trans rfl
  have c3 : W.cell? ⟨w.heap.size, 3, none⟩ = some (.int .u8 h) := (blk_cell BK.out 3).trans rfl
  have c4 : W.cell? ⟨w.heap.size, 4, none⟩ = some (.int .u8 r) := (blk_cell BK.out 4).trans rfl
  have c5 : W.cell? ⟨w.heap.size, 5, none⟩ = some (.bool md) := (blk_cell BK.out 5).trans rfl
  have z0 : W.cell? ⟨w.heap.size + 1, 0, none⟩ = some (.int .i64 0) := (blk_cell BR.out 0).trans rfl
  have z1 : W.cell? ⟨w.heap.size + 1, 1, none⟩ = some (.bool false) := (blk_cell BR.out 1).trans rfl
  have z2 : W.cell? ⟨w.heap.size + 1, 2, none⟩ = some (.int .u8 0) := (blk_cell BR.out 2).trans rfl
  have z3 : W.cell? ⟨w.heap.size + 1, 3, none⟩ = some (.int .u8 0) := (blk_cell BR.out 3).trans rfl
  have z4 : W.cell? ⟨w.heap.size + 1, 4, none⟩ = some (.int .u8 0) := (blk_cell BR.out 4).trans rfl
  have z5 : W.cell? ⟨w.heap.size + 1, 5, none⟩ = some (.bool false) := (blk_cell BR.out 5).trans rfl
  have fr := fun i => blk_frozen BR.out i
  go_region_held3 (fun w' => w'.cell? ⟨w.heap.size, 0, none⟩ = some (.int .i64 5) ∧ w'.cell? ⟨w.heap.size, 1, none⟩ = some (.bool o) ∧ w'.cell? ⟨w.heap.size, 2, none⟩ = some (.int .u8 l) ∧ w'.cell? ⟨w.heap.size, 3, none⟩ = some (.int .u8 h) ∧ w'.cell? ⟨w.heap.size, 4, none⟩ = some (.int .u8 r) ∧ w'.cell? ⟨w.heap.size, 5, none⟩ = some (.bool md)) (go_keep)
    (first | (go_at_call 68; ((with_reducible refine (of5 _).mono ?_)); rintro e' w2 ⟨rfl, rfl⟩)
           | (go_at_call 108; ((with_reducible refine (write_fifth2 5 2 v o l h r md rfl _).mono ?_)); rintro e' w2 ⟨rfl, hb⟩; have n0 := Aside0.mk (blk_below (blk_drew BK.out) hb); have m0 := Aside0.mk (blk_below (blk_drew BR.out) hb); have n1 := Aside0.mk (below_step (below_drew1 HB.out) hb); clear hb; have d0 : w2.cell? ⟨w.heap.size, 0, none⟩ = some (.int .i64 5) := (blk_cell n0.out 0).trans rfl; have d1 : w2.cell? ⟨w.heap.size, 1, none⟩ = some (.bool o) := (blk_cell n0.out 1).trans rfl; have d2 : w2.cell? ⟨w.heap.size, 2, none⟩ = some (.int .u8 l) := (blk_cell n0.out 2).trans rfl; have d3 : w2.cell? ⟨w.heap.size, 3, none⟩ = some (.int .u8 h) := (blk_cell n0.out 3).trans rfl; have d4 : w2.cell? ⟨w.heap.size, 4, none⟩ = some (.int .u8 r) := (blk_cell n0.out 4).trans rfl; have d5 : w2.cell? ⟨w.heap.size, 5, none⟩ = some (.bool md) := (blk_cell n0.out 5).trans rfl; have y0 : w2.cell? ⟨w.heap.size + 1, 0, none⟩ = some (.int .i64 0) := (blk_cell m0.out 0).trans rfl; have y1 : w2.cell? ⟨w.heap.size + 1, 1, none⟩ = some (.bool false) := (blk_cell m0.out 1).trans rfl; have y2 : w2.cell? ⟨w.heap.size + 1, 2, none⟩ = some (.int .u8 0) := (blk_cell m0.out 2).trans rfl; have y3 : w2.cell? ⟨w.heap.size + 1, 3, none⟩ = some (.int .u8 0) := (blk_cell m0.out 3).trans rfl; have y4 : w2.cell? ⟨w.heap.size + 1, 4, none⟩ = some (.int .u8 0) := (blk_cell m0.out 4).trans rfl; have y5 : w2.cell? ⟨w.heap.size + 1, 5, none⟩ = some (.bool false) := (blk_cell m0.out 5).trans rfl; have fy := fun i => blk_frozen m0.out i))
  rename_i hHeld
  clear hHeld
  go_wp2
  have q1 : ((((((w2.setCell ⟨w.heap.size + 1, 0, none⟩ (.int .i64 5)).setCell ⟨w.heap.size + 1, 1, none⟩ (.bool o)).setCell ⟨w.heap.size + 1, 2, none⟩ (.int .u8 v)).setCell ⟨w.heap.size + 1, 3, none⟩ (.int .u8 h)).setCell ⟨w.heap.size + 1, 4, none⟩ (.int .u8 r)).setCell ⟨w.heap.size + 1, 5, none⟩ (.bool md)).heap[w.heap.size + 1]? = some (.cells #[.int .i64 5, .bool o, .int .u8 v, .int .u8 h, .int .u8 r, .bool md] 32 (0, 0)) := (blk_put (blk_put (blk_put (blk_put (blk_put (blk_put m0.out 0 _ rfl) 1 _ rfl) 2 _ rfl) 3 _ rfl) 4 _ rfl) 5 _ rfl)
  have q2 : Below w.heap.size w ((((((w2.setCell ⟨w.heap.size + 1, 0, none⟩ (.int .i64 5)).setCell ⟨w.heap.size + 1, 1, none⟩ (.bool o)).setCell ⟨w.heap.size + 1, 2, none⟩ (.int .u8 v)).setCell ⟨w.heap.size + 1, 3, none⟩ (.int .u8 h)).setCell ⟨w.heap.size + 1, 4, none⟩ (.int .u8 r)).setCell ⟨w.heap.size + 1, 5, none⟩ (.bool md)) := (below_set (below_set (below_set (below_set (below_set (below_set n1.out (Nat.le_succ _)) (Nat.le_succ _)) (Nat.le_succ _)) (Nat.le_succ _)) (Nat.le_succ _)) (Nat.le_succ _))
  generalize ((((((w2.setCell ⟨w.heap.size + 1, 0, none⟩ (.int .i64 5)).setCell ⟨w.heap.size + 1, 1, none⟩ (.bool o)).setCell ⟨w.heap.size + 1, 2, none⟩ (.int .u8 v)).setCell ⟨w.heap.size + 1, 3, none⟩ (.int .u8 h)).setCell ⟨w.heap.size + 1, 4, none⟩ (.int .u8 r)).setCell ⟨w.heap.size + 1, 5, none⟩ (.bool md)) = Y at q1 q2 ⊢
  have u0 : Y.cell? ⟨w.heap.size + 1, 0, none⟩ = some (.int .i64 5) := (blk_cell q1 0).trans rfl
  have u1 : Y.cell? ⟨w.heap.size + 1, 1, none⟩ = some (.bool o) := (blk_cell q1 1).trans rfl
  have u2 : Y.cell? ⟨w.heap.size + 1, 2, none⟩ = some (.int .u8 v) := (blk_cell q1 2).trans rfl
  have u3 : Y.cell? ⟨w.heap.size + 1, 3, none⟩ = some (.int .u8 h) := (blk_cell q1 3).trans rfl
  have u4 : Y.cell? ⟨w.heap.size + 1, 4, none⟩ = some (.int .u8 r) := (blk_cell q1 4).trans rfl
  have u5 : Y.cell? ⟨w.heap.size + 1, 5, none⟩ = some (.bool md) := (blk_cell q1 5).trans rfl
  exact bodyPost_ret (v := .agg #[.int .i64 5, .bool o, .int .u8 v, .int .u8 h, .int .u8 r, .bool md]) (by simp [results, Try.results41, go_sem, u0, u1, u2, u3, u4, u5]) rfl ⟨rfl, q2⟩
set_option maxRecDepth 100000 in
set_option maxHeartbeats 400000 in
theorem wr_fifth3 (k : Int) (o : Bool) (l h r : Int) (md : Bool) (a v : Int) (hp : IntKind.i64.wrap (a / 4096) = 3) (ha : ¬ a ≥ 32768) (w : World) :
    Calls Try.prog 41 #[.agg #[.int .i64 5, .bool o, .int .u8 l, .int .u8 h, .int .u8 r, .bool md], .int .u16 a, .int .u8 v] w fun e' w' => e' = .returned (.agg #[.int .i64 5, .bool o, .int .u8 l, .int .u8 (Go.bits .and .u8 v 1), .int .u8 r, .bool md]) ∧ Below w.heap.size w w' := by
  go_enter Try.func41, Try.ntmps41
  go_wp2
  have bk := blk_alloc (blk_new w (.cells #[.int .i64 5, .bool o, .int .u8 l, .int .u8 h, .int .u8 r, .bool md] 32)) (.cells #[.int .i64 0, .bool false, .int .u8 0, .int .u8 0, .int .u8 0, .bool false] 32)
  have br := blk_at1 w (.cells #[.int .i64 5, .bool o, .int .u8 l, .int .u8 h, .int .u8 r, .bool md] 32) (.cells #[.int .i64 0, .bool false, .int .u8 0, .int .u8 0, .int .u8 0, .bool false] 32)
  have hB := below_alloc (below_alloc (Below.refl w.heap.size w) (.cells #[.int .i64 5, .bool o, .int .u8 l, .int .u8 h, .int .u8 r, .bool md] 32)) (.cells #[.int .i64 0, .bool false, .int .u8 0, .int .u8 0, .int .u8 0, .bool false] 32)
  generalize (w.alloc (.cells #[.int .i64 5, .bool o, .int .u8 l, .int .u8 h, .int .u8 r, .bool md] 32)).alloc (.cells #[.int .i64 0, .bool false, .int .u8 0, .int .u8 0, .int .u8 0, .bool false] 32) = W at bk br hB ⊢
  have BK := Aside0.mk bk
  have BR := Aside0.mk br
  have HB := Aside0.mk hB
  clear bk br hB
  have c0 : W.cell? ⟨w.heap.size, 0, none⟩ = some (.int .i64 5) := (blk_cell BK.out 0).trans rfl
  have c1 : W.cell? ⟨w.heap.size, 1, none⟩ = some (.bool o) := (blk_cell BK.out 1).trans rfl
  have c2 : W.cell? ⟨w.heap.size, 2, none⟩ = some (.int .u8 l) := (blk_cell BK.out 2).trans rfl
  have c3 : W.cell? ⟨w.heap.size, 3, none⟩ = some (.int .u8 h) := (blk_cell BK.out 3).trans rfl
  have c4 : W.cell? ⟨w.heap.size, 4, none⟩ = some (.int .u8 r) := (blk_cell BK.out 4).trans rfl
  have c5 : W.cell? ⟨w.heap.size, 5, none⟩ = some (.bool md) := (blk_cell BK.out 5).trans rfl
  have z0 : W.cell? ⟨w.heap.size + 1, 0, none⟩ = some (.int .i64 0) := (blk_cell BR.out 0).trans rfl
  have z1 : W.cell? ⟨w.heap.size + 1, 1, none⟩ = some (.bool false) := (blk_cell BR.out 1).trans rfl
  have z2 : W.cell? ⟨w.heap.size + 1, 2, none⟩ = some (.int .u8 0) := (blk_cell BR.out 2).trans rfl
  have z3 : W.cell? ⟨w.heap.size + 1, 3, none⟩ = some (.int .u8 0) := (blk_cell BR.out 3).trans rfl
  have z4 : W.cell? ⟨w.heap.size + 1, 4, none⟩ = some (.int .u8 0) := (blk_cell BR.out 4).trans rfl
  have z5 : W.cell? ⟨w.heap.size + 1, 5, none⟩ = some (.bool false) := (blk_cell BR.out 5).trans rfl
  have fr := fun i => blk_frozen BR.out i
  go_region_held3 (fun w' => w'.cell? ⟨w.heap.size, 0, none⟩ = some (.int .i64 5) ∧ w'.cell? ⟨w.heap.size, 1, none⟩ = some (.bool o) ∧ w'.cell? ⟨w.heap.size, 2, none⟩ = some (.int .u8 l) ∧ w'.cell? ⟨w.heap.size, 3, none⟩ = some (.int .u8 h) ∧ w'.cell? ⟨w.heap.size, 4, none⟩ = some (.int .u8 r) ∧ w'.cell? ⟨w.heap.size, 5, none⟩ = some (.bool md)) (go_keep)
    (first | (go_at_call 68; ((with_reducible refine (of5 _).mono ?_)); rintro e' w2 ⟨rfl, rfl⟩)
           | (go_at_call 108; ((with_reducible refine (write_fifth3 5 3 v o l h r md rfl _).mono ?_)); rintro e' w2 ⟨rfl, hb⟩; have n0 := Aside0.mk (blk_below (blk_drew BK.out) hb); have m0 := Aside0.mk (blk_below (blk_drew BR.out) hb); have n1 := Aside0.mk (below_step (below_drew1 HB.out) hb); clear hb; have d0 : w2.cell? ⟨w.heap.size, 0, none⟩ = some (.int .i64 5) := (blk_cell n0.out 0).trans rfl; have d1 : w2.cell? ⟨w.heap.size, 1, none⟩ = some (.bool o) := (blk_cell n0.out 1).trans rfl; have d2 : w2.cell? ⟨w.heap.size, 2, none⟩ = some (.int .u8 l) := (blk_cell n0.out 2).trans rfl; have d3 : w2.cell? ⟨w.heap.size, 3, none⟩ = some (.int .u8 h) := (blk_cell n0.out 3).trans rfl; have d4 : w2.cell? ⟨w.heap.size, 4, none⟩ = some (.int .u8 r) := (blk_cell n0.out 4).trans rfl; have d5 : w2.cell? ⟨w.heap.size, 5, none⟩ = some (.bool md) := (blk_cell n0.out 5).trans rfl; have y0 : w2.cell? ⟨w.heap.size + 1, 0, none⟩ = some (.int .i64 0) := (blk_cell m0.out 0).trans rfl; have y1 : w2.cell? ⟨w.heap.size + 1, 1, none⟩ = some (.bool false) := (blk_cell m0.out 1).trans rfl; have y2 : w2.cell? ⟨w.heap.size + 1, 2, none⟩ = some (.int .u8 0) := (blk_cell m0.out 2).trans rfl; have y3 : w2.cell? ⟨w.heap.size + 1, 3, none⟩ = some (.int .u8 0) := (blk_cell m0.out 3).trans rfl; have y4 : w2.cell? ⟨w.heap.size + 1, 4, none⟩ = some (.int .u8 0) := (blk_cell m0.out 4).trans rfl; have y5 : w2.cell? ⟨w.heap.size + 1, 5, none⟩ = some (.bool false) := (blk_cell m0.out 5).trans rfl; have fy := fun i => blk_frozen m0.out i))
  rename_i hHeld
  clear hHeld
  go_wp2
  have q1 : ((((((w2.setCell ⟨w.heap.size + 1, 0, none⟩ (.int .i64 5)).setCell ⟨w.heap.size + 1, 1, none⟩ (.bool o)).setCell ⟨w.heap.size + 1, 2, none⟩ (.int .u8 l)).setCell ⟨w.heap.size + 1, 3, none⟩ (.int .u8 (Go.bits .and .u8 v 1))).setCell ⟨w.heap.size + 1, 4, none⟩ (.int .u8 r)).setCell ⟨w.heap.size + 1, 5, none⟩ (.bool md)).heap[w.heap.size + 1]? = some (.cells #[.int .i64 5, .bool o, .int .u8 l, .int .u8 (Go.bits .and .u8 v 1), .int .u8 r, .bool md] 32 (0, 0)) := (blk_put (blk_put (blk_put (blk_put (blk_put (blk_put m0.out 0 _ rfl) 1 _ rfl) 2 _ rfl) 3 _ rfl) 4 _ rfl) 5 _ rfl)
  have q2 : Below w.heap.size w ((((((w2.setCell ⟨w.heap.size + 1, 0, none⟩ (.int .i64 5)).setCell ⟨w.heap.size + 1, 1, none⟩ (.bool o)).setCell ⟨w.heap.size + 1, 2, none⟩ (.int .u8 l)).setCell ⟨w.heap.size + 1, 3, none⟩ (.int .u8 (Go.bits .and .u8 v 1))).setCell ⟨w.heap.size + 1, 4, none⟩ (.int .u8 r)).setCell ⟨w.heap.size + 1, 5, none⟩ (.bool md)) := (below_set (below_set (below_set (below_set (below_set (below_set n1.out (Nat.le_succ _)) (Nat.le_succ _)) (Nat.le_succ _)) (Nat.le_succ _)) (Nat.le_succ _)) (Nat.le_succ _))
  generalize ((((((w2.setCell ⟨w.heap.size + 1, 0, none⟩ (.int .i64 5)).setCell ⟨w.heap.size + 1, 1, none⟩ (.bool o)).setCell ⟨w.heap.size + 1, 2, none⟩ (.int .u8 l)).setCell ⟨w.heap.size + 1, 3, none⟩ (.int .u8 (Go.bits .and .u8 v 1))).setCell ⟨w.heap.size + 1, 4, none⟩ (.int .u8 r)).setCell ⟨w.heap.size + 1, 5, none⟩ (.bool md)) = Y at q1 q2 ⊢
  have u0 : Y.cell? ⟨w.heap.size + 1, 0, none⟩ = some (.int .i64 5) := (blk_cell q1 0).trans rfl
  have u1 : Y.cell? ⟨w.heap.size + 1, 1, none⟩ = some (.bool o) := (blk_cell q1 1).trans rfl
  have u2 : Y.cell? ⟨w.heap.size + 1, 2, none⟩ = some (.int .u8 l) := (blk_cell q1 2).trans rfl
  have u3 : Y.cell? ⟨w.heap.size + 1, 3, none⟩ = some (.int .u8 (Go.bits .and .u8 v 1)) := (blk_cell q1 3).trans rfl
  have u4 : Y.cell? ⟨w.heap.size + 1, 4, none⟩ = some (.int .u8 r) := (blk_cell q1 4).trans rfl
  have u5 : Y.cell? ⟨w.heap.size + 1, 5, none⟩ = some (.bool md) := (blk_cell q1 5).trans rfl
  exact bodyPost_ret (v := .agg #[.int .i64 5, .bool o, .int .u8 l, .int .u8 (Go.bits .and .u8 v 1), .int .u8 r, .bool md]) (by simp [results, Try.results41, go_sem, u0, u1, u2, u3, u4, u5]) rfl ⟨rfl, q2⟩
set_option maxRecDepth 100000 in
set_option maxHeartbeats 400000 in
theorem wr_fifth4 (k : Int) (o : Bool) (l h r : Int) (md : Bool) (a v : Int) (hp : IntKind.i64.wrap (a / 4096) = 4) (ha : ¬ a ≥ 32768) (w : World) :
    Calls Try.prog 41 #[.agg #[.int .i64 5, .bool o, .int .u8 l, .int .u8 h, .int .u8 r, .bool md], .int .u16 a, .int .u8 v] w fun e' w' => e' = .returned (.agg #[.int .i64 5, .bool o, .int .u8 l, .int .u8 h, .int .u8 (Go.bits .and .u8 v 15), .bool md]) ∧ Below w.heap.size w w' := by
  go_enter Try.func41, Try.ntmps41
  go_wp2
  have bk := blk_alloc (blk_new w (.cells #[.int .i64 5, .bool o, .int .u8 l, .int .u8 h, .int .u8 r, .bool md] 32)) (.cells #[.int .i64 0, .bool false, .int .u8 0, .int .u8 0, .int .u8 0, .bool false] 32)
  have br := blk_at1 w (.cells #[.int .i64 5, .bool o, .int .u8 l, .int .u8 h, .int .u8 r, .bool md] 32) (.cells #[.int .i64 0, .bool false, .int .u8 0, .int .u8 0, .int .u8 0, .bool false] 32)
  have hB := below_alloc (below_alloc (Below.refl w.heap.size w) (.cells #[.int .i64 5, .bool o, .int .u8 l, .int .u8 h, .int .u8 r, .bool md] 32)) (.cells #[.int .i64 0, .bool false, .int .u8 0, .int .u8 0, .int .u8 0, .bool false] 32)
  generalize (w.alloc (.cells #[.int .i64 5, .bool o, .int .u8 l, .int .u8 h, .int .u8 r, .bool md] 32)).alloc (.cells #[.int .i64 0, .bool false, .int .u8 0, .int .u8 0, .int .u8 0, .bool false] 32) = W at bk br hB ⊢
  have BK := Aside0.mk bk
  have BR := Aside0.mk br
  have HB := Aside0.mk hB
  clear bk br hB
  have c0 : W.cell? ⟨w.heap.size, 0, none⟩ = some (.int .i64 5) := (blk_cell BK.out 0).trans rfl
  have c1 : W.cell? ⟨w.heap.size, 1, none⟩ = some (.bool o) := (blk_cell BK.out 1).trans rfl
  have c2 : W.cell? ⟨w.heap.size, 2, none⟩ = some (.int .u8 l) := (blk_cell BK.out 2).trans rfl
  have c3 : W.cell? ⟨w.heap.size, 3, none⟩ = some (.int .u8 h) := (blk_cell BK.out 3).trans rfl
  have c4 : W.cell? ⟨w.heap.size, 4, none⟩ = some (.int .u8 r) := (blk_cell BK.out 4).trans rfl
  have c5 : W.cell? ⟨w.heap.size, 5, none⟩ = some (.bool md) := (blk_cell BK.out 5).trans rfl
  have z0 : W.cell? ⟨w.heap.size + 1, 0, none⟩ = some (.int .i64 0) := (blk_cell BR.out 0).trans rfl
  have z1 : W.cell? ⟨w.heap.size + 1, 1, none⟩ = some (.bool false) := (blk_cell BR.out 1).trans rfl
  have z2 : W.cell? ⟨w.heap.size + 1, 2, none⟩ = some (.int .u8 0) := (blk_cell BR.out 2).trans rfl
  have z3 : W.cell? ⟨w.heap.size + 1, 3, none⟩ = some (.int .u8 0) := (blk_cell BR.out 3).trans rfl
  have z4 : W.cell? ⟨w.heap.size + 1, 4, none⟩ = some (.int .u8 0) := (blk_cell BR.out 4).trans rfl
  have z5 : W.cell? ⟨w.heap.size + 1, 5, none⟩ = some (.bool false) := (blk_cell BR.out 5).trans rfl
  have fr := fun i => blk_frozen BR.out i
  go_region_held3 (fun w' => w'.cell? ⟨w.heap.size, 0, none⟩ = some (.int .i64 5) ∧ w'.cell? ⟨w.heap.size, 1, none⟩ = some (.bool o) ∧ w'.cell? ⟨w.heap.size, 2, none⟩ = some (.int .u8 l) ∧ w'.cell? ⟨w.heap.size, 3, none⟩ = some (.int .u8 h) ∧ w'.cell? ⟨w.heap.size, 4, none⟩ = some (.int .u8 r) ∧ w'.cell? ⟨w.heap.size, 5, none⟩ = some (.bool md)) (go_keep)
    (first | (go_at_call 68; ((with_reducible refine (of5 _).mono ?_)); rintro e' w2 ⟨rfl, rfl⟩)
           | (go_at_call 108; ((with_reducible refine (write_fifth4 5 4 v o l h r md rfl _).mono ?_)); rintro e' w2 ⟨rfl, hb⟩; have n0 := Aside0.mk (blk_below (blk_drew BK.out) hb); have m0 := Aside0.mk (blk_below (blk_drew BR.out) hb); have n1 := Aside0.mk (below_step (below_drew1 HB.out) hb); clear hb; have d0 : w2.cell? ⟨w.heap.size, 0, none⟩ = some (.int .i64 5) := (blk_cell n0.out 0).trans rfl; have d1 : w2.cell? ⟨w.heap.size, 1, none⟩ = some (.bool o) := (blk_cell n0.out 1).trans rfl; have d2 : w2.cell? ⟨w.heap.size, 2, none⟩ = some (.int .u8 l) := (blk_cell n0.out 2).trans rfl; have d3 : w2.cell? ⟨w.heap.size, 3, none⟩ = some (.int .u8 h) := (blk_cell n0.out 3).trans rfl; have d4 : w2.cell? ⟨w.heap.size, 4, none⟩ = some (.int .u8 r) := (blk_cell n0.out 4).trans rfl; have d5 : w2.cell? ⟨w.heap.size, 5, none⟩ = some (.bool md) := (blk_cell n0.out 5).trans rfl; have y0 : w2.cell? ⟨w.heap.size + 1, 0, none⟩ = some (.int .i64 0) := (blk_cell m0.out 0).trans rfl; have y1 : w2.cell? ⟨w.heap.size + 1, 1, none⟩ = some (.bool false) := (blk_cell m0.out 1).trans rfl; have y2 : w2.cell? ⟨w.heap.size + 1, 2, none⟩ = some (.int .u8 0) := (blk_cell m0.out 2).trans rfl; have y3 : w2.cell? ⟨w.heap.size + 1, 3, none⟩ = some (.int .u8 0) := (blk_cell m0.out 3).trans rfl; have y4 : w2.cell? ⟨w.heap.size + 1, 4, none⟩ = some (.int .u8 0) := (blk_cell m0.out 4).trans rfl; have y5 : w2.cell? ⟨w.heap.size + 1, 5, none⟩ = some (.bool false) := (blk_cell m0.out 5).trans rfl; have fy := fun i => blk_frozen m0.out i))
  rename_i hHeld
  clear hHeld
  go_wp2
  have q1 : ((((((w2.setCell ⟨w.heap.size + 1, 0, none⟩ (.int .i64 5)).setCell ⟨w.heap.size + 1, 1, none⟩ (.bool o)).setCell ⟨w.heap.size + 1, 2, none⟩ (.int .u8 l)).setCell ⟨w.heap.size + 1, 3, none⟩ (.int .u8 h)).setCell ⟨w.heap.size + 1, 4, none⟩ (.int .u8 (Go.bits .and .u8 v 15))).setCell ⟨w.heap.size + 1, 5, none⟩ (.bool md)).heap[w.heap.size + 1]? = some (.cells #[.int .i64 5, .bool o, .int .u8 l, .int .u8 h, .int .u8 (Go.bits .and .u8 v 15), .bool md] 32 (0, 0)) := (blk_put (blk_put (blk_put (blk_put (blk_put (blk_put m0.out 0 _ rfl) 1 _ rfl) 2 _ rfl) 3 _ rfl) 4 _ rfl) 5 _ rfl)
  have q2 : Below w.heap.size w ((((((w2.setCell ⟨w.heap.size + 1, 0, none⟩ (.int .i64 5)).setCell ⟨w.heap.size + 1, 1, none⟩ (.bool o)).setCell ⟨w.heap.size + 1, 2, none⟩ (.int .u8 l)).setCell ⟨w.heap.size + 1, 3, none⟩ (.int .u8 h)).setCell ⟨w.heap.size + 1, 4, none⟩ (.int .u8 (Go.bits .and .u8 v 15))).setCell ⟨w.heap.size + 1, 5, none⟩ (.bool md)) := (below_set (below_set (below_set (below_set (below_set (below_set n1.out (Nat.le_succ _)) (Nat.le_succ _)) (Nat.le_succ _)) (Nat.le_succ _)) (Nat.le_succ _)) (Nat.le_succ _))
  generalize ((((((w2.setCell ⟨w.heap.size + 1, 0, none⟩ (.int .i64 5)).setCell ⟨w.heap.size + 1, 1, none⟩ (.bool o)).setCell ⟨w.heap.size + 1, 2, none⟩ (.int .u8 l)).setCell ⟨w.heap.size + 1, 3, none⟩ (.int .u8 h)).setCell ⟨w.heap.size + 1, 4, none⟩ (.int .u8 (Go.bits .and .u8 v 15))).setCell ⟨w.heap.size + 1, 5, none⟩ (.bool md)) = Y at q1 q2 ⊢
  have u0 : Y.cell? ⟨w.heap.size + 1, 0, none⟩ = some (.int .i64 5) := (blk_cell q1 0).trans rfl
  have u1 : Y.cell? ⟨w.heap.size + 1, 1, none⟩ = some (.bool o) := (blk_cell q1 1).trans rfl
  have u2 : Y.cell? ⟨w.heap.size + 1, 2, none⟩ = some (.int .u8 l) := (blk_cell q1 2).trans rfl
  have u3 : Y.cell? ⟨w.heap.size + 1, 3, none⟩ = some (.int .u8 h) := (blk_cell q1 3).trans rfl
  have u4 : Y.cell? ⟨w.heap.size + 1, 4, none⟩ = some (.int .u8 (Go.bits .and .u8 v 15)) := (blk_cell q1 4).trans rfl
  have u5 : Y.cell? ⟨w.heap.size + 1, 5, none⟩ = some (.bool md) := (blk_cell q1 5).trans rfl
  exact bodyPost_ret (v := .agg #[.int .i64 5, .bool o, .int .u8 l, .int .u8 h, .int .u8 (Go.bits .and .u8 v 15), .bool md]) (by simp [results, Try.results41, go_sem, u0, u1, u2, u3, u4, u5]) rfl ⟨rfl, q2⟩
set_option maxRecDepth 100000 in
set_option maxHeartbeats 400000 in
theorem wr_fifth5 (k : Int) (o : Bool) (l h r : Int) (md : Bool) (a v : Int) (hp : IntKind.i64.wrap (a / 4096) = 5) (ha : ¬ a ≥ 32768) (w : World) :
    Calls Try.prog 41 #[.agg #[.int .i64 5, .bool o, .int .u8 l, .int .u8 h, .int .u8 r, .bool md], .int .u16 a, .int .u8 v] w fun e' w' => e' = .returned (.agg #[.int .i64 5, .bool o, .int .u8 l, .int .u8 h, .int .u8 (Go.bits .and .u8 v 15), .bool md]) ∧ Below w.heap.size w w' := by
  go_enter Try.func41, Try.ntmps41
  go_wp2
  have bk := blk_alloc (blk_new w (.cells #[.int .i64 5, .bool o, .int .u8 l, .int .u8 h, .int .u8 r, .bool md] 32)) (.cells #[.int .i64 0, .bool false, .int .u8 0, .int .u8 0, .int .u8 0, .bool false] 32)
  have br := blk_at1 w (.cells #[.int .i64 5, .bool o, .int .u8 l, .int .u8 h, .int .u8 r, .bool md] 32) (.cells #[.int .i64 0, .bool false, .int .u8 0, .int .u8 0, .int .u8 0, .bool false] 32)
  have hB := below_alloc (below_alloc (Below.refl w.heap.size w) (.cells #[.int .i64 5, .bool o, .int .u8 l, .int .u8 h, .int .u8 r, .bool md] 32)) (.cells #[.int .i64 0, .bool false, .int .u8 0, .int .u8 0, .int .u8 0, .bool false] 32)
  generalize (w.alloc (.cells #[.int .i64 5, .bool o, .int .u8 l, .int .u8 h, .int .u8 r, .bool md] 32)).alloc (.cells #[.int .i64 0, .bool false, .int .u8 0, .int .u8 0, .int .u8 0, .bool false] 32) = W at bk br hB ⊢
  have BK := Aside0.mk bk
  have BR := Aside0.mk br
  have HB := Aside0.mk hB
  clear bk br hB
  have c0 : W.cell? ⟨w.heap.size, 0, none⟩ = some (.int .i64 5) := (blk_cell BK.out 0).trans rfl
  have c1 : W.cell? ⟨w.heap.size, 1, none⟩ = some (.bool o) := (blk_cell BK.out 1).trans rfl
  have c2 : W.cell? ⟨w.heap.size, 2, none⟩ = some (.int .u8 l) := (blk_cell BK.out 2).trans rfl
  have c3 : W.cell? ⟨w.heap.size, 3, none⟩ = some (.int .u8 h) := (blk_cell BK.out 3).trans rfl
  have c4 : W.cell? ⟨w.heap.size, 4, none⟩ = some (.int .u8 r) := (blk_cell BK.out 4).trans rfl
  have c5 : W.cell? ⟨w.heap.size, 5, none⟩ = some (.bool md) := (blk_cell BK.out 5).trans rfl
  have z0 : W.cell? ⟨w.heap.size + 1, 0, none⟩ = some (.int .i64 0) := (blk_cell BR.out 0).trans rfl
  have z1 : W.cell? ⟨w.heap.size + 1, 1, none⟩ = some (.bool false) := (blk_cell BR.out 1).trans rfl
  have z2 : W.cell? ⟨w.heap.size + 1, 2, none⟩ = some (.int .u8 0) := (blk_cell BR.out 2).trans rfl
  have z3 : W.cell? ⟨w.heap.size + 1, 3, none⟩ = some (.int .u8 0) := (blk_cell BR.out 3).trans rfl
  have z4 : W.cell? ⟨w.heap.size + 1, 4, none⟩ = some (.int .u8 0) := (blk_cell BR.out 4).trans rfl
  have z5 : W.cell? ⟨w.heap.size + 1, 5, none⟩ = some (.bool false) := (blk_cell BR.out 5).trans rfl
  have fr := fun i => blk_frozen BR.out i
  go_region_held3 (fun w' => w'.cell? ⟨w.heap.size, 0, none⟩ = some (.int .i64 5) ∧ w'.cell? ⟨w.heap.size, 1, none⟩ = some (.bool o) ∧ w'.cell? ⟨w.heap.size, 2, none⟩ = some (.int .u8 l) ∧ w'.cell? ⟨w.heap.size, 3, none⟩ = some (.int .u8 h) ∧ w'.cell? ⟨w.heap.size, 4, none⟩ = some (.int .u8 r) ∧ w'.cell? ⟨w.heap.size, 5, none⟩ = some (.bool md)) (go_keep)
    (first | (go_at_call 68; ((with_reducible refine (of5 _).mono ?_)); rintro e' w2 ⟨rfl, rfl⟩)
           | (go_at_call 108; ((with_reducible refine (write_fifth5 5 5 v o l h r md rfl _).mono ?_)); rintro e' w2 ⟨rfl, hb⟩; have n0 := Aside0.mk (blk_below (blk_drew BK.out) hb); have m0 := Aside0.mk (blk_below (blk_drew BR.out) hb); have n1 := Aside0.mk (below_step (below_drew1 HB.out) hb); clear hb; have d0 : w2.cell? ⟨w.heap.size, 0, none⟩ = some (.int .i64 5) := (blk_cell n0.out 0).trans rfl; have d1 : w2.cell? ⟨w.heap.size, 1, none⟩ = some (.bool o) := (blk_cell n0.out 1).trans rfl; have d2 : w2.cell? ⟨w.heap.size, 2, none⟩ = some (.int .u8 l) := (blk_cell n0.out 2).trans rfl; have d3 : w2.cell? ⟨w.heap.size, 3, none⟩ = some (.int .u8 h) := (blk_cell n0.out 3).trans rfl; have d4 : w2.cell? ⟨w.heap.size, 4, none⟩ = some (.int .u8 r) := (blk_cell n0.out 4).trans rfl; have d5 : w2.cell? ⟨w.heap.size, 5, none⟩ = some (.bool md) := (blk_cell n0.out 5).trans rfl; have y0 : w2.cell? ⟨w.heap.size + 1, 0, none⟩ = some (.int .i64 0) := (blk_cell m0.out 0).trans rfl; have y1 : w2.cell? ⟨w.heap.size + 1, 1, none⟩ = some (.bool false) := (blk_cell m0.out 1).trans rfl; have y2 : w2.cell? ⟨w.heap.size + 1, 2, none⟩ = some (.int .u8 0) := (blk_cell m0.out 2).trans rfl; have y3 : w2.cell? ⟨w.heap.size + 1, 3, none⟩ = some (.int .u8 0) := (blk_cell m0.out 3).trans rfl; have y4 : w2.cell? ⟨w.heap.size + 1, 4, none⟩ = some (.int .u8 0) := (blk_cell m0.out 4).trans rfl; have y5 : w2.cell? ⟨w.heap.size + 1, 5, none⟩ = some (.bool false) := (blk_cell m0.out 5).trans rfl; have fy := fun i => blk_frozen m0.out i))
  rename_i hHeld
  clear hHeld
  go_wp2
  have q1 : ((((((w2.setCell ⟨w.heap.size + 1, 0, none⟩ (.int .i64 5)).setCell ⟨w.heap.size + 1, 1, none⟩ (.bool o)).setCell ⟨w.heap.size + 1, 2, none⟩ (.int .u8 l)).setCell ⟨w.heap.size + 1, 3, none⟩ (.int .u8 h)).setCell ⟨w.heap.size + 1, 4, none⟩ (.int .u8 (Go.bits .and .u8 v 15))).setCell ⟨w.heap.size + 1, 5, none⟩ (.bool md)).heap[w.heap.size + 1]? = some (.cells #[.int .i64 5, .bool o, .int .u8 l, .int .u8 h, .int .u8 (Go.bits .and .u8 v 15), .bool md] 32 (0, 0)) := (blk_put (blk_put (blk_put (blk_put (blk_put (blk_put m0.out 0 _ rfl) 1 _ rfl) 2 _ rfl) 3 _ rfl) 4 _ rfl) 5 _ rfl)
  have q2 : Below w.heap.size w ((((((w2.setCell ⟨w.heap.size + 1, 0, none⟩ (.int .i64 5)).setCell ⟨w.heap.size + 1, 1, none⟩ (.bool o)).setCell ⟨w.heap.size + 1, 2, none⟩ (.int .u8 l)).setCell ⟨w.heap.size + 1, 3, none⟩ (.int .u8 h)).setCell ⟨w.heap.size + 1, 4, none⟩ (.int .u8 (Go.bits .and .u8 v 15))).setCell ⟨w.heap.size + 1, 5, none⟩ (.bool md)) := (below_set (below_set (below_set (below_set (below_set (below_set n1.out (Nat.le_succ _)) (Nat.le_succ _)) (Nat.le_succ _)) (Nat.le_succ _)) (Nat.le_succ _)) (Nat.le_succ _))
  generalize ((((((w2.setCell ⟨w.heap.size + 1, 0, none⟩ (.int .i64 5)).setCell ⟨w.heap.size + 1, 1, none⟩ (.bool o)).setCell ⟨w.heap.size + 1, 2, none⟩ (.int .u8 l)).setCell ⟨w.heap.size + 1, 3, none⟩ (.int .u8 h)).setCell ⟨w.heap.size + 1, 4, none⟩ (.int .u8 (Go.bits .and .u8 v 15))).setCell ⟨w.heap.size + 1, 5, none⟩ (.bool md)) = Y at q1 q2 ⊢
  have u0 : Y.cell? ⟨w.heap.size + 1, 0, none⟩ = some (.int .i64 5) := (blk_cell q1 0).trans rfl
  have u1 : Y.cell? ⟨w.heap.size + 1, 1, none⟩ = some (.bool o) := (blk_cell q1 1).trans rfl
  have u2 : Y.cell? ⟨w.heap.size + 1, 2, none⟩ = some (.int .u8 l) := (blk_cell q1 2).trans rfl
  have u3 : Y.cell? ⟨w.heap.size + 1, 3, none⟩ = some (.int .u8 h) := (blk_cell q1 3).trans rfl
  have u4 : Y.cell? ⟨w.heap.size + 1, 4, none⟩ = some (.int .u8 (Go.bits .and .u8 v 15)) := (blk_cell q1 4).trans rfl
  have u5 : Y.cell? ⟨w.heap.size + 1, 5, none⟩ = some (.bool md) := (blk_cell q1 5).trans rfl
  exact bodyPost_ret (v := .agg #[.int .i64 5, .bool o, .int .u8 l, .int .u8 h, .int .u8 (Go.bits .and .u8 v 15), .bool md]) (by simp [results, Try.results41, go_sem, u0, u1, u2, u3, u4, u5]) rfl ⟨rfl, q2⟩
set_option maxRecDepth 100000 in
set_option maxHeartbeats 400000 in
theorem wr_fifth_no (k : Int) (o : Bool) (l h r : Int) (md : Bool) (a v : Int) (h0 : ¬ IntKind.i64.wrap (a / 4096) = 0) (h1 : ¬ IntKind.i64.wrap (a / 4096) = 1) (h2 : ¬ IntKind.i64.wrap (a / 4096) = 2) (h3 : ¬ IntKind.i64.wrap (a / 4096) = 3) (h4 : ¬ IntKind.i64.wrap (a / 4096) = 4) (h5 : ¬ IntKind.i64.wrap (a / 4096) = 5) (ha : ¬ a ≥ 32768) (w : World) :
    Calls Try.prog 41 #[.agg #[.int .i64 5, .bool o, .int .u8 l, .int .u8 h, .int .u8 r, .bool md], .int .u16 a, .int .u8 v] w fun e' w' => e' = .returned (.agg #[.int .i64 5, .bool o, .int .u8 l, .int .u8 h, .int .u8 r, .bool md]) ∧ Below w.heap.size w w' := by
  go_enter Try.func41, Try.ntmps41
  go_wp2
  have bk := blk_alloc (blk_new w (.cells #[.int .i64 5, .bool o, .int .u8 l, .int .u8 h, .int .u8 r, .bool md] 32)) (.cells #[.int .i64 0, .bool false, .int .u8 0, .int .u8 0, .int .u8 0, .bool false] 32)
  have br := blk_at1 w (.cells #[.int .i64 5, .bool o, .int .u8 l, .int .u8 h, .int .u8 r, .bool md] 32) (.cells #[.int .i64 0, .bool false, .int .u8 0, .int .u8 0, .int .u8 0, .bool false] 32)
  have hB := below_alloc (below_alloc (Below.refl w.heap.size w) (.cells #[.int .i64 5, .bool o, .int .u8 l, .int .u8 h, .int .u8 r, .bool md] 32)) (.cells #[.int .i64 0, .bool false, .int .u8 0, .int .u8 0, .int .u8 0, .bool false] 32)
  generalize (w.alloc (.cells #[.int .i64 5, .bool o, .int .u8 l, .int .u8 h, .int .u8 r, .bool md] 32)).alloc (.cells #[.int .i64 0, .bool false, .int .u8 0, .int .u8 0, .int .u8 0, .bool false] 32) = W at bk br hB ⊢
  have BK := Aside0.mk bk
  have BR := Aside0.mk br
  have HB := Aside0.mk hB
  clear bk br hB
  have c0 : W.cell? ⟨w.heap.size, 0, none⟩ = some (.int .i64 5) := (blk_cell BK.out 0).trans rfl
  have c1 : W.cell? ⟨w.heap.size, 1, none⟩ = some (.bool o) := (blk_cell BK.out 1).trans rfl
  have c2 : W.cell? ⟨w.heap.size, 2, none⟩ = some (.int .u8 l) := (blk_cell BK.out 2).trans rfl
  have c3 : W.cell? ⟨w.heap.size, 3, none⟩ = some (.int .u8 h) := (blk_cell BK.out 3).trans rfl
  have c4 : W.cell? ⟨w.heap.size, 4, none⟩ = some (.int .u8 r) := (blk_cell BK.out 4).trans rfl
  have c5 : W.cell? ⟨w.heap.size, 5, none⟩ = some (.bool md) := (blk_cell BK.out 5).trans rfl
  have z0 : W.cell? ⟨w.heap.size + 1, 0, none⟩ = some (.int .i64 0) := (blk_cell BR.out 0).trans rfl
  have z1 : W.cell? ⟨w.heap.size + 1, 1, none⟩ = some (.bool false) := (blk_cell BR.out 1).trans rfl
  have z2 : W.cell? ⟨w.heap.size + 1, 2, none⟩ = some (.int .u8 0) := (blk_cell BR.out 2).trans rfl
  have z3 : W.cell? ⟨w.heap.size + 1, 3, none⟩ = some (.int .u8 0) := (blk_cell BR.out 3).trans rfl
  have z4 : W.cell? ⟨w.heap.size + 1, 4, none⟩ = some (.int .u8 0) := (blk_cell BR.out 4).trans rfl
  have z5 : W.cell? ⟨w.heap.size + 1, 5, none⟩ = some (.bool false) := (blk_cell BR.out 5).trans rfl
  have fr := fun i => blk_frozen BR.out i
  go_region_held3 (fun w' => w'.cell? ⟨w.heap.size, 0, none⟩ = some (.int .i64 5) ∧ w'.cell? ⟨w.heap.size, 1, none⟩ = some (.bool o) ∧ w'.cell? ⟨w.heap.size, 2, none⟩ = some (.int .u8 l) ∧ w'.cell? ⟨w.heap.size, 3, none⟩ = some (.int .u8 h) ∧ w'.cell? ⟨w.heap.size, 4, none⟩ = some (.int .u8 r) ∧ w'.cell? ⟨w.heap.size, 5, none⟩ = some (.bool md)) (go_keep)
    (first | (go_at_call 68; ((with_reducible refine (of5 _).mono ?_)); rintro e' w2 ⟨rfl, rfl⟩)
           | (go_at_call 108; ((with_reducible refine (write_fifth_no 5 (IntKind.i64.wrap (a / 4096)) v o l h r md h0 h1 h2 h3 h4 h5 _).mono ?_)); rintro e' w2 ⟨rfl, hb⟩; have n0 := Aside0.mk (blk_below (blk_drew BK.out) hb); have m0 := Aside0.mk (blk_below (blk_drew BR.out) hb); have n1 := Aside0.mk (below_step (below_drew1 HB.out) hb); clear hb; have d0 : w2.cell? ⟨w.heap.size, 0, none⟩ = some (.int .i64 5) := (blk_cell n0.out 0).trans rfl; have d1 : w2.cell? ⟨w.heap.size, 1, none⟩ = some (.bool o) := (blk_cell n0.out 1).trans rfl; have d2 : w2.cell? ⟨w.heap.size, 2, none⟩ = some (.int .u8 l) := (blk_cell n0.out 2).trans rfl; have d3 : w2.cell? ⟨w.heap.size, 3, none⟩ = some (.int .u8 h) := (blk_cell n0.out 3).trans rfl; have d4 : w2.cell? ⟨w.heap.size, 4, none⟩ = some (.int .u8 r) := (blk_cell n0.out 4).trans rfl; have d5 : w2.cell? ⟨w.heap.size, 5, none⟩ = some (.bool md) := (blk_cell n0.out 5).trans rfl; have y0 : w2.cell? ⟨w.heap.size + 1, 0, none⟩ = some (.int .i64 0) := (blk_cell m0.out 0).trans rfl; have y1 : w2.cell? ⟨w.heap.size + 1, 1, none⟩ = some (.bool false) := (blk_cell m0.out 1).trans rfl; have y2 : w2.cell? ⟨w.heap.size + 1, 2, none⟩ = some (.int .u8 0) := (blk_cell m0.out 2).trans rfl; have y3 : w2.cell? ⟨w.heap.size + 1, 3, none⟩ = some (.int .u8 0) := (blk_cell m0.out 3).trans rfl; have y4 : w2.cell? ⟨w.heap.size + 1, 4, none⟩ = some (.int .u8 0) := (blk_cell m0.out 4).trans rfl; have y5 : w2.cell? ⟨w.heap.size + 1, 5, none⟩ = some (.bool false) := (blk_cell m0.out 5).trans rfl; have fy := fun i => blk_frozen m0.out i))
  rename_i hHeld
  clear hHeld
  go_wp2
  have q1 : ((((((w2.setCell ⟨w.heap.size + 1, 0, none⟩ (.int .i64 5)).setCell ⟨w.heap.size + 1, 1, none⟩ (.bool o)).setCell ⟨w.heap.size + 1, 2, none⟩ (.int .u8 l)).setCell ⟨w.heap.size + 1, 3, none⟩ (.int .u8 h)).setCell ⟨w.heap.size + 1, 4, none⟩ (.int .u8 r)).setCell ⟨w.heap.size + 1, 5, none⟩ (.bool md)).heap[w.heap.size + 1]? = some (.cells #[.int .i64 5, .bool o, .int .u8 l, .int .u8 h, .int .u8 r, .bool md] 32 (0, 0)) := (blk_put (blk_put (blk_put (blk_put (blk_put (blk_put m0.out 0 _ rfl) 1 _ rfl) 2 _ rfl) 3 _ rfl) 4 _ rfl) 5 _ rfl)
  have q2 : Below w.heap.size w ((((((w2.setCell ⟨w.heap.size + 1, 0, none⟩ (.int .i64 5)).setCell ⟨w.heap.size + 1, 1, none⟩ (.bool o)).setCell ⟨w.heap.size + 1, 2, none⟩ (.int .u8 l)).setCell ⟨w.heap.size + 1, 3, none⟩ (.int .u8 h)).setCell ⟨w.heap.size + 1, 4, none⟩ (.int .u8 r)).setCell ⟨w.heap.size + 1, 5, none⟩ (.bool md)) := (below_set (below_set (below_set (below_set (below_set (below_set n1.out (Nat.le_succ _)) (Nat.le_succ _)) (Nat.le_succ _)) (Nat.le_succ _)) (Nat.le_succ _)) (Nat.le_succ _))
  generalize ((((((w2.setCell ⟨w.heap.size + 1, 0, none⟩ (.int .i64 5)).setCell ⟨w.heap.size + 1, 1, none⟩ (.bool o)).setCell ⟨w.heap.size + 1, 2, none⟩ (.int .u8 l)).setCell ⟨w.heap.size + 1, 3, none⟩ (.int .u8 h)).setCell ⟨w.heap.size + 1, 4, none⟩ (.int .u8 r)).setCell ⟨w.heap.size + 1, 5, none⟩ (.bool md)) = Y at q1 q2 ⊢
  have u0 : Y.cell? ⟨w.heap.size + 1, 0, none⟩ = some (.int .i64 5) := (blk_cell q1 0).trans rfl
  have u1 : Y.cell? ⟨w.heap.size + 1, 1, none⟩ = some (.bool o) := (blk_cell q1 1).trans rfl
  have u2 : Y.cell? ⟨w.heap.size + 1, 2, none⟩ = some (.int .u8 l) := (blk_cell q1 2).trans rfl
  have u3 : Y.cell? ⟨w.heap.size + 1, 3, none⟩ = some (.int .u8 h) := (blk_cell q1 3).trans rfl
  have u4 : Y.cell? ⟨w.heap.size + 1, 4, none⟩ = some (.int .u8 r) := (blk_cell q1 4).trans rfl
  have u5 : Y.cell? ⟨w.heap.size + 1, 5, none⟩ = some (.bool md) := (blk_cell q1 5).trans rfl
  exact bodyPost_ret (v := .agg #[.int .i64 5, .bool o, .int .u8 l, .int .u8 h, .int .u8 r, .bool md]) (by simp [results, Try.results41, go_sem, u0, u1, u2, u3, u4, u5]) rfl ⟨rfl, q2⟩
set_option maxRecDepth 100000 in
set_option maxHeartbeats 400000 in
theorem wr_plain (k : Int) (o : Bool) (l h r : Int) (md : Bool) (a v : Int) (h1 : ¬ k = 1) (h3 : ¬ k = 3) (h5 : ¬ k = 5) (ha : ¬ a ≥ 32768) (w : World) :
    Calls Try.prog 41 #[.agg #[.int .i64 k, .bool o, .int .u8 l, .int .u8 h, .int .u8 r, .bool md], .int .u16 a, .int .u8 v] w fun e' w' => e' = .returned (.agg #[.int .i64 k, .bool o, .int .u8 l, .int .u8 h, .int .u8 r, .bool md]) ∧ Below w.heap.size w w' := by
  go_enter Try.func41, Try.ntmps41
  go_wp2
  have bk := blk_alloc (blk_new w (.cells #[.int .i64 k, .bool o, .int .u8 l, .int .u8 h, .int .u8 r, .bool md] 32)) (.cells #[.int .i64 0, .bool false, .int .u8 0, .int .u8 0, .int .u8 0, .bool false] 32)
  have br := blk_at1 w (.cells #[.int .i64 k, .bool o, .int .u8 l, .int .u8 h, .int .u8 r, .bool md] 32) (.cells #[.int .i64 0, .bool false, .int .u8 0, .int .u8 0, .int .u8 0, .bool false] 32)
  have hB := below_alloc (below_alloc (Below.refl w.heap.size w) (.cells #[.int .i64 k, .bool o, .int .u8 l, .int .u8 h, .int .u8 r, .bool md] 32)) (.cells #[.int .i64 0, .bool false, .int .u8 0, .int .u8 0, .int .u8 0, .bool false] 32)
  generalize (w.alloc (.cells #[.int .i64 k, .bool o, .int .u8 l, .int .u8 h, .int .u8 r, .bool md] 32)).alloc (.cells #[.int .i64 0, .bool false, .int .u8 0, .int .u8 0, .int .u8 0, .bool false] 32) = W at bk br hB ⊢
  have BK := Aside0.mk bk
  have BR := Aside0.mk br
  have HB := Aside0.mk hB
  clear bk br hB
  have c0 : W.cell? ⟨w.heap.size, 0, none⟩ = some (.int .i64 k) := (blk_cell BK.out 0).trans rfl
  have c1 : W.cell? ⟨w.heap.size, 1, none⟩ = some (.bool o) := (blk_cell BK.out 1).trans rfl
  have c2 : W.cell? ⟨w.heap.size, 2, none⟩ = some (.int .u8 l) := (blk_cell BK.out 2).trans rfl
  have c3 : W.cell? ⟨w.heap.size, 3, none⟩ = some (.int .u8 h) := (blk_cell BK.out 3).trans rfl
  have c4 : W.cell? ⟨w.heap.size, 4, none⟩ = some (.int .u8 r) := (blk_cell BK.out 4).trans rfl
  have c5 : W.cell? ⟨w.heap.size, 5, none⟩ = some (.bool md) := (blk_cell BK.out 5).trans rfl
  have z0 : W.cell? ⟨w.heap.size + 1, 0, none⟩ = some (.int .i64 0) := (blk_cell BR.out 0).trans rfl
  have z1 : W.cell? ⟨w.heap.size + 1, 1, none⟩ = some (.bool false) := (blk_cell BR.out 1).trans rfl
  have z2 : W.cell? ⟨w.heap.size + 1, 2, none⟩ = some (.int .u8 0) := (blk_cell BR.out 2).trans rfl
  have z3 : W.cell? ⟨w.heap.size + 1, 3, none⟩ = some (.int .u8 0) := (blk_cell BR.out 3).trans rfl
  have z4 : W.cell? ⟨w.heap.size + 1, 4, none⟩ = some (.int .u8 0) := (blk_cell BR.out 4).trans rfl
  have z5 : W.cell? ⟨w.heap.size + 1, 5, none⟩ = some (.bool false) := (blk_cell BR.out 5).trans rfl
  have fr := fun i => blk_frozen BR.out i
  go_region_held3 (fun w' => w'.cell? ⟨w.heap.size, 0, none⟩ = some (.int .i64 k) ∧ w'.cell? ⟨w.heap.size, 1, none⟩ = some (.bool o) ∧ w'.cell? ⟨w.heap.size, 2, none⟩ = some (.int .u8 l) ∧ w'.cell? ⟨w.heap.size, 3, none⟩ = some (.int .u8 h) ∧ w'.cell? ⟨w.heap.size, 4, none⟩ = some (.int .u8 r) ∧ w'.cell? ⟨w.heap.size, 5, none⟩ = some (.bool md)) (go_keep)
    (first | (go_at_call 68; ((with_reducible refine (of0 k h1 h3 h5 _).mono ?_)); rintro e' w2 ⟨rfl, rfl⟩)
           | (go_at_call 112; ((with_reducible refine (write_plain k (IntKind.i64.wrap (a / 4096)) v o l h r md _).mono ?_)); rintro e' w2 ⟨rfl, hb⟩; have n0 := Aside0.mk (blk_below (blk_drew BK.out) hb); have m0 := Aside0.mk (blk_below (blk_drew BR.out) hb); have n1 := Aside0.mk (below_step (below_drew1 HB.out) hb); clear hb; have d0 : w2.cell? ⟨w.heap.size, 0, none⟩ = some (.int .i64 k) := (blk_cell n0.out 0).trans rfl; have d1 : w2.cell? ⟨w.heap.size, 1, none⟩ = some (.bool o) := (blk_cell n0.out 1).trans rfl; have d2 : w2.cell? ⟨w.heap.size, 2, none⟩ = some (.int .u8 l) := (blk_cell n0.out 2).trans rfl; have d3 : w2.cell? ⟨w.heap.size, 3, none⟩ = some (.int .u8 h) := (blk_cell n0.out 3).trans rfl; have d4 : w2.cell? ⟨w.heap.size, 4, none⟩ = some (.int .u8 r) := (blk_cell n0.out 4).trans rfl; have d5 : w2.cell? ⟨w.heap.size, 5, none⟩ = some (.bool md) := (blk_cell n0.out 5).trans rfl; have y0 : w2.cell? ⟨w.heap.size + 1, 0, none⟩ = some (.int .i64 0) := (blk_cell m0.out 0).trans rfl; have y1 : w2.cell? ⟨w.heap.size + 1, 1, none⟩ = some (.bool false) := (blk_cell m0.out 1).trans rfl; have y2 : w2.cell? ⟨w.heap.size + 1, 2, none⟩ = some (.int .u8 0) := (blk_cell m0.out 2).trans rfl; have y3 : w2.cell? ⟨w.heap.size + 1, 3, none⟩ = some (.int .u8 0) := (blk_cell m0.out 3).trans rfl; have y4 : w2.cell? ⟨w.heap.size + 1, 4, none⟩ = some (.int .u8 0) := (blk_cell m0.out 4).trans rfl; have y5 : w2.cell? ⟨w.heap.size + 1, 5, none⟩ = some (.bool false) := (blk_cell m0.out 5).trans rfl; have fy := fun i => blk_frozen m0.out i))
  rename_i hHeld
  clear hHeld
  go_wp2
  have q1 : ((((((w2.setCell ⟨w.heap.size + 1, 0, none⟩ (.int .i64 k)).setCell ⟨w.heap.size + 1, 1, none⟩ (.bool o)).setCell ⟨w.heap.size + 1, 2, none⟩ (.int .u8 l)).setCell ⟨w.heap.size + 1, 3, none⟩ (.int .u8 h)).setCell ⟨w.heap.size + 1, 4, none⟩ (.int .u8 r)).setCell ⟨w.heap.size + 1, 5, none⟩ (.bool md)).heap[w.heap.size + 1]? = some (.cells #[.int .i64 k, .bool o, .int .u8 l, .int .u8 h, .int .u8 r, .bool md] 32 (0, 0)) := (blk_put (blk_put (blk_put (blk_put (blk_put (blk_put m0.out 0 _ rfl) 1 _ rfl) 2 _ rfl) 3 _ rfl) 4 _ rfl) 5 _ rfl)
  have q2 : Below w.heap.size w ((((((w2.setCell ⟨w.heap.size + 1, 0, none⟩ (.int .i64 k)).setCell ⟨w.heap.size + 1, 1, none⟩ (.bool o)).setCell ⟨w.heap.size + 1, 2, none⟩ (.int .u8 l)).setCell ⟨w.heap.size + 1, 3, none⟩ (.int .u8 h)).setCell ⟨w.heap.size + 1, 4, none⟩ (.int .u8 r)).setCell ⟨w.heap.size + 1, 5, none⟩ (.bool md)) := (below_set (below_set (below_set (below_set (below_set (below_set n1.out (Nat.le_succ _)) (Nat.le_succ _)) (Nat.le_succ _)) (Nat.le_succ _)) (Nat.le_succ _)) (Nat.le_succ _))
  generalize ((((((w2.setCell ⟨w.heap.size + 1, 0, none⟩ (.int .i64 k)).setCell ⟨w.heap.size + 1, 1, none⟩ (.bool o)).setCell ⟨w.heap.size + 1, 2, none⟩ (.int .u8 l)).setCell ⟨w.heap.size + 1, 3, none⟩ (.int .u8 h)).setCell ⟨w.heap.size + 1, 4, none⟩ (.int .u8 r)).setCell ⟨w.heap.size + 1, 5, none⟩ (.bool md)) = Y at q1 q2 ⊢
  have u0 : Y.cell? ⟨w.heap.size + 1, 0, none⟩ = some (.int .i64 k) := (blk_cell q1 0).trans rfl
  have u1 : Y.cell? ⟨w.heap.size + 1, 1, none⟩ = some (.bool o) := (blk_cell q1 1).trans rfl
  have u2 : Y.cell? ⟨w.heap.size + 1, 2, none⟩ = some (.int .u8 l) := (blk_cell q1 2).trans rfl
  have u3 : Y.cell? ⟨w.heap.size + 1, 3, none⟩ = some (.int .u8 h) := (blk_cell q1 3).trans rfl
  have u4 : Y.cell? ⟨w.heap.size + 1, 4, none⟩ = some (.int .u8 r) := (blk_cell q1 4).trans rfl
  have u5 : Y.cell? ⟨w.heap.size + 1, 5, none⟩ = some (.bool md) := (blk_cell q1 5).trans rfl
  exact bodyPost_ret (v := .agg #[.int .i64 k, .bool o, .int .u8 l, .int .u8 h, .int .u8 r, .bool md]) (by simp [results, Try.results41, go_sem, u0, u1, u2, u3, u4, u5]) rfl ⟨rfl, q2⟩
set_option maxRecDepth 100000 in
set_option maxHeartbeats 400000 in
theorem wr_far (k : Int) (o : Bool) (l h r : Int) (md : Bool) (a v : Int) (ha : a ≥ 32768) (w : World) :
    Calls Try.prog 41 #[.agg #[.int .i64 k, .bool o, .int .u8 l, .int .u8 h, .int .u8 r, .bool md], .int .u16 a, .int .u8 v] w fun e' w' => e' = .returned (.agg #[.int .i64 k, .bool o, .int .u8 l, .int .u8 h, .int .u8 r, .bool md]) ∧ Below w.heap.size w w' := by
  go_enter Try.func41, Try.ntmps41
  go_wp2
  go_returns
  exact ⟨rfl, by go_grown⟩
def writeF (k : Int) (o : Bool) (l h r : Int) (md : Bool) (a v : Int) : Int × Bool × Int × Int × Int × Bool :=
  if a ≥ 32768 then (k, o, l, h, r, md) else
  if k = 1 then (if wrap64 (Int.tdiv (IntKind.i64.wrap (a / 4096)) 2) = 0 then (k, ((Go.bits .and .u8 v 15) == 10), l, h, r, md) else if wrap64 (Int.tdiv (IntKind.i64.wrap (a / 4096)) 2) = 1 then (k, o, (Go.bits .and .u8 v 31), h, r, md) else if wrap64 (Int.tdiv (IntKind.i64.wrap (a / 4096)) 2) = 2 then (k, o, l, (Go.bits .and .u8 v 3), r, md) else if wrap64 (Int.tdiv (IntKind.i64.wrap (a / 4096)) 2) = 3 then (k, o, l, h, r, ((Go.bits .and .u8 v 1) == 1)) else (k, o, l, h, r, md)) else
  if k = 3 then (if wrap64 (Int.tdiv (IntKind.i64.wrap (a / 4096)) 2) = 0 then (k, ((Go.bits .and .u8 v 15) == 10), l, h, r, md) else if wrap64 (Int.tdiv (IntKind.i64.wrap (a / 4096)) 2) = 1 then (k, o, (Go.bits .and .u8 v 127), h, r, md) else if wrap64 (Int.tdiv (IntKind.i64.wrap (a / 4096)) 2) = 2 then (k, o, l, h, (Go.bits .and .u8 v 15), md) else (k, o, l, h, r, md)) else
  if k = 5 then (if IntKind.i64.wrap (a / 4096) = 0 then (k, (v == 10), l, h, r, md) else if IntKind.i64.wrap (a / 4096) = 1 then (k, (v == 10), l, h, r, md) else if IntKind.i64.wrap (a / 4096) = 2 then (k, o, v, h, r, md) else if IntKind.i64.wrap (a / 4096) = 3 then (k, o, l, (Go.bits .and .u8 v 1), r, md) else if IntKind.i64.wrap (a / 4096) = 4 then (k, o, l, h, (Go.bits .and .u8 v 15), md) else if IntKind.i64.wrap (a / 4096) = 5 then (k, o, l, h, (Go.bits .and .u8 v 15), md) else (k, o, l, h, r, md)) else
  (k, o, l, h, r, md)
def mapper_Write.f (a0_0 : Int) (a0_1 : Bool) (a0_2 a0_3 a0_4 : Int) (a0_5 : Bool) (a1 a2 : Int) : Option (Int × Bool × Int × Int × Int × Bool) := some (writeF a0_0 a0_1 a0_2 a0_3 a0_4 a0_5 a1 a2)
theorem mapper_Write.calls (a0_0 : Int) (a0_1 : Bool) (a0_2 a0_3 a0_4 : Int) (a0_5 : Bool) (a1 a2 : Int) (r1 : Int) (r2 : Bool) (r3 r4 r5 : Int) (r6 : Bool) (w : World) (hf : mapper_Write.f a0_0 a0_1 a0_2 a0_3 a0_4 a0_5 a1 a2 = some (r1, r2, r3, r4, r5, r6)) :
    Calls Try.prog 41 #[.agg #[.int .i64 a0_0, .bool a0_1, .int .u8 a0_2, .int .u8 a0_3, .int .u8 a0_4, .bool a0_5], .int .u16 a1, .int .u8 a2] w fun e w' => e = .returned (.agg #[.int .i64 r1, .bool r2, .int .u8 r3, .int .u8 r4, .int .u8 r5, .bool r6]) ∧ Below w.heap.size w w' := by
  replace hf := Option.some.inj hf
  unfold writeF at hf
  by_cases hA : a1 ≥ 32768
  · rw [if_pos hA] at hf
    cases hf
    exact wr_far _ _ _ _ _ _ _ _ hA w
  rw [if_neg hA] at hf
  by_cases k1 : a0_0 = 1
  · subst k1
    rw [if_pos rfl] at hf
    by_cases h0 : wrap64 (Int.tdiv (IntKind.i64.wrap (a1 / 4096)) 2) = 0
    · rw [if_pos h0] at hf
      cases hf
      exact wr_first0 0 _ _ _ _ _ _ _ h0 hA w
    rw [if_neg h0] at hf
    by_cases h1 : wrap64 (Int.tdiv (IntKind.i64.wrap (a1 / 4096)) 2) = 1
    · rw [if_pos h1] at hf
      cases hf
      exact wr_first1 0 _ _ _ _ _ _ _ h1 hA w
    rw [if_neg h1] at hf
    by_cases h2 : wrap64 (Int.tdiv (IntKind.i64.wrap (a1 / 4096)) 2) = 2
    · rw [if_pos h2] at hf
      cases hf
      exact wr_first2 0 _ _ _ _ _ _ _ h2 hA w
    rw [if_neg h2] at hf
    by_cases h3 : wrap64 (Int.tdiv (IntKind.i64.wrap (a1 / 4096)) 2) = 3
    · rw [if_pos h3] at hf
      cases hf
      exact wr_first3 0 _ _ _ _ _ _ _ h3 hA w
    rw [if_neg h3] at hf
    cases hf
    exact wr_first_no 0 _ _ _ _ _ _ _ h0 h1 h2 h3 hA w
  rw [if_neg k1] at hf
  by_cases k3 : a0_0 = 3
  · subst k3
    rw [if_pos rfl] at hf
    by_cases h0 : wrap64 (Int.tdiv (IntKind.i64.wrap (a1 / 4096)) 2) = 0
    · rw [if_pos h0] at hf
      cases hf
      exact wr_third0 0 _ _ _ _ _ _ _ h0 hA w
    rw [if_neg h0] at hf
    by_cases h1 : wrap64 (Int.tdiv (IntKind.i64.wrap (a1 / 4096)) 2) = 1
    · rw [if_pos h1] at hf
      cases hf
      exact wr_third1 0 _ _ _ _ _ _ _ h1 hA w
    rw [if_neg h1] at hf
    by_cases h2 : wrap64 (Int.tdiv (IntKind.i64.wrap (a1 / 4096)) 2) = 2
    · rw [if_pos h2] at hf
      cases hf
      exact wr_third2 0 _ _ _ _ _ _ _ h2 hA w
    rw [if_neg h2] at hf
    cases hf
    exact wr_third_no 0 _ _ _ _ _ _ _ h0 h1 h2 hA w
  rw [if_neg k3] at hf
  by_cases k5 : a0_0 = 5
  · subst k5
    rw [if_pos rfl] at hf
    by_cases h0 : IntKind.i64.wrap (a1 / 4096) = 0
    · rw [if_pos h0] at hf
      cases hf
      exact wr_fifth0 0 _ _ _ _ _ _ _ h0 hA w
    rw [if_neg h0] at hf
    by_cases h1 : IntKind.i64.wrap (a1 / 4096) = 1
    · rw [if_pos h1] at hf
      cases hf
      exact wr_fifth1 0 _ _ _ _ _ _ _ h1 hA w
    rw [if_neg h1] at hf
    by_cases h2 : IntKind.i64.wrap (a1 / 4096) = 2
    · rw [if_pos h2] at hf
      cases hf
      exact wr_fifth2 0 _ _ _ _ _ _ _ h2 hA w
    rw [if_neg h2] at hf
    by_cases h3 : IntKind.i64.wrap (a1 / 4096) = 3
    · rw [if_pos h3] at hf
      cases hf
      exact wr_fifth3 0 _ _ _ _ _ _ _ h3 hA w
    rw [if_neg h3] at hf
    by_cases h4 : IntKind.i64.wrap (a1 / 4096) = 4
    · rw [if_pos h4] at hf
      cases hf
      exact wr_fifth4 0 _ _ _ _ _ _ _ h4 hA w
    rw [if_neg h4] at hf
    by_cases h5 : IntKind.i64.wrap (a1 / 4096) = 5
    · rw [if_pos h5] at hf
      cases hf
      exact wr_fifth5 0 _ _ _ _ _ _ _ h5 hA w
    rw [if_neg h5] at hf
    cases hf
    exact wr_fifth_no 0 _ _ _ _ _ _ _ h0 h1 h2 h3 h4 h5 hA w
  rw [if_neg k5] at hf
  cases hf
  exact wr_plain _ _ _ _ _ _ _ _ k1 k3 k5 hA w
end Go.Proofs.Ytmjjojbedllmgaa.Hand
end
section
namespace Go.Proofs.Ytmjjojbedllmgaa.G
end Go.Proofs.Ytmjjojbedllmgaa.G
end
section
namespace Go.Proofs.Ytmjjojbedllmgaa.Hand
open Go.RowKit
open Go.Proofs.Ytmjjojbedllmgaa.G
open Go.Proofs.YtmjjojbedllmgaaW.PrintWords Go.Proofs.YtmjjojbedllmgaaW.PrintLast Go.Proofs.YtmjjojbedllmgaaW.PrintMore
set_option linter.unusedVariables false
def clock_Write.f (a0_0 : Int) (a0_1 : Int) (a0_2 : Int) (a0_3 : Int) (a0_4 : Bool) (a0_5 : Bool) (a1 : Int) (a2 : Int) : Option (Int × Int × Int × Int × Bool × Bool × Int) := (clock_Norm.f a0_0 a0_1 a0_2 a0_3 a0_4 a0_5).bind fun bt340 => (if a1 = 8 then ((clock_Norm.f a2 bt340.2.1 bt340.2.2.1 bt340.2.2.2.1 bt340.2.2.2.2.1 bt340.2.2.2.2.2).bind fun bt346 => (some (bt346.1, bt346.2.1, bt346.2.2.1, bt346.2.2.2.1, bt346.2.2.2.2.1, bt346.2.2.2.2.2, 0))) else (if a1 = 9 then ((clock_Norm.f bt340.1 a2 bt340.2.2.1 bt340.2.2.2.1 bt340.2.2.2.2.1 bt340.2.2.2.2.2).bind fun bt352 => (some (bt352.1, bt352.2.1, bt352.2.2.1, bt352.2.2.2.1, bt352.2.2.2.2.1, bt352.2.2.2.2.2, 0))) else (if a1 = 10 then ((clock_Norm.f bt340.1 bt340.2.1 a2 bt340.2.2.2.1 bt340.2.2.2.2.1 bt340.2.2.2.2.2).bind fun bt358 => (some (bt358.1, bt358.2.1, bt358.2.2.1, bt358.2.2.2.1, bt358.2.2.2.2.1, bt358.2.2.2.2.2, 0))) else (if a1 = 11 then ((clock_Norm.f bt340.1 bt340.2.1 bt340.2.2.1 (Go.bits .or .u16 (Go.bits .and .u16 bt340.2.2.2.1 256) (IntKind.u16.wrap (a2))) bt340.2.2.2.2.1 bt340.2.2.2.2.2).bind fun bt364 => (some (bt364.1, bt364.2.1, bt364.2.2.1, bt364.2.2.2.1, bt364.2.2.2.2.1, bt364.2.2.2.2.2, 0))) else (if a1 = 12 then ((clock_Norm.f bt340.1 bt340.2.1 bt340.2.2.1 (Go.bits .or .u16 (Go.bits .and .u16 bt340.2.2.2.1 255) (IntKind.u16.wrap ((IntKind.u16.wrap (Go.bits .and .u8 a2 1)) * 256))) ((Go.bits .and .u8 a2 64) != 0) ((Go.bits .and .u8 a2 128) != 0)).bind fun bt370 => (some (bt370.1, bt370.2.1, bt370.2.2.1, bt370.2.2.2.1, bt370.2.2.2.2.1, bt370.2.2.2.2.2, 0))) else (some (0, 0, 0, 0, false, false, 7)))))))
set_option maxRecDepth 100000 in
set_option maxHeartbeats 4000000 in
theorem clock_Write.calls (a0_0 a0_1 a0_2 a0_3 : Int) (a0_4 a0_5 : Bool) (a1 a2 : Int) (r1 r2 r3 r4 : Int) (r5 r6 : Bool) (r7 : Int) (w : World) (h : clock_Write.f a0_0 a0_1 a0_2 a0_3 a0_4 a0_5 a1 a2 = some (r1, r2, r3, r4, r5, r6, r7)) :
    Calls Try.prog 43 #[.agg #[.int .u8 a0_0, .int .u8 a0_1, .int .u8 a0_2, .int .u16 a0_3, .bool a0_4, .bool a0_5], .int .i64 a1, .int .u8 a2] w fun e w' => e = .returned (.tuple #[.agg #[.int .u8 r1, .int .u8 r2, .int .u8 r3, .int .u16 r4, .bool r5, .bool r6], .int .i64 r7]) ∧ Below w.heap.size w w' := by
  unfold clock_Write.f clock_Norm.f at h
  simp only [Option.bind_some] at h
  by_cases c8 : a1 = 8
  · subst c8
    rw [if_pos rfl] at h
    cases h
    go_enter Try.func43, Try.ntmps43
    go_wp2
    go_returns
    exact ⟨rfl, by go_grown⟩
  rw [if_neg c8] at h
  by_cases c9 : a1 = 9
  · subst c9
    rw [if_pos rfl] at h
    cases h
    go_enter Try.func43, Try.ntmps43
    go_wp2
    go_returns
    exact ⟨rfl, by go_grown⟩
  rw [if_neg c9] at h
  by_cases c10 : a1 = 10
  · subst c10
    rw [if_pos rfl] at h
    cases h
    go_enter Try.func43, Try.ntmps43
    go_wp2
    go_returns
    exact ⟨rfl, by go_grown⟩
  rw [if_neg c10] at h
  by_cases c11 : a1 = 11
  · subst c11
    rw [if_pos rfl] at h
    cases h
    go_enter Try.func43, Try.ntmps43
    go_wp2
    go_returns
    exact ⟨rfl, by go_grown⟩
  rw [if_neg c11] at h
  by_cases c12 : a1 = 12
  · subst c12
    rw [if_pos rfl] at h
    cases h
    go_enter Try.func43, Try.ntmps43
    go_wp2
    go_returns
    exact ⟨rfl, by go_grown⟩
  rw [if_neg c12] at h
  cases h
  go_enter Try.func43, Try.ntmps43
  go_wp2
  go_returns
  exact ⟨rfl, by go_grown⟩
end Go.Proofs.Ytmjjojbedllmgaa.Hand
end
section
namespace Go.Proofs.Ytmjjojbedllmgaa.Hand
open Go.RowKit
open Go.Proofs.Ytmjjojbedllmgaa.G
open Go.Proofs.YtmjjojbedllmgaaW.PrintWords Go.Proofs.YtmjjojbedllmgaaW.PrintLast Go.Proofs.YtmjjojbedllmgaaW.PrintMore
set_option linter.unusedVariables false
set_option linter.unusedSimpArgs false
def Mp.write (m : Mp) (ad v : Int) : Mp := match writeF m.k m.o m.l m.h m.r m.md ad v with | (k, o, l, h, r, md) => ⟨k, o, l, h, r, md⟩
theorem Mp.write_eq (m : Mp) (ad v : Int) : mapper_Write.f m.k m.o m.l m.h m.r m.md ad v = some ((m.write ad v).k, (m.write ad v).o, (m.write ad v).l, (m.write ad v).h, (m.write ad v).r, (m.write ad v).md) := rfl
def Ck.write (c : Ck) (n v : Int) : Ck := match (clock_Write.f c.s c.m c.h c.d c.ht c.cy n v).getD (0, 0, 0, 0, false, false, 0) with | (s, m, h, d, ht, cy, _) => ⟨s, m, h, d, ht, cy⟩
def Ck.writeE (c : Ck) (n v : Int) : Int := ((clock_Write.f c.s c.m c.h c.d c.ht c.cy n v).getD (0, 0, 0, 0, false, false, 0)).2.2.2.2.2.2
theorem clock_write_some (a b c d : Int) (e f : Bool) (n v : Int) : ∃ x, clock_Write.f a b c d e f n v = some x := by
  unfold clock_Write.f clock_Norm.f
  simp only [Option.bind_some]
  repeat' split
  all_goals exact ⟨_, rfl⟩
theorem Ck.write_eq (c : Ck) (n v : Int) : clock_Write.f c.s c.m c.h c.d c.ht c.cy n v = some ((c.write n v).s, (c.write n v).m, (c.write n v).h, (c.write n v).d, (c.write n v).ht, (c.write n v).cy, c.writeE n v) := by
  obtain ⟨x, hx⟩ := clock_write_some c.s c.m c.h c.d c.ht c.cy n v
  unfold Ck.write Ck.writeE
  rw [hx]
  rfl
def Ct.write (s : Ct) (ad v : Int) : Ct :=
  if ad < 32768 then
    if s.hdr.ck = true ∧ ad ≥ 24576 then Ct.latch { s with mp := s.mp.write ad v } v else { s with mp := s.mp.write ad v }
  else if (s.reg ad).getD 0 > 0 then { s with lv := s.lv.write ((s.reg ad).getD 0) v }
  else if s.at ad ≥ 0 then { s with ram := s.ram.set (s.at ad).toNat v } else s
set_option maxRecDepth 100000 in
set_option maxHeartbeats 4000000 in
theorem write_lo {w : World} {a : Ad} {s : Ct} (h : CartAt w a s) (ad v : Int) (hlo : ad < 32768) (hck : s.hdr.ck = false) :
    Calls Try.prog 18 #[a.p, .int .u16 ad, .int .u8 v] w fun e w' => e = .returned (.tuple #[]) ∧ CartAt w' a { s with mp := s.mp.write ad v } ∧ Upto a.S w w' := by
  have HH := Aside0.mk h
  clear h
  go_enter Try.func18, Try.ntmps18
  go_wp2_with fail
  refine (none_at HH.out).mono ?_
  rintro e' w1 ⟨rfl, hw⟩
  replace hw := hw.symm
  subst hw
  have c0 := HH.out.c0
  have c1 := HH.out.c1
  have c2 := HH.out.c2
  have c3 := HH.out.c3
  have c4 := HH.out.c4
  have c5 := HH.out.c5
  go_wp2_with fail
  refine (mapper_Write.calls _ _ _ _ _ _ _ _ _ _ _ _ _ _ _ (s.mp.write_eq ad v)).mono ?_
  rintro e' w1 ⟨rfl, hb⟩
  have h1 := HH.out.below hb
  have d0 := h1.c0
  have d1 := h1.c1
  have d2 := h1.c2
  have d3 := h1.c3
  have d4 := h1.c4
  have d5 := h1.c5
  have d24 := h1.c24
  rw [hck] at d24
  have fz := h1.frozen
  have H1 := Aside0.mk h1
  have HB := Aside0.mk hb
  clear h1 hb c0 c1 c2 c3 c4 c5
  go_wp2
  go_returns
  refine ⟨rfl, HH.out.stored (by
    have p := (blk_setL (blk_setL (blk_setL (blk_setL (blk_setL (blk_setL H1.out.box 0 (.int .i64 (s.mp.write ad v).k)) 1 (.bool (s.mp.write ad v).o)) 2 (.int .u8 (s.mp.write ad v).l)) 3 (.int .u8 (s.mp.write ad v).h)) 4 (.int .u8 (s.mp.write ad v).r)) 5 (.bool (s.mp.write ad v).md))
    rw [cells_mp] at p
    exact p) ?_ rfl rfl⟩
  with_reducible (refine Upto.setB ?_ _ _; refine Upto.setB ?_ _ _; refine Upto.setB ?_ _ _; refine Upto.setB ?_ _ _; refine Upto.setB ?_ _ _; refine Upto.setB ?_ _ _; exact Upto.of_below HB.out)
set_option maxRecDepth 100000 in
set_option maxHeartbeats 4000000 in
theorem write_lo2 {w : World} {a : Ad} {s : Ct} (h : CartAt w a s) (ad v : Int) (hlo : ad < 32768) (hck : s.hdr.ck = true) (ha : ¬ ad ≥ 24576) :
    Calls Try.prog 18 #[a.p, .int .u16 ad, .int .u8 v] w fun e w' => e = .returned (.tuple #[]) ∧ CartAt w' a { s with mp := s.mp.write ad v } ∧ Upto a.S w w' := by
  have HH := Aside0.mk h
  clear h
  go_enter Try.func18, Try.ntmps18
  go_wp2_with fail
  refine (none_at HH.out).mono ?_
  rintro e' w1 ⟨rfl, hw⟩
  replace hw := hw.symm
  subst hw
  have c0 := HH.out.c0
  have c1 := HH.out.c1
  have c2 := HH.out.c2
  have c3 := HH.out.c3
  have c4 := HH.out.c4
  have c5 := HH.out.c5
  go_wp2_with fail
  refine (mapper_Write.calls _ _ _ _ _ _ _ _ _ _ _ _ _ _ _ (s.mp.write_eq ad v)).mono ?_
  rintro e' w1 ⟨rfl, hb⟩
  have h1 := HH.out.below hb
  have d0 := h1.c0
  have d1 := h1.c1
  have d2 := h1.c2
  have d3 := h1.c3
  have d4 := h1.c4
  have d5 := h1.c5
  have d24 := h1.c24
  rw [hck] at d24
  have fz := h1.frozen
  have H1 := Aside0.mk h1
  have HB := Aside0.mk hb
  clear h1 hb c0 c1 c2 c3 c4 c5
  go_wp2
  go_returns
  refine ⟨rfl, HH.out.stored (by
    have p := (blk_setL (blk_setL (blk_setL (blk_setL (blk_setL (blk_setL H1.out.box 0 (.int .i64 (s.mp.write ad v).k)) 1 (.bool (s.mp.write ad v).o)) 2 (.int .u8 (s.mp.write ad v).l)) 3 (.int .u8 (s.mp.write ad v).h)) 4 (.int .u8 (s.mp.write ad v).r)) 5 (.bool (s.mp.write ad v).md))
    rw [cells_mp] at p
    exact p) ?_ rfl rfl⟩
  with_reducible (refine Upto.setB ?_ _ _; refine Upto.setB ?_ _ _; refine Upto.setB ?_ _ _; refine Upto.setB ?_ _ _; refine Upto.setB ?_ _ _; refine Upto.setB ?_ _ _; exact Upto.of_below HB.out)
set_option maxRecDepth 100000 in
set_option maxHeartbeats 4000000 in
theorem write_latch {w : World} {a : Ad} {s : Ct} (h : CartAt w a s) (ad v : Int) (hlo : ad < 32768) (hck : s.hdr.ck = true) (ha : ad ≥ 24576) :
    Calls Try.prog 18 #[a.p, .int .u16 ad, .int .u8 v] w fun e w' => e = .returned (.tuple #[]) ∧ CartAt w' a (Ct.latch { s with mp := s.mp.write ad v } v) ∧ Upto a.S w w' := by
  have HH := Aside0.mk h
  clear h
  go_enter Try.func18, Try.ntmps18
  go_wp2_with fail
  refine (none_at HH.out).mono ?_
  rintro e' w1 ⟨rfl, hw⟩
  replace hw := hw.symm
  subst hw
  have c0 := HH.out.c0
  have c1 := HH.out.c1
  have c2 := HH.out.c2
  have c3 := HH.out.c3
  have c4 := HH.out.c4
  have c5 := HH.out.c5
  go_wp2_with fail
  refine (mapper_Write.calls _ _ _ _ _ _ _ _ _ _ _ _ _ _ _ (s.mp.write_eq ad v)).mono ?_
  rintro e' w1 ⟨rfl, hb⟩
  have h1 := HH.out.below hb
  have d0 := h1.c0
  have d1 := h1.c1
  have d2 := h1.c2
  have d3 := h1.c3
  have d4 := h1.c4
  have d5 := h1.c5
  have d24 := h1.c24
  rw [hck] at d24
  have fz := h1.frozen
  have H1 := Aside0.mk h1
  have HB := Aside0.mk hb
  clear h1 hb c0 c1 c2 c3 c4 c5
  go_wp2_with fail
  have hs := HH.out.stored (W := ((((((w1.setCell ⟨a.b, 0, none⟩ (.int .i64 (s.mp.write ad v).k)).setCell ⟨a.b, 1, none⟩ (.bool (s.mp.write ad v).o)).setCell ⟨a.b, 2, none⟩ (.int .u8 (s.mp.write ad v).l)).setCell ⟨a.b, 3, none⟩ (.int .u8 (s.mp.write ad v).h)).setCell ⟨a.b, 4, none⟩ (.int .u8 (s.mp.write ad v).r)).setCell ⟨a.b, 5, none⟩ (.bool (s.mp.write ad v).md))) (s' := { s with mp := s.mp.write ad v }) (by
    have p := (blk_setL (blk_setL (blk_setL (blk_setL (blk_setL (blk_setL H1.out.box 0 (.int .i64 (s.mp.write ad v).k)) 1 (.bool (s.mp.write ad v).o)) 2 (.int .u8 (s.mp.write ad v).l)) 3 (.int .u8 (s.mp.write ad v).h)) 4 (.int .u8 (s.mp.write ad v).r)) 5 (.bool (s.mp.write ad v).md))
    rw [cells_mp] at p
    exact p) (by with_reducible (refine Upto.setB ?_ _ _; refine Upto.setB ?_ _ _; refine Upto.setB ?_ _ _; refine Upto.setB ?_ _ _; refine Upto.setB ?_ _ _; refine Upto.setB ?_ _ _; exact Upto.of_below HB.out)) rfl rfl
  have HS := Aside0.mk hs
  clear hs
  refine (latch_at HS.out.1 v).mono ?_
  rintro e' w2 ⟨rfl, h2, u2⟩
  have H2 := Aside0.mk h2
  have U2 := Aside0.mk u2
  clear h2 u2
  go_wp2
  go_returns
  exact ⟨rfl, H2.out, Upto.trans HS.out.2 U2.out⟩
set_option maxRecDepth 100000 in
set_option maxHeartbeats 4000000 in
theorem write_reg {w : World} {a : Ad} {s : Ct} (h : CartAt w a s) (ad v m : Int) (hlo : ¬ ad < 32768) (hg : s.reg ad = some m) (hm : m > 0) :
    Calls Try.prog 18 #[a.p, .int .u16 ad, .int .u8 v] w fun e w' => e = .returned (.tuple #[]) ∧ CartAt w' a { s with lv := s.lv.write m v } ∧ Upto a.S w w' := by
  have HH := Aside0.mk h
  clear h
  have HG := Aside0.mk hg
  clear hg
  go_enter Try.func18, Try.ntmps18
  go_wp2_with fail
  refine (none_at HH.out).mono ?_
  rintro e' w1 ⟨rfl, hw⟩
  replace hw := hw.symm
  subst hw
  go_wp2_with fail
  refine (reg_at HH.out ad m HG.out).mono ?_
  rintro e' w1 ⟨rfl, hb⟩
  have h1 := HH.out.below hb
  have H1 := Aside0.mk h1
  have HB := Aside0.mk hb
  clear h1 hb
  have c6 := H1.out.c6
  have c7 := H1.out.c7
  have c8 := H1.out.c8
  have c9 := H1.out.c9
  have c10 := H1.out.c10
  have c11 := H1.out.c11
  go_wp2_with fail
  refine (clock_Write.calls _ _ _ _ _ _ _ _ _ _ _ _ _ _ _ _ (s.lv.write_eq m v)).mono ?_
  rintro e' w2 ⟨rfl, hb⟩
  have h2 := H1.out.below hb
  have d6 := h2.c6
  have d7 := h2.c7
  have d8 := h2.c8
  have d9 := h2.c9
  have d10 := h2.c10
  have d11 := h2.c11
  have fz := h2.frozen
  have H2 := Aside0.mk h2
  have HB2 := Aside0.mk (below_step HB.out hb)
  clear h2 hb c6 c7 c8 c9 c10 c11
  go_wp2
  go_returns
  refine ⟨rfl, HH.out.stored ?_ ?_ rfl rfl⟩
  · have p := (blk_setL (blk_setL (blk_setL (blk_setL (blk_setL (blk_setL H2.out.box 6 (.int .u8 (s.lv.write m v).s)) 7 (.int .u8 (s.lv.write m v).m)) 8 (.int .u8 (s.lv.write m v).h)) 9 (.int .u16 (s.lv.write m v).d)) 10 (.bool (s.lv.write m v).ht)) 11 (.bool (s.lv.write m v).cy))
    rw [cells_lv] at p
    exact p
  · with_reducible (refine Upto.setB ?_ _ _; refine Upto.setB ?_ _ _; refine Upto.setB ?_ _ _; refine Upto.setB ?_ _ _; refine Upto.setB ?_ _ _; refine Upto.setB ?_ _ _; exact Upto.of_below HB2.out)
set_option maxRecDepth 100000 in
set_option maxHeartbeats 4000000 in
theorem write_ram {w : World} {a : Ad} {s : Ct} (h : CartAt w a s) (ad v m : Int) (hlo : ¬ ad < 32768) (hg : s.reg ad = some m) (hm : ¬ m > 0) (n : Int) (hat : s.at ad = n) (h0 : n ≥ 0) (hn : n < s.ram.length) :
    Calls Try.prog 18 #[a.p, .int .u16 ad, .int .u8 v] w fun e w' => e = .returned (.tuple #[]) ∧ CartAt w' a { s with ram := s.ram.set n.toNat v } ∧ Upto a.S w w' := by
  have HH := Aside0.mk h
  clear h
  have HG := Aside0.mk hg
  clear hg
  have HA : Aside0 (mapper_Ram.f s.mp.k s.mp.o s.mp.l s.mp.h s.mp.r s.mp.md ad s.ram.length = some n) := Aside0.mk ((at_eq s ad).trans (congrArg some hat))
  clear hat
  go_enter Try.func18, Try.ntmps18
  go_wp2_with fail
  refine (none_at HH.out).mono ?_
  rintro e' w1 ⟨rfl, hw⟩
  replace hw := hw.symm
  subst hw
  go_wp2_with fail
  refine (reg_at HH.out ad m HG.out).mono ?_
  rintro e' w1 ⟨rfl, hb⟩
  have h1 := HH.out.below hb
  have H1 := Aside0.mk h1
  have HB := Aside0.mk hb
  clear h1 hb
  have c0 := H1.out.c0
  have c1 := H1.out.c1
  have c2 := H1.out.c2
  have c3 := H1.out.c3
  have c4 := H1.out.c4
  have c5 := H1.out.c5
  have c30 := H1.out.c30
  go_wp2_with fail
  go_region_with ((go_at_call 36; ((with_reducible refine (mapper_Ram.calls _ _ _ _ _ _ _ _ _ _ HA.out).mono ?_)); rintro e' w3 ⟨rfl, hb⟩; have HB3 : Aside0 (Below w.heap.size w w3) := Aside0.mk (below_step HB.out (Below.trans (below_drew1 (Below.refl _ _)) hb)); have H3 : Aside0 (CartAt w3 a s) := Aside0.mk (H1.out.below (Below.trans (below_drew1 (Below.refl _ _)) hb)); clear hb))
  all_goals (
    have g30 := H3.out.c30
    have hcell := H3.out.row.cell n.toNat (by omega)
    have hx : ((n.toNat : Nat) : Int) = n := by omega
    rw [hx] at hcell
    have hfz := H3.out.row.frozen n.toNat
    clear hx c0 c1 c2 c3 c4 c5 c30
    go_wp2
    go_returns
    refine ⟨rfl, ⟨?_, ?_, ?_, HH.out.n1, HH.out.n2, HH.out.n3⟩, Upto.set (p := ⟨a.gr, n.toNat, none⟩) (Upto.of_below HB3.out) (Or.inr rfl) _⟩
    · have p := blk_far H3.out.box (p := ⟨a.gr, n.toNat, none⟩) HH.out.n1 (.int .u8 v)
      rw [show (Ct.cells { s with ram := s.ram.set n.toNat v } a) = s.cells a by simp [Ct.cells]]
      exact p
    · exact H3.out.image.of_block (Below.heap_setCell _ _ _ _ HH.out.n2)
    · exact H3.out.row.put n.toNat v)
set_option maxRecDepth 100000 in
set_option maxHeartbeats 4000000 in
theorem write_no {w : World} {a : Ad} {s : Ct} (h : CartAt w a s) (ad v m : Int) (hlo : ¬ ad < 32768) (hg : s.reg ad = some m) (hm : ¬ m > 0) (n : Int) (hat : s.at ad = n) (h0 : ¬ n ≥ 0) :
    Calls Try.prog 18 #[a.p, .int .u16 ad, .int .u8 v] w fun e w' => e = .returned (.tuple #[]) ∧ CartAt w' a s ∧ Upto a.S w w' := by
  have HH := Aside0.mk h
  clear h
  have HG := Aside0.mk hg
  clear hg
  have HA : Aside0 (mapper_Ram.f s.mp.k s.mp.o s.mp.l s.mp.h s.mp.r s.mp.md ad s.ram.length = some n) := Aside0.mk ((at_eq s ad).trans (congrArg some hat))
  clear hat
  go_enter Try.func18, Try.ntmps18
  go_wp2_with fail
  refine (none_at HH.out).mono ?_
  rintro e' w1 ⟨rfl, hw⟩
  replace hw := hw.symm
  subst hw
  go_wp2_with fail
  refine (reg_at HH.out ad m HG.out).mono ?_
  rintro e' w1 ⟨rfl, hb⟩
  have h1 := HH.out.below hb
  have H1 := Aside0.mk h1
  have HB := Aside0.mk hb
  clear h1 hb
  have c0 := H1.out.c0
  have c1 := H1.out.c1
  have c2 := H1.out.c2
  have c3 := H1.out.c3
  have c4 := H1.out.c4
  have c5 := H1.out.c5
  have c30 := H1.out.c30
  go_wp2_with fail
  go_region_with ((go_at_call 36; ((with_reducible refine (mapper_Ram.calls _ _ _ _ _ _ _ _ _ _ HA.out).mono ?_)); rintro e' w3 ⟨rfl, hb⟩; have HB3 : Aside0 (Below w.heap.size w w3) := Aside0.mk (below_step HB.out (Below.trans (below_drew1 (Below.refl _ _)) hb)); have H3 : Aside0 (CartAt w3 a s) := Aside0.mk (H1.out.below (Below.trans (below_drew1 (Below.refl _ _)) hb)); clear hb))
  all_goals (
    go_wp2
    go_returns
    exact ⟨rfl, H3.out, Upto.of_below HB3.out⟩)
set_option maxRecDepth 100000 in
set_option maxHeartbeats 4000000 in
theorem write_nil (ad v : Int) (w : World) :
    Calls Try.prog 18 #[.pointer none, .int .u16 ad, .int .u8 v] w fun e w' => e = .returned (.tuple #[]) ∧ Below w.heap.size w w' := by
  go_enter Try.func18, Try.ntmps18
  go_wp2
  go_returns
  exact ⟨rfl, by go_grown⟩
end Go.Proofs.Ytmjjojbedllmgaa.Hand
end
section
namespace Go.Proofs.Ytmjjojbedllmgaa.Hand
open Go.RowKit
open Go.Proofs.Ytmjjojbedllmgaa.G
open Go.Proofs.YtmjjojbedllmgaaW.PrintWords Go.Proofs.YtmjjojbedllmgaaW.PrintLast Go.Proofs.YtmjjojbedllmgaaW.PrintMore
set_option linter.unusedVariables false
set_option linter.unusedSimpArgs false
def bsOf (v0 v1 v2 v3 v4 v5 v6 v7 v8 v9 : Int) : Nat → Array Value
  | 0 => #[.int .u8 0, .int .u8 0, .int .u8 0, .int .u8 0, .int .u8 0, .int .u8 0, .int .u8 0, .int .u8 0, .int .u8 0, .int .u8 0]
  | 1 => #[.int .u8 v0, .int .u8 0, .int .u8 0, .int .u8 0, .int .u8 0, .int .u8 0, .int .u8 0, .int .u8 0, .int .u8 0, .int .u8 0]
  | 2 => #[.int .u8 v0, .int .u8 v1, .int .u8 0, .int .u8 0, .int .u8 0, .int .u8 0, .int .u8 0, .int .u8 0, .int .u8 0, .int .u8 0]
  | 3 => #[.int .u8 v0, .int .u8 v1, .int .u8 v2, .int .u8 0, .int .u8 0, .int .u8 0, .int .u8 0, .int .u8 0, .int .u8 0, .int .u8 0]
  | 4 => #[.int .u8 v0, .int .u8 v1, .int .u8 v2, .int .u8 v3, .int .u8 0, .int .u8 0, .int .u8 0, .int .u8 0, .int .u8 0, .int .u8 0]
  | 5 => #[.int .u8 v0, .int .u8 v1, .int .u8 v2, .int .u8 v3, .int .u8 v4, .int .u8 0, .int .u8 0, .int .u8 0, .int .u8 0, .int .u8 0]
  | 6 => #[.int .u8 v0, .int .u8 v1, .int .u8 v2, .int .u8 v3, .int .u8 v4, .int .u8 v5, .int .u8 0, .int .u8 0, .int .u8 0, .int .u8 0]
  | 7 => #[.int .u8 v0, .int .u8 v1, .int .u8 v2, .int .u8 v3, .int .u8 v4, .int .u8 v5, .int .u8 v6, .int .u8 0, .int .u8 0, .int .u8 0]
  | 8 => #[.int .u8 v0, .int .u8 v1, .int .u8 v2, .int .u8 v3, .int .u8 v4, .int .u8 v5, .int .u8 v6, .int .u8 v7, .int .u8 0, .int .u8 0]
  | 9 => #[.int .u8 v0, .int .u8 v1, .int .u8 v2, .int .u8 v3, .int .u8 v4, .int .u8 v5, .int .u8 v6, .int .u8 v7, .int .u8 v8, .int .u8 0]
  | _ => #[.int .u8 v0, .int .u8 v1, .int .u8 v2, .int .u8 v3, .int .u8 v4, .int .u8 v5, .int .u8 v6, .int .u8 v7, .int .u8 v8, .int .u8 v9]
set_option maxRecDepth 100000 in
set_option maxHeartbeats 4000000 in
theorem bytes_calls (a0 a1 a2 a3 : Int) (a4 a5 : Bool) (b0 b1 b2 b3 : Int) (b4 b5 : Bool) (v0 v1 v2 v3 v4 v5 v6 v7 v8 v9 e0 e1 e2 e3 e4 e5 e6 e7 e8 e9 : Int) (h0 : clock_Read.f a0 a1 a2 a3 a4 a5 8 = some (v0, e0)) (h1 : clock_Read.f a0 a1 a2 a3 a4 a5 9 = some (v1, e1)) (h2 : clock_Read.f a0 a1 a2 a3 a4 a5 10 = some (v2, e2)) (h3 : clock_Read.f a0 a1 a2 a3 a4 a5 11 = some (v3, e3)) (h4 : clock_Read.f a0 a1 a2 a3 a4 a5 12 = some (v4, e4)) (h5 : clock_Read.f b0 b1 b2 b3 b4 b5 8 = some (v5, e5)) (h6 : clock_Read.f b0 b1 b2 b3 b4 b5 9 = some (v6, e6)) (h7 : clock_Read.f b0 b1 b2 b3 b4 b5 10 = some (v7, e7)) (h8 : clock_Read.f b0 b1 b2 b3 b4 b5 11 = some (v8, e8)) (h9 : clock_Read.f b0 b1 b2 b3 b4 b5 12 = some (v9, e9)) (w : World) :
    Calls Try.prog 48 #[.agg #[.int .u8 a0, .int .u8 a1, .int .u8 a2, .int .u16 a3, .bool a4, .bool a5], .agg #[.int .u8 b0, .int .u8 b1, .int .u8 b2, .int .u16 b3, .bool b4, .bool b5]] w fun e' w' => w'.heap[(w.heap.size + 1 + 1)]? = some (.cells (bsOf v0 v1 v2 v3 v4 v5 v6 v7 v8 v9 10) 5 (0, 0)) ∧ e' = .returned (.slice (some ⟨(w.heap.size + 1 + 1), 0, none⟩) 10 10) ∧ Below w.heap.size w w' := by
  have mk : ∀ w : World, (Instr.makeSlice 22 (.int .i64 0) (.int .i64 10)).run Try.prog w = .ok (.slice (some ⟨w.heap.size, 0, none⟩) 0 10) (w.alloc (.cells #[.int .u8 0, .int .u8 0, .int .u8 0, .int .u8 0, .int .u8 0, .int .u8 0, .int .u8 0, .int .u8 0, .int .u8 0, .int .u8 0] 5)) := fun _ => by kernel_rfl
  have H0 := Aside0.mk h0
  have H1 := Aside0.mk h1
  have H2 := Aside0.mk h2
  have H3 := Aside0.mk h3
  have H4 := Aside0.mk h4
  have H5 := Aside0.mk h5
  have H6 := Aside0.mk h6
  have H7 := Aside0.mk h7
  have H8 := Aside0.mk h8
  have H9 := Aside0.mk h9
  clear h0 h1 h2 h3 h4 h5 h6 h7 h8 h9
  have i0 : ∀ (a0 a1 a2 a3 : Int) (a4 a5 : Bool) (b0 b1 b2 b3 : Int) (b4 b5 : Bool) (w : World), (Instr.index 120 (.agg #[.int .u8 a0, .int .u8 a1, .int .u8 a2, .int .u16 a3, .bool a4, .bool a5, .int .u8 b0, .int .u8 b1, .int .u8 b2, .int .u16 b3, .bool b4, .bool b5]) (.int .i64 0)).run Try.prog w = .ok (.agg #[.int .u8 a0, .int .u8 a1, .int .u8 a2, .int .u16 a3, .bool a4, .bool a5]) w := fun _ _ _ _ _ _ _ _ _ _ _ _ _ => by kernel_rfl
  have i1 : ∀ (a0 a1 a2 a3 : Int) (a4 a5 : Bool) (b0 b1 b2 b3 : Int) (b4 b5 : Bool) (w : World), (Instr.index 120 (.agg #[.int .u8 a0, .int .u8 a1, .int .u8 a2, .int .u16 a3, .bool a4, .bool a5, .int .u8 b0, .int .u8 b1, .int .u8 b2, .int .u16 b3, .bool b4, .bool b5]) (.int .i64 1)).run Try.prog w = .ok (.agg #[.int .u8 b0, .int .u8 b1, .int .u8 b2, .int .u16 b3, .bool b4, .bool b5]) w := fun _ _ _ _ _ _ _ _ _ _ _ _ _ => by kernel_rfl
  go_enter Try.func48, Try.ntmps48
  go_wp2_with fail
  have s1 : (w.alloc (.cells #[.int .u8 a0, .int .u8 a1, .int .u8 a2, .int .u16 a3, .bool a4, .bool a5] 34)).heap.size = w.heap.size + 1 := by simp
  have s2 : ((w.alloc (.cells #[.int .u8 a0, .int .u8 a1, .int .u8 a2, .int .u16 a3, .bool a4, .bool a5] 34)).alloc (.cells #[.int .u8 b0, .int .u8 b1, .int .u8 b2, .int .u16 b3, .bool b4, .bool b5] 34)).heap.size = w.heap.size + 1 + 1 := by simp
  have qB := heap_alloc_new ((w.alloc (.cells #[.int .u8 a0, .int .u8 a1, .int .u8 a2, .int .u16 a3, .bool a4, .bool a5] 34)).alloc (.cells #[.int .u8 b0, .int .u8 b1, .int .u8 b2, .int .u16 b3, .bool b4, .bool b5] 34)) (.cells (bsOf v0 v1 v2 v3 v4 v5 v6 v7 v8 v9 0) 5)
  rw [s2] at qB
  have qH := below_alloc (below_alloc (below_alloc (Below.refl w.heap.size w) (.cells #[.int .u8 a0, .int .u8 a1, .int .u8 a2, .int .u16 a3, .bool a4, .bool a5] 34)) (.cells #[.int .u8 b0, .int .u8 b1, .int .u8 b2, .int .u16 b3, .bool b4, .bool b5] 34)) (.cells (bsOf v0 v1 v2 v3 v4 v5 v6 v7 v8 v9 0) 5)
  change Code.wp _ _ _ _ (((w.alloc (.cells #[.int .u8 a0, .int .u8 a1, .int .u8 a2, .int .u16 a3, .bool a4, .bool a5] 34)).alloc (.cells #[.int .u8 b0, .int .u8 b1, .int .u8 b2, .int .u16 b3, .bool b4, .bool b5] 34)).alloc (.cells (bsOf v0 v1 v2 v3 v4 v5 v6 v7 v8 v9 0) 5))
  have s3 : (((w.alloc (.cells #[.int .u8 a0, .int .u8 a1, .int .u8 a2, .int .u16 a3, .bool a4, .bool a5] 34)).alloc (.cells #[.int .u8 b0, .int .u8 b1, .int .u8 b2, .int .u16 b3, .bool b4, .bool b5] 34)).alloc (.cells (bsOf v0 v1 v2 v3 v4 v5 v6 v7 v8 v9 0) 5)).heap.size = w.heap.size + 1 + 1 + 1 := by simp
  generalize ((w.alloc (.cells #[.int .u8 a0, .int .u8 a1, .int .u8 a2, .int .u16 a3, .bool a4, .bool a5] 34)).alloc (.cells #[.int .u8 b0, .int .u8 b1, .int .u8 b2, .int .u16 b3, .bool b4, .bool b5] 34)).alloc (.cells (bsOf v0 v1 v2 v3 v4 v5 v6 v7 v8 v9 0) 5) = W0 at qB qH s3 ⊢
  clear s1 s2
  have Q1 := Aside0.mk qB
  have Q2 := Aside0.mk qH
  clear qB qH
  refine wp_loop_rounds 3 ?_
  rw [rounds_succ]
  go_wp2_with fail
  have pB0 := blk_alloc Q1.out (.cells #[.int .u8 a0, .int .u8 a1, .int .u8 a2, .int .u16 a3, .bool a4, .bool a5] 34)
  have pC0 := heap_alloc_new W0 (.cells #[.int .u8 a0, .int .u8 a1, .int .u8 a2, .int .u16 a3, .bool a4, .bool a5] 34)
  rw [s3] at pC0
  have pH0 := below_alloc Q2.out (.cells #[.int .u8 a0, .int .u8 a1, .int .u8 a2, .int .u16 a3, .bool a4, .bool a5] 34)
  go_loopw [5, 8] (fun s i w' => ∃ (j : Nat), s = .slice (some ⟨(w.heap.size + 1 + 1), 0, none⟩) (0 + j) 10 ∧ i = .int .i64 (8 + j) ∧ Aside0 (j ≤ 5 ∧ w'.heap[(w.heap.size + 1 + 1)]? = some (.cells (bsOf v0 v1 v2 v3 v4 v5 v6 v7 v8 v9 (0 + j)) 5 (0, 0)) ∧ w'.heap[(w.heap.size + 1 + 1 + 1)]? = some (.cells #[.int .u8 a0, .int .u8 a1, .int .u8 a2, .int .u16 a3, .bool a4, .bool a5] 34 (0, 0)) ∧ Below w.heap.size w w')) (fun _ i _ => 20 - (intOf i).toNat)
  case atStart => exact ⟨0, rfl, rfl, Aside0.mk ⟨by omega, pB0, pC0, pH0⟩⟩
  case round =>
    obtain ⟨j, rfl, rfl, HA⟩ := hrel
    obtain ⟨hj, bb, bc, hb⟩ := HA.out
    clear HA
    have BB := Aside0.mk bb
    have BC := Aside0.mk bc
    have HB := Aside0.mk hb
    clear bb bc hb
    have hsz : (w.heap.size + 1 + 1) < wr.heap.size := blk_lt BB.out
    have hgc : (w.heap.size + 1 + 1 + 1) ≠ (w.heap.size + 1 + 1) := by omega
    have hj6 : j = 0 ∨ j = 1 ∨ j = 2 ∨ j = 3 ∨ j = 4 ∨ j = 5 := by omega
    clear hj
    have c0 : wr.cell? ⟨(w.heap.size + 1 + 1 + 1), 0, none⟩ = some (.int .u8 a0) := (blk_cell BC.out 0).trans rfl
    have c1 : wr.cell? ⟨(w.heap.size + 1 + 1 + 1), 1, none⟩ = some (.int .u8 a1) := (blk_cell BC.out 1).trans rfl
    have c2 : wr.cell? ⟨(w.heap.size + 1 + 1 + 1), 2, none⟩ = some (.int .u8 a2) := (blk_cell BC.out 2).trans rfl
    have c3 : wr.cell? ⟨(w.heap.size + 1 + 1 + 1), 3, none⟩ = some (.int .u16 a3) := (blk_cell BC.out 3).trans rfl
    have c4 : wr.cell? ⟨(w.heap.size + 1 + 1 + 1), 4, none⟩ = some (.bool a4) := (blk_cell BC.out 4).trans rfl
    have c5 : wr.cell? ⟨(w.heap.size + 1 + 1 + 1), 5, none⟩ = some (.bool a5) := (blk_cell BC.out 5).trans rfl
    rcases hj6 with rfl | rfl | rfl | rfl | rfl | rfl
    · go_wp2_with (first | (go_at_call 35; ((with_reducible refine (clock_Read.calls a0 a1 a2 a3 a4 a5 8 v0 e0 _ H0.out).mono ?_)); rintro e' w2 ⟨rfl, hb⟩; have n0 := Aside0.mk (blk_below BB.out hb); have n1 := Aside0.mk (blk_below BC.out hb); have n2 := Aside0.mk (below_step HB.out hb); clear hb; have d0 : ∀ o, (w2.alloc o).cell? ⟨(w.heap.size + 1 + 1), 0, none⟩ = some (.int .u8 0) := fun o => (blk_cell (blk_alloc n0.out o) 0).trans rfl; have d1 : ∀ o, (w2.alloc o).cell? ⟨(w.heap.size + 1 + 1), 1, none⟩ = some (.int .u8 0) := fun o => (blk_cell (blk_alloc n0.out o) 1).trans rfl; have d2 : ∀ o, (w2.alloc o).cell? ⟨(w.heap.size + 1 + 1), 2, none⟩ = some (.int .u8 0) := fun o => (blk_cell (blk_alloc n0.out o) 2).trans rfl; have d3 : ∀ o, (w2.alloc o).cell? ⟨(w.heap.size + 1 + 1), 3, none⟩ = some (.int .u8 0) := fun o => (blk_cell (blk_alloc n0.out o) 3).trans rfl; have d4 : ∀ o, (w2.alloc o).cell? ⟨(w.heap.size + 1 + 1), 4, none⟩ = some (.int .u8 0) := fun o => (blk_cell (blk_alloc n0.out o) 4).trans rfl; have d5 : ∀ o, (w2.alloc o).cell? ⟨(w.heap.size + 1 + 1), 5, none⟩ = some (.int .u8 0) := fun o => (blk_cell (blk_alloc n0.out o) 5).trans rfl; have d6 : ∀ o, (w2.alloc o).cell? ⟨(w.heap.size + 1 + 1), 6, none⟩ = some (.int .u8 0) := fun o => (blk_cell (blk_alloc n0.out o) 6).trans rfl; have d7 : ∀ o, (w2.alloc o).cell? ⟨(w.heap.size + 1 + 1), 7, none⟩ = some (.int .u8 0) := fun o => (blk_cell (blk_alloc n0.out o) 7).trans rfl; have d8 : ∀ o, (w2.alloc o).cell? ⟨(w.heap.size + 1 + 1), 8, none⟩ = some (.int .u8 0) := fun o => (blk_cell (blk_alloc n0.out o) 8).trans rfl; have d9 : ∀ o, (w2.alloc o).cell? ⟨(w.heap.size + 1 + 1), 9, none⟩ = some (.int .u8 0) := fun o => (blk_cell (blk_alloc n0.out o) 9).trans rfl; have fz : ∀ o i, (w2.alloc o).frozen? ⟨(w.heap.size + 1 + 1), i, none⟩ = false := fun o i => blk_frozen (blk_alloc n0.out o) i; have hq : ¬ (w.heap.size + 1 + 1) = w2.heap.size := Nat.ne_of_lt (blk_lt n0.out)))
      refine ⟨⟨1, rfl, rfl, Aside0.mk ⟨by omega, blk_put (blk_alloc n0.out _) 0 _ rfl, blk_far (blk_alloc n1.out _) hgc _, below_set (below_alloc n2.out _) (by omega)⟩⟩, by simp [intOf]⟩
    · go_wp2_with (first | (go_at_call 35; ((with_reducible refine (clock_Read.calls a0 a1 a2 a3 a4 a5 9 v1 e1 _ H1.out).mono ?_)); rintro e' w2 ⟨rfl, hb⟩; have n0 := Aside0.mk (blk_below BB.out hb); have n1 := Aside0.mk (blk_below BC.out hb); have n2 := Aside0.mk (below_step HB.out hb); clear hb; have d0 : ∀ o, (w2.alloc o).cell? ⟨(w.heap.size + 1 + 1), 0, none⟩ = some (.int .u8 v0) := fun o => (blk_cell (blk_alloc n0.out o) 0).trans rfl; have d1 : ∀ o, (w2.alloc o).cell? ⟨(w.heap.size + 1 + 1), 1, none⟩ = some (.int .u8 0) := fun o => (blk_cell (blk_alloc n0.out o) 1).trans rfl; have d2 : ∀ o, (w2.alloc o).cell? ⟨(w.heap.size + 1 + 1), 2, none⟩ = some (.int .u8 0) := fun o => (blk_cell (blk_alloc n0.out o) 2).trans rfl; have d3 : ∀ o, (w2.alloc o).cell? ⟨(w.heap.size + 1 + 1), 3, none⟩ = some (.int .u8 0) := fun o => (blk_cell (blk_alloc n0.out o) 3).trans rfl; have d4 : ∀ o, (w2.alloc o).cell? ⟨(w.heap.size + 1 + 1), 4, none⟩ = some (.int .u8 0) := fun o => (blk_cell (blk_alloc n0.out o) 4).trans rfl; have d5 : ∀ o, (w2.alloc o).cell? ⟨(w.heap.size + 1 + 1), 5, none⟩ = some (.int .u8 0) := fun o => (blk_cell (blk_alloc n0.out o) 5).trans rfl; have d6 : ∀ o, (w2.alloc o).cell? ⟨(w.heap.size + 1 + 1), 6, none⟩ = some (.int .u8 0) := fun o => (blk_cell (blk_alloc n0.out o) 6).trans rfl; have d7 : ∀ o, (w2.alloc o).cell? ⟨(w.heap.size + 1 + 1), 7, none⟩ = some (.int .u8 0) := fun o => (blk_cell (blk_alloc n0.out o) 7).trans rfl; have d8 : ∀ o, (w2.alloc o).cell? ⟨(w.heap.size + 1 + 1), 8, none⟩ = some (.int .u8 0) := fun o => (blk_cell (blk_alloc n0.out o) 8).trans rfl; have d9 : ∀ o, (w2.alloc o).cell? ⟨(w.heap.size + 1 + 1), 9, none⟩ = some (.int .u8 0) := fun o => (blk_cell (blk_alloc n0.out o) 9).trans rfl; have fz : ∀ o i, (w2.alloc o).frozen? ⟨(w.heap.size + 1 + 1), i, none⟩ = false := fun o i => blk_frozen (blk_alloc n0.out o) i; have hq : ¬ (w.heap.size + 1 + 1) = w2.heap.size := Nat.ne_of_lt (blk_lt n0.out)))
      refine ⟨⟨2, rfl, rfl, Aside0.mk ⟨by omega, blk_put (blk_alloc n0.out _) 1 _ rfl, blk_far (blk_alloc n1.out _) hgc _, below_set (below_alloc n2.out _) (by omega)⟩⟩, by simp [intOf]⟩
    · go_wp2_with (first | (go_at_call 35; ((with_reducible refine (clock_Read.calls a0 a1 a2 a3 a4 a5 10 v2 e2 _ H2.out).mono ?_)); rintro e' w2 ⟨rfl, hb⟩; have n0 := Aside0.mk (blk_below BB.out hb); have n1 := Aside0.mk (blk_below BC.out hb); have n2 := Aside0.mk (below_step HB.out hb); clear hb; have d0 : ∀ o, (w2.alloc o).cell? ⟨(w.heap.size + 1 + 1), 0, none⟩ = some (.int .u8 v0) := fun o => (blk_cell (blk_alloc n0.out o) 0).trans rfl; have d1 : ∀ o, (w2.alloc o).cell? ⟨(w.heap.size + 1 + 1), 1, none⟩ = some (.int .u8 v1) := fun o => (blk_cell (blk_alloc n0.out o) 1).trans rfl; have d2 : ∀ o, (w2.alloc o).cell? ⟨(w.heap.size + 1 + 1), 2, none⟩ = some (.int .u8 0) := fun o => (blk_cell (blk_alloc n0.out o) 2).trans rfl; have d3 : ∀ o, (w2.alloc o).cell? ⟨(w.heap.size + 1 + 1), 3, none⟩ = some (.int .u8 0) := fun o => (blk_cell (blk_alloc n0.out o) 3).trans rfl; have d4 : ∀ o, (w2.alloc o).cell? ⟨(w.heap.size + 1 + 1), 4, none⟩ = some (.int .u8 0) := fun o => (blk_cell (blk_alloc n0.out o) 4).trans rfl; have d5 : ∀ o, (w2.alloc o).cell? ⟨(w.heap.size + 1 + 1), 5, none⟩ = some (.int .u8 0) := fun o => (blk_cell (blk_alloc n0.out o) 5).trans rfl; have d6 : ∀ o, (w2.alloc o).cell? ⟨(w.heap.size + 1 + 1), 6, none⟩ = some (.int .u8 0) := fun o => (blk_cell (blk_alloc n0.out o) 6).trans rfl; have d7 : ∀ o, (w2.alloc o).cell? ⟨(w.heap.size + 1 + 1), 7, none⟩ = some (.int .u8 0) := fun o => (blk_cell (blk_alloc n0.out o) 7).trans rfl; have d8 : ∀ o, (w2.alloc o).cell? ⟨(w.heap.size + 1 + 1), 8, none⟩ = some (.int .u8 0) := fun o => (blk_cell (blk_alloc n0.out o) 8).trans rfl; have d9 : ∀ o, (w2.alloc o).cell? ⟨(w.heap.size + 1 + 1), 9, none⟩ = some (.int .u8 0) := fun o => (blk_cell (blk_alloc n0.out o) 9).trans rfl; have fz : ∀ o i, (w2.alloc o).frozen? ⟨(w.heap.size + 1 + 1), i, none⟩ = false := fun o i => blk_frozen (blk_alloc n0.out o) i; have hq : ¬ (w.heap.size + 1 + 1) = w2.heap.size := Nat.ne_of_lt (blk_lt n0.out)))
      refine ⟨⟨3, rfl, rfl, Aside0.mk ⟨by omega, blk_put (blk_alloc n0.out _) 2 _ rfl, blk_far (blk_alloc n1.out _) hgc _, below_set (below_alloc n2.out _) (by omega)⟩⟩, by simp [intOf]⟩
    · go_wp2_with (first | (go_at_call 35; ((with_reducible refine (clock_Read.calls a0 a1 a2 a3 a4 a5 11 v3 e3 _ H3.out).mono ?_)); rintro e' w2 ⟨rfl, hb⟩; have n0 := Aside0.mk (blk_below BB.out hb); have n1 := Aside0.mk (blk_below BC.out hb); have n2 := Aside0.mk (below_step HB.out hb); clear hb; have d0 : ∀ o, (w2.alloc o).cell? ⟨(w.heap.size + 1 + 1), 0, none⟩ = some (.int .u8 v0) := fun o => (blk_cell (blk_alloc n0.out o) 0).trans rfl; have d1 : ∀ o, (w2.alloc o).cell? ⟨(w.heap.size + 1 + 1), 1, none⟩ = some (.int .u8 v1) := fun o => (blk_cell (blk_alloc n0.out o) 1).trans rfl; have d2 : ∀ o, (w2.alloc o).cell? ⟨(w.heap.size + 1 + 1), 2, none⟩ = some (.int .u8 v2) := fun o => (blk_cell (blk_alloc n0.out o) 2).trans rfl; have d3 : ∀ o, (w2.alloc o).cell? ⟨(w.heap.size + 1 + 1), 3, none⟩ = some (.int .u8 0) := fun o => (blk_cell (blk_alloc n0.out o) 3).trans rfl; have d4 : ∀ o, (w2.alloc o).cell? ⟨(w.heap.size + 1 + 1), 4, none⟩ = some (.int .u8 0) := fun o => (blk_cell (blk_alloc n0.out o) 4).trans rfl; have d5 : ∀ o, (w2.alloc o).cell? ⟨(w.heap.size + 1 + 1), 5, none⟩ = some (.int .u8 0) := fun o => (blk_cell (blk_alloc n0.out o) 5).trans rfl; have d6 : ∀ o, (w2.alloc o).cell? ⟨(w.heap.size + 1 + 1), 6, none⟩ = some (.int .u8 0) := fun o => (blk_cell (blk_alloc n0.out o) 6).trans rfl; have d7 : ∀ o, (w2.alloc o).cell? ⟨(w.heap.size + 1 + 1), 7, none⟩ = some (.int .u8 0) := fun o => (blk_cell (blk_alloc n0.out o) 7).trans rfl; have d8 : ∀ o, (w2.alloc o).cell? ⟨(w.heap.size + 1 + 1), 8, none⟩ = some (.int .u8 0) := fun o => (blk_cell (blk_alloc n0.out o) 8).trans rfl; have d9 : ∀ o, (w2.alloc o).cell? ⟨(w.heap.size + 1 + 1), 9, none⟩ = some (.int .u8 0) := fun o => (blk_cell (blk_alloc n0.out o) 9).trans rfl; have fz : ∀ o i, (w2.alloc o).frozen? ⟨(w.heap.size + 1 + 1), i, none⟩ = false := fun o i => blk_frozen (blk_alloc n0.out o) i; have hq : ¬ (w.heap.size + 1 + 1) = w2.heap.size := Nat.ne_of_lt (blk_lt n0.out)))
      refine ⟨⟨4, rfl, rfl, Aside0.mk ⟨by omega, blk_put (blk_alloc n0.out _) 3 _ rfl, blk_far (blk_alloc n1.out _) hgc _, below_set (below_alloc n2.out _) (by omega)⟩⟩, by simp [intOf]⟩
    · go_wp2_with (first | (go_at_call 35; ((with_reducible refine (clock_Read.calls a0 a1 a2 a3 a4 a5 12 v4 e4 _ H4.out).mono ?_)); rintro e' w2 ⟨rfl, hb⟩; have n0 := Aside0.mk (blk_below BB.out hb); have n1 := Aside0.mk (blk_below BC.out hb); have n2 := Aside0.mk (below_step HB.out hb); clear hb; have d0 : ∀ o, (w2.alloc o).cell? ⟨(w.heap.size + 1 + 1), 0, none⟩ = some (.int .u8 v0) := fun o => (blk_cell (blk_alloc n0.out o) 0).trans rfl; have d1 : ∀ o, (w2.alloc o).cell? ⟨(w.heap.size + 1 + 1), 1, none⟩ = some (.int .u8 v1) := fun o => (blk_cell (blk_alloc n0.out o) 1).trans rfl; have d2 : ∀ o, (w2.alloc o).cell? ⟨(w.heap.size + 1 + 1), 2, none⟩ = some (.int .u8 v2) := fun o => (blk_cell (blk_alloc n0.out o) 2).trans rfl; have d3 : ∀ o, (w2.alloc o).cell? ⟨(w.heap.size + 1 + 1), 3, none⟩ = some (.int .u8 v3) := fun o => (blk_cell (blk_alloc n0.out o) 3).trans rfl; have d4 : ∀ o, (w2.alloc o).cell? ⟨(w.heap.size + 1 + 1), 4, none⟩ = some (.int .u8 0) := fun o => (blk_cell (blk_alloc n0.out o) 4).trans rfl; have d5 : ∀ o, (w2.alloc o).cell? ⟨(w.heap.size + 1 + 1), 5, none⟩ = some (.int .u8 0) := fun o => (blk_cell (blk_alloc n0.out o) 5).trans rfl; have d6 : ∀ o, (w2.alloc o).cell? ⟨(w.heap.size + 1 + 1), 6, none⟩ = some (.int .u8 0) := fun o => (blk_cell (blk_alloc n0.out o) 6).trans rfl; have d7 : ∀ o, (w2.alloc o).cell? ⟨(w.heap.size + 1 + 1), 7, none⟩ = some (.int .u8 0) := fun o => (blk_cell (blk_alloc n0.out o) 7).trans rfl; have d8 : ∀ o, (w2.alloc o).cell? ⟨(w.heap.size + 1 + 1), 8, none⟩ = some (.int .u8 0) := fun o => (blk_cell (blk_alloc n0.out o) 8).trans rfl; have d9 : ∀ o, (w2.alloc o).cell? ⟨(w.heap.size + 1 + 1), 9, none⟩ = some (.int .u8 0) := fun o => (blk_cell (blk_alloc n0.out o) 9).trans rfl; have fz : ∀ o i, (w2.alloc o).frozen? ⟨(w.heap.size + 1 + 1), i, none⟩ = false := fun o i => blk_frozen (blk_alloc n0.out o) i; have hq : ¬ (w.heap.size + 1 + 1) = w2.heap.size := Nat.ne_of_lt (blk_lt n0.out)))
      refine ⟨⟨5, rfl, rfl, Aside0.mk ⟨by omega, blk_put (blk_alloc n0.out _) 4 _ rfl, blk_far (blk_alloc n1.out _) hgc _, below_set (below_alloc n2.out _) (by omega)⟩⟩, by simp [intOf]⟩
    · clear c0 c1 c2 c3 c4 c5
      generalize wr = W1 at *
      go_wp2_with fail
      rw [rounds_succ]
      go_wp2_with fail
      have pB5 := blk_alloc BB.out (.cells #[.int .u8 b0, .int .u8 b1, .int .u8 b2, .int .u16 b3, .bool b4, .bool b5] 34)
      have pC5 := blk_new W1 (.cells #[.int .u8 b0, .int .u8 b1, .int .u8 b2, .int .u16 b3, .bool b4, .bool b5] 34)
      have pH5 := below_alloc HB.out (.cells #[.int .u8 b0, .int .u8 b1, .int .u8 b2, .int .u16 b3, .bool b4, .bool b5] 34)
      have HSZ := Aside0.mk hsz
      clear hsz hgc BB BC HB
      go_loopw [5, 8] (fun s i w' => ∃ (j : Nat), s = .slice (some ⟨(w.heap.size + 1 + 1), 0, none⟩) (5 + j) 10 ∧ i = .int .i64 (8 + j) ∧ Aside0 (j ≤ 5 ∧ w'.heap[(w.heap.size + 1 + 1)]? = some (.cells (bsOf v0 v1 v2 v3 v4 v5 v6 v7 v8 v9 (5 + j)) 5 (0, 0)) ∧ w'.heap[W1.heap.size]? = some (.cells #[.int .u8 b0, .int .u8 b1, .int .u8 b2, .int .u16 b3, .bool b4, .bool b5] 34 (0, 0)) ∧ Below w.heap.size w w')) (fun _ i _ => 20 - (intOf i).toNat)
      case atStart => exact ⟨0, rfl, rfl, Aside0.mk ⟨by omega, pB5, pC5, pH5⟩⟩
      case round =>
        obtain ⟨j, rfl, rfl, HA⟩ := hrel
        obtain ⟨hj, bb, bc, hb⟩ := HA.out
        clear HA
        have BB := Aside0.mk bb
        have BC := Aside0.mk bc
        have HB := Aside0.mk hb
        clear bb bc hb
        have hsz : (w.heap.size + 1 + 1) < wr.heap.size := blk_lt BB.out
        have hgc : W1.heap.size ≠ (w.heap.size + 1 + 1) := by have := HSZ.out; omega
        have hj6 : j = 0 ∨ j = 1 ∨ j = 2 ∨ j = 3 ∨ j = 4 ∨ j = 5 := by omega
        clear hj
        have c0 : wr.cell? ⟨W1.heap.size, 0, none⟩ = some (.int .u8 b0) := (blk_cell BC.out 0).trans rfl
        have c1 : wr.cell? ⟨W1.heap.size, 1, none⟩ = some (.int .u8 b1) := (blk_cell BC.out 1).trans rfl
        have c2 : wr.cell? ⟨W1.heap.size, 2, none⟩ = some (.int .u8 b2) := (blk_cell BC.out 2).trans rfl
        have c3 : wr.cell? ⟨W1.heap.size, 3, none⟩ = some (.int .u16 b3) := (blk_cell BC.out 3).trans rfl
        have c4 : wr.cell? ⟨W1.heap.size, 4, none⟩ = some (.bool b4) := (blk_cell BC.out 4).trans rfl
        have c5 : wr.cell? ⟨W1.heap.size, 5, none⟩ = some (.bool b5) := (blk_cell BC.out 5).trans rfl
        rcases hj6 with rfl | rfl | rfl | rfl | rfl | rfl
        · go_wp2_with (first | (go_at_call 35; ((with_reducible refine (clock_Read.calls b0 b1 b2 b3 b4 b5 8 v5 e5 _ H5.out).mono ?_)); rintro e' w2 ⟨rfl, hb⟩; have n0 := Aside0.mk (blk_below BB.out hb); have n1 := Aside0.mk (blk_below BC.out hb); have n2 := Aside0.mk (below_step HB.out hb); clear hb; have d0 : ∀ o, (w2.alloc o).cell? ⟨(w.heap.size + 1 + 1), 0, none⟩ = some (.int .u8 v0) := fun o => (blk_cell (blk_alloc n0.out o) 0).trans rfl; have d1 : ∀ o, (w2.alloc o).cell? ⟨(w.heap.size + 1 + 1), 1, none⟩ = some (.int .u8 v1) := fun o => (blk_cell (blk_alloc n0.out o) 1).trans rfl; have d2 : ∀ o, (w2.alloc o).cell? ⟨(w.heap.size + 1 + 1), 2, none⟩ = some (.int .u8 v2) := fun o => (blk_cell (blk_alloc n0.out o) 2).trans rfl; have d3 : ∀ o, (w2.alloc o).cell? ⟨(w.heap.size + 1 + 1), 3, none⟩ = some (.int .u8 v3) := fun o => (blk_cell (blk_alloc n0.out o) 3).trans rfl; have d4 : ∀ o, (w2.alloc o).cell? ⟨(w.heap.size + 1 + 1), 4, none⟩ = some (.int .u8 v4) := fun o => (blk_cell (blk_alloc n0.out o) 4).trans rfl; have d5 : ∀ o, (w2.alloc o).cell? ⟨(w.heap.size + 1 + 1), 5, none⟩ = some (.int .u8 0) := fun o => (blk_cell (blk_alloc n0.out o) 5).trans rfl; have d6 : ∀ o, (w2.alloc o).cell? ⟨(w.heap.size + 1 + 1), 6, none⟩ = some (.int .u8 0) := fun o => (blk_cell (blk_alloc n0.out o) 6).trans rfl; have d7 : ∀ o, (w2.alloc o).cell? ⟨(w.heap.size + 1 + 1), 7, none⟩ = some (.int .u8 0) := fun o => (blk_cell (blk_alloc n0.out o) 7).trans rfl; have d8 : ∀ o, (w2.alloc o).cell? ⟨(w.heap.size + 1 + 1), 8, none⟩ = some (.int .u8 0) := fun o => (blk_cell (blk_alloc n0.out o) 8).trans rfl; have d9 : ∀ o, (w2.alloc o).cell? ⟨(w.heap.size + 1 + 1), 9, none⟩ = some (.int .u8 0) := fun o => (blk_cell (blk_alloc n0.out o) 9).trans rfl; have fz : ∀ o i, (w2.alloc o).frozen? ⟨(w.heap.size + 1 + 1), i, none⟩ = false := fun o i => blk_frozen (blk_alloc n0.out o) i; have hq : ¬ (w.heap.size + 1 + 1) = w2.heap.size := Nat.ne_of_lt (blk_lt n0.out)))
          refine ⟨⟨1, rfl, rfl, Aside0.mk ⟨by omega, blk_put (blk_alloc n0.out _) 5 _ rfl, blk_far (blk_alloc n1.out _) hgc _, below_set (below_alloc n2.out _) (by omega)⟩⟩, by simp [intOf]⟩
        · go_wp2_with (first | (go_at_call 35; ((with_reducible refine (clock_Read.calls b0 b1 b2 b3 b4 b5 9 v6 e6 _ H6.out).mono ?_)); rintro e' w2 ⟨rfl, hb⟩; have n0 := Aside0.mk (blk_below BB.out hb); have n1 := Aside0.mk (blk_below BC.out hb); have n2 := Aside0.mk (below_step HB.out hb); clear hb; have d0 : ∀ o, (w2.alloc o).cell? ⟨(w.heap.size + 1 + 1), 0, none⟩ = some (.int .u8 v0) := fun o => (blk_cell (blk_alloc n0.out o) 0).trans rfl; have d1 : ∀ o, (w2.alloc o).cell? ⟨(w.heap.size + 1 + 1), 1, none⟩ = some (.int .u8 v1) := fun o => (blk_cell (blk_alloc n0.out o) 1).trans rfl; have d2 : ∀ o, (w2.alloc o).cell? ⟨(w.heap.size + 1 + 1), 2, none⟩ = some (.int .u8 v2) := fun o => (blk_cell (blk_alloc n0.out o) 2).trans rfl; have d3 : ∀ o, (w2.alloc o).cell? ⟨(w.heap.size + 1 + 1), 3, none⟩ = some (.int .u8 v3) := fun o => (blk_cell (blk_alloc n0.out o) 3).trans rfl; have d4 : ∀ o, (w2.alloc o).cell? ⟨(w.heap.size + 1 + 1), 4, none⟩ = some (.int .u8 v4) := fun o => (blk_cell (blk_alloc n0.out o) 4).trans rfl; have d5 : ∀ o, (w2.alloc o).cell? ⟨(w.heap.size + 1 + 1), 5, none⟩ = some (.int .u8 v5) := fun o => (blk_cell (blk_alloc n0.out o) 5).trans rfl; have d6 : ∀ o, (w2.alloc o).cell? ⟨(w.heap.size + 1 + 1), 6, none⟩ = some (.int .u8 0) := fun o => (blk_cell (blk_alloc n0.out o) 6).trans rfl; have d7 : ∀ o, (w2.alloc o).cell? ⟨(w.heap.size + 1 + 1), 7, none⟩ = some (.int .u8 0) := fun o => (blk_cell (blk_alloc n0.out o) 7).trans rfl; have d8 : ∀ o, (w2.alloc o).cell? ⟨(w.heap.size + 1 + 1), 8, none⟩ = some (.int .u8 0) := fun o => (blk_cell (blk_alloc n0.out o) 8).trans rfl; have d9 : ∀ o, (w2.alloc o).cell? ⟨(w.heap.size + 1 + 1), 9, none⟩ = some (.int .u8 0) := fun o => (blk_cell (blk_alloc n0.out o) 9).trans rfl; have fz : ∀ o i, (w2.alloc o).frozen? ⟨(w.heap.size + 1 + 1), i, none⟩ = false := fun o i => blk_frozen (blk_alloc n0.out o) i; have hq : ¬ (w.heap.size + 1 + 1) = w2.heap.size := Nat.ne_of_lt (blk_lt n0.out)))
          refine ⟨⟨2, rfl, rfl, Aside0.mk ⟨by omega, blk_put (blk_alloc n0.out _) 6 _ rfl, blk_far (blk_alloc n1.out _) hgc _, below_set (below_alloc n2.out _) (by omega)⟩⟩, by simp [intOf]⟩
        · go_wp2_with (first | (go_at_call 35; ((with_reducible refine (clock_Read.calls b0 b1 b2 b3 b4 b5 10 v7 e7 _ H7.out).mono ?_)); rintro e' w2 ⟨rfl, hb⟩; have n0 := Aside0.mk (blk_below BB.out hb); have n1 := Aside0.mk (blk_below BC.out hb); have n2 := Aside0.mk (below_step HB.out hb); clear hb; have d0 : ∀ o, (w2.alloc o).cell? ⟨(w.heap.size + 1 + 1), 0, none⟩ = some (.int .u8 v0) := fun o => (blk_cell (blk_alloc n0.out o) 0).trans rfl; have d1 : ∀ o, (w2.alloc o).cell? ⟨(w.heap.size + 1 + 1), 1, none⟩ = some (.int .u8 v1) := fun o => (blk_cell (blk_alloc n0.out o) 1).trans rfl; have d2 : ∀ o, (w2.alloc o).cell? ⟨(w.heap.size + 1 + 1), 2, none⟩ = some (.int .u8 v2) := fun o => (blk_cell (blk_alloc n0.out o) 2).trans rfl; have d3 : ∀ o, (w2.alloc o).cell? ⟨(w.heap.size + 1 + 1), 3, none⟩ = some (.int .u8 v3) := fun o => (blk_cell (blk_alloc n0.out o) 3).trans rfl; have d4 : ∀ o, (w2.alloc o).cell? ⟨(w.heap.size + 1 + 1), 4, none⟩ = some (.int .u8 v4) := fun o => (blk_cell (blk_alloc n0.out o) 4).trans rfl; have d5 : ∀ o, (w2.alloc o).cell? ⟨(w.heap.size + 1 + 1), 5, none⟩ = some (.int .u8 v5) := fun o => (blk_cell (blk_alloc n0.out o) 5).trans rfl; have d6 : ∀ o, (w2.alloc o).cell? ⟨(w.heap.size + 1 + 1), 6, none⟩ = some (.int .u8 v6) := fun o => (blk_cell (blk_alloc n0.out o) 6).trans rfl; have d7 : ∀ o, (w2.alloc o).cell? ⟨(w.heap.size + 1 + 1), 7, none⟩ = some (.int .u8 0) := fun o => (blk_cell (blk_alloc n0.out o) 7).trans rfl; have d8 : ∀ o, (w2.alloc o).cell? ⟨(w.heap.size + 1 + 1), 8, none⟩ = some (.int .u8 0) := fun o => (blk_cell (blk_alloc n0.out o) 8).trans rfl; have d9 : ∀ o, (w2.alloc o).cell? ⟨(w.heap.size + 1 + 1), 9, none⟩ = some (.int .u8 0) := fun o => (blk_cell (blk_alloc n0.out o) 9).trans rfl; have fz : ∀ o i, (w2.alloc o).frozen? ⟨(w.heap.size + 1 + 1), i, none⟩ = false := fun o i => blk_frozen (blk_alloc n0.out o) i; have hq : ¬ (w.heap.size + 1 + 1) = w2.heap.size := Nat.ne_of_lt (blk_lt n0.out)))
          refine ⟨⟨3, rfl, rfl, Aside0.mk ⟨by omega, blk_put (blk_alloc n0.out _) 7 _ rfl, blk_far (blk_alloc n1.out _) hgc _, below_set (below_alloc n2.out _) (by omega)⟩⟩, by simp [intOf]⟩
        · go_wp2_with (first | (go_at_call 35; ((with_reducible refine (clock_Read.calls b0 b1 b2 b3 b4 b5 11 v8 e8 _ H8.out).mono ?_)); rintro e' w2 ⟨rfl, hb⟩; have n0 := Aside0.mk (blk_below BB.out hb); have n1 := Aside0.mk (blk_below BC.out hb); have n2 := Aside0.mk (below_step HB.out hb); clear hb; have d0 : ∀ o, (w2.alloc o).cell? ⟨(w.heap.size + 1 + 1), 0, none⟩ = some (.int .u8 v0) := fun o => (blk_cell (blk_alloc n0.out o) 0).trans rfl; have d1 : ∀ o, (w2.alloc o).cell? ⟨(w.heap.size + 1 + 1), 1, none⟩ = some (.int .u8 v1) := fun o => (blk_cell (blk_alloc n0.out o) 1).trans rfl; have d2 : ∀ o, (w2.alloc o).cell? ⟨(w.heap.size + 1 + 1), 2, none⟩ = some (.int .u8 v2) := fun o => (blk_cell (blk_alloc n0.out o) 2).trans rfl; have d3 : ∀ o, (w2.alloc o).cell? ⟨(w.heap.size + 1 + 1), 3, none⟩ = some (.int .u8 v3) := fun o => (blk_cell (blk_alloc n0.out o) 3).trans rfl; have d4 : ∀ o, (w2.alloc o).cell? ⟨(w.heap.size + 1 + 1), 4, none⟩ = some (.int .u8 v4) := fun o => (blk_cell (blk_alloc n0.out o) 4).trans rfl; have d5 : ∀ o, (w2.alloc o).cell? ⟨(w.heap.size + 1 + 1), 5, none⟩ = some (.int .u8 v5) := fun o => (blk_cell (blk_alloc n0.out o) 5).trans rfl; have d6 : ∀ o, (w2.alloc o).cell? ⟨(w.heap.size + 1 + 1), 6, none⟩ = some (.int .u8 v6) := fun o => (blk_cell (blk_alloc n0.out o) 6).trans rfl; have d7 : ∀ o, (w2.alloc o).cell? ⟨(w.heap.size + 1 + 1), 7, none⟩ = some (.int .u8 v7) := fun o => (blk_cell (blk_alloc n0.out o) 7).trans rfl; have d8 : ∀ o, (w2.alloc o).cell? ⟨(w.heap.size + 1 + 1), 8, none⟩ = some (.int .u8 0) := fun o => (blk_cell (blk_alloc n0.out o) 8).trans rfl; have d9 : ∀ o, (w2.alloc o).cell? ⟨(w.heap.size + 1 + 1), 9, none⟩ = some (.int .u8 0) := fun o => (blk_cell (blk_alloc n0.out o) 9).trans rfl; have fz : ∀ o i, (w2.alloc o).frozen? ⟨(w.heap.size + 1 + 1), i, none⟩ = false := fun o i => blk_frozen (blk_alloc n0.out o) i; have hq : ¬ (w.heap.size + 1 + 1) = w2.heap.size := Nat.ne_of_lt (blk_lt n0.out)))
          refine ⟨⟨4, rfl, rfl, Aside0.mk ⟨by omega, blk_put (blk_alloc n0.out _) 8 _ rfl, blk_far (blk_alloc n1.out _) hgc _, below_set (below_alloc n2.out _) (by omega)⟩⟩, by simp [intOf]⟩
        · go_wp2_with (first | (go_at_call 35; ((with_reducible refine (clock_Read.calls b0 b1 b2 b3 b4 b5 12 v9 e9 _ H9.out).mono ?_)); rintro e' w2 ⟨rfl, hb⟩; have n0 := Aside0.mk (blk_below BB.out hb); have n1 := Aside0.mk (blk_below BC.out hb); have n2 := Aside0.mk (below_step HB.out hb); clear hb; have d0 : ∀ o, (w2.alloc o).cell? ⟨(w.heap.size + 1 + 1), 0, none⟩ = some (.int .u8 v0) := fun o => (blk_cell (blk_alloc n0.out o) 0).trans rfl; have d1 : ∀ o, (w2.alloc o).cell? ⟨(w.heap.size + 1 + 1), 1, none⟩ = some (.int .u8 v1) := fun o => (blk_cell (blk_alloc n0.out o) 1).trans rfl; have d2 : ∀ o, (w2.alloc o).cell? ⟨(w.heap.size + 1 + 1), 2, none⟩ = some (.int .u8 v2) := fun o => (blk_cell (blk_alloc n0.out o) 2).trans rfl; have d3 : ∀ o, (w2.alloc o).cell? ⟨(w.heap.size + 1 + 1), 3, none⟩ = some (.int .u8 v3) := fun o => (blk_cell (blk_alloc n0.out o) 3).trans rfl; have d4 : ∀ o, (w2.alloc o).cell? ⟨(w.heap.size + 1 + 1), 4, none⟩ = some (.int .u8 v4) := fun o => (blk_cell (blk_alloc n0.out o) 4).trans rfl; have d5 : ∀ o, (w2.alloc o).cell? ⟨(w.heap.size + 1 + 1), 5, none⟩ = some (.int .u8 v5) := fun o => (blk_cell (blk_alloc n0.out o) 5).trans rfl; have d6 : ∀ o, (w2.alloc o).cell? ⟨(w.heap.size + 1 + 1), 6, none⟩ = some (.int .u8 v6) := fun o => (blk_cell (blk_alloc n0.out o) 6).trans rfl; have d7 : ∀ o, (w2.alloc o).cell? ⟨(w.heap.size + 1 + 1), 7, none⟩ = some (.int .u8 v7) := fun o => (blk_cell (blk_alloc n0.out o) 7).trans rfl; have d8 : ∀ o, (w2.alloc o).cell? ⟨(w.heap.size + 1 + 1), 8, none⟩ = some (.int .u8 v8) := fun o => (blk_cell (blk_alloc n0.out o) 8).trans rfl; have d9 : ∀ o, (w2.alloc o).cell? ⟨(w.heap.size + 1 + 1), 9, none⟩ = some (.int .u8 0) := fun o => (blk_cell (blk_alloc n0.out o) 9).trans rfl; have fz : ∀ o i, (w2.alloc o).frozen? ⟨(w.heap.size + 1 + 1), i, none⟩ = false := fun o i => blk_frozen (blk_alloc n0.out o) i; have hq : ¬ (w.heap.size + 1 + 1) = w2.heap.size := Nat.ne_of_lt (blk_lt n0.out)))
          refine ⟨⟨5, rfl, rfl, Aside0.mk ⟨by omega, blk_put (blk_alloc n0.out _) 9 _ rfl, blk_far (blk_alloc n1.out _) hgc _, below_set (below_alloc n2.out _) (by omega)⟩⟩, by simp [intOf]⟩
        · clear c0 c1 c2 c3 c4 c5
          go_wp2_with fail
          rw [rounds_succ]
          go_wp2
          go_returns
          exact ⟨BB.out, rfl, HB.out⟩
def clock_Bytes.f (a0_0 : Int) (a0_1 : Int) (a0_2 : Int) (a0_3 : Int) (a0_4 : Bool) (a0_5 : Bool) (a1_0 : Int) (a1_1 : Int) (a1_2 : Int) (a1_3 : Int) (a1_4 : Bool) (a1_5 : Bool) : Option (List Int) :=
  (clock_Read.f a0_0 a0_1 a0_2 a0_3 a0_4 a0_5 8).bind fun r0 => (clock_Read.f a0_0 a0_1 a0_2 a0_3 a0_4 a0_5 9).bind fun r1 => (clock_Read.f a0_0 a0_1 a0_2 a0_3 a0_4 a0_5 10).bind fun r2 => (clock_Read.f a0_0 a0_1 a0_2 a0_3 a0_4 a0_5 11).bind fun r3 => (clock_Read.f a0_0 a0_1 a0_2 a0_3 a0_4 a0_5 12).bind fun r4 => (clock_Read.f a1_0 a1_1 a1_2 a1_3 a1_4 a1_5 8).bind fun r5 => (clock_Read.f a1_0 a1_1 a1_2 a1_3 a1_4 a1_5 9).bind fun r6 => (clock_Read.f a1_0 a1_1 a1_2 a1_3 a1_4 a1_5 10).bind fun r7 => (clock_Read.f a1_0 a1_1 a1_2 a1_3 a1_4 a1_5 11).bind fun r8 => (clock_Read.f a1_0 a1_1 a1_2 a1_3 a1_4 a1_5 12).bind fun r9 => some [r0.1, r1.1, r2.1, r3.1, r4.1, r5.1, r6.1, r7.1, r8.1, r9.1]
theorem clock_Bytes.calls (a0_0 : Int) (a0_1 : Int) (a0_2 : Int) (a0_3 : Int) (a0_4 : Bool) (a0_5 : Bool) (a1_0 : Int) (a1_1 : Int) (a1_2 : Int) (a1_3 : Int) (a1_4 : Bool) (a1_5 : Bool) (r : List Int) (w : World) (h : clock_Bytes.f a0_0 a0_1 a0_2 a0_3 a0_4 a0_5 a1_0 a1_1 a1_2 a1_3 a1_4 a1_5 = some r) :
    Calls Try.prog 48 #[.agg #[.int .u8 a0_0, .int .u8 a0_1, .int .u8 a0_2, .int .u16 a0_3, .bool a0_4, .bool a0_5], .agg #[.int .u8 a1_0, .int .u8 a1_1, .int .u8 a1_2, .int .u16 a1_3, .bool a1_4, .bool a1_5]] w fun e w' => ∃ v0_ : Value, e = .returned (v0_) ∧ Kd.R (Kd.int .u8) 5 w' w.heap.size (fun _ => True) v0_ r ∧ Below w.heap.size w w' := by
  unfold clock_Bytes.f at h
  obtain ⟨⟨v0, e0⟩, h0, h⟩ := Option.bind_eq_some_iff.mp h
  obtain ⟨⟨v1, e1⟩, h1, h⟩ := Option.bind_eq_some_iff.mp h
  obtain ⟨⟨v2, e2⟩, h2, h⟩ := Option.bind_eq_some_iff.mp h
  obtain ⟨⟨v3, e3⟩, h3, h⟩ := Option.bind_eq_some_iff.mp h
  obtain ⟨⟨v4, e4⟩, h4, h⟩ := Option.bind_eq_some_iff.mp h
  obtain ⟨⟨v5, e5⟩, h5, h⟩ := Option.bind_eq_some_iff.mp h
  obtain ⟨⟨v6, e6⟩, h6, h⟩ := Option.bind_eq_some_iff.mp h
  obtain ⟨⟨v7, e7⟩, h7, h⟩ := Option.bind_eq_some_iff.mp h
  obtain ⟨⟨v8, e8⟩, h8, h⟩ := Option.bind_eq_some_iff.mp h
  obtain ⟨⟨v9, e9⟩, h9, h⟩ := Option.bind_eq_some_iff.mp h
  obtain rfl := Option.some.inj h
  refine (bytes_calls a0_0 a0_1 a0_2 a0_3 a0_4 a0_5 a1_0 a1_1 a1_2 a1_3 a1_4 a1_5 v0 v1 v2 v3 v4 v5 v6 v7 v8 v9 e0 e1 e2 e3 e4 e5 e6 e7 e8 e9 h0 h1 h2 h3 h4 h5 h6 h7 h8 h9 w).mono ?_
  rintro e w' ⟨hb, rfl, hB⟩
  refine ⟨_, rfl, ?_, hB⟩
  refine Kd.R_of_own (enc := Value.int .u8) (h1 := fun _ => rfl) ?_ (fun _ _ => trivial)
  exact ⟨rfl, .inr ⟨_, 10, _, rfl, by omega, hb, by simp, by decide, rfl, rfl⟩⟩
end Go.Proofs.Ytmjjojbedllmgaa.Hand
end
section
namespace Go.Proofs.Ytmjjojbedllmgaa.Hand
open Go.RowKit
open Go.Proofs.Ytmjjojbedllmgaa.G
open Go.Proofs.YtmjjojbedllmgaaW.PrintWords Go.Proofs.YtmjjojbedllmgaaW.PrintLast Go.Proofs.YtmjjojbedllmgaaW.PrintMore
set_option linter.unusedVariables false
set_option linter.unusedSimpArgs false
set_option maxRecDepth 100000 in
set_option maxHeartbeats 4000000 in
theorem ram_at {w : World} {a : Ad} {s : Ct} (h : CartAt w a s) (hl : s.ram.length ≤ 1048576) :
    Calls Try.prog 15 #[a.p] w fun e w' => ∃ v0 : Value, e = .returned v0 ∧ Kd.R (Kd.int .u8) 5 w' w.heap.size (fun _ => True) v0 s.ram ∧ Below w.heap.size w w' := by
  have HH := Aside0.mk h
  have HL := Aside0.mk hl
  clear h hl
  go_enter Try.func15, Try.ntmps15
  go_wp2_with fail
  refine (none_at HH.out).mono ?_
  rintro e' w1 ⟨rfl, hw⟩
  replace hw := hw.symm
  subst hw
  go_wp2_with (first
    | ((with_reducible refine gate_dst (N := 5) rfl ?_); refine Kd.R_lit (Kd.int .u8) (w0 := w) w.heap.size 5 ?hg (N := 5) ?hd (xs := ([] : List Int)) (inner := []) (ok := fun _ => True) (okp := fun _ => True) ?hr ?hp (fun _ hk => hk) trivial (Below.refl _ _) (Nat.le_refl _) (by simp) ?_; (case hd => rfl); (case hg => rfl); (case hr => first | (go_simp; done) | (go_simp; rfl)); (case hp => exact (Reps.none _ _)); intro v5 w5 ho hb hg_ hnew_; clear hg_ hnew_; have HO := Aside0.mk ho; have HB := Aside0.mk hb; have c30 := (HH.out.below hb).c30; clear ho hb)
    | ((with_reducible refine gate_builtin (b := .append) (xs := #[.tmp 5, .tmp 9]) rfl ?_); at_builtin; refine Kd.R_append_rows (Kd.int .u8) (w0 := w) w.heap.size rfl (.tmp 5) (.tmp 9) 22 5 (.int .u8 0) 1 rfl Try.underlying22 info5 rfl (by decide) (by omega) v5 [] s.ram _ _ _ (fun _ => True) (fun _ => False) rfl rfl HO.out ?aR (fun _ _ h => h) (fun _ h => h.elim) (fun _ _ => trivial) HB.out (below_size HB.out) ?aL ?_; (case aR => exact (HH.out.below HB.out).row.head.reads (by have := HL.out; omega)); (case aL => have := HL.out; simp; omega); intro v6 w6 ho hb hg hat; have HO2 := Aside0.mk ho; have HB2 := Aside0.mk hb; clear ho hb hg hat))
  go_ret
  exact ⟨v6, rfl, HO2.out, HB2.out⟩
def Ct.bytes (s : Ct) : Option (List Int) := clock_Bytes.f s.lv.s s.lv.m s.lv.h s.lv.d s.lv.ht s.lv.cy s.hd.s s.hd.m s.hd.h s.hd.d s.hd.ht s.hd.cy
set_option maxRecDepth 100000 in
set_option maxHeartbeats 4000000 in
theorem save_no {w : World} {a : Ad} {s : Ct} (h : CartAt w a s) (hbt : s.hdr.bt = false) :
    Calls Try.prog 22 #[a.p] w fun e w' => e = .returned (.slice none 0 0) ∧ Below w.heap.size w w' := by
  have HH := Aside0.mk h
  have c23 := h.c23
  rw [hbt] at c23
  clear h
  go_enter Try.func22, Try.ntmps22
  go_wp2_with fail
  refine (none_at HH.out).mono ?_
  rintro e' w1 ⟨rfl, hw⟩
  replace hw := hw.symm
  subst hw
  go_wp2
  go_ret
  exact ⟨rfl, Below.refl _ _⟩
set_option maxRecDepth 100000 in
set_option maxHeartbeats 4000000 in
theorem save_nil (w : World) :
    Calls Try.prog 22 #[.pointer none] w fun e w' => e = .returned (.slice none 0 0) ∧ Below w.heap.size w w' := by
  go_enter Try.func22, Try.ntmps22
  go_wp2
  go_ret
  exact ⟨rfl, Below.refl _ _⟩
set_option maxRecDepth 100000 in
set_option maxHeartbeats 4000000 in
theorem save_ram {w : World} {a : Ad} {s : Ct} (h : CartAt w a s) (hl : s.ram.length ≤ 1048576) (hbt : s.hdr.bt = true) (hck : s.hdr.ck = false) :
    Calls Try.prog 22 #[a.p] w fun e w' => ∃ v0 : Value, e = .returned v0 ∧ Kd.R (Kd.int .u8) 5 w' w.heap.size (fun _ => True) v0 s.ram ∧ Below w.heap.size w w' := by
  have HH := Aside0.mk h
  have HL := Aside0.mk hl
  have c23 := h.c23
  rw [hbt] at c23
  clear h hl
  go_enter Try.func22, Try.ntmps22
  go_wp2_with fail
  refine (none_at HH.out).mono ?_
  rintro e' w1 ⟨rfl, hw⟩
  replace hw := hw.symm
  subst hw
  go_wp2_with fail
  refine (ram_at HH.out HL.out).mono ?_
  rintro e' w1 ⟨v0, rfl, hr, hb⟩
  have c24 := (HH.out.below hb).c24
  rw [hck] at c24
  have HR := Aside0.mk hr
  have HB := Aside0.mk hb
  clear hr hb
  go_wp2
  go_ret
  exact ⟨v0, rfl, HR.out, HB.out⟩
set_option maxRecDepth 100000 in
set_option maxHeartbeats 4000000 in
theorem save_all {w : World} {a : Ad} {s : Ct} (h : CartAt w a s) (hl : s.ram.length ≤ 1048576) (hbt : s.hdr.bt = true) (hck : s.hdr.ck = true) (bs : List Int) (hbs : s.bytes = some bs) (hbl : bs.length ≤ 1048576) :
    Calls Try.prog 22 #[a.p] w fun e w' => ∃ v0 : Value, e = .returned v0 ∧ Kd.R (Kd.int .u8) 5 w' w.heap.size (fun _ => True) v0 (s.ram ++ bs) ∧ Below w.heap.size w w' := by
  have HH := Aside0.mk h
  have HL := Aside0.mk hl
  have HL2 := Aside0.mk hbl
  have HBS : Aside0 (clock_Bytes.f s.lv.s s.lv.m s.lv.h s.lv.d s.lv.ht s.lv.cy s.hd.s s.hd.m s.hd.h s.hd.d s.hd.ht s.hd.cy = some bs) := Aside0.mk hbs
  have c23 := h.c23
  rw [hbt] at c23
  clear h hl hbs hbl
  go_enter Try.func22, Try.ntmps22
  go_wp2_with fail
  refine (none_at HH.out).mono ?_
  rintro e' w1 ⟨rfl, hw⟩
  replace hw := hw.symm
  subst hw
  go_wp2_with fail
  refine (ram_at HH.out HL.out).mono ?_
  rintro e' w1 ⟨v0, rfl, hr, hb⟩
  have h1 := HH.out.below hb
  have c24 := h1.c24
  rw [hck] at c24
  have c6 := h1.c6
  have c7 := h1.c7
  have c8 := h1.c8
  have c9 := h1.c9
  have c10 := h1.c10
  have c11 := h1.c11
  have c12 := h1.c12
  have c13 := h1.c13
  have c14 := h1.c14
  have c15 := h1.c15
  have c16 := h1.c16
  have c17 := h1.c17
  have HR := Aside0.mk hr
  have HB := Aside0.mk hb
  clear hr hb h1
  go_wp2_with fail
  go_region_law (first
    | ((refine Kd.R_append_rows_step (Kd.int .u8) (w0 := w) w.heap.size rfl (.tmp 21) (.tmp 32) 22 5 (.int .u8 0) 1 rfl Try.underlying22 info5 rfl (by decide) (by omega) v0 s.ram bs _ _ _ (fun _ => True) (fun _ => False) rfl rfl HR2.out HC2.out (fun _ _ h => h) (fun _ h => h.elim) (fun _ _ => trivial) HB2.out (below_size HB2.out) ?aL ?_); (case aL => have := HL.out; have := HL2.out; omega); intro v6 w6 ho hb hg hat; have HO2 := Aside0.mk ho; have HB3 := Aside0.mk hb; clear ho hb hg hat)
    | (go_simp; go_at_call 48; ((with_reducible refine (clock_Bytes.calls _ _ _ _ _ _ _ _ _ _ _ _ _ _ HBS.out).mono ?_)); rintro e' w2 ⟨v2, rfl, hr2, hb⟩; obtain ⟨A2, cc2, rfl, hcc2, hC2⟩ := Kd.R_reads hr2; have HB2 : Aside0 (Below w.heap.size w w2) := Aside0.mk (below_step HB.out (Below.trans (below_drew1 (Below.refl _ _)) hb)); have HC2 := Aside0.mk hC2; have HR2 : Aside0 (Kd.R (Kd.int .u8) 5 w2 w.heap.size (fun _ => True) v0 s.ram) := Aside0.mk (Kd.R_below HR.out (Below.trans (below_drew1 (Below.refl _ _)) hb)); clear hr2 hb hC2 hcc2))
  all_goals (
    go_wp2
    go_ret
    exact ⟨v6, rfl, HO2.out, HB3.out⟩)
end Go.Proofs.Ytmjjojbedllmgaa.Hand
end
section
namespace Go.Proofs.Ytmjjojbedllmgaa.Hand
open Go.RowKit
open Go.Proofs.Ytmjjojbedllmgaa.G
open Go.Proofs.YtmjjojbedllmgaaW.PrintWords Go.Proofs.YtmjjojbedllmgaaW.PrintLast Go.Proofs.YtmjjojbedllmgaaW.PrintMore
set_option linter.unusedVariables false
set_option linter.unusedSimpArgs false
abbrev C6 := Int × Int × Int × Int × Bool × Bool
def csOf (p q : C6) : Array Value := #[.int .u8 p.1, .int .u8 p.2.1, .int .u8 p.2.2.1, .int .u16 p.2.2.2.1, .bool p.2.2.2.2.1, .bool p.2.2.2.2.2, .int .u8 q.1, .int .u8 q.2.1, .int .u8 q.2.2.1, .int .u16 q.2.2.2.1, .bool q.2.2.2.2.1, .bool q.2.2.2.2.2]
def stOf (X Y : Nat → C6) : Nat → Array Value
  | 0 => csOf (X 0) (Y 0)
  | 1 => csOf (X 1) (Y 0)
  | 2 => csOf (X 2) (Y 0)
  | 3 => csOf (X 3) (Y 0)
  | 4 => csOf (X 4) (Y 0)
  | 5 => csOf (X 5) (Y 0)
  | 6 => csOf (X 5) (Y 1)
  | 7 => csOf (X 5) (Y 2)
  | 8 => csOf (X 5) (Y 3)
  | 9 => csOf (X 5) (Y 4)
  | _ => csOf (X 5) (Y 5)
end Go.Proofs.Ytmjjojbedllmgaa.Hand
end
section
namespace Go.Proofs.Ytmjjojbedllmgaa.Hand
open Go.RowKit
open Go.Proofs.Ytmjjojbedllmgaa.G
open Go.Proofs.YtmjjojbedllmgaaW.PrintWords Go.Proofs.YtmjjojbedllmgaaW.PrintLast Go.Proofs.YtmjjojbedllmgaaW.PrintMore
set_option linter.unusedVariables false
set_option linter.unusedSimpArgs false
set_option maxRecDepth 100000 in
set_option maxHeartbeats 20000000 in
theorem of_ok (A : Option Addr) (c : Nat) (l : List Int) (hl : l.length = 10) (X Y : Nat → C6) (e0 e1 e2 e3 e4 e5 e6 e7 e8 e9 : Int) (hX0 : X 0 = (0, 0, 0, 0, false, false)) (hY0 : Y 0 = (0, 0, 0, 0, false, false)) (h0 : clock_Write.f (X 0).1 (X 0).2.1 (X 0).2.2.1 (X 0).2.2.2.1 (X 0).2.2.2.2.1 (X 0).2.2.2.2.2 8 (rd l 0) = some ((X 1).1, (X 1).2.1, (X 1).2.2.1, (X 1).2.2.2.1, (X 1).2.2.2.2.1, (X 1).2.2.2.2.2, e0)) (h1 : clock_Write.f (X 1).1 (X 1).2.1 (X 1).2.2.1 (X 1).2.2.2.1 (X 1).2.2.2.2.1 (X 1).2.2.2.2.2 9 (rd l 1) = some ((X 2).1, (X 2).2.1, (X 2).2.2.1, (X 2).2.2.2.1, (X 2).2.2.2.2.1, (X 2).2.2.2.2.2, e1)) (h2 : clock_Write.f (X 2).1 (X 2).2.1 (X 2).2.2.1 (X 2).2.2.2.1 (X 2).2.2.2.2.1 (X 2).2.2.2.2.2 10 (rd l 2) = some ((X 3).1, (X 3).2.1, (X 3).2.2.1, (X 3).2.2.2.1, (X 3).2.2.2.2.1, (X 3).2.2.2.2.2, e2)) (h3 : clock_Write.f (X 3).1 (X 3).2.1 (X 3).2.2.1 (X 3).2.2.2.1 (X 3).2.2.2.2.1 (X 3).2.2.2.2.2 11 (rd l 3) = some ((X 4).1, (X 4).2.1, (X 4).2.2.1, (X 4).2.2.2.1, (X 4).2.2.2.2.1, (X 4).2.2.2.2.2, e3)) (h4 : clock_Write.f (X 4).1 (X 4).2.1 (X 4).2.2.1 (X 4).2.2.2.1 (X 4).2.2.2.2.1 (X 4).2.2.2.2.2 12 (rd l 4) = some ((X 5).1, (X 5).2.1, (X 5).2.2.1, (X 5).2.2.2.1, (X 5).2.2.2.2.1, (X 5).2.2.2.2.2, e4)) (h5 : clock_Write.f (Y 0).1 (Y 0).2.1 (Y 0).2.2.1 (Y 0).2.2.2.1 (Y 0).2.2.2.2.1 (Y 0).2.2.2.2.2 8 (rd l 5) = some ((Y 1).1, (Y 1).2.1, (Y 1).2.2.1, (Y 1).2.2.2.1, (Y 1).2.2.2.2.1, (Y 1).2.2.2.2.2, e5)) (h6 : clock_Write.f (Y 1).1 (Y 1).2.1 (Y 1).2.2.1 (Y 1).2.2.2.1 (Y 1).2.2.2.2.1 (Y 1).2.2.2.2.2 9 (rd l 6) = some ((Y 2).1, (Y 2).2.1, (Y 2).2.2.1, (Y 2).2.2.2.1, (Y 2).2.2.2.2.1, (Y 2).2.2.2.2.2, e6)) (h7 : clock_Write.f (Y 2).1 (Y 2).2.1 (Y 2).2.2.1 (Y 2).2.2.2.1 (Y 2).2.2.2.2.1 (Y 2).2.2.2.2.2 10 (rd l 7) = some ((Y 3).1, (Y 3).2.1, (Y 3).2.2.1, (Y 3).2.2.2.1, (Y 3).2.2.2.2.1, (Y 3).2.2.2.2.2, e7)) (h8 : clock_Write.f (Y 3).1 (Y 3).2.1 (Y 3).2.2.1 (Y 3).2.2.2.1 (Y 3).2.2.2.2.1 (Y 3).2.2.2.2.2 11 (rd l 8) = some ((Y 4).1, (Y 4).2.1, (Y 4).2.2.1, (Y 4).2.2.2.1, (Y 4).2.2.2.2.1, (Y 4).2.2.2.2.2, e8)) (h9 : clock_Write.f (Y 4).1 (Y 4).2.1 (Y 4).2.2.1 (Y 4).2.2.2.1 (Y 4).2.2.2.2.1 (Y 4).2.2.2.2.2 12 (rd l 9) = some ((Y 5).1, (Y 5).2.1, (Y 5).2.2.1, (Y 5).2.2.2.1, (Y 5).2.2.2.2.1, (Y 5).2.2.2.2.2, e9)) (r : List Int) (hB : clock_Bytes.f (X 5).1 (X 5).2.1 (X 5).2.2.1 (X 5).2.2.2.1 (X 5).2.2.2.2.1 (X 5).2.2.2.2.2 (Y 5).1 (Y 5).2.1 (Y 5).2.2.1 (Y 5).2.2.2.1 (Y 5).2.2.2.2.1 (Y 5).2.2.2.2.2 = some r) (w : World) (hr : Kd.C (Kd.int .u8) w A l.length l) (hc : l.length ≤ c) (hcmp : ((strOfNums r).toList == (strOfNums l).toList) = true) :
    Calls Try.prog 50 #[.slice A l.length c] w fun e' w' => e' = .returned (.tuple #[.agg #[.int .u8 (X 5).1, .int .u8 (X 5).2.1, .int .u8 (X 5).2.2.1, .int .u16 (X 5).2.2.2.1, .bool (X 5).2.2.2.2.1, .bool (X 5).2.2.2.2.2], .agg #[.int .u8 (Y 5).1, .int .u8 (Y 5).2.1, .int .u8 (Y 5).2.2.1, .int .u16 (Y 5).2.2.2.1, .bool (Y 5).2.2.2.2.1, .bool (Y 5).2.2.2.2.2], .int .i64 0]) ∧ Below w.heap.size w w' := by
  have HY := Aside0.mk hB
  clear hB
  rw [hl] at hr ⊢
  obtain ⟨ad, rfl, _⟩ := Kd.at_int hr 0 (by omega) (by omega)
  have H0 := Aside0.mk h0
  have H1 := Aside0.mk h1
  have H2 := Aside0.mk h2
  have H3 := Aside0.mk h3
  have H4 := Aside0.mk h4
  have H5 := Aside0.mk h5
  have H6 := Aside0.mk h6
  have H7 := Aside0.mk h7
  have H8 := Aside0.mk h8
  have H9 := Aside0.mk h9
  clear h0 h1 h2 h3 h4 h5 h6 h7 h8 h9
  have HR := Aside0.mk hr
  clear hr
  go_enter Try.func50, Try.ntmps50
  go_wp2_with fail
  have s1 : (w.alloc (.cells #[.int .u8 0, .int .u8 0, .int .u8 0, .int .u16 0, .bool false, .bool false] 34)).heap.size = w.heap.size + 1 := by simp
  have s2 : ((w.alloc (.cells #[.int .u8 0, .int .u8 0, .int .u8 0, .int .u16 0, .bool false, .bool false] 34)).alloc (.cells #[.int .u8 0, .int .u8 0, .int .u8 0, .int .u16 0, .bool false, .bool false] 34)).heap.size = w.heap.size + 1 + 1 := by simp
  have q1 := blk_alloc (blk_alloc (blk_new w (.cells #[.int .u8 0, .int .u8 0, .int .u8 0, .int .u16 0, .bool false, .bool false] 34)) (.cells #[.int .u8 0, .int .u8 0, .int .u8 0, .int .u16 0, .bool false, .bool false] 34)) (.cells #[.int .u8 0, .int .u8 0, .int .u8 0, .int .u16 0, .bool false, .bool false, .int .u8 0, .int .u8 0, .int .u8 0, .int .u16 0, .bool false, .bool false] 120)
  have q2 := heap_alloc_new (w.alloc (.cells #[.int .u8 0, .int .u8 0, .int .u8 0, .int .u16 0, .bool false, .bool false] 34)) (.cells #[.int .u8 0, .int .u8 0, .int .u8 0, .int .u16 0, .bool false, .bool false] 34)
  rw [s1] at q2
  have q2 := blk_alloc q2 (.cells #[.int .u8 0, .int .u8 0, .int .u8 0, .int .u16 0, .bool false, .bool false, .int .u8 0, .int .u8 0, .int .u8 0, .int .u16 0, .bool false, .bool false] 120)
  have q3 := heap_alloc_new ((w.alloc (.cells #[.int .u8 0, .int .u8 0, .int .u8 0, .int .u16 0, .bool false, .bool false] 34)).alloc (.cells #[.int .u8 0, .int .u8 0, .int .u8 0, .int .u16 0, .bool false, .bool false] 34)) (.cells #[.int .u8 0, .int .u8 0, .int .u8 0, .int .u16 0, .bool false, .bool false, .int .u8 0, .int .u8 0, .int .u8 0, .int .u16 0, .bool false, .bool false] 120)
  rw [s2] at q3
  have q4 := below_alloc (below_alloc (below_alloc (Below.refl w.heap.size w) (.cells #[.int .u8 0, .int .u8 0, .int .u8 0, .int .u16 0, .bool false, .bool false] 34)) (.cells #[.int .u8 0, .int .u8 0, .int .u8 0, .int .u16 0, .bool false, .bool false] 34)) (.cells #[.int .u8 0, .int .u8 0, .int .u8 0, .int .u16 0, .bool false, .bool false, .int .u8 0, .int .u8 0, .int .u8 0, .int .u16 0, .bool false, .bool false] 120)
  have q5 : (.cells #[.int .u8 0, .int .u8 0, .int .u8 0, .int .u16 0, .bool false, .bool false, .int .u8 0, .int .u8 0, .int .u8 0, .int .u16 0, .bool false, .bool false] 120 : Obj) = .cells (stOf X Y 0) 120 := by show Obj.cells _ _ = Obj.cells (csOf (X 0) (Y 0)) _; unfold csOf; rw [hX0, hY0]
  rw [q5] at q3
  go_loopw [15] (fun i w' => ∃ (j : Nat), i = .int .i64 j ∧ Aside0 (j ≤ 10 ∧ w'.heap[w.heap.size]? = some (.cells #[.int .u8 0, .int .u8 0, .int .u8 0, .int .u16 0, .bool false, .bool false] 34 (0, 0)) ∧ w'.heap[w.heap.size + 1]? = some (.cells #[.int .u8 0, .int .u8 0, .int .u8 0, .int .u16 0, .bool false, .bool false] 34 (0, 0)) ∧ w'.heap[(w.heap.size + 1 + 1)]? = some (.cells (stOf X Y j) 120 (0, 0)) ∧ Below w.heap.size w w')) (fun i _ => 20 - (intOf i).toNat)
  case atStart => exact ⟨0, rfl, Aside0.mk ⟨by omega, q1, q2, by rw [q5]; exact q3, q4⟩⟩
  case round =>
    obtain ⟨j, rfl, HA⟩ := hrel
    obtain ⟨hj, b1, b2, b3, hb⟩ := HA.out
    clear HA
    have B1 := Aside0.mk b1
    have B2 := Aside0.mk b2
    have B3 := Aside0.mk b3
    have HB := Aside0.mk hb
    have CB := Aside0.mk (Kd.C_below HR.out hb)
    clear hX0 hY0 b1 b2 b3 hb s1 s2 q1 q2 q3 q4 q5
    have hsz : (w.heap.size + 1 + 1) < wr.heap.size := blk_lt B3.out
    have hj6 : j = 0 ∨ j = 1 ∨ j = 2 ∨ j = 3 ∨ j = 4 ∨ j = 5 ∨ j = 6 ∨ j = 7 ∨ j = 8 ∨ j = 9 ∨ j = 10 := by omega
    clear hj
    rcases hj6 with rfl | rfl | rfl | rfl | rfl | rfl | rfl | rfl | rfl | rfl | rfl
    · obtain ⟨ad', ea, cb⟩ := Kd.at_int CB.out 0 (by omega) (by omega)
      obtain rfl := Option.some.inj ea
      clear ea
      have cb : wr.cell? ad = some (.int .u8 (rd l 0)) := by simpa [Addr.add] using cb
      have c0 : wr.cell? ⟨(w.heap.size + 1 + 1), 0, none⟩ = some (.int .u8 (X 0).1) := (blk_cell B3.out 0).trans rfl
      have c1 : wr.cell? ⟨(w.heap.size + 1 + 1), 1, none⟩ = some (.int .u8 (X 0).2.1) := (blk_cell B3.out 1).trans rfl
      have c2 : wr.cell? ⟨(w.heap.size + 1 + 1), 2, none⟩ = some (.int .u8 (X 0).2.2.1) := (blk_cell B3.out 2).trans rfl
      have c3 : wr.cell? ⟨(w.heap.size + 1 + 1), 3, none⟩ = some (.int .u16 (X 0).2.2.2.1) := (blk_cell B3.out 3).trans rfl
      have c4 : wr.cell? ⟨(w.heap.size + 1 + 1), 4, none⟩ = some (.bool (X 0).2.2.2.2.1) := (blk_cell B3.out 4).trans rfl
      have c5 : wr.cell? ⟨(w.heap.size + 1 + 1), 5, none⟩ = some (.bool (X 0).2.2.2.2.2) := (blk_cell B3.out 5).trans rfl
      have c6 : wr.cell? ⟨(w.heap.size + 1 + 1), 6, none⟩ = some (.int .u8 (Y 0).1) := (blk_cell B3.out 6).trans rfl
      have c7 : wr.cell? ⟨(w.heap.size + 1 + 1), 7, none⟩ = some (.int .u8 (Y 0).2.1) := (blk_cell B3.out 7).trans rfl
      have c8 : wr.cell? ⟨(w.heap.size + 1 + 1), 8, none⟩ = some (.int .u8 (Y 0).2.2.1) := (blk_cell B3.out 8).trans rfl
      have c9 : wr.cell? ⟨(w.heap.size + 1 + 1), 9, none⟩ = some (.int .u16 (Y 0).2.2.2.1) := (blk_cell B3.out 9).trans rfl
      have c10 : wr.cell? ⟨(w.heap.size + 1 + 1), 10, none⟩ = some (.bool (Y 0).2.2.2.2.1) := (blk_cell B3.out 10).trans rfl
      have c11 : wr.cell? ⟨(w.heap.size + 1 + 1), 11, none⟩ = some (.bool (Y 0).2.2.2.2.2) := (blk_cell B3.out 11).trans rfl
      go_wp2_with (first | (go_at_call 43; ((with_reducible refine (clock_Write.calls (X 0).1 (X 0).2.1 (X 0).2.2.1 (X 0).2.2.2.1 (X 0).2.2.2.2.1 (X 0).2.2.2.2.2 8 (rd l 0) (X 1).1 (X 1).2.1 (X 1).2.2.1 (X 1).2.2.2.1 (X 1).2.2.2.2.1 (X 1).2.2.2.2.2 e0 _ H0.out).mono ?_)); rintro e' w2 ⟨rfl, hb⟩; have n1 := Aside0.mk (blk_below B1.out hb); have n2 := Aside0.mk (blk_below B2.out hb); have n3 := Aside0.mk (blk_below B3.out hb); have n4 := Aside0.mk (below_step HB.out hb); clear hb; have d0 : w2.cell? ⟨(w.heap.size + 1 + 1), 0, none⟩ = some (.int .u8 (X 0).1) := (blk_cell n3.out 0).trans rfl; have d1 : w2.cell? ⟨(w.heap.size + 1 + 1), 1, none⟩ = some (.int .u8 (X 0).2.1) := (blk_cell n3.out 1).trans rfl; have d2 : w2.cell? ⟨(w.heap.size + 1 + 1), 2, none⟩ = some (.int .u8 (X 0).2.2.1) := (blk_cell n3.out 2).trans rfl; have d3 : w2.cell? ⟨(w.heap.size + 1 + 1), 3, none⟩ = some (.int .u16 (X 0).2.2.2.1) := (blk_cell n3.out 3).trans rfl; have d4 : w2.cell? ⟨(w.heap.size + 1 + 1), 4, none⟩ = some (.bool (X 0).2.2.2.2.1) := (blk_cell n3.out 4).trans rfl; have d5 : w2.cell? ⟨(w.heap.size + 1 + 1), 5, none⟩ = some (.bool (X 0).2.2.2.2.2) := (blk_cell n3.out 5).trans rfl; have d6 : w2.cell? ⟨(w.heap.size + 1 + 1), 6, none⟩ = some (.int .u8 (Y 0).1) := (blk_cell n3.out 6).trans rfl; have d7 : w2.cell? ⟨(w.heap.size + 1 + 1), 7, none⟩ = some (.int .u8 (Y 0).2.1) := (blk_cell n3.out 7).trans rfl; have d8 : w2.cell? ⟨(w.heap.size + 1 + 1), 8, none⟩ = some (.int .u8 (Y 0).2.2.1) := (blk_cell n3.out 8).trans rfl; have d9 : w2.cell? ⟨(w.heap.size + 1 + 1), 9, none⟩ = some (.int .u16 (Y 0).2.2.2.1) := (blk_cell n3.out 9).trans rfl; have d10 : w2.cell? ⟨(w.heap.size + 1 + 1), 10, none⟩ = some (.bool (Y 0).2.2.2.2.1) := (blk_cell n3.out 10).trans rfl; have d11 : w2.cell? ⟨(w.heap.size + 1 + 1), 11, none⟩ = some (.bool (Y 0).2.2.2.2.2) := (blk_cell n3.out 11).trans rfl; have fz := fun i => blk_frozen n3.out i))
      refine ⟨⟨1, rfl, Aside0.mk ⟨by omega, ?_, ?_, ?_, ?_⟩⟩, by simp [intOf]⟩
      · exact (blk_far (blk_far (blk_far (blk_far (blk_far (blk_far n1.out (by simp; omega) _) (by simp; omega) _) (by simp; omega) _) (by simp; omega) _) (by simp; omega) _) (by simp; omega) _)
      · exact (blk_far (blk_far (blk_far (blk_far (blk_far (blk_far n2.out (by simp) _) (by simp) _) (by simp) _) (by simp) _) (by simp) _) (by simp) _)
      · exact (blk_put (blk_put (blk_put (blk_put (blk_put (blk_put n3.out 0 _ rfl) 1 _ rfl) 2 _ rfl) 3 _ rfl) 4 _ rfl) 5 _ rfl)
      · exact (below_set (below_set (below_set (below_set (below_set (below_set n4.out (by omega)) (by omega)) (by omega)) (by omega)) (by omega)) (by omega))
    · obtain ⟨ad', ea, cb⟩ := Kd.at_int CB.out 1 (by omega) (by omega)
      obtain rfl := Option.some.inj ea
      clear ea
      have cb' : wr.cell? ⟨ad.block, ad.off + 1, none⟩ = some (.int .u8 (rd l 1)) := by simpa [Addr.add] using cb
      have c0 : wr.cell? ⟨(w.heap.size + 1 + 1), 0, none⟩ = some (.int .u8 (X 1).1) := (blk_cell B3.out 0).trans rfl
      have c1 : wr.cell? ⟨(w.heap.size + 1 + 1), 1, none⟩ = some (.int .u8 (X 1).2.1) := (blk_cell B3.out 1).trans rfl
      have c2 : wr.cell? ⟨(w.heap.size + 1 + 1), 2, none⟩ = some (.int .u8 (X 1).2.2.1) := (blk_cell B3.out 2).trans rfl
      have c3 : wr.cell? ⟨(w.heap.size + 1 + 1), 3, none⟩ = some (.int .u16 (X 1).2.2.2.1) := (blk_cell B3.out 3).trans rfl
      have c4 : wr.cell? ⟨(w.heap.size + 1 + 1), 4, none⟩ = some (.bool (X 1).2.2.2.2.1) := (blk_cell B3.out 4).trans rfl
      have c5 : wr.cell? ⟨(w.heap.size + 1 + 1), 5, none⟩ = some (.bool (X 1).2.2.2.2.2) := (blk_cell B3.out 5).trans rfl
      have c6 : wr.cell? ⟨(w.heap.size + 1 + 1), 6, none⟩ = some (.int .u8 (Y 0).1) := (blk_cell B3.out 6).trans rfl
      have c7 : wr.cell? ⟨(w.heap.size + 1 + 1), 7, none⟩ = some (.int .u8 (Y 0).2.1) := (blk_cell B3.out 7).trans rfl
      have c8 : wr.cell? ⟨(w.heap.size + 1 + 1), 8, none⟩ = some (.int .u8 (Y 0).2.2.1) := (blk_cell B3.out 8).trans rfl
      have c9 : wr.cell? ⟨(w.heap.size + 1 + 1), 9, none⟩ = some (.int .u16 (Y 0).2.2.2.1) := (blk_cell B3.out 9).trans rfl
      have c10 : wr.cell? ⟨(w.heap.size + 1 + 1), 10, none⟩ = some (.bool (Y 0).2.2.2.2.1) := (blk_cell B3.out 10).trans rfl
      have c11 : wr.cell? ⟨(w.heap.size + 1 + 1), 11, none⟩ = some (.bool (Y 0).2.2.2.2.2) := (blk_cell B3.out 11).trans rfl
      go_wp2_with (first | (go_at_call 43; ((with_reducible refine (clock_Write.calls (X 1).1 (X 1).2.1 (X 1).2.2.1 (X 1).2.2.2.1 (X 1).2.2.2.2.1 (X 1).2.2.2.2.2 9 (rd l 1) (X 2).1 (X 2).2.1 (X 2).2.2.1 (X 2).2.2.2.1 (X 2).2.2.2.2.1 (X 2).2.2.2.2.2 e1 _ H1.out).mono ?_)); rintro e' w2 ⟨rfl, hb⟩; have n1 := Aside0.mk (blk_below B1.out hb); have n2 := Aside0.mk (blk_below B2.out hb); have n3 := Aside0.mk (blk_below B3.out hb); have n4 := Aside0.mk (below_step HB.out hb); clear hb; have d0 : w2.cell? ⟨(w.heap.size + 1 + 1), 0, none⟩ = some (.int .u8 (X 1).1) := (blk_cell n3.out 0).trans rfl; have d1 : w2.cell? ⟨(w.heap.size + 1 + 1), 1, none⟩ = some (.int .u8 (X 1).2.1) := (blk_cell n3.out 1).trans rfl; have d2 : w2.cell? ⟨(w.heap.size + 1 + 1), 2, none⟩ = some (.int .u8 (X 1).2.2.1) := (blk_cell n3.out 2).trans rfl; have d3 : w2.cell? ⟨(w.heap.size + 1 + 1), 3, none⟩ = some (.int .u16 (X 1).2.2.2.1) := (blk_cell n3.out 3).trans rfl; have d4 : w2.cell? ⟨(w.heap.size + 1 + 1), 4, none⟩ = some (.bool (X 1).2.2.2.2.1) := (blk_cell n3.out 4).trans rfl; have d5 : w2.cell? ⟨(w.heap.size + 1 + 1), 5, none⟩ = some (.bool (X 1).2.2.2.2.2) := (blk_cell n3.out 5).trans rfl; have d6 : w2.cell? ⟨(w.heap.size + 1 + 1), 6, none⟩ = some (.int .u8 (Y 0).1) := (blk_cell n3.out 6).trans rfl; have d7 : w2.cell? ⟨(w.heap.size + 1 + 1), 7, none⟩ = some (.int .u8 (Y 0).2.1) := (blk_cell n3.out 7).trans rfl; have d8 : w2.cell? ⟨(w.heap.size + 1 + 1), 8, none⟩ = some (.int .u8 (Y 0).2.2.1) := (blk_cell n3.out 8).trans rfl; have d9 : w2.cell? ⟨(w.heap.size + 1 + 1), 9, none⟩ = some (.int .u16 (Y 0).2.2.2.1) := (blk_cell n3.out 9).trans rfl; have d10 : w2.cell? ⟨(w.heap.size + 1 + 1), 10, none⟩ = some (.bool (Y 0).2.2.2.2.1) := (blk_cell n3.out 10).trans rfl; have d11 : w2.cell? ⟨(w.heap.size + 1 + 1), 11, none⟩ = some (.bool (Y 0).2.2.2.2.2) := (blk_cell n3.out 11).trans rfl; have fz := fun i => blk_frozen n3.out i))
      refine ⟨⟨2, rfl, Aside0.mk ⟨by omega, ?_, ?_, ?_, ?_⟩⟩, by simp [intOf]⟩
      · exact (blk_far (blk_far (blk_far (blk_far (blk_far (blk_far n1.out (by simp; omega) _) (by simp; omega) _) (by simp; omega) _) (by simp; omega) _) (by simp; omega) _) (by simp; omega) _)
      · exact (blk_far (blk_far (blk_far (blk_far (blk_far (blk_far n2.out (by simp) _) (by simp) _) (by simp) _) (by simp) _) (by simp) _) (by simp) _)
      · exact (blk_put (blk_put (blk_put (blk_put (blk_put (blk_put n3.out 0 _ rfl) 1 _ rfl) 2 _ rfl) 3 _ rfl) 4 _ rfl) 5 _ rfl)
      · exact (below_set (below_set (below_set (below_set (below_set (below_set n4.out (by omega)) (by omega)) (by omega)) (by omega)) (by omega)) (by omega))
    · obtain ⟨ad', ea, cb⟩ := Kd.at_int CB.out 2 (by omega) (by omega)
      obtain rfl := Option.some.inj ea
      clear ea
      have cb' : wr.cell? ⟨ad.block, ad.off + 2, none⟩ = some (.int .u8 (rd l 2)) := by simpa [Addr.add] using cb
      have c0 : wr.cell? ⟨(w.heap.size + 1 + 1), 0, none⟩ = some (.int .u8 (X 2).1) := (blk_cell B3.out 0).trans rfl
      have c1 : wr.cell? ⟨(w.heap.size + 1 + 1), 1, none⟩ = some (.int .u8 (X 2).2.1) := (blk_cell B3.out 1).trans rfl
      have c2 : wr.cell? ⟨(w.heap.size + 1 + 1), 2, none⟩ = some (.int .u8 (X 2).2.2.1) := (blk_cell B3.out 2).trans rfl
      have c3 : wr.cell? ⟨(w.heap.size + 1 + 1), 3, none⟩ = some (.int .u16 (X 2).2.2.2.1) := (blk_cell B3.out 3).trans rfl
      have c4 : wr.cell? ⟨(w.heap.size + 1 + 1), 4, none⟩ = some (.bool (X 2).2.2.2.2.1) := (blk_cell B3.out 4).trans rfl
      have c5 : wr.cell? ⟨(w.heap.size + 1 + 1), 5, none⟩ = some (.bool (X 2).2.2.2.2.2) := (blk_cell B3.out 5).trans rfl
      have c6 : wr.cell? ⟨(w.heap.size + 1 + 1), 6, none⟩ = some (.int .u8 (Y 0).1) := (blk_cell B3.out 6).trans rfl
      have c7 : wr.cell? ⟨(w.heap.size + 1 + 1), 7, none⟩ = some (.int .u8 (Y 0).2.1) := (blk_cell B3.out 7).trans rfl
      have c8 : wr.cell? ⟨(w.heap.size + 1 + 1), 8, none⟩ = some (.int .u8 (Y 0).2.2.1) := (blk_cell B3.out 8).trans rfl
      have c9 : wr.cell? ⟨(w.heap.size + 1 + 1), 9, none⟩ = some (.int .u16 (Y 0).2.2.2.1) := (blk_cell B3.out 9).trans rfl
      have c10 : wr.cell? ⟨(w.heap.size + 1 + 1), 10, none⟩ = some (.bool (Y 0).2.2.2.2.1) := (blk_cell B3.out 10).trans rfl
      have c11 : wr.cell? ⟨(w.heap.size + 1 + 1), 11, none⟩ = some (.bool (Y 0).2.2.2.2.2) := (blk_cell B3.out 11).trans rfl
      go_wp2_with (first | (go_at_call 43; ((with_reducible refine (clock_Write.calls (X 2).1 (X 2).2.1 (X 2).2.2.1 (X 2).2.2.2.1 (X 2).2.2.2.2.1 (X 2).2.2.2.2.2 10 (rd l 2) (X 3).1 (X 3).2.1 (X 3).2.2.1 (X 3).2.2.2.1 (X 3).2.2.2.2.1 (X 3).2.2.2.2.2 e2 _ H2.out).mono ?_)); rintro e' w2 ⟨rfl, hb⟩; have n1 := Aside0.mk (blk_below B1.out hb); have n2 := Aside0.mk (blk_below B2.out hb); have n3 := Aside0.mk (blk_below B3.out hb); have n4 := Aside0.mk (below_step HB.out hb); clear hb; have d0 : w2.cell? ⟨(w.heap.size + 1 + 1), 0, none⟩ = some (.int .u8 (X 2).1) := (blk_cell n3.out 0).trans rfl; have d1 : w2.cell? ⟨(w.heap.size + 1 + 1), 1, none⟩ = some (.int .u8 (X 2).2.1) := (blk_cell n3.out 1).trans rfl; have d2 : w2.cell? ⟨(w.heap.size + 1 + 1), 2, none⟩ = some (.int .u8 (X 2).2.2.1) := (blk_cell n3.out 2).trans rfl; have d3 : w2.cell? ⟨(w.heap.size + 1 + 1), 3, none⟩ = some (.int .u16 (X 2).2.2.2.1) := (blk_cell n3.out 3).trans rfl; have d4 : w2.cell? ⟨(w.heap.size + 1 + 1), 4, none⟩ = some (.bool (X 2).2.2.2.2.1) := (blk_cell n3.out 4).trans rfl; have d5 : w2.cell? ⟨(w.heap.size + 1 + 1), 5, none⟩ = some (.bool (X 2).2.2.2.2.2) := (blk_cell n3.out 5).trans rfl; have d6 : w2.cell? ⟨(w.heap.size + 1 + 1), 6, none⟩ = some (.int .u8 (Y 0).1) := (blk_cell n3.out 6).trans rfl; have d7 : w2.cell? ⟨(w.heap.size + 1 + 1), 7, none⟩ = some (.int .u8 (Y 0).2.1) := (blk_cell n3.out 7).trans rfl; have d8 : w2.cell? ⟨(w.heap.size + 1 + 1), 8, none⟩ = some (.int .u8 (Y 0).2.2.1) := (blk_cell n3.out 8).trans rfl; have d9 : w2.cell? ⟨(w.heap.size + 1 + 1), 9, none⟩ = some (.int .u16 (Y 0).2.2.2.1) := (blk_cell n3.out 9).trans rfl; have d10 : w2.cell? ⟨(w.heap.size + 1 + 1), 10, none⟩ = some (.bool (Y 0).2.2.2.2.1) := (blk_cell n3.out 10).trans rfl; have d11 : w2.cell? ⟨(w.heap.size + 1 + 1), 11, none⟩ = some (.bool (Y 0).2.2.2.2.2) := (blk_cell n3.out 11).trans rfl; have fz := fun i => blk_frozen n3.out i))
      refine ⟨⟨3, rfl, Aside0.mk ⟨by omega, ?_, ?_, ?_, ?_⟩⟩, by simp [intOf]⟩
      · exact (blk_far (blk_far (blk_far (blk_far (blk_far (blk_far n1.out (by simp; omega) _) (by simp; omega) _) (by simp; omega) _) (by simp; omega) _) (by simp; omega) _) (by simp; omega) _)
      · exact (blk_far (blk_far (blk_far (blk_far (blk_far (blk_far n2.out (by simp) _) (by simp) _) (by simp) _) (by simp) _) (by simp) _) (by simp) _)
      · exact (blk_put (blk_put (blk_put (blk_put (blk_put (blk_put n3.out 0 _ rfl) 1 _ rfl) 2 _ rfl) 3 _ rfl) 4 _ rfl) 5 _ rfl)
      · exact (below_set (below_set (below_set (below_set (below_set (below_set n4.out (by omega)) (by omega)) (by omega)) (by omega)) (by omega)) (by omega))
    · obtain ⟨ad', ea, cb⟩ := Kd.at_int CB.out 3 (by omega) (by omega)
      obtain rfl := Option.some.inj ea
      clear ea
      have cb' : wr.cell? ⟨ad.block, ad.off + 3, none⟩ = some (.int .u8 (rd l 3)) := by simpa [Addr.add] using cb
      have c0 : wr.cell? ⟨(w.heap.size + 1 + 1), 0, none⟩ = some (.int .u8 (X 3).1) := (blk_cell B3.out 0).trans rfl
      have c1 : wr.cell? ⟨(w.heap.size + 1 + 1), 1, none⟩ = some (.int .u8 (X 3).2.1) := (blk_cell B3.out 1).trans rfl
      have c2 : wr.cell? ⟨(w.heap.size + 1 + 1), 2, none⟩ = some (.int .u8 (X 3).2.2.1) := (blk_cell B3.out 2).trans rfl
      have c3 : wr.cell? ⟨(w.heap.size + 1 + 1), 3, none⟩ = some (.int .u16 (X 3).2.2.2.1) := (blk_cell B3.out 3).trans rfl
      have c4 : wr.cell? ⟨(w.heap.size + 1 + 1), 4, none⟩ = some (.bool (X 3).2.2.2.2.1) := (blk_cell B3.out 4).trans rfl
      have c5 : wr.cell? ⟨(w.heap.size + 1 + 1), 5, none⟩ = some (.bool (X 3).2.2.2.2.2) := (blk_cell B3.out 5).trans rfl
      have c6 : wr.cell? ⟨(w.heap.size + 1 + 1), 6, none⟩ = some (.int .u8 (Y 0).1) := (blk_cell B3.out 6).trans rfl
      have c7 : wr.cell? ⟨(w.heap.size + 1 + 1), 7, none⟩ = some (.int .u8 (Y 0).2.1) := (blk_cell B3.out 7).trans rfl
      have c8 : wr.cell? ⟨(w.heap.size + 1 + 1), 8, none⟩ = some (.int .u8 (Y 0).2.2.1) := (blk_cell B3.out 8).trans rfl
      have c9 : wr.cell? ⟨(w.heap.size + 1 + 1), 9, none⟩ = some (.int .u16 (Y 0).2.2.2.1) := (blk_cell B3.out 9).trans rfl
      have c10 : wr.cell? ⟨(w.heap.size + 1 + 1), 10, none⟩ = some (.bool (Y 0).2.2.2.2.1) := (blk_cell B3.out 10).trans rfl
      have c11 : wr.cell? ⟨(w.heap.size + 1 + 1), 11, none⟩ = some (.bool (Y 0).2.2.2.2.2) := (blk_cell B3.out 11).trans rfl
      go_wp2_with (first | (go_at_call 43; ((with_reducible refine (clock_Write.calls (X 3).1 (X 3).2.1 (X 3).2.2.1 (X 3).2.2.2.1 (X 3).2.2.2.2.1 (X 3).2.2.2.2.2 11 (rd l 3) (X 4).1 (X 4).2.1 (X 4).2.2.1 (X 4).2.2.2.1 (X 4).2.2.2.2.1 (X 4).2.2.2.2.2 e3 _ H3.out).mono ?_)); rintro e' w2 ⟨rfl, hb⟩; have n1 := Aside0.mk (blk_below B1.out hb); have n2 := Aside0.mk (blk_below B2.out hb); have n3 := Aside0.mk (blk_below B3.out hb); have n4 := Aside0.mk (below_step HB.out hb); clear hb; have d0 : w2.cell? ⟨(w.heap.size + 1 + 1), 0, none⟩ = some (.int .u8 (X 3).1) := (blk_cell n3.out 0).trans rfl; have d1 : w2.cell? ⟨(w.heap.size + 1 + 1), 1, none⟩ = some (.int .u8 (X 3).2.1) := (blk_cell n3.out 1).trans rfl; have d2 : w2.cell? ⟨(w.heap.size + 1 + 1), 2, none⟩ = some (.int .u8 (X 3).2.2.1) := (blk_cell n3.out 2).trans rfl; have d3 : w2.cell? ⟨(w.heap.size + 1 + 1), 3, none⟩ = some (.int .u16 (X 3).2.2.2.1) := (blk_cell n3.out 3).trans rfl; have d4 : w2.cell? ⟨(w.heap.size + 1 + 1), 4, none⟩ = some (.bool (X 3).2.2.2.2.1) := (blk_cell n3.out 4).trans rfl; have d5 : w2.cell? ⟨(w.heap.size + 1 + 1), 5, none⟩ = some (.bool (X 3).2.2.2.2.2) := (blk_cell n3.out 5).trans rfl; have d6 : w2.cell? ⟨(w.heap.size + 1 + 1), 6, none⟩ = some (.int .u8 (Y 0).1) := (blk_cell n3.out 6).trans rfl; have d7 : w2.cell? ⟨(w.heap.size + 1 + 1), 7, none⟩ = some (.int .u8 (Y 0).2.1) := (blk_cell n3.out 7).trans rfl; have d8 : w2.cell? ⟨(w.heap.size + 1 + 1), 8, none⟩ = some (.int .u8 (Y 0).2.2.1) := (blk_cell n3.out 8).trans rfl; have d9 : w2.cell? ⟨(w.heap.size + 1 + 1), 9, none⟩ = some (.int .u16 (Y 0).2.2.2.1) := (blk_cell n3.out 9).trans rfl; have d10 : w2.cell? ⟨(w.heap.size + 1 + 1), 10, none⟩ = some (.bool (Y 0).2.2.2.2.1) := (blk_cell n3.out 10).trans rfl; have d11 : w2.cell? ⟨(w.heap.size + 1 + 1), 11, none⟩ = some (.bool (Y 0).2.2.2.2.2) := (blk_cell n3.out 11).trans rfl; have fz := fun i => blk_frozen n3.out i))
      refine ⟨⟨4, rfl, Aside0.mk ⟨by omega, ?_, ?_, ?_, ?_⟩⟩, by simp [intOf]⟩
      · exact (blk_far (blk_far (blk_far (blk_far (blk_far (blk_far n1.out (by simp; omega) _) (by simp; omega) _) (by simp; omega) _) (by simp; omega) _) (by simp; omega) _) (by simp; omega) _)
      · exact (blk_far (blk_far (blk_far (blk_far (blk_far (blk_far n2.out (by simp) _) (by simp) _) (by simp) _) (by simp) _) (by simp) _) (by simp) _)
      · exact (blk_put (blk_put (blk_put (blk_put (blk_put (blk_put n3.out 0 _ rfl) 1 _ rfl) 2 _ rfl) 3 _ rfl) 4 _ rfl) 5 _ rfl)
      · exact (below_set (below_set (below_set (below_set (below_set (below_set n4.out (by omega)) (by omega)) (by omega)) (by omega)) (by omega)) (by omega))
    · obtain ⟨ad', ea, cb⟩ := Kd.at_int CB.out 4 (by omega) (by omega)
      obtain rfl := Option.some.inj ea
      clear ea
      have cb' : wr.cell? ⟨ad.block, ad.off + 4, none⟩ = some (.int .u8 (rd l 4)) := by simpa [Addr.add] using cb
      have c0 : wr.cell? ⟨(w.heap.size + 1 + 1), 0, none⟩ = some (.int .u8 (X 4).1) := (blk_cell B3.out 0).trans rfl
      have c1 : wr.cell? ⟨(w.heap.size + 1 + 1), 1, none⟩ = some (.int .u8 (X 4).2.1) := (blk_cell B3.out 1).trans rfl
      have c2 : wr.cell? ⟨(w.heap.size + 1 + 1), 2, none⟩ = some (.int .u8 (X 4).2.2.1) := (blk_cell B3.out 2).trans rfl
      have c3 : wr.cell? ⟨(w.heap.size + 1 + 1), 3, none⟩ = some (.int .u16 (X 4).2.2.2.1) := (blk_cell B3.out 3).trans rfl
      have c4 : wr.cell? ⟨(w.heap.size + 1 + 1), 4, none⟩ = some (.bool (X 4).2.2.2.2.1) := (blk_cell B3.out 4).trans rfl
      have c5 : wr.cell? ⟨(w.heap.size + 1 + 1), 5, none⟩ = some (.bool (X 4).2.2.2.2.2) := (blk_cell B3.out 5).trans rfl
      have c6 : wr.cell? ⟨(w.heap.size + 1 + 1), 6, none⟩ = some (.int .u8 (Y 0).1) := (blk_cell B3.out 6).trans rfl
      have c7 : wr.cell? ⟨(w.heap.size + 1 + 1), 7, none⟩ = some (.int .u8 (Y 0).2.1) := (blk_cell B3.out 7).trans rfl
      have c8 : wr.cell? ⟨(w.heap.size + 1 + 1), 8, none⟩ = some (.int .u8 (Y 0).2.2.1) := (blk_cell B3.out 8).trans rfl
      have c9 : wr.cell? ⟨(w.heap.size + 1 + 1), 9, none⟩ = some (.int .u16 (Y 0).2.2.2.1) := (blk_cell B3.out 9).trans rfl
      have c10 : wr.cell? ⟨(w.heap.size + 1 + 1), 10, none⟩ = some (.bool (Y 0).2.2.2.2.1) := (blk_cell B3.out 10).trans rfl
      have c11 : wr.cell? ⟨(w.heap.size + 1 + 1), 11, none⟩ = some (.bool (Y 0).2.2.2.2.2) := (blk_cell B3.out 11).trans rfl
      go_wp2_with (first | (go_at_call 43; ((with_reducible refine (clock_Write.calls (X 4).1 (X 4).2.1 (X 4).2.2.1 (X 4).2.2.2.1 (X 4).2.2.2.2.1 (X 4).2.2.2.2.2 12 (rd l 4) (X 5).1 (X 5).2.1 (X 5).2.2.1 (X 5).2.2.2.1 (X 5).2.2.2.2.1 (X 5).2.2.2.2.2 e4 _ H4.out).mono ?_)); rintro e' w2 ⟨rfl, hb⟩; have n1 := Aside0.mk (blk_below B1.out hb); have n2 := Aside0.mk (blk_below B2.out hb); have n3 := Aside0.mk (blk_below B3.out hb); have n4 := Aside0.mk (below_step HB.out hb); clear hb; have d0 : w2.cell? ⟨(w.heap.size + 1 + 1), 0, none⟩ = some (.int .u8 (X 4).1) := (blk_cell n3.out 0).trans rfl; have d1 : w2.cell? ⟨(w.heap.size + 1 + 1), 1, none⟩ = some (.int .u8 (X 4).2.1) := (blk_cell n3.out 1).trans rfl; have d2 : w2.cell? ⟨(w.heap.size + 1 + 1), 2, none⟩ = some (.int .u8 (X 4).2.2.1) := (blk_cell n3.out 2).trans rfl; have d3 : w2.cell? ⟨(w.heap.size + 1 + 1), 3, none⟩ = some (.int .u16 (X 4).2.2.2.1) := (blk_cell n3.out 3).trans rfl; have d4 : w2.cell? ⟨(w.heap.size + 1 + 1), 4, none⟩ = some (.bool (X 4).2.2.2.2.1) := (blk_cell n3.out 4).trans rfl; have d5 : w2.cell? ⟨(w.heap.size + 1 + 1), 5, none⟩ = some (.bool (X 4).2.2.2.2.2) := (blk_cell n3.out 5).trans rfl; have d6 : w2.cell? ⟨(w.heap.size + 1 + 1), 6, none⟩ = some (.int .u8 (Y 0).1) := (blk_cell n3.out 6).trans rfl; have d7 : w2.cell? ⟨(w.heap.size + 1 + 1), 7, none⟩ = some (.int .u8 (Y 0).2.1) := (blk_cell n3.out 7).trans rfl; have d8 : w2.cell? ⟨(w.heap.size + 1 + 1), 8, none⟩ = some (.int .u8 (Y 0).2.2.1) := (blk_cell n3.out 8).trans rfl; have d9 : w2.cell? ⟨(w.heap.size + 1 + 1), 9, none⟩ = some (.int .u16 (Y 0).2.2.2.1) := (blk_cell n3.out 9).trans rfl; have d10 : w2.cell? ⟨(w.heap.size + 1 + 1), 10, none⟩ = some (.bool (Y 0).2.2.2.2.1) := (blk_cell n3.out 10).trans rfl; have d11 : w2.cell? ⟨(w.heap.size + 1 + 1), 11, none⟩ = some (.bool (Y 0).2.2.2.2.2) := (blk_cell n3.out 11).trans rfl; have fz := fun i => blk_frozen n3.out i))
      refine ⟨⟨5, rfl, Aside0.mk ⟨by omega, ?_, ?_, ?_, ?_⟩⟩, by simp [intOf]⟩
      · exact (blk_far (blk_far (blk_far (blk_far (blk_far (blk_far n1.out (by simp; omega) _) (by simp; omega) _) (by simp; omega) _) (by simp; omega) _) (by simp; omega) _) (by simp; omega) _)
      · exact (blk_far (blk_far (blk_far (blk_far (blk_far (blk_far n2.out (by simp) _) (by simp) _) (by simp) _) (by simp) _) (by simp) _) (by simp) _)
      · exact (blk_put (blk_put (blk_put (blk_put (blk_put (blk_put n3.out 0 _ rfl) 1 _ rfl) 2 _ rfl) 3 _ rfl) 4 _ rfl) 5 _ rfl)
      · exact (below_set (below_set (below_set (below_set (below_set (below_set n4.out (by omega)) (by omega)) (by omega)) (by omega)) (by omega)) (by omega))
    · obtain ⟨ad', ea, cb⟩ := Kd.at_int CB.out 5 (by omega) (by omega)
      obtain rfl := Option.some.inj ea
      clear ea
      have cb' : wr.cell? ⟨ad.block, ad.off + 5, none⟩ = some (.int .u8 (rd l 5)) := by simpa [Addr.add] using cb
      have c0 : wr.cell? ⟨(w.heap.size + 1 + 1), 0, none⟩ = some (.int .u8 (X 5).1) := (blk_cell B3.out 0).trans rfl
      have c1 : wr.cell? ⟨(w.heap.size + 1 + 1), 1, none⟩ = some (.int .u8 (X 5).2.1) := (blk_cell B3.out 1).trans rfl
      have c2 : wr.cell? ⟨(w.heap.size + 1 + 1), 2, none⟩ = some (.int .u8 (X 5).2.2.1) := (blk_cell B3.out 2).trans rfl
      have c3 : wr.cell? ⟨(w.heap.size + 1 + 1), 3, none⟩ = some (.int .u16 (X 5).2.2.2.1) := (blk_cell B3.out 3).trans rfl
      have c4 : wr.cell? ⟨(w.heap.size + 1 + 1), 4, none⟩ = some (.bool (X 5).2.2.2.2.1) := (blk_cell B3.out 4).trans rfl
      have c5 : wr.cell? ⟨(w.heap.size + 1 + 1), 5, none⟩ = some (.bool (X 5).2.2.2.2.2) := (blk_cell B3.out 5).trans rfl
      have c6 : wr.cell? ⟨(w.heap.size + 1 + 1), 6, none⟩ = some (.int .u8 (Y 0).1) := (blk_cell B3.out 6).trans rfl
      have c7 : wr.cell? ⟨(w.heap.size + 1 + 1), 7, none⟩ = some (.int .u8 (Y 0).2.1) := (blk_cell B3.out 7).trans rfl
      have c8 : wr.cell? ⟨(w.heap.size + 1 + 1), 8, none⟩ = some (.int .u8 (Y 0).2.2.1) := (blk_cell B3.out 8).trans rfl
      have c9 : wr.cell? ⟨(w.heap.size + 1 + 1), 9, none⟩ = some (.int .u16 (Y 0).2.2.2.1) := (blk_cell B3.out 9).trans rfl
      have c10 : wr.cell? ⟨(w.heap.size + 1 + 1), 10, none⟩ = some (.bool (Y 0).2.2.2.2.1) := (blk_cell B3.out 10).trans rfl
      have c11 : wr.cell? ⟨(w.heap.size + 1 + 1), 11, none⟩ = some (.bool (Y 0).2.2.2.2.2) := (blk_cell B3.out 11).trans rfl
      go_wp2_with (first | (go_at_call 43; ((with_reducible refine (clock_Write.calls (Y 0).1 (Y 0).2.1 (Y 0).2.2.1 (Y 0).2.2.2.1 (Y 0).2.2.2.2.1 (Y 0).2.2.2.2.2 8 (rd l 5) (Y 1).1 (Y 1).2.1 (Y 1).2.2.1 (Y 1).2.2.2.1 (Y 1).2.2.2.2.1 (Y 1).2.2.2.2.2 e5 _ H5.out).mono ?_)); rintro e' w2 ⟨rfl, hb⟩; have n1 := Aside0.mk (blk_below B1.out hb); have n2 := Aside0.mk (blk_below B2.out hb); have n3 := Aside0.mk (blk_below B3.out hb); have n4 := Aside0.mk (below_step HB.out hb); clear hb; have d0 : w2.cell? ⟨(w.heap.size + 1 + 1), 0, none⟩ = some (.int .u8 (X 5).1) := (blk_cell n3.out 0).trans rfl; have d1 : w2.cell? ⟨(w.heap.size + 1 + 1), 1, none⟩ = some (.int .u8 (X 5).2.1) := (blk_cell n3.out 1).trans rfl; have d2 : w2.cell? ⟨(w.heap.size + 1 + 1), 2, none⟩ = some (.int .u8 (X 5).2.2.1) := (blk_cell n3.out 2).trans rfl; have d3 : w2.cell? ⟨(w.heap.size + 1 + 1), 3, none⟩ = some (.int .u16 (X 5).2.2.2.1) := (blk_cell n3.out 3).trans rfl; have d4 : w2.cell? ⟨(w.heap.size + 1 + 1), 4, none⟩ = some (.bool (X 5).2.2.2.2.1) := (blk_cell n3.out 4).trans rfl; have d5 : w2.cell? ⟨(w.heap.size + 1 + 1), 5, none⟩ = some (.bool (X 5).2.2.2.2.2) := (blk_cell n3.out 5).trans rfl; have d6 : w2.cell? ⟨(w.heap.size + 1 + 1), 6, none⟩ = some (.int .u8 (Y 0).1) := (blk_cell n3.out 6).trans rfl; have d7 : w2.cell? ⟨(w.heap.size + 1 + 1), 7, none⟩ = some (.int .u8 (Y 0).2.1) := (blk_cell n3.out 7).trans rfl; have d8 : w2.cell? ⟨(w.heap.size + 1 + 1), 8, none⟩ = some (.int .u8 (Y 0).2.2.1) := (blk_cell n3.out 8).trans rfl; have d9 : w2.cell? ⟨(w.heap.size + 1 + 1), 9, none⟩ = some (.int .u16 (Y 0).2.2.2.1) := (blk_cell n3.out 9).trans rfl; have d10 : w2.cell? ⟨(w.heap.size + 1 + 1), 10, none⟩ = some (.bool (Y 0).2.2.2.2.1) := (blk_cell n3.out 10).trans rfl; have d11 : w2.cell? ⟨(w.heap.size + 1 + 1), 11, none⟩ = some (.bool (Y 0).2.2.2.2.2) := (blk_cell n3.out 11).trans rfl; have fz := fun i => blk_frozen n3.out i))
      refine ⟨⟨6, rfl, Aside0.mk ⟨by omega, ?_, ?_, ?_, ?_⟩⟩, by simp [intOf]⟩
      · exact (blk_far (blk_far (blk_far (blk_far (blk_far (blk_far n1.out (by simp; omega) _) (by simp; omega) _) (by simp; omega) _) (by simp; omega) _) (by simp; omega) _) (by simp; omega) _)
      · exact (blk_far (blk_far (blk_far (blk_far (blk_far (blk_far n2.out (by simp) _) (by simp) _) (by simp) _) (by simp) _) (by simp) _) (by simp) _)
      · exact (blk_put (blk_put (blk_put (blk_put (blk_put (blk_put n3.out 6 _ rfl) 7 _ rfl) 8 _ rfl) 9 _ rfl) 10 _ rfl) 11 _ rfl)
      · exact (below_set (below_set (below_set (below_set (below_set (below_set n4.out (by omega)) (by omega)) (by omega)) (by omega)) (by omega)) (by omega))
    · obtain ⟨ad', ea, cb⟩ := Kd.at_int CB.out 6 (by omega) (by omega)
      obtain rfl := Option.some.inj ea
      clear ea
      have cb' : wr.cell? ⟨ad.block, ad.off + 6, none⟩ = some (.int .u8 (rd l 6)) := by simpa [Addr.add] using cb
      have c0 : wr.cell? ⟨(w.heap.size + 1 + 1), 0, none⟩ = some (.int .u8 (X 5).1) := (blk_cell B3.out 0).trans rfl
      have c1 : wr.cell? ⟨(w.heap.size + 1 + 1), 1, none⟩ = some (.int .u8 (X 5).2.1) := (blk_cell B3.out 1).trans rfl
      have c2 : wr.cell? ⟨(w.heap.size + 1 + 1), 2, none⟩ = some (.int .u8 (X 5).2.2.1) := (blk_cell B3.out 2).trans rfl
      have c3 : wr.cell? ⟨(w.heap.size + 1 + 1), 3, none⟩ = some (.int .u16 (X 5).2.2.2.1) := (blk_cell B3.out 3).trans rfl
      have c4 : wr.cell? ⟨(w.heap.size + 1 + 1), 4, none⟩ = some (.bool (X 5).2.2.2.2.1) := (blk_cell B3.out 4).trans rfl
      have c5 : wr.cell? ⟨(w.heap.size + 1 + 1), 5, none⟩ = some (.bool (X 5).2.2.2.2.2) := (blk_cell B3.out 5).trans rfl
      have c6 : wr.cell? ⟨(w.heap.size + 1 + 1), 6, none⟩ = some (.int .u8 (Y 1).1) := (blk_cell B3.out 6).trans rfl
      have c7 : wr.cell? ⟨(w.heap.size + 1 + 1), 7, none⟩ = some (.int .u8 (Y 1).2.1) := (blk_cell B3.out 7).trans rfl
      have c8 : wr.cell? ⟨(w.heap.size + 1 + 1), 8, none⟩ = some (.int .u8 (Y 1).2.2.1) := (blk_cell B3.out 8).trans rfl
      have c9 : wr.cell? ⟨(w.heap.size + 1 + 1), 9, none⟩ = some (.int .u16 (Y 1).2.2.2.1) := (blk_cell B3.out 9).trans rfl
      have c10 : wr.cell? ⟨(w.heap.size + 1 + 1), 10, none⟩ = some (.bool (Y 1).2.2.2.2.1) := (blk_cell B3.out 10).trans rfl
      have c11 : wr.cell? ⟨(w.heap.size + 1 + 1), 11, none⟩ = some (.bool (Y 1).2.2.2.2.2) := (blk_cell B3.out 11).trans rfl
      go_wp2_with (first | (go_at_call 43; ((with_reducible refine (clock_Write.calls (Y 1).1 (Y 1).2.1 (Y 1).2.2.1 (Y 1).2.2.2.1 (Y 1).2.2.2.2.1 (Y 1).2.2.2.2.2 9 (rd l 6) (Y 2).1 (Y 2).2.1 (Y 2).2.2.1 (Y 2).2.2.2.1 (Y 2).2.2.2.2.1 (Y 2).2.2.2.2.2 e6 _ H6.out).mono ?_)); rintro e' w2 ⟨rfl, hb⟩; have n1 := Aside0.mk (blk_below B1.out hb); have n2 := Aside0.mk (blk_below B2.out hb); have n3 := Aside0.mk (blk_below B3.out hb); have n4 := Aside0.mk (below_step HB.out hb); clear hb; have d0 : w2.cell? ⟨(w.heap.size + 1 + 1), 0, none⟩ = some (.int .u8 (X 5).1) := (blk_cell n3.out 0).trans rfl; have d1 : w2.cell? ⟨(w.heap.size + 1 + 1), 1, none⟩ = some (.int .u8 (X 5).2.1) := (blk_cell n3.out 1).trans rfl; have d2 : w2.cell? ⟨(w.heap.size + 1 + 1), 2, none⟩ = some (.int .u8 (X 5).2.2.1) := (blk_cell n3.out 2).trans rfl; have d3 : w2.cell? ⟨(w.heap.size + 1 + 1), 3, none⟩ = some (.int .u16 (X 5).2.2.2.1) := (blk_cell n3.out 3).trans rfl; have d4 : w2.cell? ⟨(w.heap.size + 1 + 1), 4, none⟩ = some (.bool (X 5).2.2.2.2.1) := (blk_cell n3.out 4).trans rfl; have d5 : w2.cell? ⟨(w.heap.size + 1 + 1), 5, none⟩ = some (.bool (X 5).2.2.2.2.2) := (blk_cell n3.out 5).trans rfl; have d6 : w2.cell? ⟨(w.heap.size + 1 + 1), 6, none⟩ = some (.int .u8 (Y 1).1) := (blk_cell n3.out 6).trans rfl; have d7 : w2.cell? ⟨(w.heap.size + 1 + 1), 7, none⟩ = some (.int .u8 (Y 1).2.1) := (blk_cell n3.out 7).trans rfl; have d8 : w2.cell? ⟨(w.heap.size + 1 + 1), 8, none⟩ = some (.int .u8 (Y 1).2.2.1) := (blk_cell n3.out 8).trans rfl; have d9 : w2.cell? ⟨(w.heap.size + 1 + 1), 9, none⟩ = some (.int .u16 (Y 1).2.2.2.1) := (blk_cell n3.out 9).trans rfl; have d10 : w2.cell? ⟨(w.heap.size + 1 + 1), 10, none⟩ = some (.bool (Y 1).2.2.2.2.1) := (blk_cell n3.out 10).trans rfl; have d11 : w2.cell? ⟨(w.heap.size + 1 + 1), 11, none⟩ = some (.bool (Y 1).2.2.2.2.2) := (blk_cell n3.out 11).trans rfl; have fz := fun i => blk_frozen n3.out i))
      refine ⟨⟨7, rfl, Aside0.mk ⟨by omega, ?_, ?_, ?_, ?_⟩⟩, by simp [intOf]⟩
      · exact (blk_far (blk_far (blk_far (blk_far (blk_far (blk_far n1.out (by simp; omega) _) (by simp; omega) _) (by simp; omega) _) (by simp; omega) _) (by simp; omega) _) (by simp; omega) _)
      · exact (blk_far (blk_far (blk_far (blk_far (blk_far (blk_far n2.out (by simp) _) (by simp) _) (by simp) _) (by simp) _) (by simp) _) (by simp) _)
      · exact (blk_put (blk_put (blk_put (blk_put (blk_put (blk_put n3.out 6 _ rfl) 7 _ rfl) 8 _ rfl) 9 _ rfl) 10 _ rfl) 11 _ rfl)
      · exact (below_set (below_set (below_set (below_set (below_set (below_set n4.out (by omega)) (by omega)) (by omega)) (by omega)) (by omega)) (by omega))
    · obtain ⟨ad', ea, cb⟩ := Kd.at_int CB.out 7 (by omega) (by omega)
      obtain rfl := Option.some.inj ea
      clear ea
      have cb' : wr.cell? ⟨ad.block, ad.off + 7, none⟩ = some (.int .u8 (rd l 7)) := by simpa [Addr.add] using cb
      have c0 : wr.cell? ⟨(w.heap.size + 1 + 1), 0, none⟩ = some (.int .u8 (X 5).1) := (blk_cell B3.out 0).trans rfl
      have c1 : wr.cell? ⟨(w.heap.size + 1 + 1), 1, none⟩ = some (.int .u8 (X 5).2.1) := (blk_cell B3.out 1).trans rfl
      have c2 : wr.cell? ⟨(w.heap.size + 1 + 1), 2, none⟩ = some (.int .u8 (X 5).2.2.1) := (blk_cell B3.out 2).trans rfl
      have c3 : wr.cell? ⟨(w.heap.size + 1 + 1), 3, none⟩ = some (.int .u16 (X 5).2.2.2.1) := (blk_cell B3.out 3).trans rfl
      have c4 : wr.cell? ⟨(w.heap.size + 1 + 1), 4, none⟩ = some (.bool (X 5).2.2.2.2.1) := (blk_cell B3.out 4).trans rfl
      have c5 : wr.cell? ⟨(w.heap.size + 1 + 1), 5, none⟩ = some (.bool (X 5).2.2.2.2.2) := (blk_cell B3.out 5).trans rfl
      have c6 : wr.cell? ⟨(w.heap.size + 1 + 1), 6, none⟩ = some (.int .u8 (Y 2).1) := (blk_cell B3.out 6).trans rfl
      have c7 : wr.cell? ⟨(w.heap.size + 1 + 1), 7, none⟩ = some (.int .u8 (Y 2).2.1) := (blk_cell B3.out 7).trans rfl
      have c8 : wr.cell? ⟨(w.heap.size + 1 + 1), 8, none⟩ = some (.int .u8 (Y 2).2.2.1) := (blk_cell B3.out 8).trans rfl
      have c9 : wr.cell? ⟨(w.heap.size + 1 + 1), 9, none⟩ = some (.int .u16 (Y 2).2.2.2.1) := (blk_cell B3.out 9).trans rfl
      have c10 : wr.cell? ⟨(w.heap.size + 1 + 1), 10, none⟩ = some (.bool (Y 2).2.2.2.2.1) := (blk_cell B3.out 10).trans rfl
      have c11 : wr.cell? ⟨(w.heap.size + 1 + 1), 11, none⟩ = some (.bool (Y 2).2.2.2.2.2) := (blk_cell B3.out 11).trans rfl
      go_wp2_with (first | (go_at_call 43; ((with_reducible refine (clock_Write.calls (Y 2).1 (Y 2).2.1 (Y 2).2.2.1 (Y 2).2.2.2.1 (Y 2).2.2.2.2.1 (Y 2).2.2.2.2.2 10 (rd l 7) (Y 3).1 (Y 3).2.1 (Y 3).2.2.1 (Y 3).2.2.2.1 (Y 3).2.2.2.2.1 (Y 3).2.2.2.2.2 e7 _ H7.out).mono ?_)); rintro e' w2 ⟨rfl, hb⟩; have n1 := Aside0.mk (blk_below B1.out hb); have n2 := Aside0.mk (blk_below B2.out hb); have n3 := Aside0.mk (blk_below B3.out hb); have n4 := Aside0.mk (below_step HB.out hb); clear hb; have d0 : w2.cell? ⟨(w.heap.size + 1 + 1), 0, none⟩ = some (.int .u8 (X 5).1) := (blk_cell n3.out 0).trans rfl; have d1 : w2.cell? ⟨(w.heap.size + 1 + 1), 1, none⟩ = some (.int .u8 (X 5).2.1) := (blk_cell n3.out 1).trans rfl; have d2 : w2.cell? ⟨(w.heap.size + 1 + 1), 2, none⟩ = some (.int .u8 (X 5).2.2.1) := (blk_cell n3.out 2).trans rfl; have d3 : w2.cell? ⟨(w.heap.size + 1 + 1), 3, none⟩ = some (.int .u16 (X 5).2.2.2.1) := (blk_cell n3.out 3).trans rfl; have d4 : w2.cell? ⟨(w.heap.size + 1 + 1), 4, none⟩ = some (.bool (X 5).2.2.2.2.1) := (blk_cell n3.out 4).trans rfl; have d5 : w2.cell? ⟨(w.heap.size + 1 + 1), 5, none⟩ = some (.bool (X 5).2.2.2.2.2) := (blk_cell n3.out 5).trans rfl; have d6 : w2.cell? ⟨(w.heap.size + 1 + 1), 6, none⟩ = some (.int .u8 (Y 2).1) := (blk_cell n3.out 6).trans rfl; have d7 : w2.cell? ⟨(w.heap.size + 1 + 1), 7, none⟩ = some (.int .u8 (Y 2).2.1) := (blk_cell n3.out 7).trans rfl; have d8 : w2.cell? ⟨(w.heap.size + 1 + 1), 8, none⟩ = some (.int .u8 (Y 2).2.2.1) := (blk_cell n3.out 8).trans rfl; have d9 : w2.cell? ⟨(w.heap.size + 1 + 1), 9, none⟩ = some (.int .u16 (Y 2).2.2.2.1) := (blk_cell n3.out 9).trans rfl; have d10 : w2.cell? ⟨(w.heap.size + 1 + 1), 10, none⟩ = some (.bool (Y 2).2.2.2.2.1) := (blk_cell n3.out 10).trans rfl; have d11 : w2.cell? ⟨(w.heap.size + 1 + 1), 11, none⟩ = some (.bool (Y 2).2.2.2.2.2) := (blk_cell n3.out 11).trans rfl; have fz := fun i => blk_frozen n3.out i))
      refine ⟨⟨8, rfl, Aside0.mk ⟨by omega, ?_, ?_, ?_, ?_⟩⟩, by simp [intOf]⟩
      · exact (blk_far (blk_far (blk_far (blk_far (blk_far (blk_far n1.out (by simp; omega) _) (by simp; omega) _) (by simp; omega) _) (by simp; omega) _) (by simp; omega) _) (by simp; omega) _)
      · exact (blk_far (blk_far (blk_far (blk_far (blk_far (blk_far n2.out (by simp) _) (by simp) _) (by simp) _) (by simp) _) (by simp) _) (by simp) _)
      · exact (blk_put (blk_put (blk_put (blk_put (blk_put (blk_put n3.out 6 _ rfl) 7 _ rfl) 8 _ rfl) 9 _ rfl) 10 _ rfl) 11 _ rfl)
      · exact (below_set (below_set (below_set (below_set (below_set (below_set n4.out (by omega)) (by omega)) (by omega)) (by omega)) (by omega)) (by omega))
    · obtain ⟨ad', ea, cb⟩ := Kd.at_int CB.out 8 (by omega) (by omega)
      obtain rfl := Option.some.inj ea
      clear ea
      have cb' : wr.cell? ⟨ad.block, ad.off + 8, none⟩ = some (.int .u8 (rd l 8)) := by simpa [Addr.add] using cb
      have c0 : wr.cell? ⟨(w.heap.size + 1 + 1), 0, none⟩ = some (.int .u8 (X 5).1) := (blk_cell B3.out 0).trans rfl
      have c1 : wr.cell? ⟨(w.heap.size + 1 + 1), 1, none⟩ = some (.int .u8 (X 5).2.1) := (blk_cell B3.out 1).trans rfl
      have c2 : wr.cell? ⟨(w.heap.size + 1 + 1), 2, none⟩ = some (.int .u8 (X 5).2.2.1) := (blk_cell B3.out 2).trans rfl
      have c3 : wr.cell? ⟨(w.heap.size + 1 + 1), 3, none⟩ = some (.int .u16 (X 5).2.2.2.1) := (blk_cell B3.out 3).trans rfl
      have c4 : wr.cell? ⟨(w.heap.size + 1 + 1), 4, none⟩ = some (.bool (X 5).2.2.2.2.1) := (blk_cell B3.out 4).trans rfl
      have c5 : wr.cell? ⟨(w.heap.size + 1 + 1), 5, none⟩ = some (.bool (X 5).2.2.2.2.2) := (blk_cell B3.out 5).trans rfl
      have c6 : wr.cell? ⟨(w.heap.size + 1 + 1), 6, none⟩ = some (.int .u8 (Y 3).1) := (blk_cell B3.out 6).trans rfl
      have c7 : wr.cell? ⟨(w.heap.size + 1 + 1), 7, none⟩ = some (.int .u8 (Y 3).2.1) := (blk_cell B3.out 7).trans rfl
      have c8 : wr.cell? ⟨(w.heap.size + 1 + 1), 8, none⟩ = some (.int .u8 (Y 3).2.2.1) := (blk_cell B3.out 8).trans rfl
      have c9 : wr.cell? ⟨(w.heap.size + 1 + 1), 9, none⟩ = some (.int .u16 (Y 3).2.2.2.1) := (blk_cell B3.out 9).trans rfl
      have c10 : wr.cell? ⟨(w.heap.size + 1 + 1), 10, none⟩ = some (.bool (Y 3).2.2.2.2.1) := (blk_cell B3.out 10).trans rfl
      have c11 : wr.cell? ⟨(w.heap.size + 1 + 1), 11, none⟩ = some (.bool (Y 3).2.2.2.2.2) := (blk_cell B3.out 11).trans rfl
      go_wp2_with (first | (go_at_call 43; ((with_reducible refine (clock_Write.calls (Y 3).1 (Y 3).2.1 (Y 3).2.2.1 (Y 3).2.2.2.1 (Y 3).2.2.2.2.1 (Y 3).2.2.2.2.2 11 (rd l 8) (Y 4).1 (Y 4).2.1 (Y 4).2.2.1 (Y 4).2.2.2.1 (Y 4).2.2.2.2.1 (Y 4).2.2.2.2.2 e8 _ H8.out).mono ?_)); rintro e' w2 ⟨rfl, hb⟩; have n1 := Aside0.mk (blk_below B1.out hb); have n2 := Aside0.mk (blk_below B2.out hb); have n3 := Aside0.mk (blk_below B3.out hb); have n4 := Aside0.mk (below_step HB.out hb); clear hb; have d0 : w2.cell? ⟨(w.heap.size + 1 + 1), 0, none⟩ = some (.int .u8 (X 5).1) := (blk_cell n3.out 0).trans rfl; have d1 : w2.cell? ⟨(w.heap.size + 1 + 1), 1, none⟩ = some (.int .u8 (X 5).2.1) := (blk_cell n3.out 1).trans rfl; have d2 : w2.cell? ⟨(w.heap.size + 1 + 1), 2, none⟩ = some (.int .u8 (X 5).2.2.1) := (blk_cell n3.out 2).trans rfl; have d3 : w2.cell? ⟨(w.heap.size + 1 + 1), 3, none⟩ = some (.int .u16 (X 5).2.2.2.1) := (blk_cell n3.out 3).trans rfl; have d4 : w2.cell? ⟨(w.heap.size + 1 + 1), 4, none⟩ = some (.bool (X 5).2.2.2.2.1) := (blk_cell n3.out 4).trans rfl; have d5 : w2.cell? ⟨(w.heap.size + 1 + 1), 5, none⟩ = some (.bool (X 5).2.2.2.2.2) := (blk_cell n3.out 5).trans rfl; have d6 : w2.cell? ⟨(w.heap.size + 1 + 1), 6, none⟩ = some (.int .u8 (Y 3).1) := (blk_cell n3.out 6).trans rfl; have d7 : w2.cell? ⟨(w.heap.size + 1 + 1), 7, none⟩ = some (.int .u8 (Y 3).2.1) := (blk_cell n3.out 7).trans rfl; have d8 : w2.cell? ⟨(w.heap.size + 1 + 1), 8, none⟩ = some (.int .u8 (Y 3).2.2.1) := (blk_cell n3.out 8).trans rfl; have d9 : w2.cell? ⟨(w.heap.size + 1 + 1), 9, none⟩ = some (.int .u16 (Y 3).2.2.2.1) := (blk_cell n3.out 9).trans rfl; have d10 : w2.cell? ⟨(w.heap.size + 1 + 1), 10, none⟩ = some (.bool (Y 3).2.2.2.2.1) := (blk_cell n3.out 10).trans rfl; have d11 : w2.cell? ⟨(w.heap.size + 1 + 1), 11, none⟩ = some (.bool (Y 3).2.2.2.2.2) := (blk_cell n3.out 11).trans rfl; have fz := fun i => blk_frozen n3.out i))
      refine ⟨⟨9, rfl, Aside0.mk ⟨by omega, ?_, ?_, ?_, ?_⟩⟩, by simp [intOf]⟩
      · exact (blk_far (blk_far (blk_far (blk_far (blk_far (blk_far n1.out (by simp; omega) _) (by simp; omega) _) (by simp; omega) _) (by simp; omega) _) (by simp; omega) _) (by simp; omega) _)
      · exact (blk_far (blk_far (blk_far (blk_far (blk_far (blk_far n2.out (by simp) _) (by simp) _) (by simp) _) (by simp) _) (by simp) _) (by simp) _)
      · exact (blk_put (blk_put (blk_put (blk_put (blk_put (blk_put n3.out 6 _ rfl) 7 _ rfl) 8 _ rfl) 9 _ rfl) 10 _ rfl) 11 _ rfl)
      · exact (below_set (below_set (below_set (below_set (below_set (below_set n4.out (by omega)) (by omega)) (by omega)) (by omega)) (by omega)) (by omega))
    · obtain ⟨ad', ea, cb⟩ := Kd.at_int CB.out 9 (by omega) (by omega)
      obtain rfl := Option.some.inj ea
      clear ea
      have cb' : wr.cell? ⟨ad.block, ad.off + 9, none⟩ = some (.int .u8 (rd l 9)) := by simpa [Addr.add] using cb
      have c0 : wr.cell? ⟨(w.heap.size + 1 + 1), 0, none⟩ = some (.int .u8 (X 5).1) := (blk_cell B3.out 0).trans rfl
      have c1 : wr.cell? ⟨(w.heap.size + 1 + 1), 1, none⟩ = some (.int .u8 (X 5).2.1) := (blk_cell B3.out 1).trans rfl
      have c2 : wr.cell? ⟨(w.heap.size + 1 + 1), 2, none⟩ = some (.int .u8 (X 5).2.2.1) := (blk_cell B3.out 2).trans rfl
      have c3 : wr.cell? ⟨(w.heap.size + 1 + 1), 3, none⟩ = some (.int .u16 (X 5).2.2.2.1) := (blk_cell B3.out 3).trans rfl
      have c4 : wr.cell? ⟨(w.heap.size + 1 + 1), 4, none⟩ = some (.bool (X 5).2.2.2.2.1) := (blk_cell B3.out 4).trans rfl
      have c5 : wr.cell? ⟨(w.heap.size + 1 + 1), 5, none⟩ = some (.bool (X 5).2.2.2.2.2) := (blk_cell B3.out 5).trans rfl
      have c6 : wr.cell? ⟨(w.heap.size + 1 + 1), 6, none⟩ = some (.int .u8 (Y 4).1) := (blk_cell B3.out 6).trans rfl
      have c7 : wr.cell? ⟨(w.heap.size + 1 + 1), 7, none⟩ = some (.int .u8 (Y 4).2.1) := (blk_cell B3.out 7).trans rfl
      have c8 : wr.cell? ⟨(w.heap.size + 1 + 1), 8, none⟩ = some (.int .u8 (Y 4).2.2.1) := (blk_cell B3.out 8).trans rfl
      have c9 : wr.cell? ⟨(w.heap.size + 1 + 1), 9, none⟩ = some (.int .u16 (Y 4).2.2.2.1) := (blk_cell B3.out 9).trans rfl
      have c10 : wr.cell? ⟨(w.heap.size + 1 + 1), 10, none⟩ = some (.bool (Y 4).2.2.2.2.1) := (blk_cell B3.out 10).trans rfl
      have c11 : wr.cell? ⟨(w.heap.size + 1 + 1), 11, none⟩ = some (.bool (Y 4).2.2.2.2.2) := (blk_cell B3.out 11).trans rfl
      go_wp2_with (first | (go_at_call 43; ((with_reducible refine (clock_Write.calls (Y 4).1 (Y 4).2.1 (Y 4).2.2.1 (Y 4).2.2.2.1 (Y 4).2.2.2.2.1 (Y 4).2.2.2.2.2 12 (rd l 9) (Y 5).1 (Y 5).2.1 (Y 5).2.2.1 (Y 5).2.2.2.1 (Y 5).2.2.2.2.1 (Y 5).2.2.2.2.2 e9 _ H9.out).mono ?_)); rintro e' w2 ⟨rfl, hb⟩; have n1 := Aside0.mk (blk_below B1.out hb); have n2 := Aside0.mk (blk_below B2.out hb); have n3 := Aside0.mk (blk_below B3.out hb); have n4 := Aside0.mk (below_step HB.out hb); clear hb; have d0 : w2.cell? ⟨(w.heap.size + 1 + 1), 0, none⟩ = some (.int .u8 (X 5).1) := (blk_cell n3.out 0).trans rfl; have d1 : w2.cell? ⟨(w.heap.size + 1 + 1), 1, none⟩ = some (.int .u8 (X 5).2.1) := (blk_cell n3.out 1).trans rfl; have d2 : w2.cell? ⟨(w.heap.size + 1 + 1), 2, none⟩ = some (.int .u8 (X 5).2.2.1) := (blk_cell n3.out 2).trans rfl; have d3 : w2.cell? ⟨(w.heap.size + 1 + 1), 3, none⟩ = some (.int .u16 (X 5).2.2.2.1) := (blk_cell n3.out 3).trans rfl; have d4 : w2.cell? ⟨(w.heap.size + 1 + 1), 4, none⟩ = some (.bool (X 5).2.2.2.2.1) := (blk_cell n3.out 4).trans rfl; have d5 : w2.cell? ⟨(w.heap.size + 1 + 1), 5, none⟩ = some (.bool (X 5).2.2.2.2.2) := (blk_cell n3.out 5).trans rfl; have d6 : w2.cell? ⟨(w.heap.size + 1 + 1), 6, none⟩ = some (.int .u8 (Y 4).1) := (blk_cell n3.out 6).trans rfl; have d7 : w2.cell? ⟨(w.heap.size + 1 + 1), 7, none⟩ = some (.int .u8 (Y 4).2.1) := (blk_cell n3.out 7).trans rfl; have d8 : w2.cell? ⟨(w.heap.size + 1 + 1), 8, none⟩ = some (.int .u8 (Y 4).2.2.1) := (blk_cell n3.out 8).trans rfl; have d9 : w2.cell? ⟨(w.heap.size + 1 + 1), 9, none⟩ = some (.int .u16 (Y 4).2.2.2.1) := (blk_cell n3.out 9).trans rfl; have d10 : w2.cell? ⟨(w.heap.size + 1 + 1), 10, none⟩ = some (.bool (Y 4).2.2.2.2.1) := (blk_cell n3.out 10).trans rfl; have d11 : w2.cell? ⟨(w.heap.size + 1 + 1), 11, none⟩ = some (.bool (Y 4).2.2.2.2.2) := (blk_cell n3.out 11).trans rfl; have fz := fun i => blk_frozen n3.out i))
      refine ⟨⟨10, rfl, Aside0.mk ⟨by omega, ?_, ?_, ?_, ?_⟩⟩, by simp [intOf]⟩
      · exact (blk_far (blk_far (blk_far (blk_far (blk_far (blk_far n1.out (by simp; omega) _) (by simp; omega) _) (by simp; omega) _) (by simp; omega) _) (by simp; omega) _) (by simp; omega) _)
      · exact (blk_far (blk_far (blk_far (blk_far (blk_far (blk_far n2.out (by simp) _) (by simp) _) (by simp) _) (by simp) _) (by simp) _) (by simp) _)
      · exact (blk_put (blk_put (blk_put (blk_put (blk_put (blk_put n3.out 6 _ rfl) 7 _ rfl) 8 _ rfl) 9 _ rfl) 10 _ rfl) 11 _ rfl)
      · exact (below_set (below_set (below_set (below_set (below_set (below_set n4.out (by omega)) (by omega)) (by omega)) (by omega)) (by omega)) (by omega))
    · have HC := Aside0.mk hcmp
      clear hcmp
      go_wp2_with fail
      have c0 : wr.cell? ⟨(w.heap.size + 1 + 1), 0, none⟩ = some (.int .u8 (X 5).1) := (blk_cell B3.out 0).trans rfl
      have c1 : wr.cell? ⟨(w.heap.size + 1 + 1), 1, none⟩ = some (.int .u8 (X 5).2.1) := (blk_cell B3.out 1).trans rfl
      have c2 : wr.cell? ⟨(w.heap.size + 1 + 1), 2, none⟩ = some (.int .u8 (X 5).2.2.1) := (blk_cell B3.out 2).trans rfl
      have c3 : wr.cell? ⟨(w.heap.size + 1 + 1), 3, none⟩ = some (.int .u16 (X 5).2.2.2.1) := (blk_cell B3.out 3).trans rfl
      have c4 : wr.cell? ⟨(w.heap.size + 1 + 1), 4, none⟩ = some (.bool (X 5).2.2.2.2.1) := (blk_cell B3.out 4).trans rfl
      have c5 : wr.cell? ⟨(w.heap.size + 1 + 1), 5, none⟩ = some (.bool (X 5).2.2.2.2.2) := (blk_cell B3.out 5).trans rfl
      have c6 : wr.cell? ⟨(w.heap.size + 1 + 1), 6, none⟩ = some (.int .u8 (Y 5).1) := (blk_cell B3.out 6).trans rfl
      have c7 : wr.cell? ⟨(w.heap.size + 1 + 1), 7, none⟩ = some (.int .u8 (Y 5).2.1) := (blk_cell B3.out 7).trans rfl
      have c8 : wr.cell? ⟨(w.heap.size + 1 + 1), 8, none⟩ = some (.int .u8 (Y 5).2.2.1) := (blk_cell B3.out 8).trans rfl
      have c9 : wr.cell? ⟨(w.heap.size + 1 + 1), 9, none⟩ = some (.int .u16 (Y 5).2.2.2.1) := (blk_cell B3.out 9).trans rfl
      have c10 : wr.cell? ⟨(w.heap.size + 1 + 1), 10, none⟩ = some (.bool (Y 5).2.2.2.2.1) := (blk_cell B3.out 10).trans rfl
      have c11 : wr.cell? ⟨(w.heap.size + 1 + 1), 11, none⟩ = some (.bool (Y 5).2.2.2.2.2) := (blk_cell B3.out 11).trans rfl
      have hkwr : (convert 22 9 (.slice (some ad) 10 c)).run Try.prog wr = .ok (.string (strOfNums l)) wr := Kd.C_string Try.underlying22 Try.underlying5 Try.underlying9 CB.out
      have hdwr : (convert 22 9 (.slice (some ad) 10 c)).run Try.prog wr.drew = .ok (.string (strOfNums l)) wr.drew := Kd.C_string Try.underlying22 Try.underlying5 Try.underlying9 (Kd.C_drew CB.out)
      go_cut [44] from 36 to 44 (fun v w9 => v = .bool false ∧ Aside0 (w9.heap[w.heap.size]? = some (.cells #[.int .u8 0, .int .u8 0, .int .u8 0, .int .u16 0, .bool false, .bool false] 34 (0, 0))) ∧ Aside0 (w9.heap[w.heap.size + 1]? = some (.cells #[.int .u8 0, .int .u8 0, .int .u8 0, .int .u16 0, .bool false, .bool false] 34 (0, 0))) ∧ Aside0 (w9.heap[w.heap.size + 1 + 1]? = some (.cells (stOf X Y 10) 120 (0, 0))) ∧ Aside0 (Below w.heap.size w w9))
      case first =>
        go_region_with (first | (go_at_call 48; ((with_reducible refine (clock_Bytes.calls (X 5).1 (X 5).2.1 (X 5).2.2.1 (X 5).2.2.2.1 (X 5).2.2.2.2.1 (X 5).2.2.2.2.2 (Y 5).1 (Y 5).2.1 (Y 5).2.2.1 (Y 5).2.2.2.1 (Y 5).2.2.2.2.1 (Y 5).2.2.2.2.2 r _ HY.out).mono ?_)); rintro e' w9 ⟨v0, rfl, hO, hb⟩; have n1 := Aside0.mk ((hb.block _ (blk_lt B1.out)).trans B1.out); have n2 := Aside0.mk ((hb.block _ (blk_lt B2.out)).trans B2.out); have n3 := Aside0.mk ((hb.block _ (blk_lt B3.out)).trans B3.out); have n4 := Aside0.mk (by first | exact below_step (below_drew1 HB.out) hb | exact below_step HB.out hb); clear hb; have CB9 := Aside0.mk (Kd.C_below HR.out n4.out); have hkw9 : (convert 22 9 (.slice (some ad) 10 c)).run Try.prog w9 = .ok (.string (strOfNums l)) w9 := Kd.C_string Try.underlying22 Try.underlying5 Try.underlying9 CB9.out; have hdw9 : (convert 22 9 (.slice (some ad) 10 c)).run Try.prog w9.drew = .ok (.string (strOfNums l)) w9.drew := Kd.C_string Try.underlying22 Try.underlying5 Try.underlying9 (Kd.C_drew CB9.out); have hv9 := own_string (P := Try.prog) Try.underlying22 Try.underlying5 Try.underlying9 (Kd.own_of_R hO); have hv9d : (convert 22 9 v0).run Try.prog w9.drew = .ok (.string (strOfNums r)) w9.drew := own_string (P := Try.prog) Try.underlying22 Try.underlying5 Try.underlying9 (Kd.own_of_R (Kd.R_drew hO)); clear hO; have d0 : w9.cell? ⟨(w.heap.size + 1 + 1), 0, none⟩ = some (.int .u8 (X 5).1) := (blk_cell n3.out 0).trans rfl; have d1 : w9.cell? ⟨(w.heap.size + 1 + 1), 1, none⟩ = some (.int .u8 (X 5).2.1) := (blk_cell n3.out 1).trans rfl; have d2 : w9.cell? ⟨(w.heap.size + 1 + 1), 2, none⟩ = some (.int .u8 (X 5).2.2.1) := (blk_cell n3.out 2).trans rfl; have d3 : w9.cell? ⟨(w.heap.size + 1 + 1), 3, none⟩ = some (.int .u16 (X 5).2.2.2.1) := (blk_cell n3.out 3).trans rfl; have d4 : w9.cell? ⟨(w.heap.size + 1 + 1), 4, none⟩ = some (.bool (X 5).2.2.2.2.1) := (blk_cell n3.out 4).trans rfl; have d5 : w9.cell? ⟨(w.heap.size + 1 + 1), 5, none⟩ = some (.bool (X 5).2.2.2.2.2) := (blk_cell n3.out 5).trans rfl; have d6 : w9.cell? ⟨(w.heap.size + 1 + 1), 6, none⟩ = some (.int .u8 (Y 5).1) := (blk_cell n3.out 6).trans rfl; have d7 : w9.cell? ⟨(w.heap.size + 1 + 1), 7, none⟩ = some (.int .u8 (Y 5).2.1) := (blk_cell n3.out 7).trans rfl; have d8 : w9.cell? ⟨(w.heap.size + 1 + 1), 8, none⟩ = some (.int .u8 (Y 5).2.2.1) := (blk_cell n3.out 8).trans rfl; have d9 : w9.cell? ⟨(w.heap.size + 1 + 1), 9, none⟩ = some (.int .u16 (Y 5).2.2.2.1) := (blk_cell n3.out 9).trans rfl; have d10 : w9.cell? ⟨(w.heap.size + 1 + 1), 10, none⟩ = some (.bool (Y 5).2.2.2.2.1) := (blk_cell n3.out 10).trans rfl; have d11 : w9.cell? ⟨(w.heap.size + 1 + 1), 11, none⟩ = some (.bool (Y 5).2.2.2.2.2) := (blk_cell n3.out 11).trans rfl))
        all_goals (
        have hcmp := HC.out
        rw [hcmp]
        simp only [Bool.not_true, Bool.not_false]
        go_wp2_with fail
        go_meet
        case rel => exact ⟨rfl, ⟨by first | exact n1.out | exact blk_drew n1.out⟩, ⟨by first | exact n2.out | exact blk_drew n2.out⟩, ⟨by first | exact n3.out | exact blk_drew n3.out⟩, ⟨by first | exact n4.out | exact below_drew1 n4.out⟩⟩)
      case rest =>
        obtain ⟨rfl, n1, n2, n3, n4⟩ := hcut
        have d0 : wc.cell? ⟨(w.heap.size + 1 + 1), 0, none⟩ = some (.int .u8 (X 5).1) := (blk_cell n3.out 0).trans rfl
        have d1 : wc.cell? ⟨(w.heap.size + 1 + 1), 1, none⟩ = some (.int .u8 (X 5).2.1) := (blk_cell n3.out 1).trans rfl
        have d2 : wc.cell? ⟨(w.heap.size + 1 + 1), 2, none⟩ = some (.int .u8 (X 5).2.2.1) := (blk_cell n3.out 2).trans rfl
        have d3 : wc.cell? ⟨(w.heap.size + 1 + 1), 3, none⟩ = some (.int .u16 (X 5).2.2.2.1) := (blk_cell n3.out 3).trans rfl
        have d4 : wc.cell? ⟨(w.heap.size + 1 + 1), 4, none⟩ = some (.bool (X 5).2.2.2.2.1) := (blk_cell n3.out 4).trans rfl
        have d5 : wc.cell? ⟨(w.heap.size + 1 + 1), 5, none⟩ = some (.bool (X 5).2.2.2.2.2) := (blk_cell n3.out 5).trans rfl
        have d6 : wc.cell? ⟨(w.heap.size + 1 + 1), 6, none⟩ = some (.int .u8 (Y 5).1) := (blk_cell n3.out 6).trans rfl
        have d7 : wc.cell? ⟨(w.heap.size + 1 + 1), 7, none⟩ = some (.int .u8 (Y 5).2.1) := (blk_cell n3.out 7).trans rfl
        have d8 : wc.cell? ⟨(w.heap.size + 1 + 1), 8, none⟩ = some (.int .u8 (Y 5).2.2.1) := (blk_cell n3.out 8).trans rfl
        have d9 : wc.cell? ⟨(w.heap.size + 1 + 1), 9, none⟩ = some (.int .u16 (Y 5).2.2.2.1) := (blk_cell n3.out 9).trans rfl
        have d10 : wc.cell? ⟨(w.heap.size + 1 + 1), 10, none⟩ = some (.bool (Y 5).2.2.2.2.1) := (blk_cell n3.out 10).trans rfl
        have d11 : wc.cell? ⟨(w.heap.size + 1 + 1), 11, none⟩ = some (.bool (Y 5).2.2.2.2.2) := (blk_cell n3.out 11).trans rfl
        have x0 : wc.cell? ⟨w.heap.size, 0, none⟩ = some (.int .u8 0) := (blk_cell n1.out 0).trans rfl
        have x1 : wc.cell? ⟨w.heap.size, 1, none⟩ = some (.int .u8 0) := (blk_cell n1.out 1).trans rfl
        have x2 : wc.cell? ⟨w.heap.size, 2, none⟩ = some (.int .u8 0) := (blk_cell n1.out 2).trans rfl
        have x3 : wc.cell? ⟨w.heap.size, 3, none⟩ = some (.int .u16 0) := (blk_cell n1.out 3).trans rfl
        have x4 : wc.cell? ⟨w.heap.size, 4, none⟩ = some (.bool false) := (blk_cell n1.out 4).trans rfl
        have x5 : wc.cell? ⟨w.heap.size, 5, none⟩ = some (.bool false) := (blk_cell n1.out 5).trans rfl
        have y0 : wc.cell? ⟨w.heap.size + 1, 0, none⟩ = some (.int .u8 0) := (blk_cell n2.out 0).trans rfl
        have y1 : wc.cell? ⟨w.heap.size + 1, 1, none⟩ = some (.int .u8 0) := (blk_cell n2.out 1).trans rfl
        have y2 : wc.cell? ⟨w.heap.size + 1, 2, none⟩ = some (.int .u8 0) := (blk_cell n2.out 2).trans rfl
        have y3 : wc.cell? ⟨w.heap.size + 1, 3, none⟩ = some (.int .u16 0) := (blk_cell n2.out 3).trans rfl
        have y4 : wc.cell? ⟨w.heap.size + 1, 4, none⟩ = some (.bool false) := (blk_cell n2.out 4).trans rfl
        have y5 : wc.cell? ⟨w.heap.size + 1, 5, none⟩ = some (.bool false) := (blk_cell n2.out 5).trans rfl
        have f1 := fun i => blk_frozen n1.out i
        have f2 := fun i => blk_frozen n2.out i
        go_wp2
        go_region
        go_wp2
        have m1 : (((((((((((((wc.setCell ⟨w.heap.size, 0, none⟩ (.int .u8 (X 5).1)).setCell ⟨w.heap.size, 1, none⟩ (.int .u8 (X 5).2.1)).setCell ⟨w.heap.size, 2, none⟩ (.int .u8 (X 5).2.2.1)).setCell ⟨w.heap.size, 3, none⟩ (.int .u16 (X 5).2.2.2.1)).setCell ⟨w.heap.size, 4, none⟩ (.bool (X 5).2.2.2.2.1)).setCell ⟨w.heap.size, 5, none⟩ (.bool (X 5).2.2.2.2.2)).setCell ⟨w.heap.size + 1, 0, none⟩ (.int .u8 (Y 5).1)).setCell ⟨w.heap.size + 1, 1, none⟩ (.int .u8 (Y 5).2.1)).setCell ⟨w.heap.size + 1, 2, none⟩ (.int .u8 (Y 5).2.2.1)).setCell ⟨w.heap.size + 1, 3, none⟩ (.int .u16 (Y 5).2.2.2.1)).setCell ⟨w.heap.size + 1, 4, none⟩ (.bool (Y 5).2.2.2.2.1)).setCell ⟨w.heap.size + 1, 5, none⟩ (.bool (Y 5).2.2.2.2.2)).drew).heap[w.heap.size]? = some (.cells #[.int .u8 (X 5).1, .int .u8 (X 5).2.1, .int .u8 (X 5).2.2.1, .int .u16 (X 5).2.2.2.1, .bool (X 5).2.2.2.2.1, .bool (X 5).2.2.2.2.2] 34 (0, 0)) := (blk_drew (blk_far (blk_far (blk_far (blk_far (blk_far (blk_far (blk_put (blk_put (blk_put (blk_put (blk_put (blk_put n1.out 0 _ rfl) 1 _ rfl) 2 _ rfl) 3 _ rfl) 4 _ rfl) 5 _ rfl) (by simp) _) (by simp) _) (by simp) _) (by simp) _) (by simp) _) (by simp) _))
        have m2 : (((((((((((((wc.setCell ⟨w.heap.size, 0, none⟩ (.int .u8 (X 5).1)).setCell ⟨w.heap.size, 1, none⟩ (.int .u8 (X 5).2.1)).setCell ⟨w.heap.size, 2, none⟩ (.int .u8 (X 5).2.2.1)).setCell ⟨w.heap.size, 3, none⟩ (.int .u16 (X 5).2.2.2.1)).setCell ⟨w.heap.size, 4, none⟩ (.bool (X 5).2.2.2.2.1)).setCell ⟨w.heap.size, 5, none⟩ (.bool (X 5).2.2.2.2.2)).setCell ⟨w.heap.size + 1, 0, none⟩ (.int .u8 (Y 5).1)).setCell ⟨w.heap.size + 1, 1, none⟩ (.int .u8 (Y 5).2.1)).setCell ⟨w.heap.size + 1, 2, none⟩ (.int .u8 (Y 5).2.2.1)).setCell ⟨w.heap.size + 1, 3, none⟩ (.int .u16 (Y 5).2.2.2.1)).setCell ⟨w.heap.size + 1, 4, none⟩ (.bool (Y 5).2.2.2.2.1)).setCell ⟨w.heap.size + 1, 5, none⟩ (.bool (Y 5).2.2.2.2.2)).drew).heap[w.heap.size + 1]? = some (.cells #[.int .u8 (Y 5).1, .int .u8 (Y 5).2.1, .int .u8 (Y 5).2.2.1, .int .u16 (Y 5).2.2.2.1, .bool (Y 5).2.2.2.2.1, .bool (Y 5).2.2.2.2.2] 34 (0, 0)) := (blk_drew (blk_put (blk_put (blk_put (blk_put (blk_put (blk_put (blk_far (blk_far (blk_far (blk_far (blk_far (blk_far n2.out (by simp) _) (by simp) _) (by simp) _) (by simp) _) (by simp) _) (by simp) _) 0 _ rfl) 1 _ rfl) 2 _ rfl) 3 _ rfl) 4 _ rfl) 5 _ rfl))
        have m3 : Below w.heap.size w (((((((((((((wc.setCell ⟨w.heap.size, 0, none⟩ (.int .u8 (X 5).1)).setCell ⟨w.heap.size, 1, none⟩ (.int .u8 (X 5).2.1)).setCell ⟨w.heap.size, 2, none⟩ (.int .u8 (X 5).2.2.1)).setCell ⟨w.heap.size, 3, none⟩ (.int .u16 (X 5).2.2.2.1)).setCell ⟨w.heap.size, 4, none⟩ (.bool (X 5).2.2.2.2.1)).setCell ⟨w.heap.size, 5, none⟩ (.bool (X 5).2.2.2.2.2)).setCell ⟨w.heap.size + 1, 0, none⟩ (.int .u8 (Y 5).1)).setCell ⟨w.heap.size + 1, 1, none⟩ (.int .u8 (Y 5).2.1)).setCell ⟨w.heap.size + 1, 2, none⟩ (.int .u8 (Y 5).2.2.1)).setCell ⟨w.heap.size + 1, 3, none⟩ (.int .u16 (Y 5).2.2.2.1)).setCell ⟨w.heap.size + 1, 4, none⟩ (.bool (Y 5).2.2.2.2.1)).setCell ⟨w.heap.size + 1, 5, none⟩ (.bool (Y 5).2.2.2.2.2)).drew) := (below_drew1 (below_set (below_set (below_set (below_set (below_set (below_set (below_set (below_set (below_set (below_set (below_set (below_set n4.out (Nat.le_refl _)) (Nat.le_refl _)) (Nat.le_refl _)) (Nat.le_refl _)) (Nat.le_refl _)) (Nat.le_refl _)) (Nat.le_succ _)) (Nat.le_succ _)) (Nat.le_succ _)) (Nat.le_succ _)) (Nat.le_succ _)) (Nat.le_succ _)))
        generalize (((((((((((((wc.setCell ⟨w.heap.size, 0, none⟩ (.int .u8 (X 5).1)).setCell ⟨w.heap.size, 1, none⟩ (.int .u8 (X 5).2.1)).setCell ⟨w.heap.size, 2, none⟩ (.int .u8 (X 5).2.2.1)).setCell ⟨w.heap.size, 3, none⟩ (.int .u16 (X 5).2.2.2.1)).setCell ⟨w.heap.size, 4, none⟩ (.bool (X 5).2.2.2.2.1)).setCell ⟨w.heap.size, 5, none⟩ (.bool (X 5).2.2.2.2.2)).setCell ⟨w.heap.size + 1, 0, none⟩ (.int .u8 (Y 5).1)).setCell ⟨w.heap.size + 1, 1, none⟩ (.int .u8 (Y 5).2.1)).setCell ⟨w.heap.size + 1, 2, none⟩ (.int .u8 (Y 5).2.2.1)).setCell ⟨w.heap.size + 1, 3, none⟩ (.int .u16 (Y 5).2.2.2.1)).setCell ⟨w.heap.size + 1, 4, none⟩ (.bool (Y 5).2.2.2.2.1)).setCell ⟨w.heap.size + 1, 5, none⟩ (.bool (Y 5).2.2.2.2.2)).drew) = YY at m1 m2 m3 ⊢
        have u0 : YY.cell? ⟨w.heap.size, 0, none⟩ = some (.int .u8 (X 5).1) := (blk_cell m1 0).trans rfl
        have t0 : YY.cell? ⟨w.heap.size + 1, 0, none⟩ = some (.int .u8 (Y 5).1) := (blk_cell m2 0).trans rfl
        have u1 : YY.cell? ⟨w.heap.size, 1, none⟩ = some (.int .u8 (X 5).2.1) := (blk_cell m1 1).trans rfl
        have t1 : YY.cell? ⟨w.heap.size + 1, 1, none⟩ = some (.int .u8 (Y 5).2.1) := (blk_cell m2 1).trans rfl
        have u2 : YY.cell? ⟨w.heap.size, 2, none⟩ = some (.int .u8 (X 5).2.2.1) := (blk_cell m1 2).trans rfl
        have t2 : YY.cell? ⟨w.heap.size + 1, 2, none⟩ = some (.int .u8 (Y 5).2.2.1) := (blk_cell m2 2).trans rfl
        have u3 : YY.cell? ⟨w.heap.size, 3, none⟩ = some (.int .u16 (X 5).2.2.2.1) := (blk_cell m1 3).trans rfl
        have t3 : YY.cell? ⟨w.heap.size + 1, 3, none⟩ = some (.int .u16 (Y 5).2.2.2.1) := (blk_cell m2 3).trans rfl
        have u4 : YY.cell? ⟨w.heap.size, 4, none⟩ = some (.bool (X 5).2.2.2.2.1) := (blk_cell m1 4).trans rfl
        have t4 : YY.cell? ⟨w.heap.size + 1, 4, none⟩ = some (.bool (Y 5).2.2.2.2.1) := (blk_cell m2 4).trans rfl
        have u5 : YY.cell? ⟨w.heap.size, 5, none⟩ = some (.bool (X 5).2.2.2.2.2) := (blk_cell m1 5).trans rfl
        have t5 : YY.cell? ⟨w.heap.size + 1, 5, none⟩ = some (.bool (Y 5).2.2.2.2.2) := (blk_cell m2 5).trans rfl
        exact bodyPost_ret (v := .tuple #[.agg #[.int .u8 (X 5).1, .int .u8 (X 5).2.1, .int .u8 (X 5).2.2.1, .int .u16 (X 5).2.2.2.1, .bool (X 5).2.2.2.2.1, .bool (X 5).2.2.2.2.2], .agg #[.int .u8 (Y 5).1, .int .u8 (Y 5).2.1, .int .u8 (Y 5).2.2.1, .int .u16 (Y 5).2.2.2.1, .bool (Y 5).2.2.2.2.1, .bool (Y 5).2.2.2.2.2], .int .i64 0]) (by simp [results, Try.results50, go_sem, u0, t0, u1, t1, u2, t2, u3, t3, u4, t4, u5, t5]) rfl ⟨rfl, m3⟩
end Go.Proofs.Ytmjjojbedllmgaa.Hand
end
