/- What the proof of the statement CartBack stands on, part 2. (Packed by pack.py out of this session's texts.) -/
import Derived.Deep.MidRow
import Derived.Lib.EndianMore
import Derived.WalkMore
import Derived.Handy
import Derived.StillTailTactics
import Derived.Deep.RegionWith
import Derived.BigRegion
import Derived.Test.YtmjjojbedllmgaaQCartBack0
import Derived.Test.YtmjjojbedllmgaaQCartBack1
section
namespace Go.Proofs.Ytmjjojbedllmgaa.Hand
open Go.RowKit
open Go.Proofs.Ytmjjojbedllmgaa.G
open Go.Proofs.YtmjjojbedllmgaaW.PrintWords Go.Proofs.YtmjjojbedllmgaaW.PrintLast Go.Proofs.YtmjjojbedllmgaaW.PrintMore
set_option linter.unusedVariables false
set_option maxRecDepth 100000 in
set_option maxHeartbeats 4000000 in
theorem tick_halt (a0 a1 a2 a3 : Int) (a4 a5 : Bool) (s m h d : Int) (cy : Bool) (hn : clock_Norm.f a0 a1 a2 a3 a4 a5 = some (s, m, h, d, true, cy))  (w : World) :
    Calls Try.prog 46 #[.agg #[.int .u8 a0, .int .u8 a1, .int .u8 a2, .int .u16 a3, .bool a4, .bool a5]] w fun e' w' => e' = .returned (.agg #[.int .u8 s, .int .u8 m, .int .u8 h, .int .u16 d, .bool true, .bool cy]) ∧ Below w.heap.size w w' := by
  have HN := Aside0.mk hn
  clear hn
  go_enter Try.func46, Try.ntmps46
  go_wp2_with fail
  have BK := Aside0.mk (blk_alloc (blk_new w (.cells #[.int .u8 a0, .int .u8 a1, .int .u8 a2, .int .u16 a3, .bool a4, .bool a5] 34)) (.cells #[.int .u8 0, .int .u8 0, .int .u8 0, .int .u16 0, .bool false, .bool false] 34))
  have e1 : (w.alloc (.cells #[.int .u8 a0, .int .u8 a1, .int .u8 a2, .int .u16 a3, .bool a4, .bool a5] 34)).heap.size = w.heap.size + 1 := by simp
  have zN := heap_alloc_new (w.alloc (.cells #[.int .u8 a0, .int .u8 a1, .int .u8 a2, .int .u16 a3, .bool a4, .bool a5] 34)) (.cells #[.int .u8 0, .int .u8 0, .int .u8 0, .int .u16 0, .bool false, .bool false] 34)
  rw [e1] at zN
  have BR := Aside0.mk zN
  have HB := Aside0.mk (below_alloc (below_alloc (Below.refl w.heap.size w) (.cells #[.int .u8 a0, .int .u8 a1, .int .u8 a2, .int .u16 a3, .bool a4, .bool a5] 34)) (.cells #[.int .u8 0, .int .u8 0, .int .u8 0, .int .u16 0, .bool false, .bool false] 34))
  clear zN e1
  have hz : ((w.alloc (.cells #[.int .u8 a0, .int .u8 a1, .int .u8 a2, .int .u16 a3, .bool a4, .bool a5] 34)).alloc (.cells #[.int .u8 0, .int .u8 0, .int .u8 0, .int .u16 0, .bool false, .bool false] 34)).heap.size = w.heap.size + 2 := by simp
  generalize (w.alloc (.cells #[.int .u8 a0, .int .u8 a1, .int .u8 a2, .int .u16 a3, .bool a4, .bool a5] 34)).alloc (.cells #[.int .u8 0, .int .u8 0, .int .u8 0, .int .u16 0, .bool false, .bool false] 34) = W at *
  have c0 : W.cell? ⟨w.heap.size, 0, none⟩ = some (.int .u8 a0) := (blk_cell BK.out 0).trans rfl
  have c1 : W.cell? ⟨w.heap.size, 1, none⟩ = some (.int .u8 a1) := (blk_cell BK.out 1).trans rfl
  have c2 : W.cell? ⟨w.heap.size, 2, none⟩ = some (.int .u8 a2) := (blk_cell BK.out 2).trans rfl
  have c3 : W.cell? ⟨w.heap.size, 3, none⟩ = some (.int .u16 a3) := (blk_cell BK.out 3).trans rfl
  have c4 : W.cell? ⟨w.heap.size, 4, none⟩ = some (.bool a4) := (blk_cell BK.out 4).trans rfl
  have c5 : W.cell? ⟨w.heap.size, 5, none⟩ = some (.bool a5) := (blk_cell BK.out 5).trans rfl
  have fz := fun i => blk_frozen BK.out i
  go_step3
  go_wp2_with (first | (go_at_call 66; ((with_reducible refine (clock_Norm.calls a0 a1 a2 a3 a4 a5 (s) (m) (h) (d) (true) (cy) _ HN.out).mono ?_)); rintro e' w1 ⟨rfl, hb⟩; have n0 := Aside0.mk ((hb.block w.heap.size (by rw [hz]; omega)).trans BK.out); have n1 := Aside0.mk ((hb.block (w.heap.size + 1) (by rw [hz]; omega)).trans BR.out); have n2 := Aside0.mk (Below.trans HB.out (hb.mono (by rw [hz]; omega))); clear hb BK BR HB c0 c1 c2 c3 c4 c5 fz; have c0 : w1.cell? ⟨w.heap.size, 0, none⟩ = some (.int .u8 a0) := (blk_cell n0.out 0).trans rfl; have c1 : w1.cell? ⟨w.heap.size, 1, none⟩ = some (.int .u8 a1) := (blk_cell n0.out 1).trans rfl; have c2 : w1.cell? ⟨w.heap.size, 2, none⟩ = some (.int .u8 a2) := (blk_cell n0.out 2).trans rfl; have c3 : w1.cell? ⟨w.heap.size, 3, none⟩ = some (.int .u16 a3) := (blk_cell n0.out 3).trans rfl; have c4 : w1.cell? ⟨w.heap.size, 4, none⟩ = some (.bool a4) := (blk_cell n0.out 4).trans rfl; have c5 : w1.cell? ⟨w.heap.size, 5, none⟩ = some (.bool a5) := (blk_cell n0.out 5).trans rfl; have z0 : w1.cell? ⟨(w.heap.size + 1), 0, none⟩ = some (.int .u8 0) := (blk_cell n1.out 0).trans rfl; have z1 : w1.cell? ⟨(w.heap.size + 1), 1, none⟩ = some (.int .u8 0) := (blk_cell n1.out 1).trans rfl; have z2 : w1.cell? ⟨(w.heap.size + 1), 2, none⟩ = some (.int .u8 0) := (blk_cell n1.out 2).trans rfl; have z3 : w1.cell? ⟨(w.heap.size + 1), 3, none⟩ = some (.int .u16 0) := (blk_cell n1.out 3).trans rfl; have z4 : w1.cell? ⟨(w.heap.size + 1), 4, none⟩ = some (.bool false) := (blk_cell n1.out 4).trans rfl; have z5 : w1.cell? ⟨(w.heap.size + 1), 5, none⟩ = some (.bool false) := (blk_cell n1.out 5).trans rfl; have fz := fun i => blk_frozen n0.out i; have fr := fun i => blk_frozen n1.out i))
  rw [Exit.noGoto_ret]
  have m1 : ((((((((((((w1.setCell ⟨w.heap.size, 0, none⟩ (.int .u8 s)).setCell ⟨w.heap.size, 1, none⟩ (.int .u8 m)).setCell ⟨w.heap.size, 2, none⟩ (.int .u8 h)).setCell ⟨w.heap.size, 3, none⟩ (.int .u16 d)).setCell ⟨w.heap.size, 4, none⟩ (.bool true)).setCell ⟨w.heap.size, 5, none⟩ (.bool cy)).setCell ⟨w.heap.size + 1, 0, none⟩ (.int .u8 s)).setCell ⟨w.heap.size + 1, 1, none⟩ (.int .u8 m)).setCell ⟨w.heap.size + 1, 2, none⟩ (.int .u8 h)).setCell ⟨w.heap.size + 1, 3, none⟩ (.int .u16 d)).setCell ⟨w.heap.size + 1, 4, none⟩ (.bool true)).setCell ⟨w.heap.size + 1, 5, none⟩ (.bool cy)).heap[w.heap.size + 1]? = some (.cells #[.int .u8 s, .int .u8 m, .int .u8 h, .int .u16 d, .bool true, .bool cy] 34 (0, 0)) := (by
    have p0 : (((((((w1.setCell ⟨w.heap.size, 0, none⟩ (.int .u8 s)).setCell ⟨w.heap.size, 1, none⟩ (.int .u8 m)).setCell ⟨w.heap.size, 2, none⟩ (.int .u8 h)).setCell ⟨w.heap.size, 3, none⟩ (.int .u16 d)).setCell ⟨w.heap.size, 4, none⟩ (.bool true)).setCell ⟨w.heap.size, 5, none⟩ (.bool cy)).setCell ⟨w.heap.size + 1, 0, none⟩ (.int .u8 s)).heap[w.heap.size + 1]? = some (.cells #[.int .u8 s, .int .u8 0, .int .u8 0, .int .u16 0, .bool false, .bool false] 34 (0, 0)) := blk_put (by repeat (first | (with_reducible exact n1.out) | refine blk_far ?_ (by simp) _) : ((((((w1.setCell ⟨w.heap.size, 0, none⟩ (.int .u8 s)).setCell ⟨w.heap.size, 1, none⟩ (.int .u8 m)).setCell ⟨w.heap.size, 2, none⟩ (.int .u8 h)).setCell ⟨w.heap.size, 3, none⟩ (.int .u16 d)).setCell ⟨w.heap.size, 4, none⟩ (.bool true)).setCell ⟨w.heap.size, 5, none⟩ (.bool cy)).heap[w.heap.size + 1]? = some (.cells #[.int .u8 0, .int .u8 0, .int .u8 0, .int .u16 0, .bool false, .bool false] 34 (0, 0))) 0 _ rfl
    have p1 : ((((((((w1.setCell ⟨w.heap.size, 0, none⟩ (.int .u8 s)).setCell ⟨w.heap.size, 1, none⟩ (.int .u8 m)).setCell ⟨w.heap.size, 2, none⟩ (.int .u8 h)).setCell ⟨w.heap.size, 3, none⟩ (.int .u16 d)).setCell ⟨w.heap.size, 4, none⟩ (.bool true)).setCell ⟨w.heap.size, 5, none⟩ (.bool cy)).setCell ⟨w.heap.size + 1, 0, none⟩ (.int .u8 s)).setCell ⟨w.heap.size + 1, 1, none⟩ (.int .u8 m)).heap[w.heap.size + 1]? = some (.cells #[.int .u8 s, .int .u8 m, .int .u8 0, .int .u16 0, .bool false, .bool false] 34 (0, 0)) := blk_put p0 1 _ rfl
    have p2 : (((((((((w1.setCell ⟨w.heap.size, 0, none⟩ (.int .u8 s)).setCell ⟨w.heap.size, 1, none⟩ (.int .u8 m)).setCell ⟨w.heap.size, 2, none⟩ (.int .u8 h)).setCell ⟨w.heap.size, 3, none⟩ (.int .u16 d)).setCell ⟨w.heap.size, 4, none⟩ (.bool true)).setCell ⟨w.heap.size, 5, none⟩ (.bool cy)).setCell ⟨w.heap.size + 1, 0, none⟩ (.int .u8 s)).setCell ⟨w.heap.size + 1, 1, none⟩ (.int .u8 m)).setCell ⟨w.heap.size + 1, 2, none⟩ (.int .u8 h)).heap[w.heap.size + 1]? = some (.cells #[.int .u8 s, .int .u8 m, .int .u8 h, .int .u16 0, .bool false, .bool false] 34 (0, 0)) := blk_put p1 2 _ rfl
    have p3 : ((((((((((w1.setCell ⟨w.heap.size, 0, none⟩ (.int .u8 s)).setCell ⟨w.heap.size, 1, none⟩ (.int .u8 m)).setCell ⟨w.heap.size, 2, none⟩ (.int .u8 h)).setCell ⟨w.heap.size, 3, none⟩ (.int .u16 d)).setCell ⟨w.heap.size, 4, none⟩ (.bool true)).setCell ⟨w.heap.size, 5, none⟩ (.bool cy)).setCell ⟨w.heap.size + 1, 0, none⟩ (.int .u8 s)).setCell ⟨w.heap.size + 1, 1, none⟩ (.int .u8 m)).setCell ⟨w.heap.size + 1, 2, none⟩ (.int .u8 h)).setCell ⟨w.heap.size + 1, 3, none⟩ (.int .u16 d)).heap[w.heap.size + 1]? = some (.cells #[.int .u8 s, .int .u8 m, .int .u8 h, .int .u16 d, .bool false, .bool false] 34 (0, 0)) := blk_put p2 3 _ rfl
    have p4 : (((((((((((w1.setCell ⟨w.heap.size, 0, none⟩ (.int .u8 s)).setCell ⟨w.heap.size, 1, none⟩ (.int .u8 m)).setCell ⟨w.heap.size, 2, none⟩ (.int .u8 h)).setCell ⟨w.heap.size, 3, none⟩ (.int .u16 d)).setCell ⟨w.heap.size, 4, none⟩ (.bool true)).setCell ⟨w.heap.size, 5, none⟩ (.bool cy)).setCell ⟨w.heap.size + 1, 0, none⟩ (.int .u8 s)).setCell ⟨w.heap.size + 1, 1, none⟩ (.int .u8 m)).setCell ⟨w.heap.size + 1, 2, none⟩ (.int .u8 h)).setCell ⟨w.heap.size + 1, 3, none⟩ (.int .u16 d)).setCell ⟨w.heap.size + 1, 4, none⟩ (.bool true)).heap[w.heap.size + 1]? = some (.cells #[.int .u8 s, .int .u8 m, .int .u8 h, .int .u16 d, .bool true, .bool false] 34 (0, 0)) := blk_put p3 4 _ rfl
    have p5 : ((((((((((((w1.setCell ⟨w.heap.size, 0, none⟩ (.int .u8 s)).setCell ⟨w.heap.size, 1, none⟩ (.int .u8 m)).setCell ⟨w.heap.size, 2, none⟩ (.int .u8 h)).setCell ⟨w.heap.size, 3, none⟩ (.int .u16 d)).setCell ⟨w.heap.size, 4, none⟩ (.bool true)).setCell ⟨w.heap.size, 5, none⟩ (.bool cy)).setCell ⟨w.heap.size + 1, 0, none⟩ (.int .u8 s)).setCell ⟨w.heap.size + 1, 1, none⟩ (.int .u8 m)).setCell ⟨w.heap.size + 1, 2, none⟩ (.int .u8 h)).setCell ⟨w.heap.size + 1, 3, none⟩ (.int .u16 d)).setCell ⟨w.heap.size + 1, 4, none⟩ (.bool true)).setCell ⟨w.heap.size + 1, 5, none⟩ (.bool cy)).heap[w.heap.size + 1]? = some (.cells #[.int .u8 s, .int .u8 m, .int .u8 h, .int .u16 d, .bool true, .bool cy] 34 (0, 0)) := blk_put p4 5 _ rfl
    exact p5)
  have m2 : Below w.heap.size w ((((((((((((w1.setCell ⟨w.heap.size, 0, none⟩ (.int .u8 s)).setCell ⟨w.heap.size, 1, none⟩ (.int .u8 m)).setCell ⟨w.heap.size, 2, none⟩ (.int .u8 h)).setCell ⟨w.heap.size, 3, none⟩ (.int .u16 d)).setCell ⟨w.heap.size, 4, none⟩ (.bool true)).setCell ⟨w.heap.size, 5, none⟩ (.bool cy)).setCell ⟨w.heap.size + 1, 0, none⟩ (.int .u8 s)).setCell ⟨w.heap.size + 1, 1, none⟩ (.int .u8 m)).setCell ⟨w.heap.size + 1, 2, none⟩ (.int .u8 h)).setCell ⟨w.heap.size + 1, 3, none⟩ (.int .u16 d)).setCell ⟨w.heap.size + 1, 4, none⟩ (.bool true)).setCell ⟨w.heap.size + 1, 5, none⟩ (.bool cy)) := (below_set (below_set (below_set (below_set (below_set (below_set (below_set (below_set (below_set (below_set (below_set (below_set n2.out (Nat.le_refl _)) (Nat.le_refl _)) (Nat.le_refl _)) (Nat.le_refl _)) (Nat.le_refl _)) (Nat.le_refl _)) (Nat.le_succ _)) (Nat.le_succ _)) (Nat.le_succ _)) (Nat.le_succ _)) (Nat.le_succ _)) (Nat.le_succ _))
  generalize ((((((((((((w1.setCell ⟨w.heap.size, 0, none⟩ (.int .u8 s)).setCell ⟨w.heap.size, 1, none⟩ (.int .u8 m)).setCell ⟨w.heap.size, 2, none⟩ (.int .u8 h)).setCell ⟨w.heap.size, 3, none⟩ (.int .u16 d)).setCell ⟨w.heap.size, 4, none⟩ (.bool true)).setCell ⟨w.heap.size, 5, none⟩ (.bool cy)).setCell ⟨w.heap.size + 1, 0, none⟩ (.int .u8 s)).setCell ⟨w.heap.size + 1, 1, none⟩ (.int .u8 m)).setCell ⟨w.heap.size + 1, 2, none⟩ (.int .u8 h)).setCell ⟨w.heap.size + 1, 3, none⟩ (.int .u16 d)).setCell ⟨w.heap.size + 1, 4, none⟩ (.bool true)).setCell ⟨w.heap.size + 1, 5, none⟩ (.bool cy)) = Y at m1 m2 ⊢
  have u0 : Y.cell? ⟨w.heap.size + 1, 0, none⟩ = some (.int .u8 s) := (blk_cell m1 0).trans rfl
  have u1 : Y.cell? ⟨w.heap.size + 1, 1, none⟩ = some (.int .u8 m) := (blk_cell m1 1).trans rfl
  have u2 : Y.cell? ⟨w.heap.size + 1, 2, none⟩ = some (.int .u8 h) := (blk_cell m1 2).trans rfl
  have u3 : Y.cell? ⟨w.heap.size + 1, 3, none⟩ = some (.int .u16 d) := (blk_cell m1 3).trans rfl
  have u4 : Y.cell? ⟨w.heap.size + 1, 4, none⟩ = some (.bool true) := (blk_cell m1 4).trans rfl
  have u5 : Y.cell? ⟨w.heap.size + 1, 5, none⟩ = some (.bool cy) := (blk_cell m1 5).trans rfl
  exact bodyPost_ret (v := .agg #[.int .u8 s, .int .u8 m, .int .u8 h, .int .u16 d, .bool true, .bool cy]) (by simp [results, Try.results46, go_sem, u0, u1, u2, u3, u4, u5]) rfl ⟨rfl, m2⟩
set_option maxRecDepth 100000 in
set_option maxHeartbeats 4000000 in
theorem tick_sec (a0 a1 a2 a3 : Int) (a4 a5 : Bool) (s m h d : Int) (cy : Bool) (hn : clock_Norm.f a0 a1 a2 a3 a4 a5 = some (s, m, h, d, false, cy)) (hs : ¬ s = 59) (w : World) :
    Calls Try.prog 46 #[.agg #[.int .u8 a0, .int .u8 a1, .int .u8 a2, .int .u16 a3, .bool a4, .bool a5]] w fun e' w' => e' = .returned (.agg #[.int .u8 ((s + 1) % 64), .int .u8 m, .int .u8 h, .int .u16 d, .bool false, .bool cy]) ∧ Below w.heap.size w w' := by
  have HN := Aside0.mk hn
  clear hn
  go_enter Try.func46, Try.ntmps46
  go_wp2_with fail
  have BK := Aside0.mk (blk_alloc (blk_new w (.cells #[.int .u8 a0, .int .u8 a1, .int .u8 a2, .int .u16 a3, .bool a4, .bool a5] 34)) (.cells #[.int .u8 0, .int .u8 0, .int .u8 0, .int .u16 0, .bool false, .bool false] 34))
  have e1 : (w.alloc (.cells #[.int .u8 a0, .int .u8 a1, .int .u8 a2, .int .u16 a3, .bool a4, .bool a5] 34)).heap.size = w.heap.size + 1 := by simp
  have zN := heap_alloc_new (w.alloc (.cells #[.int .u8 a0, .int .u8 a1, .int .u8 a2, .int .u16 a3, .bool a4, .bool a5] 34)) (.cells #[.int .u8 0, .int .u8 0, .int .u8 0, .int .u16 0, .bool false, .bool false] 34)
  rw [e1] at zN
  have BR := Aside0.mk zN
  have HB := Aside0.mk (below_alloc (below_alloc (Below.refl w.heap.size w) (.cells #[.int .u8 a0, .int .u8 a1, .int .u8 a2, .int .u16 a3, .bool a4, .bool a5] 34)) (.cells #[.int .u8 0, .int .u8 0, .int .u8 0, .int .u16 0, .bool false, .bool false] 34))
  clear zN e1
  have hz : ((w.alloc (.cells #[.int .u8 a0, .int .u8 a1, .int .u8 a2, .int .u16 a3, .bool a4, .bool a5] 34)).alloc (.cells #[.int .u8 0, .int .u8 0, .int .u8 0, .int .u16 0, .bool false, .bool false] 34)).heap.size = w.heap.size + 2 := by simp
  generalize (w.alloc (.cells #[.int .u8 a0, .int .u8 a1, .int .u8 a2, .int .u16 a3, .bool a4, .bool a5] 34)).alloc (.cells #[.int .u8 0, .int .u8 0, .int .u8 0, .int .u16 0, .bool false, .bool false] 34) = W at *
  have c0 : W.cell? ⟨w.heap.size, 0, none⟩ = some (.int .u8 a0) := (blk_cell BK.out 0).trans rfl
  have c1 : W.cell? ⟨w.heap.size, 1, none⟩ = some (.int .u8 a1) := (blk_cell BK.out 1).trans rfl
  have c2 : W.cell? ⟨w.heap.size, 2, none⟩ = some (.int .u8 a2) := (blk_cell BK.out 2).trans rfl
  have c3 : W.cell? ⟨w.heap.size, 3, none⟩ = some (.int .u16 a3) := (blk_cell BK.out 3).trans rfl
  have c4 : W.cell? ⟨w.heap.size, 4, none⟩ = some (.bool a4) := (blk_cell BK.out 4).trans rfl
  have c5 : W.cell? ⟨w.heap.size, 5, none⟩ = some (.bool a5) := (blk_cell BK.out 5).trans rfl
  have fz := fun i => blk_frozen BK.out i
  go_step3
  go_wp2_with (first | (go_at_call 66; ((with_reducible refine (clock_Norm.calls a0 a1 a2 a3 a4 a5 (s) (m) (h) (d) (false) (cy) _ HN.out).mono ?_)); rintro e' w1 ⟨rfl, hb⟩; have n0 := Aside0.mk ((hb.block w.heap.size (by rw [hz]; omega)).trans BK.out); have n1 := Aside0.mk ((hb.block (w.heap.size + 1) (by rw [hz]; omega)).trans BR.out); have n2 := Aside0.mk (Below.trans HB.out (hb.mono (by rw [hz]; omega))); clear hb BK BR HB c0 c1 c2 c3 c4 c5 fz; have c0 : w1.cell? ⟨w.heap.size, 0, none⟩ = some (.int .u8 a0) := (blk_cell n0.out 0).trans rfl; have c1 : w1.cell? ⟨w.heap.size, 1, none⟩ = some (.int .u8 a1) := (blk_cell n0.out 1).trans rfl; have c2 : w1.cell? ⟨w.heap.size, 2, none⟩ = some (.int .u8 a2) := (blk_cell n0.out 2).trans rfl; have c3 : w1.cell? ⟨w.heap.size, 3, none⟩ = some (.int .u16 a3) := (blk_cell n0.out 3).trans rfl; have c4 : w1.cell? ⟨w.heap.size, 4, none⟩ = some (.bool a4) := (blk_cell n0.out 4).trans rfl; have c5 : w1.cell? ⟨w.heap.size, 5, none⟩ = some (.bool a5) := (blk_cell n0.out 5).trans rfl; have z0 : w1.cell? ⟨(w.heap.size + 1), 0, none⟩ = some (.int .u8 0) := (blk_cell n1.out 0).trans rfl; have z1 : w1.cell? ⟨(w.heap.size + 1), 1, none⟩ = some (.int .u8 0) := (blk_cell n1.out 1).trans rfl; have z2 : w1.cell? ⟨(w.heap.size + 1), 2, none⟩ = some (.int .u8 0) := (blk_cell n1.out 2).trans rfl; have z3 : w1.cell? ⟨(w.heap.size + 1), 3, none⟩ = some (.int .u16 0) := (blk_cell n1.out 3).trans rfl; have z4 : w1.cell? ⟨(w.heap.size + 1), 4, none⟩ = some (.bool false) := (blk_cell n1.out 4).trans rfl; have z5 : w1.cell? ⟨(w.heap.size + 1), 5, none⟩ = some (.bool false) := (blk_cell n1.out 5).trans rfl; have fz := fun i => blk_frozen n0.out i; have fr := fun i => blk_frozen n1.out i))
  have m0 : ((((((w1.setCell ⟨w.heap.size, 0, none⟩ (.int .u8 s)).setCell ⟨w.heap.size, 1, none⟩ (.int .u8 m)).setCell ⟨w.heap.size, 2, none⟩ (.int .u8 h)).setCell ⟨w.heap.size, 3, none⟩ (.int .u16 d)).setCell ⟨w.heap.size, 4, none⟩ (.bool false)).setCell ⟨w.heap.size, 5, none⟩ (.bool cy)).heap[w.heap.size]? = some (.cells #[.int .u8 s, .int .u8 m, .int .u8 h, .int .u16 d, .bool false, .bool cy] 34 (0, 0)) := (by
    have p0 : (w1.setCell ⟨w.heap.size, 0, none⟩ (.int .u8 s)).heap[w.heap.size]? = some (.cells #[.int .u8 s, .int .u8 a1, .int .u8 a2, .int .u16 a3, .bool a4, .bool a5] 34 (0, 0)) := blk_put n0.out 0 _ rfl
    have p1 : ((w1.setCell ⟨w.heap.size, 0, none⟩ (.int .u8 s)).setCell ⟨w.heap.size, 1, none⟩ (.int .u8 m)).heap[w.heap.size]? = some (.cells #[.int .u8 s, .int .u8 m, .int .u8 a2, .int .u16 a3, .bool a4, .bool a5] 34 (0, 0)) := blk_put p0 1 _ rfl
    have p2 : (((w1.setCell ⟨w.heap.size, 0, none⟩ (.int .u8 s)).setCell ⟨w.heap.size, 1, none⟩ (.int .u8 m)).setCell ⟨w.heap.size, 2, none⟩ (.int .u8 h)).heap[w.heap.size]? = some (.cells #[.int .u8 s, .int .u8 m, .int .u8 h, .int .u16 a3, .bool a4, .bool a5] 34 (0, 0)) := blk_put p1 2 _ rfl
    have p3 : ((((w1.setCell ⟨w.heap.size, 0, none⟩ (.int .u8 s)).setCell ⟨w.heap.size, 1, none⟩ (.int .u8 m)).setCell ⟨w.heap.size, 2, none⟩ (.int .u8 h)).setCell ⟨w.heap.size, 3, none⟩ (.int .u16 d)).heap[w.heap.size]? = some (.cells #[.int .u8 s, .int .u8 m, .int .u8 h, .int .u16 d, .bool a4, .bool a5] 34 (0, 0)) := blk_put p2 3 _ rfl
    have p4 : (((((w1.setCell ⟨w.heap.size, 0, none⟩ (.int .u8 s)).setCell ⟨w.heap.size, 1, none⟩ (.int .u8 m)).setCell ⟨w.heap.size, 2, none⟩ (.int .u8 h)).setCell ⟨w.heap.size, 3, none⟩ (.int .u16 d)).setCell ⟨w.heap.size, 4, none⟩ (.bool false)).heap[w.heap.size]? = some (.cells #[.int .u8 s, .int .u8 m, .int .u8 h, .int .u16 d, .bool false, .bool a5] 34 (0, 0)) := blk_put p3 4 _ rfl
    have p5 : ((((((w1.setCell ⟨w.heap.size, 0, none⟩ (.int .u8 s)).setCell ⟨w.heap.size, 1, none⟩ (.int .u8 m)).setCell ⟨w.heap.size, 2, none⟩ (.int .u8 h)).setCell ⟨w.heap.size, 3, none⟩ (.int .u16 d)).setCell ⟨w.heap.size, 4, none⟩ (.bool false)).setCell ⟨w.heap.size, 5, none⟩ (.bool cy)).heap[w.heap.size]? = some (.cells #[.int .u8 s, .int .u8 m, .int .u8 h, .int .u16 d, .bool false, .bool cy] 34 (0, 0)) := blk_put p4 5 _ rfl
    exact p5)
  have m1 : ((((((w1.setCell ⟨w.heap.size, 0, none⟩ (.int .u8 s)).setCell ⟨w.heap.size, 1, none⟩ (.int .u8 m)).setCell ⟨w.heap.size, 2, none⟩ (.int .u8 h)).setCell ⟨w.heap.size, 3, none⟩ (.int .u16 d)).setCell ⟨w.heap.size, 4, none⟩ (.bool false)).setCell ⟨w.heap.size, 5, none⟩ (.bool cy)).heap[w.heap.size + 1]? = some (.cells #[.int .u8 0, .int .u8 0, .int .u8 0, .int .u16 0, .bool false, .bool false] 34 (0, 0)) := (by repeat (first | (with_reducible exact n1.out) | refine blk_far ?_ (by simp) _))
  have m2 : Below w.heap.size w ((((((w1.setCell ⟨w.heap.size, 0, none⟩ (.int .u8 s)).setCell ⟨w.heap.size, 1, none⟩ (.int .u8 m)).setCell ⟨w.heap.size, 2, none⟩ (.int .u8 h)).setCell ⟨w.heap.size, 3, none⟩ (.int .u16 d)).setCell ⟨w.heap.size, 4, none⟩ (.bool false)).setCell ⟨w.heap.size, 5, none⟩ (.bool cy)) := (below_set (below_set (below_set (below_set (below_set (below_set n2.out (Nat.le_refl _)) (Nat.le_refl _)) (Nat.le_refl _)) (Nat.le_refl _)) (Nat.le_refl _)) (Nat.le_refl _))
  generalize ((((((w1.setCell ⟨w.heap.size, 0, none⟩ (.int .u8 s)).setCell ⟨w.heap.size, 1, none⟩ (.int .u8 m)).setCell ⟨w.heap.size, 2, none⟩ (.int .u8 h)).setCell ⟨w.heap.size, 3, none⟩ (.int .u16 d)).setCell ⟨w.heap.size, 4, none⟩ (.bool false)).setCell ⟨w.heap.size, 5, none⟩ (.bool cy)) = X at m0 m1 m2 ⊢
  clear n0 n1 n2 c0 c1 c2 c3 c4 c5 z0 z1 z2 z3 z4 z5 fz fr hz
  have BK := Aside0.mk m0
  have BR := Aside0.mk m1
  have HB := Aside0.mk m2
  clear m0 m1 m2
  have c0 : X.cell? ⟨w.heap.size, 0, none⟩ = some (.int .u8 s) := (blk_cell BK.out 0).trans rfl
  have c1 : X.cell? ⟨w.heap.size, 1, none⟩ = some (.int .u8 m) := (blk_cell BK.out 1).trans rfl
  have c2 : X.cell? ⟨w.heap.size, 2, none⟩ = some (.int .u8 h) := (blk_cell BK.out 2).trans rfl
  have c3 : X.cell? ⟨w.heap.size, 3, none⟩ = some (.int .u16 d) := (blk_cell BK.out 3).trans rfl
  have c4 : X.cell? ⟨w.heap.size, 4, none⟩ = some (.bool false) := (blk_cell BK.out 4).trans rfl
  have c5 : X.cell? ⟨w.heap.size, 5, none⟩ = some (.bool cy) := (blk_cell BK.out 5).trans rfl
  have z0 : X.cell? ⟨(w.heap.size + 1), 0, none⟩ = some (.int .u8 0) := (blk_cell BR.out 0).trans rfl
  have z1 : X.cell? ⟨(w.heap.size + 1), 1, none⟩ = some (.int .u8 0) := (blk_cell BR.out 1).trans rfl
  have z2 : X.cell? ⟨(w.heap.size + 1), 2, none⟩ = some (.int .u8 0) := (blk_cell BR.out 2).trans rfl
  have z3 : X.cell? ⟨(w.heap.size + 1), 3, none⟩ = some (.int .u16 0) := (blk_cell BR.out 3).trans rfl
  have z4 : X.cell? ⟨(w.heap.size + 1), 4, none⟩ = some (.bool false) := (blk_cell BR.out 4).trans rfl
  have z5 : X.cell? ⟨(w.heap.size + 1), 5, none⟩ = some (.bool false) := (blk_cell BR.out 5).trans rfl
  have fz := fun i => blk_frozen BK.out i
  have fr := fun i => blk_frozen BR.out i
  go_step3
  go_wp2
  go_rounds 5
  rw [Exit.noGoto_ret]
  have m1 : (((((((X.setCell ⟨w.heap.size, 0, none⟩ (.int .u8 ((s + 1) % 64))).setCell ⟨w.heap.size + 1, 0, none⟩ (.int .u8 ((s + 1) % 64))).setCell ⟨w.heap.size + 1, 1, none⟩ (.int .u8 m)).setCell ⟨w.heap.size + 1, 2, none⟩ (.int .u8 h)).setCell ⟨w.heap.size + 1, 3, none⟩ (.int .u16 d)).setCell ⟨w.heap.size + 1, 4, none⟩ (.bool false)).setCell ⟨w.heap.size + 1, 5, none⟩ (.bool cy)).heap[w.heap.size + 1]? = some (.cells #[.int .u8 ((s + 1) % 64), .int .u8 m, .int .u8 h, .int .u16 d, .bool false, .bool cy] 34 (0, 0)) := (by
    have p0 : ((X.setCell ⟨w.heap.size, 0, none⟩ (.int .u8 ((s + 1) % 64))).setCell ⟨w.heap.size + 1, 0, none⟩ (.int .u8 ((s + 1) % 64))).heap[w.heap.size + 1]? = some (.cells #[.int .u8 ((s + 1) % 64), .int .u8 0, .int .u8 0, .int .u16 0, .bool false, .bool false] 34 (0, 0)) := blk_put (by repeat (first | (with_reducible exact BR.out) | refine blk_far ?_ (by simp) _) : (X.setCell ⟨w.heap.size, 0, none⟩ (.int .u8 ((s + 1) % 64))).heap[w.heap.size + 1]? = some (.cells #[.int .u8 0, .int .u8 0, .int .u8 0, .int .u16 0, .bool false, .bool false] 34 (0, 0))) 0 _ rfl
    have p1 : (((X.setCell ⟨w.heap.size, 0, none⟩ (.int .u8 ((s + 1) % 64))).setCell ⟨w.heap.size + 1, 0, none⟩ (.int .u8 ((s + 1) % 64))).setCell ⟨w.heap.size + 1, 1, none⟩ (.int .u8 m)).heap[w.heap.size + 1]? = some (.cells #[.int .u8 ((s + 1) % 64), .int .u8 m, .int .u8 0, .int .u16 0, .bool false, .bool false] 34 (0, 0)) := blk_put p0 1 _ rfl
    have p2 : ((((X.setCell ⟨w.heap.size, 0, none⟩ (.int .u8 ((s + 1) % 64))).setCell ⟨w.heap.size + 1, 0, none⟩ (.int .u8 ((s + 1) % 64))).setCell ⟨w.heap.size + 1, 1, none⟩ (.int .u8 m)).setCell ⟨w.heap.size + 1, 2, none⟩ (.int .u8 h)).heap[w.heap.size + 1]? = some (.cells #[.int .u8 ((s + 1) % 64), .int .u8 m, .int .u8 h, .int .u16 0, .bool false, .bool false] 34 (0, 0)) := blk_put p1 2 _ rfl
    have p3 : (((((X.setCell ⟨w.heap.size, 0, none⟩ (.int .u8 ((s + 1) % 64))).setCell ⟨w.heap.size + 1, 0, none⟩ (.int .u8 ((s + 1) % 64))).setCell ⟨w.heap.size + 1, 1, none⟩ (.int .u8 m)).setCell ⟨w.heap.size + 1, 2, none⟩ (.int .u8 h)).setCell ⟨w.heap.size + 1, 3, none⟩ (.int .u16 d)).heap[w.heap.size + 1]? = some (.cells #[.int .u8 ((s + 1) % 64), .int .u8 m, .int .u8 h, .int .u16 d, .bool false, .bool false] 34 (0, 0)) := blk_put p2 3 _ rfl
    have p4 : ((((((X.setCell ⟨w.heap.size, 0, none⟩ (.int .u8 ((s + 1) % 64))).setCell ⟨w.heap.size + 1, 0, none⟩ (.int .u8 ((s + 1) % 64))).setCell ⟨w.heap.size + 1, 1, none⟩ (.int .u8 m)).setCell ⟨w.heap.size + 1, 2, none⟩ (.int .u8 h)).setCell ⟨w.heap.size + 1, 3, none⟩ (.int .u16 d)).setCell ⟨w.heap.size + 1, 4, none⟩ (.bool false)).heap[w.heap.size + 1]? = some (.cells #[.int .u8 ((s + 1) % 64), .int .u8 m, .int .u8 h, .int .u16 d, .bool false, .bool false] 34 (0, 0)) := blk_put p3 4 _ rfl
    have p5 : (((((((X.setCell ⟨w.heap.size, 0, none⟩ (.int .u8 ((s + 1) % 64))).setCell ⟨w.heap.size + 1, 0, none⟩ (.int .u8 ((s + 1) % 64))).setCell ⟨w.heap.size + 1, 1, none⟩ (.int .u8 m)).setCell ⟨w.heap.size + 1, 2, none⟩ (.int .u8 h)).setCell ⟨w.heap.size + 1, 3, none⟩ (.int .u16 d)).setCell ⟨w.heap.size + 1, 4, none⟩ (.bool false)).setCell ⟨w.heap.size + 1, 5, none⟩ (.bool cy)).heap[w.heap.size + 1]? = some (.cells #[.int .u8 ((s + 1) % 64), .int .u8 m, .int .u8 h, .int .u16 d, .bool false, .bool cy] 34 (0, 0)) := blk_put p4 5 _ rfl
    exact p5)
  have m2 : Below w.heap.size w (((((((X.setCell ⟨w.heap.size, 0, none⟩ (.int .u8 ((s + 1) % 64))).setCell ⟨w.heap.size + 1, 0, none⟩ (.int .u8 ((s + 1) % 64))).setCell ⟨w.heap.size + 1, 1, none⟩ (.int .u8 m)).setCell ⟨w.heap.size + 1, 2, none⟩ (.int .u8 h)).setCell ⟨w.heap.size + 1, 3, none⟩ (.int .u16 d)).setCell ⟨w.heap.size + 1, 4, none⟩ (.bool false)).setCell ⟨w.heap.size + 1, 5, none⟩ (.bool cy)) := (below_set (below_set (below_set (below_set (below_set (below_set (below_set HB.out (Nat.le_refl _)) (Nat.le_succ _)) (Nat.le_succ _)) (Nat.le_succ _)) (Nat.le_succ _)) (Nat.le_succ _)) (Nat.le_succ _))
  generalize (((((((X.setCell ⟨w.heap.size, 0, none⟩ (.int .u8 ((s + 1) % 64))).setCell ⟨w.heap.size + 1, 0, none⟩ (.int .u8 ((s + 1) % 64))).setCell ⟨w.heap.size + 1, 1, none⟩ (.int .u8 m)).setCell ⟨w.heap.size + 1, 2, none⟩ (.int .u8 h)).setCell ⟨w.heap.size + 1, 3, none⟩ (.int .u16 d)).setCell ⟨w.heap.size + 1, 4, none⟩ (.bool false)).setCell ⟨w.heap.size + 1, 5, none⟩ (.bool cy)) = Y at m1 m2 ⊢
  have u0 : Y.cell? ⟨w.heap.size + 1, 0, none⟩ = some (.int .u8 ((s + 1) % 64)) := (blk_cell m1 0).trans rfl
  have u1 : Y.cell? ⟨w.heap.size + 1, 1, none⟩ = some (.int .u8 m) := (blk_cell m1 1).trans rfl
  have u2 : Y.cell? ⟨w.heap.size + 1, 2, none⟩ = some (.int .u8 h) := (blk_cell m1 2).trans rfl
  have u3 : Y.cell? ⟨w.heap.size + 1, 3, none⟩ = some (.int .u16 d) := (blk_cell m1 3).trans rfl
  have u4 : Y.cell? ⟨w.heap.size + 1, 4, none⟩ = some (.bool false) := (blk_cell m1 4).trans rfl
  have u5 : Y.cell? ⟨w.heap.size + 1, 5, none⟩ = some (.bool cy) := (blk_cell m1 5).trans rfl
  exact bodyPost_ret (v := .agg #[.int .u8 ((s + 1) % 64), .int .u8 m, .int .u8 h, .int .u16 d, .bool false, .bool cy]) (by simp [results, Try.results46, go_sem, u0, u1, u2, u3, u4, u5]) rfl ⟨rfl, m2⟩
set_option maxRecDepth 100000 in
set_option maxHeartbeats 4000000 in
theorem tick_min (a0 a1 a2 a3 : Int) (a4 a5 : Bool) (m h d : Int) (cy : Bool) (hn : clock_Norm.f a0 a1 a2 a3 a4 a5 = some (59, m, h, d, false, cy)) (hs : ¬ m = 59) (w : World) :
    Calls Try.prog 46 #[.agg #[.int .u8 a0, .int .u8 a1, .int .u8 a2, .int .u16 a3, .bool a4, .bool a5]] w fun e' w' => e' = .returned (.agg #[.int .u8 0, .int .u8 ((m + 1) % 64), .int .u8 h, .int .u16 d, .bool false, .bool cy]) ∧ Below w.heap.size w w' := by
  have HN := Aside0.mk hn
  clear hn
  go_enter Try.func46, Try.ntmps46
  go_wp2_with fail
  have BK := Aside0.mk (blk_alloc (blk_new w (.cells #[.int .u8 a0, .int .u8 a1, .int .u8 a2, .int .u16 a3, .bool a4, .bool a5] 34)) (.cells #[.int .u8 0, .int .u8 0, .int .u8 0, .int .u16 0, .bool false, .bool false] 34))
  have e1 : (w.alloc (.cells #[.int .u8 a0, .int .u8 a1, .int .u8 a2, .int .u16 a3, .bool a4, .bool a5] 34)).heap.size = w.heap.size + 1 := by simp
  have zN := heap_alloc_new (w.alloc (.cells #[.int .u8 a0, .int .u8 a1, .int .u8 a2, .int .u16 a3, .bool a4, .bool a5] 34)) (.cells #[.int .u8 0, .int .u8 0, .int .u8 0, .int .u16 0, .bool false, .bool false] 34)
  rw [e1] at zN
  have BR := Aside0.mk zN
  have HB := Aside0.mk (below_alloc (below_alloc (Below.refl w.heap.size w) (.cells #[.int .u8 a0, .int .u8 a1, .int .u8 a2, .int .u16 a3, .bool a4, .bool a5] 34)) (.cells #[.int .u8 0, .int .u8 0, .int .u8 0, .int .u16 0, .bool false, .bool false] 34))
  clear zN e1
  have hz : ((w.alloc (.cells #[.int .u8 a0, .int .u8 a1, .int .u8 a2, .int .u16 a3, .bool a4, .bool a5] 34)).alloc (.cells #[.int .u8 0, .int .u8 0, .int .u8 0, .int .u16 0, .bool false, .bool false] 34)).heap.size = w.heap.size + 2 := by simp
  generalize (w.alloc (.cells #[.int .u8 a0, .int .u8 a1, .int .u8 a2, .int .u16 a3, .bool a4, .bool a5] 34)).alloc (.cells #[.int .u8 0, .int .u8 0, .int .u8 0, .int .u16 0, .bool false, .bool false] 34) = W at *
  have c0 : W.cell? ⟨w.heap.size, 0, none⟩ = some (.int .u8 a0) := (blk_cell BK.out 0).trans rfl
  have c1 : W.cell? ⟨w.heap.size, 1, none⟩ = some (.int .u8 a1) := (blk_cell BK.out 1).trans rfl
  have c2 : W.cell? ⟨w.heap.size, 2, none⟩ = some (.int .u8 a2) := (blk_cell BK.out 2).trans rfl
  have c3 : W.cell? ⟨w.heap.size, 3, none⟩ = some (.int .u16 a3) := (blk_cell BK.out 3).trans rfl
  have c4 : W.cell? ⟨w.heap.size, 4, none⟩ = some (.bool a4) := (blk_cell BK.out 4).trans rfl
  have c5 : W.cell? ⟨w.heap.size, 5, none⟩ = some (.bool a5) := (blk_cell BK.out 5).trans rfl
  have fz := fun i => blk_frozen BK.out i
  go_step3
  go_wp2_with (first | (go_at_call 66; ((with_reducible refine (clock_Norm.calls a0 a1 a2 a3 a4 a5 (59) (m) (h) (d) (false) (cy) _ HN.out).mono ?_)); rintro e' w1 ⟨rfl, hb⟩; have n0 := Aside0.mk ((hb.block w.heap.size (by rw [hz]; omega)).trans BK.out); have n1 := Aside0.mk ((hb.block (w.heap.size + 1) (by rw [hz]; omega)).trans BR.out); have n2 := Aside0.mk (Below.trans HB.out (hb.mono (by rw [hz]; omega))); clear hb BK BR HB c0 c1 c2 c3 c4 c5 fz; have c0 : w1.cell? ⟨w.heap.size, 0, none⟩ = some (.int .u8 a0) := (blk_cell n0.out 0).trans rfl; have c1 : w1.cell? ⟨w.heap.size, 1, none⟩ = some (.int .u8 a1) := (blk_cell n0.out 1).trans rfl; have c2 : w1.cell? ⟨w.heap.size, 2, none⟩ = some (.int .u8 a2) := (blk_cell n0.out 2).trans rfl; have c3 : w1.cell? ⟨w.heap.size, 3, none⟩ = some (.int .u16 a3) := (blk_cell n0.out 3).trans rfl; have c4 : w1.cell? ⟨w.heap.size, 4, none⟩ = some (.bool a4) := (blk_cell n0.out 4).trans rfl; have c5 : w1.cell? ⟨w.heap.size, 5, none⟩ = some (.bool a5) := (blk_cell n0.out 5).trans rfl; have z0 : w1.cell? ⟨(w.heap.size + 1), 0, none⟩ = some (.int .u8 0) := (blk_cell n1.out 0).trans rfl; have z1 : w1.cell? ⟨(w.heap.size + 1), 1, none⟩ = some (.int .u8 0) := (blk_cell n1.out 1).trans rfl; have z2 : w1.cell? ⟨(w.heap.size + 1), 2, none⟩ = some (.int .u8 0) := (blk_cell n1.out 2).trans rfl; have z3 : w1.cell? ⟨(w.heap.size + 1), 3, none⟩ = some (.int .u16 0) := (blk_cell n1.out 3).trans rfl; have z4 : w1.cell? ⟨(w.heap.size + 1), 4, none⟩ = some (.bool false) := (blk_cell n1.out 4).trans rfl; have z5 : w1.cell? ⟨(w.heap.size + 1), 5, none⟩ = some (.bool false) := (blk_cell n1.out 5).trans rfl; have fz := fun i => blk_frozen n0.out i; have fr := fun i => blk_frozen n1.out i))
  have m0 : ((((((w1.setCell ⟨w.heap.size, 0, none⟩ (.int .u8 59)).setCell ⟨w.heap.size, 1, none⟩ (.int .u8 m)).setCell ⟨w.heap.size, 2, none⟩ (.int .u8 h)).setCell ⟨w.heap.size, 3, none⟩ (.int .u16 d)).setCell ⟨w.heap.size, 4, none⟩ (.bool false)).setCell ⟨w.heap.size, 5, none⟩ (.bool cy)).heap[w.heap.size]? = some (.cells #[.int .u8 59, .int .u8 m, .int .u8 h, .int .u16 d, .bool false, .bool cy] 34 (0, 0)) := (by
    have p0 : (w1.setCell ⟨w.heap.size, 0, none⟩ (.int .u8 59)).heap[w.heap.size]? = some (.cells #[.int .u8 59, .int .u8 a1, .int .u8 a2, .int .u16 a3, .bool a4, .bool a5] 34 (0, 0)) := blk_put n0.out 0 _ rfl
    have p1 : ((w1.setCell ⟨w.heap.size, 0, none⟩ (.int .u8 59)).setCell ⟨w.heap.size, 1, none⟩ (.int .u8 m)).heap[w.heap.size]? = some (.cells #[.int .u8 59, .int .u8 m, .int .u8 a2, .int .u16 a3, .bool a4, .bool a5] 34 (0, 0)) := blk_put p0 1 _ rfl
    have p2 : (((w1.setCell ⟨w.heap.size, 0, none⟩ (.int .u8 59)).setCell ⟨w.heap.size, 1, none⟩ (.int .u8 m)).setCell ⟨w.heap.size, 2, none⟩ (.int .u8 h)).heap[w.heap.size]? = some (.cells #[.int .u8 59, .int .u8 m, .int .u8 h, .int .u16 a3, .bool a4, .bool a5] 34 (0, 0)) := blk_put p1 2 _ rfl
    have p3 : ((((w1.setCell ⟨w.heap.size, 0, none⟩ (.int .u8 59)).setCell ⟨w.heap.size, 1, none⟩ (.int .u8 m)).setCell ⟨w.heap.size, 2, none⟩ (.int .u8 h)).setCell ⟨w.heap.size, 3, none⟩ (.int .u16 d)).heap[w.heap.size]? = some (.cells #[.int .u8 59, .int .u8 m, .int .u8 h, .int .u16 d, .bool a4, .bool a5] 34 (0, 0)) := blk_put p2 3 _ rfl
    have p4 : (((((w1.setCell ⟨w.heap.size, 0, none⟩ (.int .u8 59)).setCell ⟨w.heap.size, 1, none⟩ (.int .u8 m)).setCell ⟨w.heap.size, 2, none⟩ (.int .u8 h)).setCell ⟨w.heap.size, 3, none⟩ (.int .u16 d)).setCell ⟨w.heap.size, 4, none⟩ (.bool false)).heap[w.heap.size]? = some (.cells #[.int .u8 59, .int .u8 m, .int .u8 h, .int .u16 d, .bool false, .bool a5] 34 (0, 0)) := blk_put p3 4 _ rfl
    have p5 : ((((((w1.setCell ⟨w.heap.size, 0, none⟩ (.int .u8 59)).setCell ⟨w.heap.size, 1, none⟩ (.int .u8 m)).setCell ⟨w.heap.size, 2, none⟩ (.int .u8 h)).setCell ⟨w.heap.size, 3, none⟩ (.int .u16 d)).setCell ⟨w.heap.size, 4, none⟩ (.bool false)).setCell ⟨w.heap.size, 5, none⟩ (.bool cy)).heap[w.heap.size]? = some (.cells #[.int .u8 59, .int .u8 m, .int .u8 h, .int .u16 d, .bool false, .bool cy] 34 (0, 0)) := blk_put p4 5 _ rfl
    exact p5)
  have m1 : ((((((w1.setCell ⟨w.heap.size, 0, none⟩ (.int .u8 59)).setCell ⟨w.heap.size, 1, none⟩ (.int .u8 m)).setCell ⟨w.heap.size, 2, none⟩ (.int .u8 h)).setCell ⟨w.heap.size, 3, none⟩ (.int .u16 d)).setCell ⟨w.heap.size, 4, none⟩ (.bool false)).setCell ⟨w.heap.size, 5, none⟩ (.bool cy)).heap[w.heap.size + 1]? = some (.cells #[.int .u8 0, .int .u8 0, .int .u8 0, .int .u16 0, .bool false, .bool false] 34 (0, 0)) := (by repeat (first | (with_reducible exact n1.out) | refine blk_far ?_ (by simp) _))
  have m2 : Below w.heap.size w ((((((w1.setCell ⟨w.heap.size, 0, none⟩ (.int .u8 59)).setCell ⟨w.heap.size, 1, none⟩ (.int .u8 m)).setCell ⟨w.heap.size, 2, none⟩ (.int .u8 h)).setCell ⟨w.heap.size, 3, none⟩ (.int .u16 d)).setCell ⟨w.heap.size, 4, none⟩ (.bool false)).setCell ⟨w.heap.size, 5, none⟩ (.bool cy)) := (below_set (below_set (below_set (below_set (below_set (below_set n2.out (Nat.le_refl _)) (Nat.le_refl _)) (Nat.le_refl _)) (Nat.le_refl _)) (Nat.le_refl _)) (Nat.le_refl _))
  generalize ((((((w1.setCell ⟨w.heap.size, 0, none⟩ (.int .u8 59)).setCell ⟨w.heap.size, 1, none⟩ (.int .u8 m)).setCell ⟨w.heap.size, 2, none⟩ (.int .u8 h)).setCell ⟨w.heap.size, 3, none⟩ (.int .u16 d)).setCell ⟨w.heap.size, 4, none⟩ (.bool false)).setCell ⟨w.heap.size, 5, none⟩ (.bool cy)) = X at m0 m1 m2 ⊢
  clear n0 n1 n2 c0 c1 c2 c3 c4 c5 z0 z1 z2 z3 z4 z5 fz fr hz
  have BK := Aside0.mk m0
  have BR := Aside0.mk m1
  have HB := Aside0.mk m2
  clear m0 m1 m2
  have c0 : X.cell? ⟨w.heap.size, 0, none⟩ = some (.int .u8 59) := (blk_cell BK.out 0).trans rfl
  have c1 : X.cell? ⟨w.heap.size, 1, none⟩ = some (.int .u8 m) := (blk_cell BK.out 1).trans rfl
  have c2 : X.cell? ⟨w.heap.size, 2, none⟩ = some (.int .u8 h) := (blk_cell BK.out 2).trans rfl
  have c3 : X.cell? ⟨w.heap.size, 3, none⟩ = some (.int .u16 d) := (blk_cell BK.out 3).trans rfl
  have c4 : X.cell? ⟨w.heap.size, 4, none⟩ = some (.bool false) := (blk_cell BK.out 4).trans rfl
  have c5 : X.cell? ⟨w.heap.size, 5, none⟩ = some (.bool cy) := (blk_cell BK.out 5).trans rfl
  have z0 : X.cell? ⟨(w.heap.size + 1), 0, none⟩ = some (.int .u8 0) := (blk_cell BR.out 0).trans rfl
  have z1 : X.cell? ⟨(w.heap.size + 1), 1, none⟩ = some (.int .u8 0) := (blk_cell BR.out 1).trans rfl
  have z2 : X.cell? ⟨(w.heap.size + 1), 2, none⟩ = some (.int .u8 0) := (blk_cell BR.out 2).trans rfl
  have z3 : X.cell? ⟨(w.heap.size + 1), 3, none⟩ = some (.int .u16 0) := (blk_cell BR.out 3).trans rfl
  have z4 : X.cell? ⟨(w.heap.size + 1), 4, none⟩ = some (.bool false) := (blk_cell BR.out 4).trans rfl
  have z5 : X.cell? ⟨(w.heap.size + 1), 5, none⟩ = some (.bool false) := (blk_cell BR.out 5).trans rfl
  have fz := fun i => blk_frozen BK.out i
  have fr := fun i => blk_frozen BR.out i
  go_step3
  go_wp2
  go_rounds 5
  rw [Exit.noGoto_ret]
  have m1 : ((((((((X.setCell ⟨w.heap.size, 0, none⟩ (.int .u8 0)).setCell ⟨w.heap.size, 1, none⟩ (.int .u8 ((m + 1) % 64))).setCell ⟨w.heap.size + 1, 0, none⟩ (.int .u8 0)).setCell ⟨w.heap.size + 1, 1, none⟩ (.int .u8 ((m + 1) % 64))).setCell ⟨w.heap.size + 1, 2, none⟩ (.int .u8 h)).setCell ⟨w.heap.size + 1, 3, none⟩ (.int .u16 d)).setCell ⟨w.heap.size + 1, 4, none⟩ (.bool false)).setCell ⟨w.heap.size + 1, 5, none⟩ (.bool cy)).heap[w.heap.size + 1]? = some (.cells #[.int .u8 0, .int .u8 ((m + 1) % 64), .int .u8 h, .int .u16 d, .bool false, .bool cy] 34 (0, 0)) := (by
    have p0 : (((X.setCell ⟨w.heap.size, 0, none⟩ (.int .u8 0)).setCell ⟨w.heap.size, 1, none⟩ (.int .u8 ((m + 1) % 64))).setCell ⟨w.heap.size + 1, 0, none⟩ (.int .u8 0)).heap[w.heap.size + 1]? = some (.cells #[.int .u8 0, .int .u8 0, .int .u8 0, .int .u16 0, .bool false, .bool false] 34 (0, 0)) := blk_put (by repeat (first | (with_reducible exact BR.out) | refine blk_far ?_ (by simp) _) : ((X.setCell ⟨w.heap.size, 0, none⟩ (.int .u8 0)).setCell ⟨w.heap.size, 1, none⟩ (.int .u8 ((m + 1) % 64))).heap[w.heap.size + 1]? = some (.cells #[.int .u8 0, .int .u8 0, .int .u8 0, .int .u16 0, .bool false, .bool false] 34 (0, 0))) 0 _ rfl
    have p1 : ((((X.setCell ⟨w.heap.size, 0, none⟩ (.int .u8 0)).setCell ⟨w.heap.size, 1, none⟩ (.int .u8 ((m + 1) % 64))).setCell ⟨w.heap.size + 1, 0, none⟩ (.int .u8 0)).setCell ⟨w.heap.size + 1, 1, none⟩ (.int .u8 ((m + 1) % 64))).heap[w.heap.size + 1]? = some (.cells #[.int .u8 0, .int .u8 ((m + 1) % 64), .int .u8 0, .int .u16 0, .bool false, .bool false] 34 (0, 0)) := blk_put p0 1 _ rfl
    have p2 : (((((X.setCell ⟨w.heap.size, 0, none⟩ (.int .u8 0)).setCell ⟨w.heap.size, 1, none⟩ (.int .u8 ((m + 1) % 64))).setCell ⟨w.heap.size + 1, 0, none⟩ (.int .u8 0)).setCell ⟨w.heap.size + 1, 1, none⟩ (.int .u8 ((m + 1) % 64))).setCell ⟨w.heap.size + 1, 2, none⟩ (.int .u8 h)).heap[w.heap.size + 1]? = some (.cells #[.int .u8 0, .int .u8 ((m + 1) % 64), .int .u8 h, .int .u16 0, .bool false, .bool false] 34 (0, 0)) := blk_put p1 2 _ rfl
    have p3 : ((((((X.setCell ⟨w.heap.size, 0, none⟩ (.int .u8 0)).setCell ⟨w.heap.size, 1, none⟩ (.int .u8 ((m + 1) % 64))).setCell ⟨w.heap.size + 1, 0, none⟩ (.int .u8 0)).setCell ⟨w.heap.size + 1, 1, none⟩ (.int .u8 ((m + 1) % 64))).setCell ⟨w.heap.size + 1, 2, none⟩ (.int .u8 h)).setCell ⟨w.heap.size + 1, 3, none⟩ (.int .u16 d)).heap[w.heap.size + 1]? = some (.cells #[.int .u8 0, .int .u8 ((m + 1) % 64), .int .u8 h, .int .u16 d, .bool false, .bool false] 34 (0, 0)) := blk_put p2 3 _ rfl
    have p4 : (((((((X.setCell ⟨w.heap.size, 0, none⟩ (.int .u8 0)).setCell ⟨w.heap.size, 1, none⟩ (.int .u8 ((m + 1) % 64))).setCell ⟨w.heap.size + 1, 0, none⟩ (.int .u8 0)).setCell ⟨w.heap.size + 1, 1, none⟩ (.int .u8 ((m + 1) % 64))).setCell ⟨w.heap.size + 1, 2, none⟩ (.int .u8 h)).setCell ⟨w.heap.size + 1, 3, none⟩ (.int .u16 d)).setCell ⟨w.heap.size + 1, 4, none⟩ (.bool false)).heap[w.heap.size + 1]? = some (.cells #[.int .u8 0, .int .u8 ((m + 1) % 64), .int .u8 h, .int .u16 d, .bool false, .bool false] 34 (0, 0)) := blk_put p3 4 _ rfl
    have p5 : ((((((((X.setCell ⟨w.heap.size, 0, none⟩ (.int .u8 0)).setCell ⟨w.heap.size, 1, none⟩ (.int .u8 ((m + 1) % 64))).setCell ⟨w.heap.size + 1, 0, none⟩ (.int .u8 0)).setCell ⟨w.heap.size + 1, 1, none⟩ (.int .u8 ((m + 1) % 64))).setCell ⟨w.heap.size + 1, 2, none⟩ (.int .u8 h)).setCell ⟨w.heap.size + 1, 3, none⟩ (.int .u16 d)).setCell ⟨w.heap.size + 1, 4, none⟩ (.bool false)).setCell ⟨w.heap.size + 1, 5, none⟩ (.bool cy)).heap[w.heap.size + 1]? = some (.cells #[.int .u8 0, .int .u8 ((m + 1) % 64), .int .u8 h, .int .u16 d, .bool false, .bool cy] 34 (0, 0)) := blk_put p4 5 _ rfl
    exact p5)
  have m2 : Below w.heap.size w ((((((((X.setCell ⟨w.heap.size, 0, none⟩ (.int .u8 0)).setCell ⟨w.heap.size, 1, none⟩ (.int .u8 ((m + 1) % 64))).setCell ⟨w.heap.size + 1, 0, none⟩ (.int .u8 0)).setCell ⟨w.heap.size + 1, 1, none⟩ (.int .u8 ((m + 1) % 64))).setCell ⟨w.heap.size + 1, 2, none⟩ (.int .u8 h)).setCell ⟨w.heap.size + 1, 3, none⟩ (.int .u16 d)).setCell ⟨w.heap.size + 1, 4, none⟩ (.bool false)).setCell ⟨w.heap.size + 1, 5, none⟩ (.bool cy)) := (below_set (below_set (below_set (below_set (below_set (below_set (below_set (below_set HB.out (Nat.le_refl _)) (Nat.le_refl _)) (Nat.le_succ _)) (Nat.le_succ _)) (Nat.le_succ _)) (Nat.le_succ _)) (Nat.le_succ _)) (Nat.le_succ _))
  generalize ((((((((X.setCell ⟨w.heap.size, 0, none⟩ (.int .u8 0)).setCell ⟨w.heap.size, 1, none⟩ (.int .u8 ((m + 1) % 64))).setCell ⟨w.heap.size + 1, 0, none⟩ (.int .u8 0)).setCell ⟨w.heap.size + 1, 1, none⟩ (.int .u8 ((m + 1) % 64))).setCell ⟨w.heap.size + 1, 2, none⟩ (.int .u8 h)).setCell ⟨w.heap.size + 1, 3, none⟩ (.int .u16 d)).setCell ⟨w.heap.size + 1, 4, none⟩ (.bool false)).setCell ⟨w.heap.size + 1, 5, none⟩ (.bool cy)) = Y at m1 m2 ⊢
  have u0 : Y.cell? ⟨w.heap.size + 1, 0, none⟩ = some (.int .u8 0) := (blk_cell m1 0).trans rfl
  have u1 : Y.cell? ⟨w.heap.size + 1, 1, none⟩ = some (.int .u8 ((m + 1) % 64)) := (blk_cell m1 1).trans rfl
  have u2 : Y.cell? ⟨w.heap.size + 1, 2, none⟩ = some (.int .u8 h) := (blk_cell m1 2).trans rfl
  have u3 : Y.cell? ⟨w.heap.size + 1, 3, none⟩ = some (.int .u16 d) := (blk_cell m1 3).trans rfl
  have u4 : Y.cell? ⟨w.heap.size + 1, 4, none⟩ = some (.bool false) := (blk_cell m1 4).trans rfl
  have u5 : Y.cell? ⟨w.heap.size + 1, 5, none⟩ = some (.bool cy) := (blk_cell m1 5).trans rfl
  exact bodyPost_ret (v := .agg #[.int .u8 0, .int .u8 ((m + 1) % 64), .int .u8 h, .int .u16 d, .bool false, .bool cy]) (by simp [results, Try.results46, go_sem, u0, u1, u2, u3, u4, u5]) rfl ⟨rfl, m2⟩
set_option maxRecDepth 100000 in
set_option maxHeartbeats 4000000 in
theorem tick_hour (a0 a1 a2 a3 : Int) (a4 a5 : Bool) (h d : Int) (cy : Bool) (hn : clock_Norm.f a0 a1 a2 a3 a4 a5 = some (59, 59, h, d, false, cy)) (hs : ¬ h = 23) (w : World) :
    Calls Try.prog 46 #[.agg #[.int .u8 a0, .int .u8 a1, .int .u8 a2, .int .u16 a3, .bool a4, .bool a5]] w fun e' w' => e' = .returned (.agg #[.int .u8 0, .int .u8 0, .int .u8 ((h + 1) % 32), .int .u16 d, .bool false, .bool cy]) ∧ Below w.heap.size w w' := by
  have HN := Aside0.mk hn
  clear hn
  go_enter Try.func46, Try.ntmps46
  go_wp2_with fail
  have BK := Aside0.mk (blk_alloc (blk_new w (.cells #[.int .u8 a0, .int .u8 a1, .int .u8 a2, .int .u16 a3, .bool a4, .bool a5] 34)) (.cells #[.int .u8 0, .int .u8 0, .int .u8 0, .int .u16 0, .bool false, .bool false] 34))
  have e1 : (w.alloc (.cells #[.int .u8 a0, .int .u8 a1, .int .u8 a2, .int .u16 a3, .bool a4, .bool a5] 34)).heap.size = w.heap.size + 1 := by simp
  have zN := heap_alloc_new (w.alloc (.cells #[.int .u8 a0, .int .u8 a1, .int .u8 a2, .int .u16 a3, .bool a4, .bool a5] 34)) (.cells #[.int .u8 0, .int .u8 0, .int .u8 0, .int .u16 0, .bool false, .bool false] 34)
  rw [e1] at zN
  have BR := Aside0.mk zN
  have HB := Aside0.mk (below_alloc (below_alloc (Below.refl w.heap.size w) (.cells #[.int .u8 a0, .int .u8 a1, .int .u8 a2, .int .u16 a3, .bool a4, .bool a5] 34)) (.cells #[.int .u8 0, .int .u8 0, .int .u8 0, .int .u16 0, .bool false, .bool false] 34))
  clear zN e1
  have hz : ((w.alloc (.cells #[.int .u8 a0, .int .u8 a1, .int .u8 a2, .int .u16 a3, .bool a4, .bool a5] 34)).alloc (.cells #[.int .u8 0, .int .u8 0, .int .u8 0, .int .u16 0, .bool false, .bool false] 34)).heap.size = w.heap.size + 2 := by simp
  generalize (w.alloc (.cells #[.int .u8 a0, .int .u8 a1, .int .u8 a2, .int .u16 a3, .bool a4, .bool a5] 34)).alloc (.cells #[.int .u8 0, .int .u8 0, .int .u8 0, .int .u16 0, .bool false, .bool false] 34) = W at *
  have c0 : W.cell? ⟨w.heap.size, 0, none⟩ = some (.int .u8 a0) := (blk_cell BK.out 0).trans rfl
  have c1 : W.cell? ⟨w.heap.size, 1, none⟩ = some (.int .u8 a1) := (blk_cell BK.out 1).trans rfl
  have c2 : W.cell? ⟨w.heap.size, 2, none⟩ = some (.int .u8 a2) := (blk_cell BK.out 2).trans rfl
  have c3 : W.cell? ⟨w.heap.size, 3, none⟩ = some (.int .u16 a3) := (blk_cell BK.out 3).trans rfl
  have c4 : W.cell? ⟨w.heap.size, 4, none⟩ = some (.bool a4) := (blk_cell BK.out 4).trans rfl
  have c5 : W.cell? ⟨w.heap.size, 5, none⟩ = some (.bool a5) := (blk_cell BK.out 5).trans rfl
  have fz := fun i => blk_frozen BK.out i
  go_step3
  go_wp2_with (first | (go_at_call 66; ((with_reducible refine (clock_Norm.calls a0 a1 a2 a3 a4 a5 (59) (59) (h) (d) (false) (cy) _ HN.out).mono ?_)); rintro e' w1 ⟨rfl, hb⟩; have n0 := Aside0.mk ((hb.block w.heap.size (by rw [hz]; omega)).trans BK.out); have n1 := Aside0.mk ((hb.block (w.heap.size + 1) (by rw [hz]; omega)).trans BR.out); have n2 := Aside0.mk (Below.trans HB.out (hb.mono (by rw [hz]; omega))); clear hb BK BR HB c0 c1 c2 c3 c4 c5 fz; have c0 : w1.cell? ⟨w.heap.size, 0, none⟩ = some (.int .u8 a0) := (blk_cell n0.out 0).trans rfl; have c1 : w1.cell? ⟨w.heap.size, 1, none⟩ = some (.int .u8 a1) := (blk_cell n0.out 1).trans rfl; have c2 : w1.cell? ⟨w.heap.size, 2, none⟩ = some (.int .u8 a2) := (blk_cell n0.out 2).trans rfl; have c3 : w1.cell? ⟨w.heap.size, 3, none⟩ = some (.int .u16 a3) := (blk_cell n0.out 3).trans rfl; have c4 : w1.cell? ⟨w.heap.size, 4, none⟩ = some (.bool a4) := (blk_cell n0.out 4).trans rfl; have c5 : w1.cell? ⟨w.heap.size, 5, none⟩ = some (.bool a5) := (blk_cell n0.out 5).trans rfl; have z0 : w1.cell? ⟨(w.heap.size + 1), 0, none⟩ = some (.int .u8 0) := (blk_cell n1.out 0).trans rfl; have z1 : w1.cell? ⟨(w.heap.size + 1), 1, none⟩ = some (.int .u8 0) := (blk_cell n1.out 1).trans rfl; have z2 : w1.cell? ⟨(w.heap.size + 1), 2, none⟩ = some (.int .u8 0) := (blk_cell n1.out 2).trans rfl; have z3 : w1.cell? ⟨(w.heap.size + 1), 3, none⟩ = some (.int .u16 0) := (blk_cell n1.out 3).trans rfl; have z4 : w1.cell? ⟨(w.heap.size + 1), 4, none⟩ = some (.bool false) := (blk_cell n1.out 4).trans rfl; have z5 : w1.cell? ⟨(w.heap.size + 1), 5, none⟩ = some (.bool false) := (blk_cell n1.out 5).trans rfl; have fz := fun i => blk_frozen n0.out i; have fr := fun i => blk_frozen n1.out i))
  have m0 : ((((((w1.setCell ⟨w.heap.size, 0, none⟩ (.int .u8 59)).setCell ⟨w.heap.size, 1, none⟩ (.int .u8 59)).setCell ⟨w.heap.size, 2, none⟩ (.int .u8 h)).setCell ⟨w.heap.size, 3, none⟩ (.int .u16 d)).setCell ⟨w.heap.size, 4, none⟩ (.bool false)).setCell ⟨w.heap.size, 5, none⟩ (.bool cy)).heap[w.heap.size]? = some (.cells #[.int .u8 59, .int .u8 59, .int .u8 h, .int .u16 d, .bool false, .bool cy] 34 (0, 0)) := (by
    have p0 : (w1.setCell ⟨w.heap.size, 0, none⟩ (.int .u8 59)).heap[w.heap.size]? = some (.cells #[.int .u8 59, .int .u8 a1, .int .u8 a2, .int .u16 a3, .bool a4, .bool a5] 34 (0, 0)) := blk_put n0.out 0 _ rfl
    have p1 : ((w1.setCell ⟨w.heap.size, 0, none⟩ (.int .u8 59)).setCell ⟨w.heap.size, 1, none⟩ (.int .u8 59)).heap[w.heap.size]? = some (.cells #[.int .u8 59, .int .u8 59, .int .u8 a2, .int .u16 a3, .bool a4, .bool a5] 34 (0, 0)) := blk_put p0 1 _ rfl
    have p2 : (((w1.setCell ⟨w.heap.size, 0, none⟩ (.int .u8 59)).setCell ⟨w.heap.size, 1, none⟩ (.int .u8 59)).setCell ⟨w.heap.size, 2, none⟩ (.int .u8 h)).heap[w.heap.size]? = some (.cells #[.int .u8 59, .int .u8 59, .int .u8 h, .int .u16 a3, .bool a4, .bool a5] 34 (0, 0)) := blk_put p1 2 _ rfl
    have p3 : ((((w1.setCell ⟨w.heap.size, 0, none⟩ (.int .u8 59)).setCell ⟨w.heap.size, 1, none⟩ (.int .u8 59)).setCell ⟨w.heap.size, 2, none⟩ (.int .u8 h)).setCell ⟨w.heap.size, 3, none⟩ (.int .u16 d)).heap[w.heap.size]? = some (.cells #[.int .u8 59, .int .u8 59, .int .u8 h, .int .u16 d, .bool a4, .bool a5] 34 (0, 0)) := blk_put p2 3 _ rfl
    have p4 : (((((w1.setCell ⟨w.heap.size, 0, none⟩ (.int .u8 59)).setCell ⟨w.heap.size, 1, none⟩ (.int .u8 59)).setCell ⟨w.heap.size, 2, none⟩ (.int .u8 h)).setCell ⟨w.heap.size, 3, none⟩ (.int .u16 d)).setCell ⟨w.heap.size, 4, none⟩ (.bool false)).heap[w.heap.size]? = some (.cells #[.int .u8 59, .int .u8 59, .int .u8 h, .int .u16 d, .bool false, .bool a5] 34 (0, 0)) := blk_put p3 4 _ rfl
    have p5 : ((((((w1.setCell ⟨w.heap.size, 0, none⟩ (.int .u8 59)).setCell ⟨w.heap.size, 1, none⟩ (.int .u8 59)).setCell ⟨w.heap.size, 2, none⟩ (.int .u8 h)).setCell ⟨w.heap.size, 3, none⟩ (.int .u16 d)).setCell ⟨w.heap.size, 4, none⟩ (.bool false)).setCell ⟨w.heap.size, 5, none⟩ (.bool cy)).heap[w.heap.size]? = some (.cells #[.int .u8 59, .int .u8 59, .int .u8 h, .int .u16 d, .bool false, .bool cy] 34 (0, 0)) := blk_put p4 5 _ rfl
    exact p5)
  have m1 : ((((((w1.setCell ⟨w.heap.size, 0, none⟩ (.int .u8 59)).setCell ⟨w.heap.size, 1, none⟩ (.int .u8 59)).setCell ⟨w.heap.size, 2, none⟩ (.int .u8 h)).setCell ⟨w.heap.size, 3, none⟩ (.int .u16 d)).setCell ⟨w.heap.size, 4, none⟩ (.bool false)).setCell ⟨w.heap.size, 5, none⟩ (.bool cy)).heap[w.heap.size + 1]? = some (.cells #[.int .u8 0, .int .u8 0, .int .u8 0, .int .u16 0, .bool false, .bool false] 34 (0, 0)) := (by repeat (first | (with_reducible exact n1.out) | refine blk_far ?_ (by simp) _))
  have m2 : Below w.heap.size w ((((((w1.setCell ⟨w.heap.size, 0, none⟩ (.int .u8 59)).setCell ⟨w.heap.size, 1, none⟩ (.int .u8 59)).setCell ⟨w.heap.size, 2, none⟩ (.int .u8 h)).setCell ⟨w.heap.size, 3, none⟩ (.int .u16 d)).setCell ⟨w.heap.size, 4, none⟩ (.bool false)).setCell ⟨w.heap.size, 5, none⟩ (.bool cy)) := (below_set (below_set (below_set (below_set (below_set (below_set n2.out (Nat.le_refl _)) (Nat.le_refl _)) (Nat.le_refl _)) (Nat.le_refl _)) (Nat.le_refl _)) (Nat.le_refl _))
  generalize ((((((w1.setCell ⟨w.heap.size, 0, none⟩ (.int .u8 59)).setCell ⟨w.heap.size, 1, none⟩ (.int .u8 59)).setCell ⟨w.heap.size, 2, none⟩ (.int .u8 h)).setCell ⟨w.heap.size, 3, none⟩ (.int .u16 d)).setCell ⟨w.heap.size, 4, none⟩ (.bool false)).setCell ⟨w.heap.size, 5, none⟩ (.bool cy)) = X at m0 m1 m2 ⊢
  clear n0 n1 n2 c0 c1 c2 c3 c4 c5 z0 z1 z2 z3 z4 z5 fz fr hz
  have BK := Aside0.mk m0
  have BR := Aside0.mk m1
  have HB := Aside0.mk m2
  clear m0 m1 m2
  have c0 : X.cell? ⟨w.heap.size, 0, none⟩ = some (.int .u8 59) := (blk_cell BK.out 0).trans rfl
  have c1 : X.cell? ⟨w.heap.size, 1, none⟩ = some (.int .u8 59) := (blk_cell BK.out 1).trans rfl
  have c2 : X.cell? ⟨w.heap.size, 2, none⟩ = some (.int .u8 h) := (blk_cell BK.out 2).trans rfl
  have c3 : X.cell? ⟨w.heap.size, 3, none⟩ = some (.int .u16 d) := (blk_cell BK.out 3).trans rfl
  have c4 : X.cell? ⟨w.heap.size, 4, none⟩ = some (.bool false) := (blk_cell BK.out 4).trans rfl
  have c5 : X.cell? ⟨w.heap.size, 5, none⟩ = some (.bool cy) := (blk_cell BK.out 5).trans rfl
  have z0 : X.cell? ⟨(w.heap.size + 1), 0, none⟩ = some (.int .u8 0) := (blk_cell BR.out 0).trans rfl
  have z1 : X.cell? ⟨(w.heap.size + 1), 1, none⟩ = some (.int .u8 0) := (blk_cell BR.out 1).trans rfl
  have z2 : X.cell? ⟨(w.heap.size + 1), 2, none⟩ = some (.int .u8 0) := (blk_cell BR.out 2).trans rfl
  have z3 : X.cell? ⟨(w.heap.size + 1), 3, none⟩ = some (.int .u16 0) := (blk_cell BR.out 3).trans rfl
  have z4 : X.cell? ⟨(w.heap.size + 1), 4, none⟩ = some (.bool false) := (blk_cell BR.out 4).trans rfl
  have z5 : X.cell? ⟨(w.heap.size + 1), 5, none⟩ = some (.bool false) := (blk_cell BR.out 5).trans rfl
  have fz := fun i => blk_frozen BK.out i
  have fr := fun i => blk_frozen BR.out i
  go_step3
  go_wp2
  go_rounds 5
  rw [Exit.noGoto_ret]
  have m1 : (((((((((X.setCell ⟨w.heap.size, 0, none⟩ (.int .u8 0)).setCell ⟨w.heap.size, 1, none⟩ (.int .u8 0)).setCell ⟨w.heap.size, 2, none⟩ (.int .u8 ((h + 1) % 32))).setCell ⟨w.heap.size + 1, 0, none⟩ (.int .u8 0)).setCell ⟨w.heap.size + 1, 1, none⟩ (.int .u8 0)).setCell ⟨w.heap.size + 1, 2, none⟩ (.int .u8 ((h + 1) % 32))).setCell ⟨w.heap.size + 1, 3, none⟩ (.int .u16 d)).setCell ⟨w.heap.size + 1, 4, none⟩ (.bool false)).setCell ⟨w.heap.size + 1, 5, none⟩ (.bool cy)).heap[w.heap.size + 1]? = some (.cells #[.int .u8 0, .int .u8 0, .int .u8 ((h + 1) % 32), .int .u16 d, .bool false, .bool cy] 34 (0, 0)) := (by
    have p0 : ((((X.setCell ⟨w.heap.size, 0, none⟩ (.int .u8 0)).setCell ⟨w.heap.size, 1, none⟩ (.int .u8 0)).setCell ⟨w.heap.size, 2, none⟩ (.int .u8 ((h + 1) % 32))).setCell ⟨w.heap.size + 1, 0, none⟩ (.int .u8 0)).heap[w.heap.size + 1]? = some (.cells #[.int .u8 0, .int .u8 0, .int .u8 0, .int .u16 0, .bool false, .bool false] 34 (0, 0)) := blk_put (by repeat (first | (with_reducible exact BR.out) | refine blk_far ?_ (by simp) _) : (((X.setCell ⟨w.heap.size, 0, none⟩ (.int .u8 0)).setCell ⟨w.heap.size, 1, none⟩ (.int .u8 0)).setCell ⟨w.heap.size, 2, none⟩ (.int .u8 ((h + 1) % 32))).heap[w.heap.size + 1]? = some (.cells #[.int .u8 0, .int .u8 0, .int .u8 0, .int .u16 0, .bool false, .bool false] 34 (0, 0))) 0 _ rfl
    have p1 : (((((X.setCell ⟨w.heap.size, 0, none⟩ (.int .u8 0)).setCell ⟨w.heap.size, 1, none⟩ (.int .u8 0)).setCell ⟨w.heap.size, 2, none⟩ (.int .u8 ((h + 1) % 32))).setCell ⟨w.heap.size + 1, 0, none⟩ (.int .u8 0)).setCell ⟨w.heap.size + 1, 1, none⟩ (.int .u8 0)).heap[w.heap.size + 1]? = some (.cells #[.int .u8 0, .int .u8 0, .int .u8 0, .int .u16 0, .bool false, .bool false] 34 (0, 0)) := blk_put p0 1 _ rfl
    have p2 : ((((((X.setCell ⟨w.heap.size, 0, none⟩ (.int .u8 0)).setCell ⟨w.heap.size, 1, none⟩ (.int .u8 0)).setCell ⟨w.heap.size, 2, none⟩ (.int .u8 ((h + 1) % 32))).setCell ⟨w.heap.size + 1, 0, none⟩ (.int .u8 0)).setCell ⟨w.heap.size + 1, 1, none⟩ (.int .u8 0)).setCell ⟨w.heap.size + 1, 2, none⟩ (.int .u8 ((h + 1) % 32))).heap[w.heap.size + 1]? = some (.cells #[.int .u8 0, .int .u8 0, .int .u8 ((h + 1) % 32), .int .u16 0, .bool false, .bool false] 34 (0, 0)) := blk_put p1 2 _ rfl
    have p3 : (((((((X.setCell ⟨w.heap.size, 0, none⟩ (.int .u8 0)).setCell ⟨w.heap.size, 1, none⟩ (.int .u8 0)).setCell ⟨w.heap.size, 2, none⟩ (.int .u8 ((h + 1) % 32))).setCell ⟨w.heap.size + 1, 0, none⟩ (.int .u8 0)).setCell ⟨w.heap.size + 1, 1, none⟩ (.int .u8 0)).setCell ⟨w.heap.size + 1, 2, none⟩ (.int .u8 ((h + 1) % 32))).setCell ⟨w.heap.size + 1, 3, none⟩ (.int .u16 d)).heap[w.heap.size + 1]? = some (.cells #[.int .u8 0, .int .u8 0, .int .u8 ((h + 1) % 32), .int .u16 d, .bool false, .bool false] 34 (0, 0)) := blk_put p2 3 _ rfl
    have p4 : ((((((((X.setCell ⟨w.heap.size, 0, none⟩ (.int .u8 0)).setCell ⟨w.heap.size, 1, none⟩ (.int .u8 0)).setCell ⟨w.heap.size, 2, none⟩ (.int .u8 ((h + 1) % 32))).setCell ⟨w.heap.size + 1, 0, none⟩ (.int .u8 0)).setCell ⟨w.heap.size + 1, 1, none⟩ (.int .u8 0)).setCell ⟨w.heap.size + 1, 2, none⟩ (.int .u8 ((h + 1) % 32))).setCell ⟨w.heap.size + 1, 3, none⟩ (.int .u16 d)).setCell ⟨w.heap.size + 1, 4, none⟩ (.bool false)).heap[w.heap.size + 1]? = some (.cells #[.int .u8 0, .int .u8 0, .int .u8 ((h + 1) % 32), .int .u16 d, .bool false, .bool false] 34 (0, 0)) := blk_put p3 4 _ rfl
    have p5 : (((((((((X.setCell ⟨w.heap.size, 0, none⟩ (.int .u8 0)).setCell ⟨w.heap.size, 1, none⟩ (.int .u8 0)).setCell ⟨w.heap.size, 2, none⟩ (.int .u8 ((h + 1) % 32))).setCell ⟨w.heap.size + 1, 0, none⟩ (.int .u8 0)).setCell ⟨w.heap.size + 1, 1, none⟩ (.int .u8 0)).setCell ⟨w.heap.size + 1, 2, none⟩ (.int .u8 ((h + 1) % 32))).setCell ⟨w.heap.size + 1, 3, none⟩ (.int .u16 d)).setCell ⟨w.heap.size + 1, 4, none⟩ (.bool false)).setCell ⟨w.heap.size + 1, 5, none⟩ (.bool cy)).heap[w.heap.size + 1]? = some (.cells #[.int .u8 0, .int .u8 0, .int .u8 ((h + 1) % 32), .int .u16 d, .bool false, .bool cy] 34 (0, 0)) := blk_put p4 5 _ rfl
    exact p5)
  have m2 : Below w.heap.size w (((((((((X.setCell ⟨w.heap.size, 0, none⟩ (.int .u8 0)).setCell ⟨w.heap.size, 1, none⟩ (.int .u8 0)).setCell ⟨w.heap.size, 2, none⟩ (.int .u8 ((h + 1) % 32))).setCell ⟨w.heap.size + 1, 0, none⟩ (.int .u8 0)).setCell ⟨w.heap.size + 1, 1, none⟩ (.int .u8 0)).setCell ⟨w.heap.size + 1, 2, none⟩ (.int .u8 ((h + 1) % 32))).setCell ⟨w.heap.size + 1, 3, none⟩ (.int .u16 d)).setCell ⟨w.heap.size + 1, 4, none⟩ (.bool false)).setCell ⟨w.heap.size + 1, 5, none⟩ (.bool cy)) := (below_set (below_set (below_set (below_set (below_set (below_set (below_set (below_set (below_set HB.out (Nat.le_refl _)) (Nat.le_refl _)) (Nat.le_refl _)) (Nat.le_succ _)) (Nat.le_succ _)) (Nat.le_succ _)) (Nat.le_succ _)) (Nat.le_succ _)) (Nat.le_succ _))
  generalize (((((((((X.setCell ⟨w.heap.size, 0, none⟩ (.int .u8 0)).setCell ⟨w.heap.size, 1, none⟩ (.int .u8 0)).setCell ⟨w.heap.size, 2, none⟩ (.int .u8 ((h + 1) % 32))).setCell ⟨w.heap.size + 1, 0, none⟩ (.int .u8 0)).setCell ⟨w.heap.size + 1, 1, none⟩ (.int .u8 0)).setCell ⟨w.heap.size + 1, 2, none⟩ (.int .u8 ((h + 1) % 32))).setCell ⟨w.heap.size + 1, 3, none⟩ (.int .u16 d)).setCell ⟨w.heap.size + 1, 4, none⟩ (.bool false)).setCell ⟨w.heap.size + 1, 5, none⟩ (.bool cy)) = Y at m1 m2 ⊢
  have u0 : Y.cell? ⟨w.heap.size + 1, 0, none⟩ = some (.int .u8 0) := (blk_cell m1 0).trans rfl
  have u1 : Y.cell? ⟨w.heap.size + 1, 1, none⟩ = some (.int .u8 0) := (blk_cell m1 1).trans rfl
  have u2 : Y.cell? ⟨w.heap.size + 1, 2, none⟩ = some (.int .u8 ((h + 1) % 32)) := (blk_cell m1 2).trans rfl
  have u3 : Y.cell? ⟨w.heap.size + 1, 3, none⟩ = some (.int .u16 d) := (blk_cell m1 3).trans rfl
  have u4 : Y.cell? ⟨w.heap.size + 1, 4, none⟩ = some (.bool false) := (blk_cell m1 4).trans rfl
  have u5 : Y.cell? ⟨w.heap.size + 1, 5, none⟩ = some (.bool cy) := (blk_cell m1 5).trans rfl
  exact bodyPost_ret (v := .agg #[.int .u8 0, .int .u8 0, .int .u8 ((h + 1) % 32), .int .u16 d, .bool false, .bool cy]) (by simp [results, Try.results46, go_sem, u0, u1, u2, u3, u4, u5]) rfl ⟨rfl, m2⟩
set_option maxRecDepth 100000 in
set_option maxHeartbeats 4000000 in
theorem tick_day1 (a0 a1 a2 a3 : Int) (a4 a5 : Bool) (d : Int) (hn : clock_Norm.f a0 a1 a2 a3 a4 a5 = some (59, 59, 23, d, false, true))  (w : World) :
    Calls Try.prog 46 #[.agg #[.int .u8 a0, .int .u8 a1, .int .u8 a2, .int .u16 a3, .bool a4, .bool a5]] w fun e' w' => e' = .returned (.agg #[.int .u8 0, .int .u8 0, .int .u8 0, .int .u16 (Go.bits .and .u16 (IntKind.u16.wrap (d + 1)) 511), .bool false, .bool true]) ∧ Below w.heap.size w w' := by
  have HN := Aside0.mk hn
  clear hn
  go_enter Try.func46, Try.ntmps46
  go_wp2_with fail
  have BK := Aside0.mk (blk_alloc (blk_new w (.cells #[.int .u8 a0, .int .u8 a1, .int .u8 a2, .int .u16 a3, .bool a4, .bool a5] 34)) (.cells #[.int .u8 0, .int .u8 0, .int .u8 0, .int .u16 0, .bool false, .bool false] 34))
  have e1 : (w.alloc (.cells #[.int .u8 a0, .int .u8 a1, .int .u8 a2, .int .u16 a3, .bool a4, .bool a5] 34)).heap.size = w.heap.size + 1 := by simp
  have zN := heap_alloc_new (w.alloc (.cells #[.int .u8 a0, .int .u8 a1, .int .u8 a2, .int .u16 a3, .bool a4, .bool a5] 34)) (.cells #[.int .u8 0, .int .u8 0, .int .u8 0, .int .u16 0, .bool false, .bool false] 34)
  rw [e1] at zN
  have BR := Aside0.mk zN
  have HB := Aside0.mk (below_alloc (below_alloc (Below.refl w.heap.size w) (.cells #[.int .u8 a0, .int .u8 a1, .int .u8 a2, .int .u16 a3, .bool a4, .bool a5] 34)) (.cells #[.int .u8 0, .int .u8 0, .int .u8 0, .int .u16 0, .bool false, .bool false] 34))
  clear zN e1
  have hz : ((w.alloc (.cells #[.int .u8 a0, .int .u8 a1, .int .u8 a2, .int .u16 a3, .bool a4, .bool a5] 34)).alloc (.cells #[.int .u8 0, .int .u8 0, .int .u8 0, .int .u16 0, .bool false, .bool false] 34)).heap.size = w.heap.size + 2 := by simp
  generalize (w.alloc (.cells #[.int .u8 a0, .int .u8 a1, .int .u8 a2, .int .u16 a3, .bool a4, .bool a5] 34)).alloc (.cells #[.int .u8 0, .int .u8 0, .int .u8 0, .int .u16 0, .bool false, .bool false] 34) = W at *
  have c0 : W.cell? ⟨w.heap.size, 0, none⟩ = some (.int .u8 a0) := (blk_cell BK.out 0).trans rfl
  have c1 : W.cell? ⟨w.heap.size, 1, none⟩ = some (.int .u8 a1) := (blk_cell BK.out 1).trans rfl
  have c2 : W.cell? ⟨w.heap.size, 2, none⟩ = some (.int .u8 a2) := (blk_cell BK.out 2).trans rfl
  have c3 : W.cell? ⟨w.heap.size, 3, none⟩ = some (.int .u16 a3) := (blk_cell BK.out 3).trans rfl
  have c4 : W.cell? ⟨w.heap.size, 4, none⟩ = some (.bool a4) := (blk_cell BK.out 4).trans rfl
  have c5 : W.cell? ⟨w.heap.size, 5, none⟩ = some (.bool a5) := (blk_cell BK.out 5).trans rfl
  have fz := fun i => blk_frozen BK.out i
  go_step3
  go_wp2_with (first | (go_at_call 66; ((with_reducible refine (clock_Norm.calls a0 a1 a2 a3 a4 a5 (59) (59) (23) (d) (false) (true) _ HN.out).mono ?_)); rintro e' w1 ⟨rfl, hb⟩; have n0 := Aside0.mk ((hb.block w.heap.size (by rw [hz]; omega)).trans BK.out); have n1 := Aside0.mk ((hb.block (w.heap.size + 1) (by rw [hz]; omega)).trans BR.out); have n2 := Aside0.mk (Below.trans HB.out (hb.mono (by rw [hz]; omega))); clear hb BK BR HB c0 c1 c2 c3 c4 c5 fz; have c0 : w1.cell? ⟨w.heap.size, 0, none⟩ = some (.int .u8 a0) := (blk_cell n0.out 0).trans rfl; have c1 : w1.cell? ⟨w.heap.size, 1, none⟩ = some (.int .u8 a1) := (blk_cell n0.out 1).trans rfl; have c2 : w1.cell? ⟨w.heap.size, 2, none⟩ = some (.int .u8 a2) := (blk_cell n0.out 2).trans rfl; have c3 : w1.cell? ⟨w.heap.size, 3, none⟩ = some (.int .u16 a3) := (blk_cell n0.out 3).trans rfl; have c4 : w1.cell? ⟨w.heap.size, 4, none⟩ = some (.bool a4) := (blk_cell n0.out 4).trans rfl; have c5 : w1.cell? ⟨w.heap.size, 5, none⟩ = some (.bool a5) := (blk_cell n0.out 5).trans rfl; have z0 : w1.cell? ⟨(w.heap.size + 1), 0, none⟩ = some (.int .u8 0) := (blk_cell n1.out 0).trans rfl; have z1 : w1.cell? ⟨(w.heap.size + 1), 1, none⟩ = some (.int .u8 0) := (blk_cell n1.out 1).trans rfl; have z2 : w1.cell? ⟨(w.heap.size + 1), 2, none⟩ = some (.int .u8 0) := (blk_cell n1.out 2).trans rfl; have z3 : w1.cell? ⟨(w.heap.size + 1), 3, none⟩ = some (.int .u16 0) := (blk_cell n1.out 3).trans rfl; have z4 : w1.cell? ⟨(w.heap.size + 1), 4, none⟩ = some (.bool false) := (blk_cell n1.out 4).trans rfl; have z5 : w1.cell? ⟨(w.heap.size + 1), 5, none⟩ = some (.bool false) := (blk_cell n1.out 5).trans rfl; have fz := fun i => blk_frozen n0.out i; have fr := fun i => blk_frozen n1.out i))
  have m0 : ((((((w1.setCell ⟨w.heap.size, 0, none⟩ (.int .u8 59)).setCell ⟨w.heap.size, 1, none⟩ (.int .u8 59)).setCell ⟨w.heap.size, 2, none⟩ (.int .u8 23)).setCell ⟨w.heap.size, 3, none⟩ (.int .u16 d)).setCell ⟨w.heap.size, 4, none⟩ (.bool false)).setCell ⟨w.heap.size, 5, none⟩ (.bool true)).heap[w.heap.size]? = some (.cells #[.int .u8 59, .int .u8 59, .int .u8 23, .int .u16 d, .bool false, .bool true] 34 (0, 0)) := (by
    have p0 : (w1.setCell ⟨w.heap.size, 0, none⟩ (.int .u8 59)).heap[w.heap.size]? = some (.cells #[.int .u8 59, .int .u8 a1, .int .u8 a2, .int .u16 a3, .bool a4, .bool a5] 34 (0, 0)) := blk_put n0.out 0 _ rfl
    have p1 : ((w1.setCell ⟨w.heap.size, 0, none⟩ (.int .u8 59)).setCell ⟨w.heap.size, 1, none⟩ (.int .u8 59)).heap[w.heap.size]? = some (.cells #[.int .u8 59, .int .u8 59, .int .u8 a2, .int .u16 a3, .bool a4, .bool a5] 34 (0, 0)) := blk_put p0 1 _ rfl
    have p2 : (((w1.setCell ⟨w.heap.size, 0, none⟩ (.int .u8 59)).setCell ⟨w.heap.size, 1, none⟩ (.int .u8 59)).setCell ⟨w.heap.size, 2, none⟩ (.int .u8 23)).heap[w.heap.size]? = some (.cells #[.int .u8 59, .int .u8 59, .int .u8 23, .int .u16 a3, .bool a4, .bool a5] 34 (0, 0)) := blk_put p1 2 _ rfl
    have p3 : ((((w1.setCell ⟨w.heap.size, 0, none⟩ (.int .u8 59)).setCell ⟨w.heap.size, 1, none⟩ (.int .u8 59)).setCell ⟨w.heap.size, 2, none⟩ (.int .u8 23)).setCell ⟨w.heap.size, 3, none⟩ (.int .u16 d)).heap[w.heap.size]? = some (.cells #[.int .u8 59, .int .u8 59, .int .u8 23, .int .u16 d, .bool a4, .bool a5] 34 (0, 0)) := blk_put p2 3 _ rfl
    have p4 : (((((w1.setCell ⟨w.heap.size, 0, none⟩ (.int .u8 59)).setCell ⟨w.heap.size, 1, none⟩ (.int .u8 59)).setCell ⟨w.heap.size, 2, none⟩ (.int .u8 23)).setCell ⟨w.heap.size, 3, none⟩ (.int .u16 d)).setCell ⟨w.heap.size, 4, none⟩ (.bool false)).heap[w.heap.size]? = some (.cells #[.int .u8 59, .int .u8 59, .int .u8 23, .int .u16 d, .bool false, .bool a5] 34 (0, 0)) := blk_put p3 4 _ rfl
    have p5 : ((((((w1.setCell ⟨w.heap.size, 0, none⟩ (.int .u8 59)).setCell ⟨w.heap.size, 1, none⟩ (.int .u8 59)).setCell ⟨w.heap.size, 2, none⟩ (.int .u8 23)).setCell ⟨w.heap.size, 3, none⟩ (.int .u16 d)).setCell ⟨w.heap.size, 4, none⟩ (.bool false)).setCell ⟨w.heap.size, 5, none⟩ (.bool true)).heap[w.heap.size]? = some (.cells #[.int .u8 59, .int .u8 59, .int .u8 23, .int .u16 d, .bool false, .bool true] 34 (0, 0)) := blk_put p4 5 _ rfl
    exact p5)
  have m1 : ((((((w1.setCell ⟨w.heap.size, 0, none⟩ (.int .u8 59)).setCell ⟨w.heap.size, 1, none⟩ (.int .u8 59)).setCell ⟨w.heap.size, 2, none⟩ (.int .u8 23)).setCell ⟨w.heap.size, 3, none⟩ (.int .u16 d)).setCell ⟨w.heap.size, 4, none⟩ (.bool false)).setCell ⟨w.heap.size, 5, none⟩ (.bool true)).heap[w.heap.size + 1]? = some (.cells #[.int .u8 0, .int .u8 0, .int .u8 0, .int .u16 0, .bool false, .bool false] 34 (0, 0)) := (by repeat (first | (with_reducible exact n1.out) | refine blk_far ?_ (by simp) _))
  have m2 : Below w.heap.size w ((((((w1.setCell ⟨w.heap.size, 0, none⟩ (.int .u8 59)).setCell ⟨w.heap.size, 1, none⟩ (.int .u8 59)).setCell ⟨w.heap.size, 2, none⟩ (.int .u8 23)).setCell ⟨w.heap.size, 3, none⟩ (.int .u16 d)).setCell ⟨w.heap.size, 4, none⟩ (.bool false)).setCell ⟨w.heap.size, 5, none⟩ (.bool true)) := (below_set (below_set (below_set (below_set (below_set (below_set n2.out (Nat.le_refl _)) (Nat.le_refl _)) (Nat.le_refl _)) (Nat.le_refl _)) (Nat.le_refl _)) (Nat.le_refl _))
  generalize ((((((w1.setCell ⟨w.heap.size, 0, none⟩ (.int .u8 59)).setCell ⟨w.heap.size, 1, none⟩ (.int .u8 59)).setCell ⟨w.heap.size, 2, none⟩ (.int .u8 23)).setCell ⟨w.heap.size, 3, none⟩ (.int .u16 d)).setCell ⟨w.heap.size, 4, none⟩ (.bool false)).setCell ⟨w.heap.size, 5, none⟩ (.bool true)) = X at m0 m1 m2 ⊢
  clear n0 n1 n2 c0 c1 c2 c3 c4 c5 z0 z1 z2 z3 z4 z5 fz fr hz
  have BK := Aside0.mk m0
  have BR := Aside0.mk m1
  have HB := Aside0.mk m2
  clear m0 m1 m2
  have c0 : X.cell? ⟨w.heap.size, 0, none⟩ = some (.int .u8 59) := (blk_cell BK.out 0).trans rfl
  have c1 : X.cell? ⟨w.heap.size, 1, none⟩ = some (.int .u8 59) := (blk_cell BK.out 1).trans rfl
  have c2 : X.cell? ⟨w.heap.size, 2, none⟩ = some (.int .u8 23) := (blk_cell BK.out 2).trans rfl
  have c3 : X.cell? ⟨w.heap.size, 3, none⟩ = some (.int .u16 d) := (blk_cell BK.out 3).trans rfl
  have c4 : X.cell? ⟨w.heap.size, 4, none⟩ = some (.bool false) := (blk_cell BK.out 4).trans rfl
  have c5 : X.cell? ⟨w.heap.size, 5, none⟩ = some (.bool true) := (blk_cell BK.out 5).trans rfl
  have z0 : X.cell? ⟨(w.heap.size + 1), 0, none⟩ = some (.int .u8 0) := (blk_cell BR.out 0).trans rfl
  have z1 : X.cell? ⟨(w.heap.size + 1), 1, none⟩ = some (.int .u8 0) := (blk_cell BR.out 1).trans rfl
  have z2 : X.cell? ⟨(w.heap.size + 1), 2, none⟩ = some (.int .u8 0) := (blk_cell BR.out 2).trans rfl
  have z3 : X.cell? ⟨(w.heap.size + 1), 3, none⟩ = some (.int .u16 0) := (blk_cell BR.out 3).trans rfl
  have z4 : X.cell? ⟨(w.heap.size + 1), 4, none⟩ = some (.bool false) := (blk_cell BR.out 4).trans rfl
  have z5 : X.cell? ⟨(w.heap.size + 1), 5, none⟩ = some (.bool false) := (blk_cell BR.out 5).trans rfl
  have fz := fun i => blk_frozen BK.out i
  have fr := fun i => blk_frozen BR.out i
  go_step3
  go_wp2
  go_rounds 5
  rw [Exit.noGoto_ret]
  have m1 : (((((((((((X.setCell ⟨w.heap.size, 0, none⟩ (.int .u8 0)).setCell ⟨w.heap.size, 1, none⟩ (.int .u8 0)).setCell ⟨w.heap.size, 2, none⟩ (.int .u8 0)).setCell ⟨w.heap.size, 5, none⟩ (.bool true)).setCell ⟨w.heap.size, 3, none⟩ (.int .u16 (Go.bits .and .u16 (IntKind.u16.wrap (d + 1)) 511))).setCell ⟨w.heap.size + 1, 0, none⟩ (.int .u8 0)).setCell ⟨w.heap.size + 1, 1, none⟩ (.int .u8 0)).setCell ⟨w.heap.size + 1, 2, none⟩ (.int .u8 0)).setCell ⟨w.heap.size + 1, 3, none⟩ (.int .u16 (Go.bits .and .u16 (IntKind.u16.wrap (d + 1)) 511))).setCell ⟨w.heap.size + 1, 4, none⟩ (.bool false)).setCell ⟨w.heap.size + 1, 5, none⟩ (.bool true)).heap[w.heap.size + 1]? = some (.cells #[.int .u8 0, .int .u8 0, .int .u8 0, .int .u16 (Go.bits .and .u16 (IntKind.u16.wrap (d + 1)) 511), .bool false, .bool true] 34 (0, 0)) := (by
    have p0 : ((((((X.setCell ⟨w.heap.size, 0, none⟩ (.int .u8 0)).setCell ⟨w.heap.size, 1, none⟩ (.int .u8 0)).setCell ⟨w.heap.size, 2, none⟩ (.int .u8 0)).setCell ⟨w.heap.size, 5, none⟩ (.bool true)).setCell ⟨w.heap.size, 3, none⟩ (.int .u16 (Go.bits .and .u16 (IntKind.u16.wrap (d + 1)) 511))).setCell ⟨w.heap.size + 1, 0, none⟩ (.int .u8 0)).heap[w.heap.size + 1]? = some (.cells #[.int .u8 0, .int .u8 0, .int .u8 0, .int .u16 0, .bool false, .bool false] 34 (0, 0)) := blk_put (by repeat (first | (with_reducible exact BR.out) | refine blk_far ?_ (by simp) _) : (((((X.setCell ⟨w.heap.size, 0, none⟩ (.int .u8 0)).setCell ⟨w.heap.size, 1, none⟩ (.int .u8 0)).setCell ⟨w.heap.size, 2, none⟩ (.int .u8 0)).setCell ⟨w.heap.size, 5, none⟩ (.bool true)).setCell ⟨w.heap.size, 3, none⟩ (.int .u16 (Go.bits .and .u16 (IntKind.u16.wrap (d + 1)) 511))).heap[w.heap.size + 1]? = some (.cells #[.int .u8 0, .int .u8 0, .int .u8 0, .int .u16 0, .bool false, .bool false] 34 (0, 0))) 0 _ rfl
    have p1 : (((((((X.setCell ⟨w.heap.size, 0, none⟩ (.int .u8 0)).setCell ⟨w.heap.size, 1, none⟩ (.int .u8 0)).setCell ⟨w.heap.size, 2, none⟩ (.int .u8 0)).setCell ⟨w.heap.size, 5, none⟩ (.bool true)).setCell ⟨w.heap.size, 3, none⟩ (.int .u16 (Go.bits .and .u16 (IntKind.u16.wrap (d + 1)) 511))).setCell ⟨w.heap.size + 1, 0, none⟩ (.int .u8 0)).setCell ⟨w.heap.size + 1, 1, none⟩ (.int .u8 0)).heap[w.heap.size + 1]? = some (.cells #[.int .u8 0, .int .u8 0, .int .u8 0, .int .u16 0, .bool false, .bool false] 34 (0, 0)) := blk_put p0 1 _ rfl
    have p2 : ((((((((X.setCell ⟨w.heap.size, 0, none⟩ (.int .u8 0)).setCell ⟨w.heap.size, 1, none⟩ (.int .u8 0)).setCell ⟨w.heap.size, 2, none⟩ (.int .u8 0)).setCell ⟨w.heap.size, 5, none⟩ (.bool true)).setCell ⟨w.heap.size, 3, none⟩ (.int .u16 (Go.bits .and .u16 (IntKind.u16.wrap (d + 1)) 511))).setCell ⟨w.heap.size + 1, 0, none⟩ (.int .u8 0)).setCell ⟨w.heap.size + 1, 1, none⟩ (.int .u8 0)).setCell ⟨w.heap.size + 1, 2, none⟩ (.int .u8 0)).heap[w.heap.size + 1]? = some (.cells #[.int .u8 0, .int .u8 0, .int .u8 0, .int .u16 0, .bool false, .bool false] 34 (0, 0)) := blk_put p1 2 _ rfl
    have p3 : (((((((((X.setCell ⟨w.heap.size, 0, none⟩ (.int .u8 0)).setCell ⟨w.heap.size, 1, none⟩ (.int .u8 0)).setCell ⟨w.heap.size, 2, none⟩ (.int .u8 0)).setCell ⟨w.heap.size, 5, none⟩ (.bool true)).setCell ⟨w.heap.size, 3, none⟩ (.int .u16 (Go.bits .and .u16 (IntKind.u16.wrap (d + 1)) 511))).setCell ⟨w.heap.size + 1, 0, none⟩ (.int .u8 0)).setCell ⟨w.heap.size + 1, 1, none⟩ (.int .u8 0)).setCell ⟨w.heap.size + 1, 2, none⟩ (.int .u8 0)).setCell ⟨w.heap.size + 1, 3, none⟩ (.int .u16 (Go.bits .and .u16 (IntKind.u16.wrap (d + 1)) 511))).heap[w.heap.size + 1]? = some (.cells #[.int .u8 0, .int .u8 0, .int .u8 0, .int .u16 (Go.bits .and .u16 (IntKind.u16.wrap (d + 1)) 511), .bool false, .bool false] 34 (0, 0)) := blk_put p2 3 _ rfl
    have p4 : ((((((((((X.setCell ⟨w.heap.size, 0, none⟩ (.int .u8 0)).setCell ⟨w.heap.size, 1, none⟩ (.int .u8 0)).setCell ⟨w.heap.size, 2, none⟩ (.int .u8 0)).setCell ⟨w.heap.size, 5, none⟩ (.bool true)).setCell ⟨w.heap.size, 3, none⟩ (.int .u16 (Go.bits .and .u16 (IntKind.u16.wrap (d + 1)) 511))).setCell ⟨w.heap.size + 1, 0, none⟩ (.int .u8 0)).setCell ⟨w.heap.size + 1, 1, none⟩ (.int .u8 0)).setCell ⟨w.heap.size + 1, 2, none⟩ (.int .u8 0)).setCell ⟨w.heap.size + 1, 3, none⟩ (.int .u16 (Go.bits .and .u16 (IntKind.u16.wrap (d + 1)) 511))).setCell ⟨w.heap.size + 1, 4, none⟩ (.bool false)).heap[w.heap.size + 1]? = some (.cells #[.int .u8 0, .int .u8 0, .int .u8 0, .int .u16 (Go.bits .and .u16 (IntKind.u16.wrap (d + 1)) 511), .bool false, .bool false] 34 (0, 0)) := blk_put p3 4 _ rfl
    have p5 : (((((((((((X.setCell ⟨w.heap.size, 0, none⟩ (.int .u8 0)).setCell ⟨w.heap.size, 1, none⟩ (.int .u8 0)).setCell ⟨w.heap.size, 2, none⟩ (.int .u8 0)).setCell ⟨w.heap.size, 5, none⟩ (.bool true)).setCell ⟨w.heap.size, 3, none⟩ (.int .u16 (Go.bits .and .u16 (IntKind.u16.wrap (d + 1)) 511))).setCell ⟨w.heap.size + 1, 0, none⟩ (.int .u8 0)).setCell ⟨w.heap.size + 1, 1, none⟩ (.int .u8 0)).setCell ⟨w.heap.size + 1, 2, none⟩ (.int .u8 0)).setCell ⟨w.heap.size + 1, 3, none⟩ (.int .u16 (Go.bits .and .u16 (IntKind.u16.wrap (d + 1)) 511))).setCell ⟨w.heap.size + 1, 4, none⟩ (.bool false)).setCell ⟨w.heap.size + 1, 5, none⟩ (.bool true)).heap[w.heap.size + 1]? = some (.cells #[.int .u8 0, .int .u8 0, .int .u8 0, .int .u16 (Go.bits .and .u16 (IntKind.u16.wrap (d + 1)) 511), .bool false, .bool true] 34 (0, 0)) := blk_put p4 5 _ rfl
    exact p5)
  have m2 : Below w.heap.size w (((((((((((X.setCell ⟨w.heap.size, 0, none⟩ (.int .u8 0)).setCell ⟨w.heap.size, 1, none⟩ (.int .u8 0)).setCell ⟨w.heap.size, 2, none⟩ (.int .u8 0)).setCell ⟨w.heap.size, 5, none⟩ (.bool true)).setCell ⟨w.heap.size, 3, none⟩ (.int .u16 (Go.bits .and .u16 (IntKind.u16.wrap (d + 1)) 511))).setCell ⟨w.heap.size + 1, 0, none⟩ (.int .u8 0)).setCell ⟨w.heap.size + 1, 1, none⟩ (.int .u8 0)).setCell ⟨w.heap.size + 1, 2, none⟩ (.int .u8 0)).setCell ⟨w.heap.size + 1, 3, none⟩ (.int .u16 (Go.bits .and .u16 (IntKind.u16.wrap (d + 1)) 511))).setCell ⟨w.heap.size + 1, 4, none⟩ (.bool false)).setCell ⟨w.heap.size + 1, 5, none⟩ (.bool true)) := (below_set (below_set (below_set (below_set (below_set (below_set (below_set (below_set (below_set (below_set (below_set HB.out (Nat.le_refl _)) (Nat.le_refl _)) (Nat.le_refl _)) (Nat.le_refl _)) (Nat.le_refl _)) (Nat.le_succ _)) (Nat.le_succ _)) (Nat.le_succ _)) (Nat.le_succ _)) (Nat.le_succ _)) (Nat.le_succ _))
  generalize (((((((((((X.setCell ⟨w.heap.size, 0, none⟩ (.int .u8 0)).setCell ⟨w.heap.size, 1, none⟩ (.int .u8 0)).setCell ⟨w.heap.size, 2, none⟩ (.int .u8 0)).setCell ⟨w.heap.size, 5, none⟩ (.bool true)).setCell ⟨w.heap.size, 3, none⟩ (.int .u16 (Go.bits .and .u16 (IntKind.u16.wrap (d + 1)) 511))).setCell ⟨w.heap.size + 1, 0, none⟩ (.int .u8 0)).setCell ⟨w.heap.size + 1, 1, none⟩ (.int .u8 0)).setCell ⟨w.heap.size + 1, 2, none⟩ (.int .u8 0)).setCell ⟨w.heap.size + 1, 3, none⟩ (.int .u16 (Go.bits .and .u16 (IntKind.u16.wrap (d + 1)) 511))).setCell ⟨w.heap.size + 1, 4, none⟩ (.bool false)).setCell ⟨w.heap.size + 1, 5, none⟩ (.bool true)) = Y at m1 m2 ⊢
  have u0 : Y.cell? ⟨w.heap.size + 1, 0, none⟩ = some (.int .u8 0) := (blk_cell m1 0).trans rfl
  have u1 : Y.cell? ⟨w.heap.size + 1, 1, none⟩ = some (.int .u8 0) := (blk_cell m1 1).trans rfl
  have u2 : Y.cell? ⟨w.heap.size + 1, 2, none⟩ = some (.int .u8 0) := (blk_cell m1 2).trans rfl
  have u3 : Y.cell? ⟨w.heap.size + 1, 3, none⟩ = some (.int .u16 (Go.bits .and .u16 (IntKind.u16.wrap (d + 1)) 511)) := (blk_cell m1 3).trans rfl
  have u4 : Y.cell? ⟨w.heap.size + 1, 4, none⟩ = some (.bool false) := (blk_cell m1 4).trans rfl
  have u5 : Y.cell? ⟨w.heap.size + 1, 5, none⟩ = some (.bool true) := (blk_cell m1 5).trans rfl
  exact bodyPost_ret (v := .agg #[.int .u8 0, .int .u8 0, .int .u8 0, .int .u16 (Go.bits .and .u16 (IntKind.u16.wrap (d + 1)) 511), .bool false, .bool true]) (by simp [results, Try.results46, go_sem, u0, u1, u2, u3, u4, u5]) rfl ⟨rfl, m2⟩
set_option maxRecDepth 100000 in
set_option maxHeartbeats 4000000 in
theorem tick_day0 (a0 a1 a2 a3 : Int) (a4 a5 : Bool) (d : Int) (hn : clock_Norm.f a0 a1 a2 a3 a4 a5 = some (59, 59, 23, d, false, false))  (w : World) :
    Calls Try.prog 46 #[.agg #[.int .u8 a0, .int .u8 a1, .int .u8 a2, .int .u16 a3, .bool a4, .bool a5]] w fun e' w' => e' = .returned (.agg #[.int .u8 0, .int .u8 0, .int .u8 0, .int .u16 (Go.bits .and .u16 (IntKind.u16.wrap (d + 1)) 511), .bool false, .bool (d == 511)]) ∧ Below w.heap.size w w' := by
  have HN := Aside0.mk hn
  clear hn
  go_enter Try.func46, Try.ntmps46
  go_wp2_with fail
  have BK := Aside0.mk (blk_alloc (blk_new w (.cells #[.int .u8 a0, .int .u8 a1, .int .u8 a2, .int .u16 a3, .bool a4, .bool a5] 34)) (.cells #[.int .u8 0, .int .u8 0, .int .u8 0, .int .u16 0, .bool false, .bool false] 34))
  have e1 : (w.alloc (.cells #[.int .u8 a0, .int .u8 a1, .int .u8 a2, .int .u16 a3, .bool a4, .bool a5] 34)).heap.size = w.heap.size + 1 := by simp
  have zN := heap_alloc_new (w.alloc (.cells #[.int .u8 a0, .int .u8 a1, .int .u8 a2, .int .u16 a3, .bool a4, .bool a5] 34)) (.cells #[.int .u8 0, .int .u8 0, .int .u8 0, .int .u16 0, .bool false, .bool false] 34)
  rw [e1] at zN
  have BR := Aside0.mk zN
  have HB := Aside0.mk (below_alloc (below_alloc (Below.refl w.heap.size w) (.cells #[.int .u8 a0, .int .u8 a1, .int .u8 a2, .int .u16 a3, .bool a4, .bool a5] 34)) (.cells #[.int .u8 0, .int .u8 0, .int .u8 0, .int .u16 0, .bool false, .bool false] 34))
  clear zN e1
  have hz : ((w.alloc (.cells #[.int .u8 a0, .int .u8 a1, .int .u8 a2, .int .u16 a3, .bool a4, .bool a5] 34)).alloc (.cells #[.int .u8 0, .int .u8 0, .int .u8 0, .int .u16 0, .bool false, .bool false] 34)).heap.size = w.heap.size + 2 := by simp
  generalize (w.alloc (.cells #[.int .u8 a0, .int .u8 a1, .int .u8 a2, .int .u16 a3, .bool a4, .bool a5] 34)).alloc (.cells #[.int .u8 0, .int .u8 0, .int .u8 0, .int .u16 0, .bool false, .bool false] 34) = W at *
  have c0 : W.cell? ⟨w.heap.size, 0, none⟩ = some (.int .u8 a0) := (blk_cell BK.out 0).trans rfl
  have c1 : W.cell? ⟨w.heap.size, 1, none⟩ = some (.int .u8 a1) := (blk_cell BK.out 1).trans rfl
  have c2 : W.cell? ⟨w.heap.size, 2, none⟩ = some (.int .u8 a2) := (blk_cell BK.out 2).trans rfl
  have c3 : W.cell? ⟨w.heap.size, 3, none⟩ = some (.int .u16 a3) := (blk_cell BK.out 3).trans rfl
  have c4 : W.cell? ⟨w.heap.size, 4, none⟩ = some (.bool a4) := (blk_cell BK.out 4).trans rfl
  have c5 : W.cell? ⟨w.heap.size, 5, none⟩ = some (.bool a5) := (blk_cell BK.out 5).trans rfl
  have fz := fun i => blk_frozen BK.out i
  go_step3
  go_wp2_with (first | (go_at_call 66; ((with_reducible refine (clock_Norm.calls a0 a1 a2 a3 a4 a5 (59) (59) (23) (d) (false) (false) _ HN.out).mono ?_)); rintro e' w1 ⟨rfl, hb⟩; have n0 := Aside0.mk ((hb.block w.heap.size (by rw [hz]; omega)).trans BK.out); have n1 := Aside0.mk ((hb.block (w.heap.size + 1) (by rw [hz]; omega)).trans BR.out); have n2 := Aside0.mk (Below.trans HB.out (hb.mono (by rw [hz]; omega))); clear hb BK BR HB c0 c1 c2 c3 c4 c5 fz; have c0 : w1.cell? ⟨w.heap.size, 0, none⟩ = some (.int .u8 a0) := (blk_cell n0.out 0).trans rfl; have c1 : w1.cell? ⟨w.heap.size, 1, none⟩ = some (.int .u8 a1) := (blk_cell n0.out 1).trans rfl; have c2 : w1.cell? ⟨w.heap.size, 2, none⟩ = some (.int .u8 a2) := (blk_cell n0.out 2).trans rfl; have c3 : w1.cell? ⟨w.heap.size, 3, none⟩ = some (.int .u16 a3) := (blk_cell n0.out 3).trans rfl; have c4 : w1.cell? ⟨w.heap.size, 4, none⟩ = some (.bool a4) := (blk_cell n0.out 4).trans rfl; have c5 : w1.cell? ⟨w.heap.size, 5, none⟩ = some (.bool a5) := (blk_cell n0.out 5).trans rfl; have z0 : w1.cell? ⟨(w.heap.size + 1), 0, none⟩ = some (.int .u8 0) := (blk_cell n1.out 0).trans rfl; have z1 : w1.cell? ⟨(w.heap.size + 1), 1, none⟩ = some (.int .u8 0) := (blk_cell n1.out 1).trans rfl; have z2 : w1.cell? ⟨(w.heap.size + 1), 2, none⟩ = some (.int .u8 0) := (blk_cell n1.out 2).trans rfl; have z3 : w1.cell? ⟨(w.heap.size + 1), 3, none⟩ = some (.int .u16 0) := (blk_cell n1.out 3).trans rfl; have z4 : w1.cell? ⟨(w.heap.size + 1), 4, none⟩ = some (.bool false) := (blk_cell n1.out 4).trans rfl; have z5 : w1.cell? ⟨(w.heap.size + 1), 5, none⟩ = some (.bool false) := (blk_cell n1.out 5).trans rfl; have fz := fun i => blk_frozen n0.out i; have fr := fun i => blk_frozen n1.out i))
  have m0 : ((((((w1.setCell ⟨w.heap.size, 0, none⟩ (.int .u8 59)).setCell ⟨w.heap.size, 1, none⟩ (.int .u8 59)).setCell ⟨w.heap.size, 2, none⟩ (.int .u8 23)).setCell ⟨w.heap.size, 3, none⟩ (.int .u16 d)).setCell ⟨w.heap.size, 4, none⟩ (.bool false)).setCell ⟨w.heap.size, 5, none⟩ (.bool false)).heap[w.heap.size]? = some (.cells #[.int .u8 59, .int .u8 59, .int .u8 23, .int .u16 d, .bool false, .bool false] 34 (0, 0)) := (by
    have p0 : (w1.setCell ⟨w.heap.size, 0, none⟩ (.int .u8 59)).heap[w.heap.size]? = some (.cells #[.int .u8 59, .int .u8 a1, .int .u8 a2, .int .u16 a3, .bool a4, .bool a5] 34 (0, 0)) := blk_put n0.out 0 _ rfl
    have p1 : ((w1.setCell ⟨w.heap.size, 0, none⟩ (.int .u8 59)).setCell ⟨w.heap.size, 1, none⟩ (.int .u8 59)).heap[w.heap.size]? = some (.cells #[.int .u8 59, .int .u8 59, .int .u8 a2, .int .u16 a3, .bool a4, .bool a5] 34 (0, 0)) := blk_put p0 1 _ rfl
    have p2 : (((w1.setCell ⟨w.heap.size, 0, none⟩ (.int .u8 59)).setCell ⟨w.heap.size, 1, none⟩ (.int .u8 59)).setCell ⟨w.heap.size, 2, none⟩ (.int .u8 23)).heap[w.heap.size]? = some (.cells #[.int .u8 59, .int .u8 59, .int .u8 23, .int .u16 a3, .bool a4, .bool a5] 34 (0, 0)) := blk_put p1 2 _ rfl
    have p3 : ((((w1.setCell ⟨w.heap.size, 0, none⟩ (.int .u8 59)).setCell ⟨w.heap.size, 1, none⟩ (.int .u8 59)).setCell ⟨w.heap.size, 2, none⟩ (.int .u8 23)).setCell ⟨w.heap.size, 3, none⟩ (.int .u16 d)).heap[w.heap.size]? = some (.cells #[.int .u8 59, .int .u8 59, .int .u8 23, .int .u16 d, .bool a4, .bool a5] 34 (0, 0)) := blk_put p2 3 _ rfl
    have p4 : (((((w1.setCell ⟨w.heap.size, 0, none⟩ (.int .u8 59)).setCell ⟨w.heap.size, 1, none⟩ (.int .u8 59)).setCell ⟨w.heap.size, 2, none⟩ (.int .u8 23)).setCell ⟨w.heap.size, 3, none⟩ (.int .u16 d)).setCell ⟨w.heap.size, 4, none⟩ (.bool false)).heap[w.heap.size]? = some (.cells #[.int .u8 59, .int .u8 59, .int .u8 23, .int .u16 d, .bool false, .bool a5] 34 (0, 0)) := blk_put p3 4 _ rfl
    have p5 : ((((((w1.setCell ⟨w.heap.size, 0, none⟩ (.int .u8 59)).setCell ⟨w.heap.size, 1, none⟩ (.int .u8 59)).setCell ⟨w.heap.size, 2, none⟩ (.int .u8 23)).setCell ⟨w.heap.size, 3, none⟩ (.int .u16 d)).setCell ⟨w.heap.size, 4, none⟩ (.bool false)).setCell ⟨w.heap.size, 5, none⟩ (.bool false)).heap[w.heap.size]? = some (.cells #[.int .u8 59, .int .u8 59, .int .u8 23, .int .u16 d, .bool false, .bool false] 34 (0, 0)) := blk_put p4 5 _ rfl
    exact p5)
  have m1 : ((((((w1.setCell ⟨w.heap.size, 0, none⟩ (.int .u8 59)).setCell ⟨w.heap.size, 1, none⟩ (.int .u8 59)).setCell ⟨w.heap.size, 2, none⟩ (.int .u8 23)).setCell ⟨w.heap.size, 3, none⟩ (.int .u16 d)).setCell ⟨w.heap.size, 4, none⟩ (.bool false)).setCell ⟨w.heap.size, 5, none⟩ (.bool false)).heap[w.heap.size + 1]? = some (.cells #[.int .u8 0, .int .u8 0, .int .u8 0, .int .u16 0, .bool false, .bool false] 34 (0, 0)) := (by repeat (first | (with_reducible exact n1.out) | refine blk_far ?_ (by simp) _))
  have m2 : Below w.heap.size w ((((((w1.setCell ⟨w.heap.size, 0, none⟩ (.int .u8 59)).setCell ⟨w.heap.size, 1, none⟩ (.int .u8 59)).setCell ⟨w.heap.size, 2, none⟩ (.int .u8 23)).setCell ⟨w.heap.size, 3, none⟩ (.int .u16 d)).setCell ⟨w.heap.size, 4, none⟩ (.bool false)).setCell ⟨w.heap.size, 5, none⟩ (.bool false)) := (below_set (below_set (below_set (below_set (below_set (below_set n2.out (Nat.le_refl _)) (Nat.le_refl _)) (Nat.le_refl _)) (Nat.le_refl _)) (Nat.le_refl _)) (Nat.le_refl _))
  generalize ((((((w1.setCell ⟨w.heap.size, 0, none⟩ (.int .u8 59)).setCell ⟨w.heap.size, 1, none⟩ (.int .u8 59)).setCell ⟨w.heap.size, 2, none⟩ (.int .u8 23)).setCell ⟨w.heap.size, 3, none⟩ (.int .u16 d)).setCell ⟨w.heap.size, 4, none⟩ (.bool false)).setCell ⟨w.heap.size, 5, none⟩ (.bool false)) = X at m0 m1 m2 ⊢
  clear n0 n1 n2 c0 c1 c2 c3 c4 c5 z0 z1 z2 z3 z4 z5 fz fr hz
  have BK := Aside0.mk m0
  have BR := Aside0.mk m1
  have HB := Aside0.mk m2
  clear m0 m1 m2
  have c0 : X.cell? ⟨w.heap.size, 0, none⟩ = some (.int .u8 59) := (blk_cell BK.out 0).trans rfl
  have c1 : X.cell? ⟨w.heap.size, 1, none⟩ = some (.int .u8 59) := (blk_cell BK.out 1).trans rfl
  have c2 : X.cell? ⟨w.heap.size, 2, none⟩ = some (.int .u8 23) := (blk_cell BK.out 2).trans rfl
  have c3 : X.cell? ⟨w.heap.size, 3, none⟩ = some (.int .u16 d) := (blk_cell BK.out 3).trans rfl
  have c4 : X.cell? ⟨w.heap.size, 4, none⟩ = some (.bool false) := (blk_cell BK.out 4).trans rfl
  have c5 : X.cell? ⟨w.heap.size, 5, none⟩ = some (.bool false) := (blk_cell BK.out 5).trans rfl
  have z0 : X.cell? ⟨(w.heap.size + 1), 0, none⟩ = some (.int .u8 0) := (blk_cell BR.out 0).trans rfl
  have z1 : X.cell? ⟨(w.heap.size + 1), 1, none⟩ = some (.int .u8 0) := (blk_cell BR.out 1).trans rfl
  have z2 : X.cell? ⟨(w.heap.size + 1), 2, none⟩ = some (.int .u8 0) := (blk_cell BR.out 2).trans rfl
  have z3 : X.cell? ⟨(w.heap.size + 1), 3, none⟩ = some (.int .u16 0) := (blk_cell BR.out 3).trans rfl
  have z4 : X.cell? ⟨(w.heap.size + 1), 4, none⟩ = some (.bool false) := (blk_cell BR.out 4).trans rfl
  have z5 : X.cell? ⟨(w.heap.size + 1), 5, none⟩ = some (.bool false) := (blk_cell BR.out 5).trans rfl
  have fz := fun i => blk_frozen BK.out i
  have fr := fun i => blk_frozen BR.out i
  go_step3
  go_wp2
  go_rounds 5
  rw [Exit.noGoto_ret]
  have m1 : (((((((((((X.setCell ⟨w.heap.size, 0, none⟩ (.int .u8 0)).setCell ⟨w.heap.size, 1, none⟩ (.int .u8 0)).setCell ⟨w.heap.size, 2, none⟩ (.int .u8 0)).setCell ⟨w.heap.size, 5, none⟩ (.bool (d == 511))).setCell ⟨w.heap.size, 3, none⟩ (.int .u16 (Go.bits .and .u16 (IntKind.u16.wrap (d + 1)) 511))).setCell ⟨w.heap.size + 1, 0, none⟩ (.int .u8 0)).setCell ⟨w.heap.size + 1, 1, none⟩ (.int .u8 0)).setCell ⟨w.heap.size + 1, 2, none⟩ (.int .u8 0)).setCell ⟨w.heap.size + 1, 3, none⟩ (.int .u16 (Go.bits .and .u16 (IntKind.u16.wrap (d + 1)) 511))).setCell ⟨w.heap.size + 1, 4, none⟩ (.bool false)).setCell ⟨w.heap.size + 1, 5, none⟩ (.bool (d == 511))).heap[w.heap.size + 1]? = some (.cells #[.int .u8 0, .int .u8 0, .int .u8 0, .int .u16 (Go.bits .and .u16 (IntKind.u16.wrap (d + 1)) 511), .bool false, .bool (d == 511)] 34 (0, 0)) := (by
    have p0 : ((((((X.setCell ⟨w.heap.size, 0, none⟩ (.int .u8 0)).setCell ⟨w.heap.size, 1, none⟩ (.int .u8 0)).setCell ⟨w.heap.size, 2, none⟩ (.int .u8 0)).setCell ⟨w.heap.size, 5, none⟩ (.bool (d == 511))).setCell ⟨w.heap.size, 3, none⟩ (.int .u16 (Go.bits .and .u16 (IntKind.u16.wrap (d + 1)) 511))).setCell ⟨w.heap.size + 1, 0, none⟩ (.int .u8 0)).heap[w.heap.size + 1]? = some (.cells #[.int .u8 0, .int .u8 0, .int .u8 0, .int .u16 0, .bool false, .bool false] 34 (0, 0)) := blk_put (by repeat (first | (with_reducible exact BR.out) | refine blk_far ?_ (by simp) _) : (((((X.setCell ⟨w.heap.size, 0, none⟩ (.int .u8 0)).setCell ⟨w.heap.size, 1, none⟩ (.int .u8 0)).setCell ⟨w.heap.size, 2, none⟩ (.int .u8 0)).setCell ⟨w.heap.size, 5, none⟩ (.bool (d == 511))).setCell ⟨w.heap.size, 3, none⟩ (.int .u16 (Go.bits .and .u16 (IntKind.u16.wrap (d + 1)) 511))).heap[w.heap.size + 1]? = some (.cells #[.int .u8 0, .int .u8 0, .int .u8 0, .int .u16 0, .bool false, .bool false] 34 (0, 0))) 0 _ rfl
    have p1 : (((((((X.setCell ⟨w.heap.size, 0, none⟩ (.int .u8 0)).setCell ⟨w.heap.size, 1, none⟩ (.int .u8 0)).setCell ⟨w.heap.size, 2, none⟩ (.int .u8 0)).setCell ⟨w.heap.size, 5, none⟩ (.bool (d == 511))).setCell ⟨w.heap.size, 3, none⟩ (.int .u16 (Go.bits .and .u16 (IntKind.u16.wrap (d + 1)) 511))).setCell ⟨w.heap.size + 1, 0, none⟩ (.int .u8 0)).setCell ⟨w.heap.size + 1, 1, none⟩ (.int .u8 0)).heap[w.heap.size + 1]? = some (.cells #[.int .u8 0, .int .u8 0, .int .u8 0, .int .u16 0, .bool false, .bool false] 34 (0, 0)) := blk_put p0 1 _ rfl
    have p2 : ((((((((X.setCell ⟨w.heap.size, 0, none⟩ (.int .u8 0)).setCell ⟨w.heap.size, 1, none⟩ (.int .u8 0)).setCell ⟨w.heap.size, 2, none⟩ (.int .u8 0)).setCell ⟨w.heap.size, 5, none⟩ (.bool (d == 511))).setCell ⟨w.heap.size, 3, none⟩ (.int .u16 (Go.bits .and .u16 (IntKind.u16.wrap (d + 1)) 511))).setCell ⟨w.heap.size + 1, 0, none⟩ (.int .u8 0)).setCell ⟨w.heap.size + 1, 1, none⟩ (.int .u8 0)).setCell ⟨w.heap.size + 1, 2, none⟩ (.int .u8 0)).heap[w.heap.size + 1]? = some (.cells #[.int .u8 0, .int .u8 0, .int .u8 0, .int .u16 0, .bool false, .bool false] 34 (0, 0)) := blk_put p1 2 _ rfl
    have p3 : (((((((((X.setCell ⟨w.heap.size, 0, none⟩ (.int .u8 0)).setCell ⟨w.heap.size, 1, none⟩ (.int .u8 0)).setCell ⟨w.heap.size, 2, none⟩ (.int .u8 0)).setCell ⟨w.heap.size, 5, none⟩ (.bool (d == 511))).setCell ⟨w.heap.size, 3, none⟩ (.int .u16 (Go.bits .and .u16 (IntKind.u16.wrap (d + 1)) 511))).setCell ⟨w.heap.size + 1, 0, none⟩ (.int .u8 0)).setCell ⟨w.heap.size + 1, 1, none⟩ (.int .u8 0)).setCell ⟨w.heap.size + 1, 2, none⟩ (.int .u8 0)).setCell ⟨w.heap.size + 1, 3, none⟩ (.int .u16 (Go.bits .and .u16 (IntKind.u16.wrap (d + 1)) 511))).heap[w.heap.size + 1]? = some (.cells #[.int .u8 0, .int .u8 0, .int .u8 0, .int .u16 (Go.bits .and .u16 (IntKind.u16.wrap (d + 1)) 511), .bool false, .bool false] 34 (0, 0)) := blk_put p2 3 _ rfl
    have p4 : ((((((((((X.setCell ⟨w.heap.size, 0, none⟩ (.int .u8 0)).setCell ⟨w.heap.size, 1, none⟩ (.int .u8 0)).setCell ⟨w.heap.size, 2, none⟩ (.int .u8 0)).setCell ⟨w.heap.size, 5, none⟩ (.bool (d == 511))).setCell ⟨w.heap.size, 3, none⟩ (.int .u16 (Go.bits .and .u16 (IntKind.u16.wrap (d + 1)) 511))).setCell ⟨w.heap.size + 1, 0, none⟩ (.int .u8 0)).setCell ⟨w.heap.size + 1, 1, none⟩ (.int .u8 0)).setCell ⟨w.heap.size + 1, 2, none⟩ (.int .u8 0)).setCell ⟨w.heap.size + 1, 3, none⟩ (.int .u16 (Go.bits .and .u16 (IntKind.u16.wrap (d + 1)) 511))).setCell ⟨w.heap.size + 1, 4, none⟩ (.bool false)).heap[w.heap.size + 1]? = some (.cells #[.int .u8 0, .int .u8 0, .int .u8 0, .int .u16 (Go.bits .and .u16 (IntKind.u16.wrap (d + 1)) 511), .bool false, .bool false] 34 (0, 0)) := blk_put p3 4 _ rfl
    have p5 : (((((((((((X.setCell ⟨w.heap.size, 0, none⟩ (.int .u8 0)).setCell ⟨w.heap.size, 1, none⟩ (.int .u8 0)).setCell ⟨w.heap.size, 2, none⟩ (.int .u8 0)).setCell ⟨w.heap.size, 5, none⟩ (.bool (d == 511))).setCell ⟨w.heap.size, 3, none⟩ (.int .u16 (Go.bits .and .u16 (IntKind.u16.wrap (d + 1)) 511))).setCell ⟨w.heap.size + 1, 0, none⟩ (.int .u8 0)).setCell ⟨w.heap.size + 1, 1, none⟩ (.int .u8 0)).setCell ⟨w.heap.size + 1, 2, none⟩ (.int .u8 0)).setCell ⟨w.heap.size + 1, 3, none⟩ (.int .u16 (Go.bits .and .u16 (IntKind.u16.wrap (d + 1)) 511))).setCell ⟨w.heap.size + 1, 4, none⟩ (.bool false)).setCell ⟨w.heap.size + 1, 5, none⟩ (.bool (d == 511))).heap[w.heap.size + 1]? = some (.cells #[.int .u8 0, .int .u8 0, .int .u8 0, .int .u16 (Go.bits .and .u16 (IntKind.u16.wrap (d + 1)) 511), .bool false, .bool (d == 511)] 34 (0, 0)) := blk_put p4 5 _ rfl
    exact p5)
  have m2 : Below w.heap.size w (((((((((((X.setCell ⟨w.heap.size, 0, none⟩ (.int .u8 0)).setCell ⟨w.heap.size, 1, none⟩ (.int .u8 0)).setCell ⟨w.heap.size, 2, none⟩ (.int .u8 0)).setCell ⟨w.heap.size, 5, none⟩ (.bool (d == 511))).setCell ⟨w.heap.size, 3, none⟩ (.int .u16 (Go.bits .and .u16 (IntKind.u16.wrap (d + 1)) 511))).setCell ⟨w.heap.size + 1, 0, none⟩ (.int .u8 0)).setCell ⟨w.heap.size + 1, 1, none⟩ (.int .u8 0)).setCell ⟨w.heap.size + 1, 2, none⟩ (.int .u8 0)).setCell ⟨w.heap.size + 1, 3, none⟩ (.int .u16 (Go.bits .and .u16 (IntKind.u16.wrap (d + 1)) 511))).setCell ⟨w.heap.size + 1, 4, none⟩ (.bool false)).setCell ⟨w.heap.size + 1, 5, none⟩ (.bool (d == 511))) := (below_set (below_set (below_set (below_set (below_set (below_set (below_set (below_set (below_set (below_set (below_set HB.out (Nat.le_refl _)) (Nat.le_refl _)) (Nat.le_refl _)) (Nat.le_refl _)) (Nat.le_refl _)) (Nat.le_succ _)) (Nat.le_succ _)) (Nat.le_succ _)) (Nat.le_succ _)) (Nat.le_succ _)) (Nat.le_succ _))
  generalize (((((((((((X.setCell ⟨w.heap.size, 0, none⟩ (.int .u8 0)).setCell ⟨w.heap.size, 1, none⟩ (.int .u8 0)).setCell ⟨w.heap.size, 2, none⟩ (.int .u8 0)).setCell ⟨w.heap.size, 5, none⟩ (.bool (d == 511))).setCell ⟨w.heap.size, 3, none⟩ (.int .u16 (Go.bits .and .u16 (IntKind.u16.wrap (d + 1)) 511))).setCell ⟨w.heap.size + 1, 0, none⟩ (.int .u8 0)).setCell ⟨w.heap.size + 1, 1, none⟩ (.int .u8 0)).setCell ⟨w.heap.size + 1, 2, none⟩ (.int .u8 0)).setCell ⟨w.heap.size + 1, 3, none⟩ (.int .u16 (Go.bits .and .u16 (IntKind.u16.wrap (d + 1)) 511))).setCell ⟨w.heap.size + 1, 4, none⟩ (.bool false)).setCell ⟨w.heap.size + 1, 5, none⟩ (.bool (d == 511))) = Y at m1 m2 ⊢
  have u0 : Y.cell? ⟨w.heap.size + 1, 0, none⟩ = some (.int .u8 0) := (blk_cell m1 0).trans rfl
  have u1 : Y.cell? ⟨w.heap.size + 1, 1, none⟩ = some (.int .u8 0) := (blk_cell m1 1).trans rfl
  have u2 : Y.cell? ⟨w.heap.size + 1, 2, none⟩ = some (.int .u8 0) := (blk_cell m1 2).trans rfl
  have u3 : Y.cell? ⟨w.heap.size + 1, 3, none⟩ = some (.int .u16 (Go.bits .and .u16 (IntKind.u16.wrap (d + 1)) 511)) := (blk_cell m1 3).trans rfl
  have u4 : Y.cell? ⟨w.heap.size + 1, 4, none⟩ = some (.bool false) := (blk_cell m1 4).trans rfl
  have u5 : Y.cell? ⟨w.heap.size + 1, 5, none⟩ = some (.bool (d == 511)) := (blk_cell m1 5).trans rfl
  exact bodyPost_ret (v := .agg #[.int .u8 0, .int .u8 0, .int .u8 0, .int .u16 (Go.bits .and .u16 (IntKind.u16.wrap (d + 1)) 511), .bool false, .bool (d == 511)]) (by simp [results, Try.results46, go_sem, u0, u1, u2, u3, u4, u5]) rfl ⟨rfl, m2⟩
def tickT (s m h d : Int) (ht cy : Bool) : Int × Int × Int × Int × Bool × Bool :=
  if ht = true then (s, m, h, d, true, cy) else
  if ¬ s = 59 then ((s + 1) % 64, m, h, d, false, cy) else
  if ¬ m = 59 then (0, (m + 1) % 64, h, d, false, cy) else
  if ¬ h = 23 then (0, 0, (h + 1) % 32, d, false, cy) else
  (0, 0, 0, Go.bits .and .u16 (IntKind.u16.wrap (d + 1)) 511, false, if cy = true then true else d == 511)
def clock_Tick.f (a0_0 a0_1 a0_2 a0_3 : Int) (a0_4 a0_5 : Bool) : Option (Int × Int × Int × Int × Bool × Bool) :=
  (clock_Norm.f a0_0 a0_1 a0_2 a0_3 a0_4 a0_5).bind fun t => some (tickT t.1 t.2.1 t.2.2.1 t.2.2.2.1 t.2.2.2.2.1 t.2.2.2.2.2)
theorem clock_Tick.calls (a0_0 a0_1 a0_2 a0_3 : Int) (a0_4 a0_5 : Bool) (r1 r2 r3 r4 : Int) (r5 r6 : Bool) (w : World) (h : clock_Tick.f a0_0 a0_1 a0_2 a0_3 a0_4 a0_5 = some (r1, r2, r3, r4, r5, r6)) :
    Calls Try.prog 46 #[.agg #[.int .u8 a0_0, .int .u8 a0_1, .int .u8 a0_2, .int .u16 a0_3, .bool a0_4, .bool a0_5]] w fun e w' => e = .returned (.agg #[.int .u8 r1, .int .u8 r2, .int .u8 r3, .int .u16 r4, .bool r5, .bool r6]) ∧ Below w.heap.size w w' := by
  unfold clock_Tick.f at h
  obtain ⟨⟨s, m, hh, d, ht, cy⟩, hn, h⟩ := Option.bind_eq_some_iff.mp h
  have h := Option.some.inj h
  dsimp only at h
  unfold tickT at h
  by_cases c0 : ht = true
  · subst c0
    rw [if_pos rfl] at h
    cases h
    exact tick_halt _ _ _ _ _ _ _ _ _ _ _ hn w
  have c0 : ht = false := by simpa using c0
  subst c0
  rw [if_neg (by simp)] at h
  by_cases c1 : s = 59
  · subst c1
    rw [if_neg (by simp)] at h
    by_cases c2 : m = 59
    · subst c2
      rw [if_neg (by simp)] at h
      by_cases c3 : hh = 23
      · subst c3
        rw [if_neg (by simp)] at h
        cases cy with
        | true => cases h; exact tick_day1 _ _ _ _ _ _ _ hn w
        | false => cases h; exact tick_day0 _ _ _ _ _ _ _ hn w
      · rw [if_pos c3] at h
        cases h
        exact tick_hour _ _ _ _ _ _ _ _ _ hn c3 w
    · rw [if_pos c2] at h
      cases h
      exact tick_min _ _ _ _ _ _ _ _ _ _ hn c2 w
  · rw [if_pos c1] at h
    cases h
    exact tick_sec _ _ _ _ _ _ _ _ _ _ _ hn c1 w
end Go.Proofs.Ytmjjojbedllmgaa.Hand
end
section
namespace Go.Proofs.Ytmjjojbedllmgaa.Hand
open Go.RowKit
open Go.Proofs.Ytmjjojbedllmgaa.G
open Go.Proofs.YtmjjojbedllmgaaW.PrintWords Go.Proofs.YtmjjojbedllmgaaW.PrintLast Go.Proofs.YtmjjojbedllmgaaW.PrintMore
set_option linter.unusedVariables false
set_option linter.unusedSimpArgs false
abbrev Ad.p (a : Ad) : Value := .pointer (some ⟨a.b, 0, none⟩)
def Ct.reg (s : Ct) (ad : Int) : Option Int := if s.hdr.ck = true then mapper_Reg.f s.mp.k s.mp.o s.mp.l s.mp.h s.mp.r s.mp.md ad else some 0
def Ck.tick (c : Ck) : Ck := match (clock_Tick.f c.s c.m c.h c.d c.ht c.cy).getD (0, 0, 0, 0, false, false) with | (s, m, h, d, ht, cy) => ⟨s, m, h, d, ht, cy⟩
theorem Ck.tick_eq (c : Ck) : clock_Tick.f c.s c.m c.h c.d c.ht c.cy = some (c.tick.s, c.tick.m, c.tick.h, c.tick.d, c.tick.ht, c.tick.cy) := rfl
set_option maxRecDepth 100000 in
set_option maxHeartbeats 4000000 in
theorem none_at {w : World} {a : Ad} {s : Ct} (h : CartAt w a s) :
    Calls Try.prog 32 #[a.p] w fun e w' => e = .returned (.bool false) ∧ w' = w := by
  have c31 := h.c31
  clear h
  go_enter Try.func32, Try.ntmps32
  go_wp2
  go_returns
  exact ⟨rfl, rfl⟩
set_option maxRecDepth 100000 in
set_option maxHeartbeats 4000000 in
theorem reg_at {w : World} {a : Ad} {s : Ct} (h : CartAt w a s) (ad n : Int) (hn : s.reg ad = some n) :
    Calls Try.prog 34 #[a.p, .int .u16 ad] w fun e w' => e = .returned (.int .i64 n) ∧ Below w.heap.size w w' := by
  unfold Ct.reg at hn
  have c24 := h.c24
  cases hck : s.hdr.ck
  case false =>
    rw [hck] at hn c24
    rw [if_neg (by simp)] at hn
    cases hn
    clear h
    go_enter Try.func34, Try.ntmps34
    go_wp2
    go_returns
    exact ⟨rfl, by go_grown⟩
  case true =>
    rw [hck] at hn c24
    rw [if_pos rfl] at hn
    have c0 := h.c0
    have c1 := h.c1
    have c2 := h.c2
    have c3 := h.c3
    have c4 := h.c4
    have c5 := h.c5
    have HN := Aside0.mk hn
    clear hn h
    go_enter Try.func34, Try.ntmps34
    go_wp2_with fail
    refine (mapper_Reg.calls _ _ _ _ _ _ _ _ _ HN.out).mono ?_
    rintro e' w1 ⟨rfl, hb⟩
    go_wp2
    go_returns
    exact ⟨rfl, by go_grown⟩
set_option maxRecDepth 100000 in
set_option maxHeartbeats 4000000 in
theorem head_at {w : World} {a : Ad} {s : Ct} (h : CartAt w a s) :
    Calls Try.prog 12 #[a.p] w fun e w' => e = .returned s.hdr.v ∧ Below w.heap.size w w' := by
  have c31 := h.c31
  have c19 := h.c19
  have c20 := h.c20
  have c21 := h.c21
  have c22 := h.c22
  have c23 := h.c23
  have c24 := h.c24
  have c25 := h.c25
  have c26 := h.c26
  have c27 := h.c27
  have c28 := h.c28
  have hlt := h.ltb
  have hne : ¬ a.b = w.heap.size := by omega
  clear h
  go_enter Try.func12, Try.ntmps12
  go_wp2
  go_returns
  exact ⟨rfl, by go_grown⟩
set_option maxRecDepth 100000 in
set_option maxHeartbeats 4000000 in
theorem tick_at {w : World} {a : Ad} {s : Ct} (h : CartAt w a s) (hck : s.hdr.ck = true) :
    Calls Try.prog 20 #[a.p] w fun e w' => e = .returned (.tuple #[]) ∧ CartAt w' a { s with lv := s.lv.tick } ∧ Upto a.S w w' := by
  have c31 := h.c31
  have c24 := h.c24
  rw [hck] at c24
  have c6 := h.c6
  have c7 := h.c7
  have c8 := h.c8
  have c9 := h.c9
  have c10 := h.c10
  have c11 := h.c11
  have HH := Aside0.mk h
  clear h
  go_enter Try.func20, Try.ntmps20
  go_wp2_with fail
  refine (none_at HH.out).mono ?_
  rintro e' w1 ⟨rfl, hw⟩
  replace hw := hw.symm
  subst hw
  go_wp2_with fail
  refine (clock_Tick.calls _ _ _ _ _ _ _ _ _ _ _ _ _ s.lv.tick_eq).mono ?_
  rintro e' w1 ⟨rfl, hb⟩
  have h1 := HH.out.below hb
  have d6 := h1.c6
  have d7 := h1.c7
  have d8 := h1.c8
  have d9 := h1.c9
  have d10 := h1.c10
  have d11 := h1.c11
  have fz := h1.frozen
  have H1 := Aside0.mk h1
  have HB := Aside0.mk hb
  clear h1 hb
  go_wp2
  go_returns
  refine ⟨rfl, HH.out.stored ?_ ?_ rfl rfl⟩
  · have p := blk_setL (blk_setL (blk_setL (blk_setL (blk_setL (blk_setL H1.out.box 6 (.int .u8 s.lv.tick.s)) 7 (.int .u8 s.lv.tick.m)) 8 (.int .u8 s.lv.tick.h)) 9 (.int .u16 s.lv.tick.d)) 10 (.bool s.lv.tick.ht)) 11 (.bool s.lv.tick.cy)
    rw [cells_lv] at p
    exact p
  · with_reducible (refine Upto.setB ?_ _ _; refine Upto.setB ?_ _ _; refine Upto.setB ?_ _ _; refine Upto.setB ?_ _ _; refine Upto.setB ?_ _ _; refine Upto.setB ?_ _ _; exact Upto.of_below HB.out)
end Go.Proofs.Ytmjjojbedllmgaa.Hand
end
section
namespace Go.Proofs.Ytmjjojbedllmgaa.G
open Go.RowKit Go.Proofs.YtmjjojbedllmgaaW.PrintWords Go.Proofs.YtmjjojbedllmgaaW.PrintLast Go.Proofs.YtmjjojbedllmgaaW.PrintMore
set_option linter.unusedVariables false
set_option linter.unusedSimpArgs false
def clock_bit.f (a0 : Bool) (a1 : Int) : Option (Int) := if a0 = true then (some a1) else (some 0)
set_option maxHeartbeats 8000000 in
set_option maxRecDepth 100000 in
theorem clock_bit.calls (a0 : Bool) (a1 : Int) (r : Int) (w : World) (h : clock_bit.f a0 a1 = some r) :
    Calls Try.prog 67 #[.bool a0, .int .u8 a1] w fun e w' => e = .returned (.int .u8 r) ∧ Drawn0 w w' := by
  have H : (if a0 = true then (some a1) else (some 0)) = some r := h
  clear h
  by_cases c3 : a0 = true
  · subst c3
    have H1 : (some a1) = some r := by rw [if_pos rfl] at H; exact H
    clear H
    have H := H1
    clear H1
    obtain rfl := Option.some.inj H
    go_enter Try.func67, Try.ntmps67
    go_wp2
    go_ret
    exact ⟨by first | rfl | (simp; done) | (simp [*]; done), by repeat (first | exact Drawn0.refl _ | apply Drawn0.step)⟩
  · replace c3 := Bool.eq_false_iff.mpr c3
    subst c3
    have H1 : (some 0) = some r := by rw [if_neg (show ¬ (false = true) by decide)] at H; exact H
    clear H
    have H := H1
    clear H1
    obtain rfl := Option.some.inj H
    go_enter Try.func67, Try.ntmps67
    go_wp2
    go_ret
    exact ⟨by first | rfl | (simp; done) | (simp [*]; done), by repeat (first | exact Drawn0.refl _ | apply Drawn0.step)⟩
end Go.Proofs.Ytmjjojbedllmgaa.G
end
section
namespace Go.Proofs.Ytmjjojbedllmgaa.G
open Go.RowKit Go.Proofs.YtmjjojbedllmgaaW.PrintWords Go.Proofs.YtmjjojbedllmgaaW.PrintLast Go.Proofs.YtmjjojbedllmgaaW.PrintMore
set_option linter.unusedVariables false
set_option linter.unusedSimpArgs false
def clock_Read.f (a0_0 : Int) (a0_1 : Int) (a0_2 : Int) (a0_3 : Int) (a0_4 : Bool) (a0_5 : Bool) (a1 : Int) : Option (Int × Int) := (clock_Norm.f a0_0 a0_1 a0_2 a0_3 a0_4 a0_5).bind fun bt112 => (if a1 = 8 then (some (bt112.1, 0)) else (if a1 = 9 then (some (bt112.2.1, 0)) else (if a1 = 10 then (some (bt112.2.2.1, 0)) else (if a1 = 11 then (some ((bt112.2.2.2.1) % 256, 0)) else (if a1 = 12 then ((clock_bit.f bt112.2.2.2.2.1 64).bind fun t118 => ((clock_bit.f bt112.2.2.2.2.2 128).bind fun t119 => (some (Go.bits .or .u8 (Go.bits .or .u8 ((bt112.2.2.2.1 / 256) % 256) t118) t119, 0)))) else (some (0, 7)))))))
set_option maxHeartbeats 8000000 in
set_option maxRecDepth 100000 in
theorem clock_Read.calls (a0_0 : Int) (a0_1 : Int) (a0_2 : Int) (a0_3 : Int) (a0_4 : Bool) (a0_5 : Bool) (a1 : Int) (r1 : Int) (r2 : Int) (w : World) (h : clock_Read.f a0_0 a0_1 a0_2 a0_3 a0_4 a0_5 a1 = some (r1, r2)) :
    Calls Try.prog 35 #[.agg #[.int .u8 a0_0, .int .u8 a0_1, .int .u8 a0_2, .int .u16 a0_3, .bool a0_4, .bool a0_5], .int .i64 a1] w fun e w' => e = .returned (.tuple #[.int .u8 r1, .int .i64 r2]) ∧ Below w.heap.size w w' := by
  have hu34 := Try.underlying34
  have HB := Aside0.mk (Below.refl w.heap.size w)
  have H : ((clock_Norm.f a0_0 a0_1 a0_2 a0_3 a0_4 a0_5).bind fun bt112 => (if a1 = 8 then (some (bt112.1, 0)) else (if a1 = 9 then (some (bt112.2.1, 0)) else (if a1 = 10 then (some (bt112.2.2.1, 0)) else (if a1 = 11 then (some ((bt112.2.2.2.1) % 256, 0)) else (if a1 = 12 then ((clock_bit.f bt112.2.2.2.2.1 64).bind fun t118 => ((clock_bit.f bt112.2.2.2.2.2 128).bind fun t119 => (some (Go.bits .or .u8 (Go.bits .or .u8 ((bt112.2.2.2.1 / 256) % 256) t118) t119, 0)))) else (some (0, 7)))))))) = some (r1, r2) := h
  clear h
  replace H := Option.bind_eq_some_iff.mp H
  obtain ⟨⟨t112, t113, t114, t115, t116, t117⟩, A30, H⟩ := H
  replace H : (if a1 = 8 then (some (t112, 0)) else (if a1 = 9 then (some (t113, 0)) else (if a1 = 10 then (some (t114, 0)) else (if a1 = 11 then (some ((t115) % 256, 0)) else (if a1 = 12 then ((clock_bit.f t116 64).bind fun t118 => ((clock_bit.f t117 128).bind fun t119 => (some (Go.bits .or .u8 (Go.bits .or .u8 ((t115 / 256) % 256) t118) t119, 0)))) else (some (0, 7))))))) = some (r1, r2) := H
  have A3 := Aside0.mk A30
  clear A30
  by_cases c4 : a1 = 8
  · rw [if_pos c4] at H
    have c4b0 : (a1 == 8) = true := beq_iff_eq.mpr c4
    have c4b1 : (a1 != 8) = false := bne_eq_false_iff_eq.mpr c4
    clear c4
    simp only [Option.some.injEq, Prod.mk.injEq] at H
    obtain ⟨rfl, rfl⟩ := H
    go_enter Try.func35, Try.ntmps35
    go_wp2_with (first | ((with_reducible refine gate_dst (N := 2) rfl ?_); refine box_event ?hg (N := 2) ?hd (cs := #[.int .u8 a0_0, .int .u8 a0_1, .int .u8 a0_2, .int .u16 a0_3, .bool a0_4, .bool a0_5]) (t := 34) ?hr ?_; (case hd => rfl); (case hg => rfl); (case hr => first | (go_simp; done) | (go_simp; rfl)); intro gb111 hg w5 hbox hb; have n0_ := Aside0.mk (below_step (by repeat (first | (with_reducible first | exact HB.out | apply below_alloc | apply pw_below_drewN | apply below_drew1) | exact HB.out)) hb); have n1_ := Aside0.mk (hbox); have n2_ := Aside0.mk ((by rw [hg]; exact (below_size (by repeat (first | (with_reducible first | exact HB.out | apply below_alloc | apply pw_below_drewN | apply below_drew1) | exact HB.out))) : w.heap.size ≤ gb111)); have n3_ := Aside0.mk ((by rw [hg]; exact (below_size (by repeat (first | (with_reducible first | exact HB.out | apply below_alloc | apply pw_below_drewN | apply below_drew1) | exact HB.out))) : w.heap.size ≤ gb111)); clear HB; have HB := n0_; have BK111 := n1_; have GW111 := n2_; have GE111 := n3_; clear n0_ n1_ n2_ n3_; clear hb hbox hg; have hcz6_0 : w5.cell? ⟨gb111, 0, none⟩ = some (.int .u8 a0_0) := (blk_cell BK111.out 0).trans rfl; have hcz6_1 : w5.cell? ⟨gb111, 1, none⟩ = some (.int .u8 a0_1) := (blk_cell BK111.out 1).trans rfl; have hcz6_2 : w5.cell? ⟨gb111, 2, none⟩ = some (.int .u8 a0_2) := (blk_cell BK111.out 2).trans rfl; have hcz6_3 : w5.cell? ⟨gb111, 3, none⟩ = some (.int .u16 a0_3) := (blk_cell BK111.out 3).trans rfl; have hcz6_4 : w5.cell? ⟨gb111, 4, none⟩ = some (.bool a0_4) := (blk_cell BK111.out 4).trans rfl; have hcz6_5 : w5.cell? ⟨gb111, 5, none⟩ = some (.bool a0_5) := (blk_cell BK111.out 5).trans rfl; have hfz6_0 := blk_frozen BK111.out 0; have hfz6_1 := blk_frozen BK111.out 1; have hfz6_2 := blk_frozen BK111.out 2; have hfz6_3 := blk_frozen BK111.out 3; have hfz6_4 := blk_frozen BK111.out 4; have hfz6_5 := blk_frozen BK111.out 5) | (go_at_call 66; (with_reducible refine (clock_Norm.calls a0_0 a0_1 a0_2 a0_3 a0_4 a0_5 t112 t113 t114 t115 t116 t117 _ A3.out).mono ?_); rintro e w7 ⟨rfl, hb⟩; have n0_ := Aside0.mk (blk_below (g := gb111) (o := .cells #[.int .u8 a0_0, .int .u8 a0_1, .int .u8 a0_2, .int .u16 a0_3, .bool a0_4, .bool a0_5] 34 (0, 0)) (by (with_reducible repeat (first | refine blk_drewN ?_ _ | refine blk_drew ?_ | refine blk_alloc ?_ _)); exact BK111.out) hb); have n1_ := Aside0.mk (below_step (by repeat (first | (with_reducible first | exact HB.out | apply below_alloc | apply pw_below_drewN | apply below_drew1 | refine below_set ?_ GE111.out) | exact HB.out)) hb); clear BK111; clear HB; have BK111 := n0_; have HB := n1_; clear n0_ n1_; (try clear hb); (try clear hb2); (try clear hk); (try clear hi); have hcz8_0 : w7.cell? ⟨gb111, 0, none⟩ = some (.int .u8 a0_0) := (blk_cell BK111.out 0).trans rfl; have hcz8_1 : w7.cell? ⟨gb111, 1, none⟩ = some (.int .u8 a0_1) := (blk_cell BK111.out 1).trans rfl; have hcz8_2 : w7.cell? ⟨gb111, 2, none⟩ = some (.int .u8 a0_2) := (blk_cell BK111.out 2).trans rfl; have hcz8_3 : w7.cell? ⟨gb111, 3, none⟩ = some (.int .u16 a0_3) := (blk_cell BK111.out 3).trans rfl; have hcz8_4 : w7.cell? ⟨gb111, 4, none⟩ = some (.bool a0_4) := (blk_cell BK111.out 4).trans rfl; have hcz8_5 : w7.cell? ⟨gb111, 5, none⟩ = some (.bool a0_5) := (blk_cell BK111.out 5).trans rfl; have hfz8_0 := blk_frozen BK111.out 0; have hfz8_1 := blk_frozen BK111.out 1; have hfz8_2 := blk_frozen BK111.out 2; have hfz8_3 := blk_frozen BK111.out 3; have hfz8_4 := blk_frozen BK111.out 4; have hfz8_5 := blk_frozen BK111.out 5))
    repeat (go_quiet (first | ((with_reducible refine gate_dst (N := 2) rfl ?_); refine box_event ?hg (N := 2) ?hd (cs := #[.int .u8 a0_0, .int .u8 a0_1, .int .u8 a0_2, .int .u16 a0_3, .bool a0_4, .bool a0_5]) (t := 34) ?hr ?_; (case hd => rfl); (case hg => rfl); (case hr => first | (go_simp; done) | (go_simp; rfl)); intro gb111 hg w5 hbox hb; have n0_ := Aside0.mk (below_step (by repeat (first | (with_reducible first | exact HB.out | apply below_alloc | apply pw_below_drewN | apply below_drew1) | exact HB.out)) hb); have n1_ := Aside0.mk (hbox); have n2_ := Aside0.mk ((by rw [hg]; exact (below_size (by repeat (first | (with_reducible first | exact HB.out | apply below_alloc | apply pw_below_drewN | apply below_drew1) | exact HB.out))) : w.heap.size ≤ gb111)); have n3_ := Aside0.mk ((by rw [hg]; exact (below_size (by repeat (first | (with_reducible first | exact HB.out | apply below_alloc | apply pw_below_drewN | apply below_drew1) | exact HB.out))) : w.heap.size ≤ gb111)); clear HB; have HB := n0_; have BK111 := n1_; have GW111 := n2_; have GE111 := n3_; clear n0_ n1_ n2_ n3_; clear hb hbox hg; have hcz6_0 : w5.cell? ⟨gb111, 0, none⟩ = some (.int .u8 a0_0) := (blk_cell BK111.out 0).trans rfl; have hcz6_1 : w5.cell? ⟨gb111, 1, none⟩ = some (.int .u8 a0_1) := (blk_cell BK111.out 1).trans rfl; have hcz6_2 : w5.cell? ⟨gb111, 2, none⟩ = some (.int .u8 a0_2) := (blk_cell BK111.out 2).trans rfl; have hcz6_3 : w5.cell? ⟨gb111, 3, none⟩ = some (.int .u16 a0_3) := (blk_cell BK111.out 3).trans rfl; have hcz6_4 : w5.cell? ⟨gb111, 4, none⟩ = some (.bool a0_4) := (blk_cell BK111.out 4).trans rfl; have hcz6_5 : w5.cell? ⟨gb111, 5, none⟩ = some (.bool a0_5) := (blk_cell BK111.out 5).trans rfl; have hfz6_0 := blk_frozen BK111.out 0; have hfz6_1 := blk_frozen BK111.out 1; have hfz6_2 := blk_frozen BK111.out 2; have hfz6_3 := blk_frozen BK111.out 3; have hfz6_4 := blk_frozen BK111.out 4; have hfz6_5 := blk_frozen BK111.out 5) | (go_at_call 66; (with_reducible refine (clock_Norm.calls a0_0 a0_1 a0_2 a0_3 a0_4 a0_5 t112 t113 t114 t115 t116 t117 _ A3.out).mono ?_); rintro e w7 ⟨rfl, hb⟩; have n0_ := Aside0.mk (blk_below (g := gb111) (o := .cells #[.int .u8 a0_0, .int .u8 a0_1, .int .u8 a0_2, .int .u16 a0_3, .bool a0_4, .bool a0_5] 34 (0, 0)) (by (with_reducible repeat (first | refine blk_drewN ?_ _ | refine blk_drew ?_ | refine blk_alloc ?_ _)); exact BK111.out) hb); have n1_ := Aside0.mk (below_step (by repeat (first | (with_reducible first | exact HB.out | apply below_alloc | apply pw_below_drewN | apply below_drew1 | refine below_set ?_ GE111.out) | exact HB.out)) hb); clear BK111; clear HB; have BK111 := n0_; have HB := n1_; clear n0_ n1_; (try clear hb); (try clear hb2); (try clear hk); (try clear hi); have hcz8_0 : w7.cell? ⟨gb111, 0, none⟩ = some (.int .u8 a0_0) := (blk_cell BK111.out 0).trans rfl; have hcz8_1 : w7.cell? ⟨gb111, 1, none⟩ = some (.int .u8 a0_1) := (blk_cell BK111.out 1).trans rfl; have hcz8_2 : w7.cell? ⟨gb111, 2, none⟩ = some (.int .u8 a0_2) := (blk_cell BK111.out 2).trans rfl; have hcz8_3 : w7.cell? ⟨gb111, 3, none⟩ = some (.int .u16 a0_3) := (blk_cell BK111.out 3).trans rfl; have hcz8_4 : w7.cell? ⟨gb111, 4, none⟩ = some (.bool a0_4) := (blk_cell BK111.out 4).trans rfl; have hcz8_5 : w7.cell? ⟨gb111, 5, none⟩ = some (.bool a0_5) := (blk_cell BK111.out 5).trans rfl; have hfz8_0 := blk_frozen BK111.out 0; have hfz8_1 := blk_frozen BK111.out 1; have hfz8_2 := blk_frozen BK111.out 2; have hfz8_3 := blk_frozen BK111.out 3; have hfz8_4 := blk_frozen BK111.out 4; have hfz8_5 := blk_frozen BK111.out 5)); try go_wp2_with (first | ((with_reducible refine gate_dst (N := 2) rfl ?_); refine box_event ?hg (N := 2) ?hd (cs := #[.int .u8 a0_0, .int .u8 a0_1, .int .u8 a0_2, .int .u16 a0_3, .bool a0_4, .bool a0_5]) (t := 34) ?hr ?_; (case hd => rfl); (case hg => rfl); (case hr => first | (go_simp; done) | (go_simp; rfl)); intro gb111 hg w5 hbox hb; have n0_ := Aside0.mk (below_step (by repeat (first | (with_reducible first | exact HB.out | apply below_alloc | apply pw_below_drewN | apply below_drew1) | exact HB.out)) hb); have n1_ := Aside0.mk (hbox); have n2_ := Aside0.mk ((by rw [hg]; exact (below_size (by repeat (first | (with_reducible first | exact HB.out | apply below_alloc | apply pw_below_drewN | apply below_drew1) | exact HB.out))) : w.heap.size ≤ gb111)); have n3_ := Aside0.mk ((by rw [hg]; exact (below_size (by repeat (first | (with_reducible first | exact HB.out | apply below_alloc | apply pw_below_drewN | apply below_drew1) | exact HB.out))) : w.heap.size ≤ gb111)); clear HB; have HB := n0_; have BK111 := n1_; have GW111 := n2_; have GE111 := n3_; clear n0_ n1_ n2_ n3_; clear hb hbox hg; have hcz6_0 : w5.cell? ⟨gb111, 0, none⟩ = some (.int .u8 a0_0) := (blk_cell BK111.out 0).trans rfl; have hcz6_1 : w5.cell? ⟨gb111, 1, none⟩ = some (.int .u8 a0_1) := (blk_cell BK111.out 1).trans rfl; have hcz6_2 : w5.cell? ⟨gb111, 2, none⟩ = some (.int .u8 a0_2) := (blk_cell BK111.out 2).trans rfl; have hcz6_3 : w5.cell? ⟨gb111, 3, none⟩ = some (.int .u16 a0_3) := (blk_cell BK111.out 3).trans rfl; have hcz6_4 : w5.cell? ⟨gb111, 4, none⟩ = some (.bool a0_4) := (blk_cell BK111.out 4).trans rfl; have hcz6_5 : w5.cell? ⟨gb111, 5, none⟩ = some (.bool a0_5) := (blk_cell BK111.out 5).trans rfl; have hfz6_0 := blk_frozen BK111.out 0; have hfz6_1 := blk_frozen BK111.out 1; have hfz6_2 := blk_frozen BK111.out 2; have hfz6_3 := blk_frozen BK111.out 3; have hfz6_4 := blk_frozen BK111.out 4; have hfz6_5 := blk_frozen BK111.out 5) | (go_at_call 66; (with_reducible refine (clock_Norm.calls a0_0 a0_1 a0_2 a0_3 a0_4 a0_5 t112 t113 t114 t115 t116 t117 _ A3.out).mono ?_); rintro e w7 ⟨rfl, hb⟩; have n0_ := Aside0.mk (blk_below (g := gb111) (o := .cells #[.int .u8 a0_0, .int .u8 a0_1, .int .u8 a0_2, .int .u16 a0_3, .bool a0_4, .bool a0_5] 34 (0, 0)) (by (with_reducible repeat (first | refine blk_drewN ?_ _ | refine blk_drew ?_ | refine blk_alloc ?_ _)); exact BK111.out) hb); have n1_ := Aside0.mk (below_step (by repeat (first | (with_reducible first | exact HB.out | apply below_alloc | apply pw_below_drewN | apply below_drew1 | refine below_set ?_ GE111.out) | exact HB.out)) hb); clear BK111; clear HB; have BK111 := n0_; have HB := n1_; clear n0_ n1_; (try clear hb); (try clear hb2); (try clear hk); (try clear hi); have hcz8_0 : w7.cell? ⟨gb111, 0, none⟩ = some (.int .u8 a0_0) := (blk_cell BK111.out 0).trans rfl; have hcz8_1 : w7.cell? ⟨gb111, 1, none⟩ = some (.int .u8 a0_1) := (blk_cell BK111.out 1).trans rfl; have hcz8_2 : w7.cell? ⟨gb111, 2, none⟩ = some (.int .u8 a0_2) := (blk_cell BK111.out 2).trans rfl; have hcz8_3 : w7.cell? ⟨gb111, 3, none⟩ = some (.int .u16 a0_3) := (blk_cell BK111.out 3).trans rfl; have hcz8_4 : w7.cell? ⟨gb111, 4, none⟩ = some (.bool a0_4) := (blk_cell BK111.out 4).trans rfl; have hcz8_5 : w7.cell? ⟨gb111, 5, none⟩ = some (.bool a0_5) := (blk_cell BK111.out 5).trans rfl; have hfz8_0 := blk_frozen BK111.out 0; have hfz8_1 := blk_frozen BK111.out 1; have hfz8_2 := blk_frozen BK111.out 2; have hfz8_3 := blk_frozen BK111.out 3; have hfz8_4 := blk_frozen BK111.out 4; have hfz8_5 := blk_frozen BK111.out 5)))
    go_ret2
    exact ⟨by first | rfl | (simp [errW_none, errW_some] <;> rfl) | (simp [*, errW_none, errW_some] <;> rfl), by repeat (first | (with_reducible first | exact HB.out | apply below_alloc | apply pw_below_drewN | apply below_drew1 | refine below_set ?_ GE111.out) | exact HB.out)⟩
  · rw [if_neg c4] at H
    have c4b0 : (a1 == 8) = false := beq_eq_false_iff_ne.mpr c4
    have c4b1 : (a1 != 8) = true := bne_iff_ne.mpr c4
    by_cases c9 : a1 = 9
    · rw [if_pos c9] at H
      have c9b0 : (a1 == 9) = true := beq_iff_eq.mpr c9
      have c9b1 : (a1 != 9) = false := bne_eq_false_iff_eq.mpr c9
      clear c9
      simp only [Option.some.injEq, Prod.mk.injEq] at H
      obtain ⟨rfl, rfl⟩ := H
      go_enter Try.func35, Try.ntmps35
      go_wp2_with (first | ((with_reducible refine gate_dst (N := 2) rfl ?_); refine box_event ?hg (N := 2) ?hd (cs := #[.int .u8 a0_0, .int .u8 a0_1, .int .u8 a0_2, .int .u16 a0_3, .bool a0_4, .bool a0_5]) (t := 34) ?hr ?_; (case hd => rfl); (case hg => rfl); (case hr => first | (go_simp; done) | (go_simp; rfl)); intro gb111 hg w10 hbox hb; have n0_ := Aside0.mk (below_step (by repeat (first | (with_reducible first | exact HB.out | apply below_alloc | apply pw_below_drewN | apply below_drew1) | exact HB.out)) hb); have n1_ := Aside0.mk (hbox); have n2_ := Aside0.mk ((by rw [hg]; exact (below_size (by repeat (first | (with_reducible first | exact HB.out | apply below_alloc | apply pw_below_drewN | apply below_drew1) | exact HB.out))) : w.heap.size ≤ gb111)); have n3_ := Aside0.mk ((by rw [hg]; exact (below_size (by repeat (first | (with_reducible first | exact HB.out | apply below_alloc | apply pw_below_drewN | apply below_drew1) | exact HB.out))) : w.heap.size ≤ gb111)); clear HB; have HB := n0_; have BK111 := n1_; have GW111 := n2_; have GE111 := n3_; clear n0_ n1_ n2_ n3_; clear hb hbox hg; have hcz11_0 : w10.cell? ⟨gb111, 0, none⟩ = some (.int .u8 a0_0) := (blk_cell BK111.out 0).trans rfl; have hcz11_1 : w10.cell? ⟨gb111, 1, none⟩ = some (.int .u8 a0_1) := (blk_cell BK111.out 1).trans rfl; have hcz11_2 : w10.cell? ⟨gb111, 2, none⟩ = some (.int .u8 a0_2) := (blk_cell BK111.out 2).trans rfl; have hcz11_3 : w10.cell? ⟨gb111, 3, none⟩ = some (.int .u16 a0_3) := (blk_cell BK111.out 3).trans rfl; have hcz11_4 : w10.cell? ⟨gb111, 4, none⟩ = some (.bool a0_4) := (blk_cell BK111.out 4).trans rfl; have hcz11_5 : w10.cell? ⟨gb111, 5, none⟩ = some (.bool a0_5) := (blk_cell BK111.out 5).trans rfl; have hfz11_0 := blk_frozen BK111.out 0; have hfz11_1 := blk_frozen BK111.out 1; have hfz11_2 := blk_frozen BK111.out 2; have hfz11_3 := blk_frozen BK111.out 3; have hfz11_4 := blk_frozen BK111.out 4; have hfz11_5 := blk_frozen BK111.out 5) | (go_at_call 66; (with_reducible refine (clock_Norm.calls a0_0 a0_1 a0_2 a0_3 a0_4 a0_5 t112 t113 t114 t115 t116 t117 _ A3.out).mono ?_); rintro e w12 ⟨rfl, hb⟩; have n0_ := Aside0.mk (blk_below (g := gb111) (o := .cells #[.int .u8 a0_0, .int .u8 a0_1, .int .u8 a0_2, .int .u16 a0_3, .bool a0_4, .bool a0_5] 34 (0, 0)) (by (with_reducible repeat (first | refine blk_drewN ?_ _ | refine blk_drew ?_ | refine blk_alloc ?_ _)); exact BK111.out) hb); have n1_ := Aside0.mk (below_step (by repeat (first | (with_reducible first | exact HB.out | apply below_alloc | apply pw_below_drewN | apply below_drew1 | refine below_set ?_ GE111.out) | exact HB.out)) hb); clear BK111; clear HB; have BK111 := n0_; have HB := n1_; clear n0_ n1_; (try clear hb); (try clear hb2); (try clear hk); (try clear hi); have hcz13_0 : w12.cell? ⟨gb111, 0, none⟩ = some (.int .u8 a0_0) := (blk_cell BK111.out 0).trans rfl; have hcz13_1 : w12.cell? ⟨gb111, 1, none⟩ = some (.int .u8 a0_1) := (blk_cell BK111.out 1).trans rfl; have hcz13_2 : w12.cell? ⟨gb111, 2, none⟩ = some (.int .u8 a0_2) := (blk_cell BK111.out 2).trans rfl; have hcz13_3 : w12.cell? ⟨gb111, 3, none⟩ = some (.int .u16 a0_3) := (blk_cell BK111.out 3).trans rfl; have hcz13_4 : w12.cell? ⟨gb111, 4, none⟩ = some (.bool a0_4) := (blk_cell BK111.out 4).trans rfl; have hcz13_5 : w12.cell? ⟨gb111, 5, none⟩ = some (.bool a0_5) := (blk_cell BK111.out 5).trans rfl; have hfz13_0 := blk_frozen BK111.out 0; have hfz13_1 := blk_frozen BK111.out 1; have hfz13_2 := blk_frozen BK111.out 2; have hfz13_3 := blk_frozen BK111.out 3; have hfz13_4 := blk_frozen BK111.out 4; have hfz13_5 := blk_frozen BK111.out 5))
      repeat (go_quiet (first | ((with_reducible refine gate_dst (N := 2) rfl ?_); refine box_event ?hg (N := 2) ?hd (cs := #[.int .u8 a0_0, .int .u8 a0_1, .int .u8 a0_2, .int .u16 a0_3, .bool a0_4, .bool a0_5]) (t := 34) ?hr ?_; (case hd => rfl); (case hg => rfl); (case hr => first | (go_simp; done) | (go_simp; rfl)); intro gb111 hg w10 hbox hb; have n0_ := Aside0.mk (below_step (by repeat (first | (with_reducible first | exact HB.out | apply below_alloc | apply pw_below_drewN | apply below_drew1) | exact HB.out)) hb); have n1_ := Aside0.mk (hbox); have n2_ := Aside0.mk ((by rw [hg]; exact (below_size (by repeat (first | (with_reducible first | exact HB.out | apply below_alloc | apply pw_below_drewN | apply below_drew1) | exact HB.out))) : w.heap.size ≤ gb111)); have n3_ := Aside0.mk ((by rw [hg]; exact (below_size (by repeat (first | (with_reducible first | exact HB.out | apply below_alloc | apply pw_below_drewN | apply below_drew1) | exact HB.out))) : w.heap.size ≤ gb111)); clear HB; have HB := n0_; have BK111 := n1_; have GW111 := n2_; have GE111 := n3_; clear n0_ n1_ n2_ n3_; clear hb hbox hg; have hcz11_0 : w10.cell? ⟨gb111, 0, none⟩ = some (.int .u8 a0_0) := (blk_cell BK111.out 0).trans rfl; have hcz11_1 : w10.cell? ⟨gb111, 1, none⟩ = some (.int .u8 a0_1) := (blk_cell BK111.out 1).trans rfl; have hcz11_2 : w10.cell? ⟨gb111, 2, none⟩ = some (.int .u8 a0_2) := (blk_cell BK111.out 2).trans rfl; have hcz11_3 : w10.cell? ⟨gb111, 3, none⟩ = some (.int .u16 a0_3) := (blk_cell BK111.out 3).trans rfl; have hcz11_4 : w10.cell? ⟨gb111, 4, none⟩ = some (.bool a0_4) := (blk_cell BK111.out 4).trans rfl; have hcz11_5 : w10.cell? ⟨gb111, 5, none⟩ = some (.bool a0_5) := (blk_cell BK111.out 5).trans rfl; have hfz11_0 := blk_frozen BK111.out 0; have hfz11_1 := blk_frozen BK111.out 1; have hfz11_2 := blk_frozen BK111.out 2; have hfz11_3 := blk_frozen BK111.out 3; have hfz11_4 := blk_frozen BK111.out 4; have hfz11_5 := blk_frozen BK111.out 5) | (go_at_call 66; (with_reducible refine (clock_Norm.calls a0_0 a0_1 a0_2 a0_3 a0_4 a0_5 t112 t113 t114 t115 t116 t117 _ A3.out).mono ?_); rintro e w12 ⟨rfl, hb⟩; have n0_ := Aside0.mk (blk_below (g := gb111) (o := .cells #[.int .u8 a0_0, .int .u8 a0_1, .int .u8 a0_2, .int .u16 a0_3, .bool a0_4, .bool a0_5] 34 (0, 0)) (by (with_reducible repeat (first | refine blk_drewN ?_ _ | refine blk_drew ?_ | refine blk_alloc ?_ _)); exact BK111.out) hb); have n1_ := Aside0.mk (below_step (by repeat (first | (with_reducible first | exact HB.out | apply below_alloc | apply pw_below_drewN | apply below_drew1 | refine below_set ?_ GE111.out) | exact HB.out)) hb); clear BK111; clear HB; have BK111 := n0_; have HB := n1_; clear n0_ n1_; (try clear hb); (try clear hb2); (try clear hk); (try clear hi); have hcz13_0 : w12.cell? ⟨gb111, 0, none⟩ = some (.int .u8 a0_0) := (blk_cell BK111.out 0).trans rfl; have hcz13_1 : w12.cell? ⟨gb111, 1, none⟩ = some (.int .u8 a0_1) := (blk_cell BK111.out 1).trans rfl; have hcz13_2 : w12.cell? ⟨gb111, 2, none⟩ = some (.int .u8 a0_2) := (blk_cell BK111.out 2).trans rfl; have hcz13_3 : w12.cell? ⟨gb111, 3, none⟩ = some (.int .u16 a0_3) := (blk_cell BK111.out 3).trans rfl; have hcz13_4 : w12.cell? ⟨gb111, 4, none⟩ = some (.bool a0_4) := (blk_cell BK111.out 4).trans rfl; have hcz13_5 : w12.cell? ⟨gb111, 5, none⟩ = some (.bool a0_5) := (blk_cell BK111.out 5).trans rfl; have hfz13_0 := blk_frozen BK111.out 0; have hfz13_1 := blk_frozen BK111.out 1; have hfz13_2 := blk_frozen BK111.out 2; have hfz13_3 := blk_frozen BK111.out 3; have hfz13_4 := blk_frozen BK111.out 4; have hfz13_5 := blk_frozen BK111.out 5)); try go_wp2_with (first | ((with_reducible refine gate_dst (N := 2) rfl ?_); refine box_event ?hg (N := 2) ?hd (cs := #[.int .u8 a0_0, .int .u8 a0_1, .int .u8 a0_2, .int .u16 a0_3, .bool a0_4, .bool a0_5]) (t := 34) ?hr ?_; (case hd => rfl); (case hg => rfl); (case hr => first | (go_simp; done) | (go_simp; rfl)); intro gb111 hg w10 hbox hb; have n0_ := Aside0.mk (below_step (by repeat (first | (with_reducible first | exact HB.out | apply below_alloc | apply pw_below_drewN | apply below_drew1) | exact HB.out)) hb); have n1_ := Aside0.mk (hbox); have n2_ := Aside0.mk ((by rw [hg]; exact (below_size (by repeat (first | (with_reducible first | exact HB.out | apply below_alloc | apply pw_below_drewN | apply below_drew1) | exact HB.out))) : w.heap.size ≤ gb111)); have n3_ := Aside0.mk ((by rw [hg]; exact (below_size (by repeat (first | (with_reducible first | exact HB.out | apply below_alloc | apply pw_below_drewN | apply below_drew1) | exact HB.out))) : w.heap.size ≤ gb111)); clear HB; have HB := n0_; have BK111 := n1_; have GW111 := n2_; have GE111 := n3_; clear n0_ n1_ n2_ n3_; clear hb hbox hg; have hcz11_0 : w10.cell? ⟨gb111, 0, none⟩ = some (.int .u8 a0_0) := (blk_cell BK111.out 0).trans rfl; have hcz11_1 : w10.cell? ⟨gb111, 1, none⟩ = some (.int .u8 a0_1) := (blk_cell BK111.out 1).trans rfl; have hcz11_2 : w10.cell? ⟨gb111, 2, none⟩ = some (.int .u8 a0_2) := (blk_cell BK111.out 2).trans rfl; have hcz11_3 : w10.cell? ⟨gb111, 3, none⟩ = some (.int .u16 a0_3) := (blk_cell BK111.out 3).trans rfl; have hcz11_4 : w10.cell? ⟨gb111, 4, none⟩ = some (.bool a0_4) := (blk_cell BK111.out 4).trans rfl; have hcz11_5 : w10.cell? ⟨gb111, 5, none⟩ = some (.bool a0_5) := (blk_cell BK111.out 5).trans rfl; have hfz11_0 := blk_frozen BK111.out 0; have hfz11_1 := blk_frozen BK111.out 1; have hfz11_2 := blk_frozen BK111.out 2; have hfz11_3 := blk_frozen BK111.out 3; have hfz11_4 := blk_frozen BK111.out 4; have hfz11_5 := blk_frozen BK111.out 5) | (go_at_call 66; (with_reducible refine (clock_Norm.calls a0_0 a0_1 a0_2 a0_3 a0_4 a0_5 t112 t113 t114 t115 t116 t117 _ A3.out).mono ?_); rintro e w12 ⟨rfl, hb⟩; have n0_ := Aside0.mk (blk_below (g := gb111) (o := .cells #[.int .u8 a0_0, .int .u8 a0_1, .int .u8 a0_2, .int .u16 a0_3, .bool a0_4, .bool a0_5] 34 (0, 0)) (by (with_reducible repeat (first | refine blk_drewN ?_ _ | refine blk_drew ?_ | refine blk_alloc ?_ _)); exact BK111.out) hb); have n1_ := Aside0.mk (below_step (by repeat (first | (with_reducible first | exact HB.out | apply below_alloc | apply pw_below_drewN | apply below_drew1 | refine below_set ?_ GE111.out) | exact HB.out)) hb); clear BK111; clear HB; have BK111 := n0_; have HB := n1_; clear n0_ n1_; (try clear hb); (try clear hb2); (try clear hk); (try clear hi); have hcz13_0 : w12.cell? ⟨gb111, 0, none⟩ = some (.int .u8 a0_0) := (blk_cell BK111.out 0).trans rfl; have hcz13_1 : w12.cell? ⟨gb111, 1, none⟩ = some (.int .u8 a0_1) := (blk_cell BK111.out 1).trans rfl; have hcz13_2 : w12.cell? ⟨gb111, 2, none⟩ = some (.int .u8 a0_2) := (blk_cell BK111.out 2).trans rfl; have hcz13_3 : w12.cell? ⟨gb111, 3, none⟩ = some (.int .u16 a0_3) := (blk_cell BK111.out 3).trans rfl; have hcz13_4 : w12.cell? ⟨gb111, 4, none⟩ = some (.bool a0_4) := (blk_cell BK111.out 4).trans rfl; have hcz13_5 : w12.cell? ⟨gb111, 5, none⟩ = some (.bool a0_5) := (blk_cell BK111.out 5).trans rfl; have hfz13_0 := blk_frozen BK111.out 0; have hfz13_1 := blk_frozen BK111.out 1; have hfz13_2 := blk_frozen BK111.out 2; have hfz13_3 := blk_frozen BK111.out 3; have hfz13_4 := blk_frozen BK111.out 4; have hfz13_5 := blk_frozen BK111.out 5)))
      go_ret2
      exact ⟨by first | rfl | (simp [errW_none, errW_some] <;> rfl) | (simp [*, errW_none, errW_some] <;> rfl), by repeat (first | (with_reducible first | exact HB.out | apply below_alloc | apply pw_below_drewN | apply below_drew1 | refine below_set ?_ GE111.out) | exact HB.out)⟩
    · rw [if_neg c9] at H
      have c9b0 : (a1 == 9) = false := beq_eq_false_iff_ne.mpr c9
      have c9b1 : (a1 != 9) = true := bne_iff_ne.mpr c9
      by_cases c14 : a1 = 10
      · rw [if_pos c14] at H
        have c14b0 : (a1 == 10) = true := beq_iff_eq.mpr c14
        have c14b1 : (a1 != 10) = false := bne_eq_false_iff_eq.mpr c14
        clear c14
        simp only [Option.some.injEq, Prod.mk.injEq] at H
        obtain ⟨rfl, rfl⟩ := H
        go_enter Try.func35, Try.ntmps35
        go_wp2_with (first | ((with_reducible refine gate_dst (N := 2) rfl ?_); refine box_event ?hg (N := 2) ?hd (cs := #[.int .u8 a0_0, .int .u8 a0_1, .int .u8 a0_2, .int .u16 a0_3, .bool a0_4, .bool a0_5]) (t := 34) ?hr ?_; (case hd => rfl); (case hg => rfl); (case hr => first | (go_simp; done) | (go_simp; rfl)); intro gb111 hg w15 hbox hb; have n0_ := Aside0.mk (below_step (by repeat (first | (with_reducible first | exact HB.out | apply below_alloc | apply pw_below_drewN | apply below_drew1) | exact HB.out)) hb); have n1_ := Aside0.mk (hbox); have n2_ := Aside0.mk ((by rw [hg]; exact (below_size (by repeat (first | (with_reducible first | exact HB.out | apply below_alloc | apply pw_below_drewN | apply below_drew1) | exact HB.out))) : w.heap.size ≤ gb111)); have n3_ := Aside0.mk ((by rw [hg]; exact (below_size (by repeat (first | (with_reducible first | exact HB.out | apply below_alloc | apply pw_below_drewN | apply below_drew1) | exact HB.out))) : w.heap.size ≤ gb111)); clear HB; have HB := n0_; have BK111 := n1_; have GW111 := n2_; have GE111 := n3_; clear n0_ n1_ n2_ n3_; clear hb hbox hg; have hcz16_0 : w15.cell? ⟨gb111, 0, none⟩ = some (.int .u8 a0_0) := (blk_cell BK111.out 0).trans rfl; have hcz16_1 : w15.cell? ⟨gb111, 1, none⟩ = some (.int .u8 a0_1) := (blk_cell BK111.out 1).trans rfl; have hcz16_2 : w15.cell? ⟨gb111, 2, none⟩ = some (.int .u8 a0_2) := (blk_cell BK111.out 2).trans rfl; have hcz16_3 : w15.cell? ⟨gb111, 3, none⟩ = some (.int .u16 a0_3) := (blk_cell BK111.out 3).trans rfl; have hcz16_4 : w15.cell? ⟨gb111, 4, none⟩ = some (.bool a0_4) := (blk_cell BK111.out 4).trans rfl; have hcz16_5 : w15.cell? ⟨gb111, 5, none⟩ = some (.bool a0_5) := (blk_cell BK111.out 5).trans rfl; have hfz16_0 := blk_frozen BK111.out 0; have hfz16_1 := blk_frozen BK111.out 1; have hfz16_2 := blk_frozen BK111.out 2; have hfz16_3 := blk_frozen BK111.out 3; have hfz16_4 := blk_frozen BK111.out 4; have hfz16_5 := blk_frozen BK111.out 5) | (go_at_call 66; (with_reducible refine (clock_Norm.calls a0_0 a0_1 a0_2 a0_3 a0_4 a0_5 t112 t113 t114 t115 t116 t117 _ A3.out).mono ?_); rintro e w17 ⟨rfl, hb⟩; have n0_ := Aside0.mk (blk_below (g := gb111) (o := .cells #[.int .u8 a0_0, .int .u8 a0_1, .int .u8 a0_2, .int .u16 a0_3, .bool a0_4, .bool a0_5] 34 (0, 0)) (by (with_reducible repeat (first | refine blk_drewN ?_ _ | refine blk_drew ?_ | refine blk_alloc ?_ _)); exact BK111.out) hb); have n1_ := Aside0.mk (below_step (by repeat (first | (with_reducible first | exact HB.out | apply below_alloc | apply pw_below_drewN | apply below_drew1 | refine below_set ?_ GE111.out) | exact HB.out)) hb); clear BK111; clear HB; have BK111 := n0_; have HB := n1_; clear n0_ n1_; (try clear hb); (try clear hb2); (try clear hk); (try clear hi); have hcz18_0 : w17.cell? ⟨gb111, 0, none⟩ = some (.int .u8 a0_0) := (blk_cell BK111.out 0).trans rfl; have hcz18_1 : w17.cell? ⟨gb111, 1, none⟩ = some (.int .u8 a0_1) := (blk_cell BK111.out 1).trans rfl; have hcz18_2 : w17.cell? ⟨gb111, 2, none⟩ = some (.int .u8 a0_2) := (blk_cell BK111.out 2).trans rfl; have hcz18_3 : w17.cell? ⟨gb111, 3, none⟩ = some (.int .u16 a0_3) := (blk_cell BK111.out 3).trans rfl; have hcz18_4 : w17.cell? ⟨gb111, 4, none⟩ = some (.bool a0_4) := (blk_cell BK111.out 4).trans rfl; have hcz18_5 : w17.cell? ⟨gb111, 5, none⟩ = some (.bool a0_5) := (blk_cell BK111.out 5).trans rfl; have hfz18_0 := blk_frozen BK111.out 0; have hfz18_1 := blk_frozen BK111.out 1; have hfz18_2 := blk_frozen BK111.out 2; have hfz18_3 := blk_frozen BK111.out 3; have hfz18_4 := blk_frozen BK111.out 4; have hfz18_5 := blk_frozen BK111.out 5))
        repeat (go_quiet (first | ((with_reducible refine gate_dst (N := 2) rfl ?_); refine box_event ?hg (N := 2) ?hd (cs := #[.int .u8 a0_0, .int .u8 a0_1, .int .u8 a0_2, .int .u16 a0_3, .bool a0_4, .bool a0_5]) (t := 34) ?hr ?_; (case hd => rfl); (case hg => rfl); (case hr => first | (go_simp; done) | (go_simp; rfl)); intro gb111 hg w15 hbox hb; have n0_ := Aside0.mk (below_step (by repeat (first | (with_reducible first | exact HB.out | apply below_alloc | apply pw_below_drewN | apply below_drew1) | exact HB.out)) hb); have n1_ := Aside0.mk (hbox); have n2_ := Aside0.mk ((by rw [hg]; exact (below_size (by repeat (first | (with_reducible first | exact HB.out | apply below_alloc | apply pw_below_drewN | apply below_drew1) | exact HB.out))) : w.heap.size ≤ gb111)); have n3_ := Aside0.mk ((by rw [hg]; exact (below_size (by repeat (first | (with_reducible first | exact HB.out | apply below_alloc | apply pw_below_drewN | apply below_drew1) | exact HB.out))) : w.heap.size ≤ gb111)); clear HB; have HB := n0_; have BK111 := n1_; have GW111 := n2_; have GE111 := n3_; clear n0_ n1_ n2_ n3_; clear hb hbox hg; have hcz16_0 : w15.cell? ⟨gb111, 0, none⟩ = some (.int .u8 a0_0) := (blk_cell BK111.out 0).trans rfl; have hcz16_1 : w15.cell? ⟨gb111, 1, none⟩ = some (.int .u8 a0_1) := (blk_cell BK111.out 1).trans rfl; have hcz16_2 : w15.cell? ⟨gb111, 2, none⟩ = some (.int .u8 a0_2) := (blk_cell BK111.out 2).trans rfl; have hcz16_3 : w15.cell? ⟨gb111, 3, none⟩ = some (.int .u16 a0_3) := (blk_cell BK111.out 3).trans rfl; have hcz16_4 : w15.cell? ⟨gb111, 4, none⟩ = some (.bool a0_4) := (blk_cell BK111.out 4).trans rfl; have hcz16_5 : w15.cell? ⟨gb111, 5, none⟩ = some (.bool a0_5) := (blk_cell BK111.out 5).trans rfl; have hfz16_0 := blk_frozen BK111.out 0; have hfz16_1 := blk_frozen BK111.out 1; have hfz16_2 := blk_frozen BK111.out 2; have hfz16_3 := blk_frozen BK111.out 3; have hfz16_4 := blk_frozen BK111.out 4; have hfz16_5 := blk_frozen BK111.out 5) | (go_at_call 66; (with_reducible refine (clock_Norm.calls a0_0 a0_1 a0_2 a0_3 a0_4 a0_5 t112 t113 t114 t115 t116 t117 _ A3.out).mono ?_); rintro e w17 ⟨rfl, hb⟩; have n0_ := Aside0.mk (blk_below (g := gb111) (o := .cells #[.int .u8 a0_0, .int .u8 a0_1, .int .u8 a0_2, .int .u16 a0_3, .bool a0_4, .bool a0_5] 34 (0, 0)) (by (with_reducible repeat (first | refine blk_drewN ?_ _ | refine blk_drew ?_ | refine blk_alloc ?_ _)); exact BK111.out) hb); have n1_ := Aside0.mk (below_step (by repeat (first | (with_reducible first | exact HB.out | apply below_alloc | apply pw_below_drewN | apply below_drew1 | refine below_set ?_ GE111.out) | exact HB.out)) hb); clear BK111; clear HB; have BK111 := n0_; have HB := n1_; clear n0_ n1_; (try clear hb); (try clear hb2); (try clear hk); (try clear hi); have hcz18_0 : w17.cell? ⟨gb111, 0, none⟩ = some (.int .u8 a0_0) := (blk_cell BK111.out 0).trans rfl; have hcz18_1 : w17.cell? ⟨gb111, 1, none⟩ = some (.int .u8 a0_1) := (blk_cell BK111.out 1).trans rfl; have hcz18_2 : w17.cell? ⟨gb111, 2, none⟩ = some (.int .u8 a0_2) := (blk_cell BK111.out 2).trans rfl; have hcz18_3 : w17.cell? ⟨gb111, 3, none⟩ = some (.int .u16 a0_3) := (blk_cell BK111.out 3).trans rfl; have hcz18_4 : w17.cell? ⟨gb111, 4, none⟩ = some (.bool a0_4) := (blk_cell BK111.out 4).trans rfl; have hcz18_5 : w17.cell? ⟨gb111, 5, none⟩ = some (.bool a0_5) := (blk_cell BK111.out 5).trans rfl; have hfz18_0 := blk_frozen BK111.out 0; have hfz18_1 := blk_frozen BK111.out 1; have hfz18_2 := blk_frozen BK111.out 2; have hfz18_3 := blk_frozen BK111.out 3; have hfz18_4 := blk_frozen BK111.out 4; have hfz18_5 := blk_frozen BK111.out 5)); try go_wp2_with (first | ((with_reducible refine gate_dst (N := 2) rfl ?_); refine box_event ?hg (N := 2) ?hd (cs := #[.int .u8 a0_0, .int .u8 a0_1, .int .u8 a0_2, .int .u16 a0_3, .bool a0_4, .bool a0_5]) (t := 34) ?hr ?_; (case hd => rfl); (case hg => rfl); (case hr => first | (go_simp; done) | (go_simp; rfl)); intro gb111 hg w15 hbox hb; have n0_ := Aside0.mk (below_step (by repeat (first | (with_reducible first | exact HB.out | apply below_alloc | apply pw_below_drewN | apply below_drew1) | exact HB.out)) hb); have n1_ := Aside0.mk (hbox); have n2_ := Aside0.mk ((by rw [hg]; exact (below_size (by repeat (first | (with_reducible first | exact HB.out | apply below_alloc | apply pw_below_drewN | apply below_drew1) | exact HB.out))) : w.heap.size ≤ gb111)); have n3_ := Aside0.mk ((by rw [hg]; exact (below_size (by repeat (first | (with_reducible first | exact HB.out | apply below_alloc | apply pw_below_drewN | apply below_drew1) | exact HB.out))) : w.heap.size ≤ gb111)); clear HB; have HB := n0_; have BK111 := n1_; have GW111 := n2_; have GE111 := n3_; clear n0_ n1_ n2_ n3_; clear hb hbox hg; have hcz16_0 : w15.cell? ⟨gb111, 0, none⟩ = some (.int .u8 a0_0) := (blk_cell BK111.out 0).trans rfl; have hcz16_1 : w15.cell? ⟨gb111, 1, none⟩ = some (.int .u8 a0_1) := (blk_cell BK111.out 1).trans rfl; have hcz16_2 : w15.cell? ⟨gb111, 2, none⟩ = some (.int .u8 a0_2) := (blk_cell BK111.out 2).trans rfl; have hcz16_3 : w15.cell? ⟨gb111, 3, none⟩ = some (.int .u16 a0_3) := (blk_cell BK111.out 3).trans rfl; have hcz16_4 : w15.cell? ⟨gb111, 4, none⟩ = some (.bool a0_4) := (blk_cell BK111.out 4).trans rfl; have hcz16_5 : w15.cell? ⟨gb111, 5, none⟩ = some (.bool a0_5) := (blk_cell BK111.out 5).trans rfl; have hfz16_0 := blk_frozen BK111.out 0; have hfz16_1 := blk_frozen BK111.out 1; have hfz16_2 := blk_frozen BK111.out 2; have hfz16_3 := blk_frozen BK111.out 3; have hfz16_4 := blk_frozen BK111.out 4; have hfz16_5 := blk_frozen BK111.out 5) | (go_at_call 66; (with_reducible refine (clock_Norm.calls a0_0 a0_1 a0_2 a0_3 a0_4 a0_5 t112 t113 t114 t115 t116 t117 _ A3.out).mono ?_); rintro e w17 ⟨rfl, hb⟩; have n0_ := Aside0.mk (blk_below (g := gb111) (o := .cells #[.int .u8 a0_0, .int .u8 a0_1, .int .u8 a0_2, .int .u16 a0_3, .bool a0_4, .bool a0_5] 34 (0, 0)) (by (with_reducible repeat (first | refine blk_drewN ?_ _ | refine blk_drew ?_ | refine blk_alloc ?_ _)); exact BK111.out) hb); have n1_ := Aside0.mk (below_step (by repeat (first | (with_reducible first | exact HB.out | apply below_alloc | apply pw_below_drewN | apply below_drew1 | refine below_set ?_ GE111.out) | exact HB.out)) hb); clear BK111; clear HB; have BK111 := n0_; have HB := n1_; clear n0_ n1_; (try clear hb); (try clear hb2); (try clear hk); (try clear hi); have hcz18_0 : w17.cell? ⟨gb111, 0, none⟩ = some (.int .u8 a0_0) := (blk_cell BK111.out 0).trans rfl; have hcz18_1 : w17.cell? ⟨gb111, 1, none⟩ = some (.int .u8 a0_1) := (blk_cell BK111.out 1).trans rfl; have hcz18_2 : w17.cell? ⟨gb111, 2, none⟩ = some (.int .u8 a0_2) := (blk_cell BK111.out 2).trans rfl; have hcz18_3 : w17.cell? ⟨gb111, 3, none⟩ = some (.int .u16 a0_3) := (blk_cell BK111.out 3).trans rfl; have hcz18_4 : w17.cell? ⟨gb111, 4, none⟩ = some (.bool a0_4) := (blk_cell BK111.out 4).trans rfl; have hcz18_5 : w17.cell? ⟨gb111, 5, none⟩ = some (.bool a0_5) := (blk_cell BK111.out 5).trans rfl; have hfz18_0 := blk_frozen BK111.out 0; have hfz18_1 := blk_frozen BK111.out 1; have hfz18_2 := blk_frozen BK111.out 2; have hfz18_3 := blk_frozen BK111.out 3; have hfz18_4 := blk_frozen BK111.out 4; have hfz18_5 := blk_frozen BK111.out 5)))
        go_ret2
        exact ⟨by first | rfl | (simp [errW_none, errW_some] <;> rfl) | (simp [*, errW_none, errW_some] <;> rfl), by repeat (first | (with_reducible first | exact HB.out | apply below_alloc | apply pw_below_drewN | apply below_drew1 | refine below_set ?_ GE111.out) | exact HB.out)⟩
      · rw [if_neg c14] at H
        have c14b0 : (a1 == 10) = false := beq_eq_false_iff_ne.mpr c14
        have c14b1 : (a1 != 10) = true := bne_iff_ne.mpr c14
        by_cases c19 : a1 = 11
        · rw [if_pos c19] at H
          have c19b0 : (a1 == 11) = true := beq_iff_eq.mpr c19
          have c19b1 : (a1 != 11) = false := bne_eq_false_iff_eq.mpr c19
          clear c19
          simp only [Option.some.injEq, Prod.mk.injEq] at H
          obtain ⟨rfl, rfl⟩ := H
          go_enter Try.func35, Try.ntmps35
          go_wp2_with (first | ((with_reducible refine gate_dst (N := 2) rfl ?_); refine box_event ?hg (N := 2) ?hd (cs := #[.int .u8 a0_0, .int .u8 a0_1, .int .u8 a0_2, .int .u16 a0_3, .bool a0_4, .bool a0_5]) (t := 34) ?hr ?_; (case hd => rfl); (case hg => rfl); (case hr => first | (go_simp; done) | (go_simp; rfl)); intro gb111 hg w20 hbox hb; have n0_ := Aside0.mk (below_step (by repeat (first | (with_reducible first | exact HB.out | apply below_alloc | apply pw_below_drewN | apply below_drew1) | exact HB.out)) hb); have n1_ := Aside0.mk (hbox); have n2_ := Aside0.mk ((by rw [hg]; exact (below_size (by repeat (first | (with_reducible first | exact HB.out | apply below_alloc | apply pw_below_drewN | apply below_drew1) | exact HB.out))) : w.heap.size ≤ gb111)); have n3_ := Aside0.mk ((by rw [hg]; exact (below_size (by repeat (first | (with_reducible first | exact HB.out | apply below_alloc | apply pw_below_drewN | apply below_drew1) | exact HB.out))) : w.heap.size ≤ gb111)); clear HB; have HB := n0_; have BK111 := n1_; have GW111 := n2_; have GE111 := n3_; clear n0_ n1_ n2_ n3_; clear hb hbox hg; have hcz21_0 : w20.cell? ⟨gb111, 0, none⟩ = some (.int .u8 a0_0) := (blk_cell BK111.out 0).trans rfl; have hcz21_1 : w20.cell? ⟨gb111, 1, none⟩ = some (.int .u8 a0_1) := (blk_cell BK111.out 1).trans rfl; have hcz21_2 : w20.cell? ⟨gb111, 2, none⟩ = some (.int .u8 a0_2) := (blk_cell BK111.out 2).trans rfl; have hcz21_3 : w20.cell? ⟨gb111, 3, none⟩ = some (.int .u16 a0_3) := (blk_cell BK111.out 3).trans rfl; have hcz21_4 : w20.cell? ⟨gb111, 4, none⟩ = some (.bool a0_4) := (blk_cell BK111.out 4).trans rfl; have hcz21_5 : w20.cell? ⟨gb111, 5, none⟩ = some (.bool a0_5) := (blk_cell BK111.out 5).trans rfl; have hfz21_0 := blk_frozen BK111.out 0; have hfz21_1 := blk_frozen BK111.out 1; have hfz21_2 := blk_frozen BK111.out 2; have hfz21_3 := blk_frozen BK111.out 3; have hfz21_4 := blk_frozen BK111.out 4; have hfz21_5 := blk_frozen BK111.out 5) | (go_at_call 66; (with_reducible refine (clock_Norm.calls a0_0 a0_1 a0_2 a0_3 a0_4 a0_5 t112 t113 t114 t115 t116 t117 _ A3.out).mono ?_); rintro e w22 ⟨rfl, hb⟩; have n0_ := Aside0.mk (blk_below (g := gb111) (o := .cells #[.int .u8 a0_0, .int .u8 a0_1, .int .u8 a0_2, .int .u16 a0_3, .bool a0_4, .bool a0_5] 34 (0, 0)) (by (with_reducible repeat (first | refine blk_drewN ?_ _ | refine blk_drew ?_ | refine blk_alloc ?_ _)); exact BK111.out) hb); have n1_ := Aside0.mk (below_step (by repeat (first | (with_reducible first | exact HB.out | apply below_alloc | apply pw_below_drewN | apply below_drew1 | refine below_set ?_ GE111.out) | exact HB.out)) hb); clear BK111; clear HB; have BK111 := n0_; have HB := n1_; clear n0_ n1_; (try clear hb); (try clear hb2); (try clear hk); (try clear hi); have hcz23_0 : w22.cell? ⟨gb111, 0, none⟩ = some (.int .u8 a0_0) := (blk_cell BK111.out 0).trans rfl; have hcz23_1 : w22.cell? ⟨gb111, 1, none⟩ = some (.int .u8 a0_1) := (blk_cell BK111.out 1).trans rfl; have hcz23_2 : w22.cell? ⟨gb111, 2, none⟩ = some (.int .u8 a0_2) := (blk_cell BK111.out 2).trans rfl; have hcz23_3 : w22.cell? ⟨gb111, 3, none⟩ = some (.int .u16 a0_3) := (blk_cell BK111.out 3).trans rfl; have hcz23_4 : w22.cell? ⟨gb111, 4, none⟩ = some (.bool a0_4) := (blk_cell BK111.out 4).trans rfl; have hcz23_5 : w22.cell? ⟨gb111, 5, none⟩ = some (.bool a0_5) := (blk_cell BK111.out 5).trans rfl; have hfz23_0 := blk_frozen BK111.out 0; have hfz23_1 := blk_frozen BK111.out 1; have hfz23_2 := blk_frozen BK111.out 2; have hfz23_3 := blk_frozen BK111.out 3; have hfz23_4 := blk_frozen BK111.out 4; have hfz23_5 := blk_frozen BK111.out 5))
          repeat (go_quiet (first | ((with_reducible refine gate_dst (N := 2) rfl ?_); refine box_event ?hg (N := 2) ?hd (cs := #[.int .u8 a0_0, .int .u8 a0_1, .int .u8 a0_2, .int .u16 a0_3, .bool a0_4, .bool a0_5]) (t := 34) ?hr ?_; (case hd => rfl); (case hg => rfl); (case hr => first | (go_simp; done) | (go_simp; rfl)); intro gb111 hg w20 hbox hb; have n0_ := Aside0.mk (below_step (by repeat (first | (with_reducible first | exact HB.out | apply below_alloc | apply pw_below_drewN | apply below_drew1) | exact HB.out)) hb); have n1_ := Aside0.mk (hbox); have n2_ := Aside0.mk ((by rw [hg]; exact (below_size (by repeat (first | (with_reducible first | exact HB.out | apply below_alloc | apply pw_below_drewN | apply below_drew1) | exact HB.out))) : w.heap.size ≤ gb111)); have n3_ := Aside0.mk ((by rw [hg]; exact (below_size (by repeat (first | (with_reducible first | exact HB.out | apply below_alloc | apply pw_below_drewN | apply below_drew1) | exact HB.out))) : w.heap.size ≤ gb111)); clear HB; have HB := n0_; have BK111 := n1_; have GW111 := n2_; have GE111 := n3_; clear n0_ n1_ n2_ n3_; clear hb hbox hg; have hcz21_0 : w20.cell? ⟨gb111, 0, none⟩ = some (.int .u8 a0_0) := (blk_cell BK111.out 0).trans rfl; have hcz21_1 : w20.cell? ⟨gb111, 1, none⟩ = some (.int .u8 a0_1) := (blk_cell BK111.out 1).trans rfl; have hcz21_2 : w20.cell? ⟨gb111, 2, none⟩ = some (.int .u8 a0_2) := (blk_cell BK111.out 2).trans rfl; have hcz21_3 : w20.cell? ⟨gb111, 3, none⟩ = some (.int .u16 a0_3) := (blk_cell BK111.out 3).trans rfl; have hcz21_4 : w20.cell? ⟨gb111, 4, none⟩ = some (.bool a0_4) := (blk_cell BK111.out 4).trans rfl; have hcz21_5 : w20.cell? ⟨gb111, 5, none⟩ = some (.bool a0_5) := (blk_cell BK111.out 5).trans rfl; have hfz21_0 := blk_frozen BK111.out 0; have hfz21_1 := blk_frozen BK111.out 1; have hfz21_2 := blk_frozen BK111.out 2; have hfz21_3 := blk_frozen BK111.out 3; have hfz21_4 := blk_frozen BK111.out 4; have hfz21_5 := blk_frozen BK111.out 5) | (go_at_call 66; (with_reducible refine (clock_Norm.calls a0_0 a0_1 a0_2 a0_3 a0_4 a0_5 t112 t113 t114 t115 t116 t117 _ A3.out).mono ?_); rintro e w22 ⟨rfl, hb⟩; have n0_ := Aside0.mk (blk_below (g := gb111) (o := .cells #[.int .u8 a0_0, .int .u8 a0_1, .int .u8 a0_2, .int .u16 a0_3, .bool a0_4, .bool a0_5] 34 (0, 0)) (by (with_reducible repeat (first | refine blk_drewN ?_ _ | refine blk_drew ?_ | refine blk_alloc ?_ _)); exact BK111.out) hb); have n1_ := Aside0.mk (below_step (by repeat (first | (with_reducible first | exact HB.out | apply below_alloc | apply pw_below_drewN | apply below_drew1 | refine below_set ?_ GE111.out) | exact HB.out)) hb); clear BK111; clear HB; have BK111 := n0_; have HB := n1_; clear n0_ n1_; (try clear hb); (try clear hb2); (try clear hk); (try clear hi); have hcz23_0 : w22.cell? ⟨gb111, 0, none⟩ = some (.int .u8 a0_0) := (blk_cell BK111.out 0).trans rfl; have hcz23_1 : w22.cell? ⟨gb111, 1, none⟩ = some (.int .u8 a0_1) := (blk_cell BK111.out 1).trans rfl; have hcz23_2 : w22.cell? ⟨gb111, 2, none⟩ = some (.int .u8 a0_2) := (blk_cell BK111.out 2).trans rfl; have hcz23_3 : w22.cell? ⟨gb111, 3, none⟩ = some (.int .u16 a0_3) := (blk_cell BK111.out 3).trans rfl; have hcz23_4 : w22.cell? ⟨gb111, 4, none⟩ = some (.bool a0_4) := (blk_cell BK111.out 4).trans rfl; have hcz23_5 : w22.cell? ⟨gb111, 5, none⟩ = some (.bool a0_5) := (blk_cell BK111.out 5).trans rfl; have hfz23_0 := blk_frozen BK111.out 0; have hfz23_1 := blk_frozen BK111.out 1; have hfz23_2 := blk_frozen BK111.out 2; have hfz23_3 := blk_frozen BK111.out 3; have hfz23_4 := blk_frozen BK111.out 4; have hfz23_5 := blk_frozen BK111.out 5)); try go_wp2_with (first | ((with_reducible refine gate_dst (N := 2) rfl ?_); refine box_event ?hg (N := 2) ?hd (cs := #[.int .u8 a0_0, .int .u8 a0_1, .int .u8 a0_2, .int .u16 a0_3, .bool a0_4, .bool a0_5]) (t := 34) ?hr ?_; (case hd => rfl); (case hg => rfl); (case hr => first | (go_simp; done) | (go_simp; rfl)); intro gb111 hg w20 hbox hb; have n0_ := Aside0.mk (below_step (by repeat (first | (with_reducible first | exact HB.out | apply below_alloc | apply pw_below_drewN | apply below_drew1) | exact HB.out)) hb); have n1_ := Aside0.mk (hbox); have n2_ := Aside0.mk ((by rw [hg]; exact (below_size (by repeat (first | (with_reducible first | exact HB.out | apply below_alloc | apply pw_below_drewN | apply below_drew1) | exact HB.out))) : w.heap.size ≤ gb111)); have n3_ := Aside0.mk ((by rw [hg]; exact (below_size (by repeat (first | (with_reducible first | exact HB.out | apply below_alloc | apply pw_below_drewN | apply below_drew1) | exact HB.out))) : w.heap.size ≤ gb111)); clear HB; have HB := n0_; have BK111 := n1_; have GW111 := n2_; have GE111 := n3_; clear n0_ n1_ n2_ n3_; clear hb hbox hg; have hcz21_0 : w20.cell? ⟨gb111, 0, none⟩ = some (.int .u8 a0_0) := (blk_cell BK111.out 0).trans rfl; have hcz21_1 : w20.cell? ⟨gb111, 1, none⟩ = some (.int .u8 a0_1) := (blk_cell BK111.out 1).trans rfl; have hcz21_2 : w20.cell? ⟨gb111, 2, none⟩ = some (.int .u8 a0_2) := (blk_cell BK111.out 2).trans rfl; have hcz21_3 : w20.cell? ⟨gb111, 3, none⟩ = some (.int .u16 a0_3) := (blk_cell BK111.out 3).trans rfl; have hcz21_4 : w20.cell? ⟨gb111, 4, none⟩ = some (.bool a0_4) := (blk_cell BK111.out 4).trans rfl; have hcz21_5 : w20.cell? ⟨gb111, 5, none⟩ = some (.bool a0_5) := (blk_cell BK111.out 5).trans rfl; have hfz21_0 := blk_frozen BK111.out 0; have hfz21_1 := blk_frozen BK111.out 1; have hfz21_2 := blk_frozen BK111.out 2; have hfz21_3 := blk_frozen BK111.out 3; have hfz21_4 := blk_frozen BK111.out 4; have hfz21_5 := blk_frozen BK111.out 5) | (go_at_call 66; (with_reducible refine (clock_Norm.calls a0_0 a0_1 a0_2 a0_3 a0_4 a0_5 t112 t113 t114 t115 t116 t117 _ A3.out).mono ?_); rintro e w22 ⟨rfl, hb⟩; have n0_ := Aside0.mk (blk_below (g := gb111) (o := .cells #[.int .u8 a0_0, .int .u8 a0_1, .int .u8 a0_2, .int .u16 a0_3, .bool a0_4, .bool a0_5] 34 (0, 0)) (by (with_reducible repeat (first | refine blk_drewN ?_ _ | refine blk_drew ?_ | refine blk_alloc ?_ _)); exact BK111.out) hb); have n1_ := Aside0.mk (below_step (by repeat (first | (with_reducible first | exact HB.out | apply below_alloc | apply pw_below_drewN | apply below_drew1 | refine below_set ?_ GE111.out) | exact HB.out)) hb); clear BK111; clear HB; have BK111 := n0_; have HB := n1_; clear n0_ n1_; (try clear hb); (try clear hb2); (try clear hk); (try clear hi); have hcz23_0 : w22.cell? ⟨gb111, 0, none⟩ = some (.int .u8 a0_0) := (blk_cell BK111.out 0).trans rfl; have hcz23_1 : w22.cell? ⟨gb111, 1, none⟩ = some (.int .u8 a0_1) := (blk_cell BK111.out 1).trans rfl; have hcz23_2 : w22.cell? ⟨gb111, 2, none⟩ = some (.int .u8 a0_2) := (blk_cell BK111.out 2).trans rfl; have hcz23_3 : w22.cell? ⟨gb111, 3, none⟩ = some (.int .u16 a0_3) := (blk_cell BK111.out 3).trans rfl; have hcz23_4 : w22.cell? ⟨gb111, 4, none⟩ = some (.bool a0_4) := (blk_cell BK111.out 4).trans rfl; have hcz23_5 : w22.cell? ⟨gb111, 5, none⟩ = some (.bool a0_5) := (blk_cell BK111.out 5).trans rfl; have hfz23_0 := blk_frozen BK111.out 0; have hfz23_1 := blk_frozen BK111.out 1; have hfz23_2 := blk_frozen BK111.out 2; have hfz23_3 := blk_frozen BK111.out 3; have hfz23_4 := blk_frozen BK111.out 4; have hfz23_5 := blk_frozen BK111.out 5)))
          go_ret2
          exact ⟨by first | rfl | (simp [errW_none, errW_some] <;> rfl) | (simp [*, errW_none, errW_some] <;> rfl), by repeat (first | (with_reducible first | exact HB.out | apply below_alloc | apply pw_below_drewN | apply below_drew1 | refine below_set ?_ GE111.out) | exact HB.out)⟩
        · rw [if_neg c19] at H
          have c19b0 : (a1 == 11) = false := beq_eq_false_iff_ne.mpr c19
          have c19b1 : (a1 != 11) = true := bne_iff_ne.mpr c19
          by_cases c24 : a1 = 12
          · rw [if_pos c24] at H
            have c24b0 : (a1 == 12) = true := beq_iff_eq.mpr c24
            have c24b1 : (a1 != 12) = false := bne_eq_false_iff_eq.mpr c24
            clear c24
            replace H := Option.bind_eq_some_iff.mp H
            obtain ⟨t118, A250, H⟩ := H
            replace H : ((clock_bit.f t117 128).bind fun t119 => (some (Go.bits .or .u8 (Go.bits .or .u8 ((t115 / 256) % 256) t118) t119, 0))) = some (r1, r2) := H
            have A25 := Aside0.mk A250
            clear A250
            replace H := Option.bind_eq_some_iff.mp H
            obtain ⟨t119, A260, H⟩ := H
            replace H : (some (Go.bits .or .u8 (Go.bits .or .u8 ((t115 / 256) % 256) t118) t119, 0)) = some (r1, r2) := H
            have A26 := Aside0.mk A260
            clear A260
            simp only [Option.some.injEq, Prod.mk.injEq] at H
            obtain ⟨rfl, rfl⟩ := H
            go_enter Try.func35, Try.ntmps35
            go_wp2_with (first | ((with_reducible refine gate_dst (N := 2) rfl ?_); refine box_event ?hg (N := 2) ?hd (cs := #[.int .u8 a0_0, .int .u8 a0_1, .int .u8 a0_2, .int .u16 a0_3, .bool a0_4, .bool a0_5]) (t := 34) ?hr ?_; (case hd => rfl); (case hg => rfl); (case hr => first | (go_simp; done) | (go_simp; rfl)); intro gb111 hg w27 hbox hb; have n0_ := Aside0.mk (below_step (by repeat (first | (with_reducible first | exact HB.out | apply below_alloc | apply pw_below_drewN | apply below_drew1) | exact HB.out)) hb); have n1_ := Aside0.mk (hbox); have n2_ := Aside0.mk ((by rw [hg]; exact (below_size (by repeat (first | (with_reducible first | exact HB.out | apply below_alloc | apply pw_below_drewN | apply below_drew1) | exact HB.out))) : w.heap.size ≤ gb111)); have n3_ := Aside0.mk ((by rw [hg]; exact (below_size (by repeat (first | (with_reducible first | exact HB.out | apply below_alloc | apply pw_below_drewN | apply below_drew1) | exact HB.out))) : w.heap.size ≤ gb111)); clear HB; have HB := n0_; have BK111 := n1_; have GW111 := n2_; have GE111 := n3_; clear n0_ n1_ n2_ n3_; clear hb hbox hg; have hcz28_0 : w27.cell? ⟨gb111, 0, none⟩ = some (.int .u8 a0_0) := (blk_cell BK111.out 0).trans rfl; have hcz28_1 : w27.cell? ⟨gb111, 1, none⟩ = some (.int .u8 a0_1) := (blk_cell BK111.out 1).trans rfl; have hcz28_2 : w27.cell? ⟨gb111, 2, none⟩ = some (.int .u8 a0_2) := (blk_cell BK111.out 2).trans rfl; have hcz28_3 : w27.cell? ⟨gb111, 3, none⟩ = some (.int .u16 a0_3) := (blk_cell BK111.out 3).trans rfl; have hcz28_4 : w27.cell? ⟨gb111, 4, none⟩ = some (.bool a0_4) := (blk_cell BK111.out 4).trans rfl; have hcz28_5 : w27.cell? ⟨gb111, 5, none⟩ = some (.bool a0_5) := (blk_cell BK111.out 5).trans rfl; have hfz28_0 := blk_frozen BK111.out 0; have hfz28_1 := blk_frozen BK111.out 1; have hfz28_2 := blk_frozen BK111.out 2; have hfz28_3 := blk_frozen BK111.out 3; have hfz28_4 := blk_frozen BK111.out 4; have hfz28_5 := blk_frozen BK111.out 5) | (go_at_call 66; (with_reducible refine (clock_Norm.calls a0_0 a0_1 a0_2 a0_3 a0_4 a0_5 t112 t113 t114 t115 t116 t117 _ A3.out).mono ?_); rintro e w29 ⟨rfl, hb⟩; have n0_ := Aside0.mk (blk_below (g := gb111) (o := .cells #[.int .u8 a0_0, .int .u8 a0_1, .int .u8 a0_2, .int .u16 a0_3, .bool a0_4, .bool a0_5] 34 (0, 0)) (by (with_reducible repeat (first | refine blk_drewN ?_ _ | refine blk_drew ?_ | refine blk_alloc ?_ _)); exact BK111.out) hb); have n1_ := Aside0.mk (below_step (by repeat (first | (with_reducible first | exact HB.out | apply below_alloc | apply pw_below_drewN | apply below_drew1 | refine below_set ?_ GE111.out) | exact HB.out)) hb); clear BK111; clear HB; have BK111 := n0_; have HB := n1_; clear n0_ n1_; (try clear hb); (try clear hb2); (try clear hk); (try clear hi); have hcz30_0 : w29.cell? ⟨gb111, 0, none⟩ = some (.int .u8 a0_0) := (blk_cell BK111.out 0).trans rfl; have hcz30_1 : w29.cell? ⟨gb111, 1, none⟩ = some (.int .u8 a0_1) := (blk_cell BK111.out 1).trans rfl; have hcz30_2 : w29.cell? ⟨gb111, 2, none⟩ = some (.int .u8 a0_2) := (blk_cell BK111.out 2).trans rfl; have hcz30_3 : w29.cell? ⟨gb111, 3, none⟩ = some (.int .u16 a0_3) := (blk_cell BK111.out 3).trans rfl; have hcz30_4 : w29.cell? ⟨gb111, 4, none⟩ = some (.bool a0_4) := (blk_cell BK111.out 4).trans rfl; have hcz30_5 : w29.cell? ⟨gb111, 5, none⟩ = some (.bool a0_5) := (blk_cell BK111.out 5).trans rfl; have hfz30_0 := blk_frozen BK111.out 0; have hfz30_1 := blk_frozen BK111.out 1; have hfz30_2 := blk_frozen BK111.out 2; have hfz30_3 := blk_frozen BK111.out 3; have hfz30_4 := blk_frozen BK111.out 4; have hfz30_5 := blk_frozen BK111.out 5) | (go_at_call 67; (with_reducible refine (clock_bit.calls t116 64 t118 _ A25.out).mono ?_); rintro e w' ⟨rfl, ⟨nd, rfl⟩⟩; (try first | exact ⟨rfl, _, World.drewN_drewN _ _ _⟩ | exact ⟨rfl, _, Eq.trans (World.drewN_drewN _ _ _) (congrArg (World.drewN _) (Nat.add_assoc _ _ _))⟩)) | (go_at_call 67; (with_reducible refine (clock_bit.calls t117 128 t119 _ A26.out).mono ?_); rintro e w' ⟨rfl, ⟨nd, rfl⟩⟩; (try first | exact ⟨rfl, _, World.drewN_drewN _ _ _⟩ | exact ⟨rfl, _, Eq.trans (World.drewN_drewN _ _ _) (congrArg (World.drewN _) (Nat.add_assoc _ _ _))⟩)))
            repeat (go_quiet (first | ((with_reducible refine gate_dst (N := 2) rfl ?_); refine box_event ?hg (N := 2) ?hd (cs := #[.int .u8 a0_0, .int .u8 a0_1, .int .u8 a0_2, .int .u16 a0_3, .bool a0_4, .bool a0_5]) (t := 34) ?hr ?_; (case hd => rfl); (case hg => rfl); (case hr => first | (go_simp; done) | (go_simp; rfl)); intro gb111 hg w27 hbox hb; have n0_ := Aside0.mk (below_step (by repeat (first | (with_reducible first | exact HB.out | apply below_alloc | apply pw_below_drewN | apply below_drew1) | exact HB.out)) hb); have n1_ := Aside0.mk (hbox); have n2_ := Aside0.mk ((by rw [hg]; exact (below_size (by repeat (first | (with_reducible first | exact HB.out | apply below_alloc | apply pw_below_drewN | apply below_drew1) | exact HB.out))) : w.heap.size ≤ gb111)); have n3_ := Aside0.mk ((by rw [hg]; exact (below_size (by repeat (first | (with_reducible first | exact HB.out | apply below_alloc | apply pw_below_drewN | apply below_drew1) | exact HB.out))) : w.heap.size ≤ gb111)); clear HB; have HB := n0_; have BK111 := n1_; have GW111 := n2_; have GE111 := n3_; clear n0_ n1_ n2_ n3_; clear hb hbox hg; have hcz28_0 : w27.cell? ⟨gb111, 0, none⟩ = some (.int .u8 a0_0) := (blk_cell BK111.out 0).trans rfl; have hcz28_1 : w27.cell? ⟨gb111, 1, none⟩ = some (.int .u8 a0_1) := (blk_cell BK111.out 1).trans rfl; have hcz28_2 : w27.cell? ⟨gb111, 2, none⟩ = some (.int .u8 a0_2) := (blk_cell BK111.out 2).trans rfl; have hcz28_3 : w27.cell? ⟨gb111, 3, none⟩ = some (.int .u16 a0_3) := (blk_cell BK111.out 3).trans rfl; have hcz28_4 : w27.cell? ⟨gb111, 4, none⟩ = some (.bool a0_4) := (blk_cell BK111.out 4).trans rfl; have hcz28_5 : w27.cell? ⟨gb111, 5, none⟩ = some (.bool a0_5) := (blk_cell BK111.out 5).trans rfl; have hfz28_0 := blk_frozen BK111.out 0; have hfz28_1 := blk_frozen BK111.out 1; have hfz28_2 := blk_frozen BK111.out 2; have hfz28_3 := blk_frozen BK111.out 3; have hfz28_4 := blk_frozen BK111.out 4; have hfz28_5 := blk_frozen BK111.out 5) | (go_at_call 66; (with_reducible refine (clock_Norm.calls a0_0 a0_1 a0_2 a0_3 a0_4 a0_5 t112 t113 t114 t115 t116 t117 _ A3.out).mono ?_); rintro e w29 ⟨rfl, hb⟩; have n0_ := Aside0.mk (blk_below (g := gb111) (o := .cells #[.int .u8 a0_0, .int .u8 a0_1, .int .u8 a0_2, .int .u16 a0_3, .bool a0_4, .bool a0_5] 34 (0, 0)) (by (with_reducible repeat (first | refine blk_drewN ?_ _ | refine blk_drew ?_ | refine blk_alloc ?_ _)); exact BK111.out) hb); have n1_ := Aside0.mk (below_step (by repeat (first | (with_reducible first | exact HB.out | apply below_alloc | apply pw_below_drewN | apply below_drew1 | refine below_set ?_ GE111.out) | exact HB.out)) hb); clear BK111; clear HB; have BK111 := n0_; have HB := n1_; clear n0_ n1_; (try clear hb); (try clear hb2); (try clear hk); (try clear hi); have hcz30_0 : w29.cell? ⟨gb111, 0, none⟩ = some (.int .u8 a0_0) := (blk_cell BK111.out 0).trans rfl; have hcz30_1 : w29.cell? ⟨gb111, 1, none⟩ = some (.int .u8 a0_1) := (blk_cell BK111.out 1).trans rfl; have hcz30_2 : w29.cell? ⟨gb111, 2, none⟩ = some (.int .u8 a0_2) := (blk_cell BK111.out 2).trans rfl; have hcz30_3 : w29.cell? ⟨gb111, 3, none⟩ = some (.int .u16 a0_3) := (blk_cell BK111.out 3).trans rfl; have hcz30_4 : w29.cell? ⟨gb111, 4, none⟩ = some (.bool a0_4) := (blk_cell BK111.out 4).trans rfl; have hcz30_5 : w29.cell? ⟨gb111, 5, none⟩ = some (.bool a0_5) := (blk_cell BK111.out 5).trans rfl; have hfz30_0 := blk_frozen BK111.out 0; have hfz30_1 := blk_frozen BK111.out 1; have hfz30_2 := blk_frozen BK111.out 2; have hfz30_3 := blk_frozen BK111.out 3; have hfz30_4 := blk_frozen BK111.out 4; have hfz30_5 := blk_frozen BK111.out 5) | (go_at_call 67; (with_reducible refine (clock_bit.calls t116 64 t118 _ A25.out).mono ?_); rintro e w' ⟨rfl, ⟨nd, rfl⟩⟩; (try first | exact ⟨rfl, _, World.drewN_drewN _ _ _⟩ | exact ⟨rfl, _, Eq.trans (World.drewN_drewN _ _ _) (congrArg (World.drewN _) (Nat.add_assoc _ _ _))⟩)) | (go_at_call 67; (with_reducible refine (clock_bit.calls t117 128 t119 _ A26.out).mono ?_); rintro e w' ⟨rfl, ⟨nd, rfl⟩⟩; (try first | exact ⟨rfl, _, World.drewN_drewN _ _ _⟩ | exact ⟨rfl, _, Eq.trans (World.drewN_drewN _ _ _) (congrArg (World.drewN _) (Nat.add_assoc _ _ _))⟩))); try go_wp2_with (first | ((with_reducible refine gate_dst (N := 2) rfl ?_); refine box_event ?hg (N := 2) ?hd (cs := #[.int .u8 a0_0, .int .u8 a0_1, .int .u8 a0_2, .int .u16 a0_3, .bool a0_4, .bool a0_5]) (t := 34) ?hr ?_; (case hd => rfl); (case hg => rfl); (case hr => first | (go_simp; done) | (go_simp; rfl)); intro gb111 hg w27 hbox hb; have n0_ := Aside0.mk (below_step (by repeat (first | (with_reducible first | exact HB.out | apply below_alloc | apply pw_below_drewN | apply below_drew1) | exact HB.out)) hb); have n1_ := Aside0.mk (hbox); have n2_ := Aside0.mk ((by rw [hg]; exact (below_size (by repeat (first | (with_reducible first | exact HB.out | apply below_alloc | apply pw_below_drewN | apply below_drew1) | exact HB.out))) : w.heap.size ≤ gb111)); have n3_ := Aside0.mk ((by rw [hg]; exact (below_size (by repeat (first | (with_reducible first | exact HB.out | apply below_alloc | apply pw_below_drewN | apply below_drew1) | exact HB.out))) : w.heap.size ≤ gb111)); clear HB; have HB := n0_; have BK111 := n1_; have GW111 := n2_; have GE111 := n3_; clear n0_ n1_ n2_ n3_; clear hb hbox hg; have hcz28_0 : w27.cell? ⟨gb111, 0, none⟩ = some (.int .u8 a0_0) := (blk_cell BK111.out 0).trans rfl; have hcz28_1 : w27.cell? ⟨gb111, 1, none⟩ = some (.int .u8 a0_1) := (blk_cell BK111.out 1).trans rfl; have hcz28_2 : w27.cell? ⟨gb111, 2, none⟩ = some (.int .u8 a0_2) := (blk_cell BK111.out 2).trans rfl; have hcz28_3 : w27.cell? ⟨gb111, 3, none⟩ = some (.int .u16 a0_3) := (blk_cell BK111.out 3).trans rfl; have hcz28_4 : w27.cell? ⟨gb111, 4, none⟩ = some (.bool a0_4) := (blk_cell BK111.out 4).trans rfl; have hcz28_5 : w27.cell? ⟨gb111, 5, none⟩ = some (.bool a0_5) := (blk_cell BK111.out 5).trans rfl; have hfz28_0 := blk_frozen BK111.out 0; have hfz28_1 := blk_frozen BK111.out 1; have hfz28_2 := blk_frozen BK111.out 2; have hfz28_3 := blk_frozen BK111.out 3; have hfz28_4 := blk_frozen BK111.out 4; have hfz28_5 := blk_frozen BK111.out 5) | (go_at_call 66; (with_reducible refine (clock_Norm.calls a0_0 a0_1 a0_2 a0_3 a0_4 a0_5 t112 t113 t114 t115 t116 t117 _ A3.out).mono ?_); rintro e w29 ⟨rfl, hb⟩; have n0_ := Aside0.mk (blk_below (g := gb111) (o := .cells #[.int .u8 a0_0, .int .u8 a0_1, .int .u8 a0_2, .int .u16 a0_3, .bool a0_4, .bool a0_5] 34 (0, 0)) (by (with_reducible repeat (first | refine blk_drewN ?_ _ | refine blk_drew ?_ | refine blk_alloc ?_ _)); exact BK111.out) hb); have n1_ := Aside0.mk (below_step (by repeat (first | (with_reducible first | exact HB.out | apply below_alloc | apply pw_below_drewN | apply below_drew1 | refine below_set ?_ GE111.out) | exact HB.out)) hb); clear BK111; clear HB; have BK111 := n0_; have HB := n1_; clear n0_ n1_; (try clear hb); (try clear hb2); (try clear hk); (try clear hi); have hcz30_0 : w29.cell? ⟨gb111, 0, none⟩ = some (.int .u8 a0_0) := (blk_cell BK111.out 0).trans rfl; have hcz30_1 : w29.cell? ⟨gb111, 1, none⟩ = some (.int .u8 a0_1) := (blk_cell BK111.out 1).trans rfl; have hcz30_2 : w29.cell? ⟨gb111, 2, none⟩ = some (.int .u8 a0_2) := (blk_cell BK111.out 2).trans rfl; have hcz30_3 : w29.cell? ⟨gb111, 3, none⟩ = some (.int .u16 a0_3) := (blk_cell BK111.out 3).trans rfl; have hcz30_4 : w29.cell? ⟨gb111, 4, none⟩ = some (.bool a0_4) := (blk_cell BK111.out 4).trans rfl; have hcz30_5 : w29.cell? ⟨gb111, 5, none⟩ = some (.bool a0_5) := (blk_cell BK111.out 5).trans rfl; have hfz30_0 := blk_frozen BK111.out 0; have hfz30_1 := blk_frozen BK111.out 1; have hfz30_2 := blk_frozen BK111.out 2; have hfz30_3 := blk_frozen BK111.out 3; have hfz30_4 := blk_frozen BK111.out 4; have hfz30_5 := blk_frozen BK111.out 5) | (go_at_call 67; (with_reducible refine (clock_bit.calls t116 64 t118 _ A25.out).mono ?_); rintro e w' ⟨rfl, ⟨nd, rfl⟩⟩; (try first | exact ⟨rfl, _, World.drewN_drewN _ _ _⟩ | exact ⟨rfl, _, Eq.trans (World.drewN_drewN _ _ _) (congrArg (World.drewN _) (Nat.add_assoc _ _ _))⟩)) | (go_at_call 67; (with_reducible refine (clock_bit.calls t117 128 t119 _ A26.out).mono ?_); rintro e w' ⟨rfl, ⟨nd, rfl⟩⟩; (try first | exact ⟨rfl, _, World.drewN_drewN _ _ _⟩ | exact ⟨rfl, _, Eq.trans (World.drewN_drewN _ _ _) (congrArg (World.drewN _) (Nat.add_assoc _ _ _))⟩))))
            go_ret2
            exact ⟨by first | rfl | (simp [errW_none, errW_some] <;> rfl) | (simp [*, errW_none, errW_some] <;> rfl), by repeat (first | (with_reducible first | exact HB.out | apply below_alloc | apply pw_below_drewN | apply below_drew1 | refine below_set ?_ GE111.out) | exact HB.out)⟩
          · rw [if_neg c24] at H
            have c24b0 : (a1 == 12) = false := beq_eq_false_iff_ne.mpr c24
            have c24b1 : (a1 != 12) = true := bne_iff_ne.mpr c24
            simp only [Option.some.injEq, Prod.mk.injEq] at H
            obtain ⟨rfl, rfl⟩ := H
            go_enter Try.func35, Try.ntmps35
            go_wp2_with (first | ((with_reducible refine gate_dst (N := 2) rfl ?_); refine box_event ?hg (N := 2) ?hd (cs := #[.int .u8 a0_0, .int .u8 a0_1, .int .u8 a0_2, .int .u16 a0_3, .bool a0_4, .bool a0_5]) (t := 34) ?hr ?_; (case hd => rfl); (case hg => rfl); (case hr => first | (go_simp; done) | (go_simp; rfl)); intro gb111 hg w31 hbox hb; have n0_ := Aside0.mk (below_step (by repeat (first | (with_reducible first | exact HB.out | apply below_alloc | apply pw_below_drewN | apply below_drew1) | exact HB.out)) hb); have n1_ := Aside0.mk (hbox); have n2_ := Aside0.mk ((by rw [hg]; exact (below_size (by repeat (first | (with_reducible first | exact HB.out | apply below_alloc | apply pw_below_drewN | apply below_drew1) | exact HB.out))) : w.heap.size ≤ gb111)); have n3_ := Aside0.mk ((by rw [hg]; exact (below_size (by repeat (first | (with_reducible first | exact HB.out | apply below_alloc | apply pw_below_drewN | apply below_drew1) | exact HB.out))) : w.heap.size ≤ gb111)); clear HB; have HB := n0_; have BK111 := n1_; have GW111 := n2_; have GE111 := n3_; clear n0_ n1_ n2_ n3_; clear hb hbox hg; have hcz32_0 : w31.cell? ⟨gb111, 0, none⟩ = some (.int .u8 a0_0) := (blk_cell BK111.out 0).trans rfl; have hcz32_1 : w31.cell? ⟨gb111, 1, none⟩ = some (.int .u8 a0_1) := (blk_cell BK111.out 1).trans rfl; have hcz32_2 : w31.cell? ⟨gb111, 2, none⟩ = some (.int .u8 a0_2) := (blk_cell BK111.out 2).trans rfl; have hcz32_3 : w31.cell? ⟨gb111, 3, none⟩ = some (.int .u16 a0_3) := (blk_cell BK111.out 3).trans rfl; have hcz32_4 : w31.cell? ⟨gb111, 4, none⟩ = some (.bool a0_4) := (blk_cell BK111.out 4).trans rfl; have hcz32_5 : w31.cell? ⟨gb111, 5, none⟩ = some (.bool a0_5) := (blk_cell BK111.out 5).trans rfl; have hfz32_0 := blk_frozen BK111.out 0; have hfz32_1 := blk_frozen BK111.out 1; have hfz32_2 := blk_frozen BK111.out 2; have hfz32_3 := blk_frozen BK111.out 3; have hfz32_4 := blk_frozen BK111.out 4; have hfz32_5 := blk_frozen BK111.out 5) | (go_at_call 66; (with_reducible refine (clock_Norm.calls a0_0 a0_1 a0_2 a0_3 a0_4 a0_5 t112 t113 t114 t115 t116 t117 _ A3.out).mono ?_); rintro e w33 ⟨rfl, hb⟩; have n0_ := Aside0.mk (blk_below (g := gb111) (o := .cells #[.int .u8 a0_0, .int .u8 a0_1, .int .u8 a0_2, .int .u16 a0_3, .bool a0_4, .bool a0_5] 34 (0, 0)) (by (with_reducible repeat (first | refine blk_drewN ?_ _ | refine blk_drew ?_ | refine blk_alloc ?_ _)); exact BK111.out) hb); have n1_ := Aside0.mk (below_step (by repeat (first | (with_reducible first | exact HB.out | apply below_alloc | apply pw_below_drewN | apply below_drew1 | refine below_set ?_ GE111.out) | exact HB.out)) hb); clear BK111; clear HB; have BK111 := n0_; have HB := n1_; clear n0_ n1_; (try clear hb); (try clear hb2); (try clear hk); (try clear hi); have hcz34_0 : w33.cell? ⟨gb111, 0, none⟩ = some (.int .u8 a0_0) := (blk_cell BK111.out 0).trans rfl; have hcz34_1 : w33.cell? ⟨gb111, 1, none⟩ = some (.int .u8 a0_1) := (blk_cell BK111.out 1).trans rfl; have hcz34_2 : w33.cell? ⟨gb111, 2, none⟩ = some (.int .u8 a0_2) := (blk_cell BK111.out 2).trans rfl; have hcz34_3 : w33.cell? ⟨gb111, 3, none⟩ = some (.int .u16 a0_3) := (blk_cell BK111.out 3).trans rfl; have hcz34_4 : w33.cell? ⟨gb111, 4, none⟩ = some (.bool a0_4) := (blk_cell BK111.out 4).trans rfl; have hcz34_5 : w33.cell? ⟨gb111, 5, none⟩ = some (.bool a0_5) := (blk_cell BK111.out 5).trans rfl; have hfz34_0 := blk_frozen BK111.out 0; have hfz34_1 := blk_frozen BK111.out 1; have hfz34_2 := blk_frozen BK111.out 2; have hfz34_3 := blk_frozen BK111.out 3; have hfz34_4 := blk_frozen BK111.out 4; have hfz34_5 := blk_frozen BK111.out 5))
            repeat (go_quiet (first | ((with_reducible refine gate_dst (N := 2) rfl ?_); refine box_event ?hg (N := 2) ?hd (cs := #[.int .u8 a0_0, .int .u8 a0_1, .int .u8 a0_2, .int .u16 a0_3, .bool a0_4, .bool a0_5]) (t := 34) ?hr ?_; (case hd => rfl); (case hg => rfl); (case hr => first | (go_simp; done) | (go_simp; rfl)); intro gb111 hg w31 hbox hb; have n0_ := Aside0.mk (below_step (by repeat (first | (with_reducible first | exact HB.out | apply below_alloc | apply pw_below_drewN | apply below_drew1) | exact HB.out)) hb); have n1_ := Aside0.mk (hbox); have n2_ := Aside0.mk ((by rw [hg]; exact (below_size (by repeat (first | (with_reducible first | exact HB.out | apply below_alloc | apply pw_below_drewN | apply below_drew1) | exact HB.out))) : w.heap.size ≤ gb111)); have n3_ := Aside0.mk ((by rw [hg]; exact (below_size (by repeat (first | (with_reducible first | exact HB.out | apply below_alloc | apply pw_below_drewN | apply below_drew1) | exact HB.out))) : w.heap.size ≤ gb111)); clear HB; have HB := n0_; have BK111 := n1_; have GW111 := n2_; have GE111 := n3_; clear n0_ n1_ n2_ n3_; clear hb hbox hg; have hcz32_0 : w31.cell? ⟨gb111, 0, none⟩ = some (.int .u8 a0_0) := (blk_cell BK111.out 0).trans rfl; have hcz32_1 : w31.cell? ⟨gb111, 1, none⟩ = some (.int .u8 a0_1) := (blk_cell BK111.out 1).trans rfl; have hcz32_2 : w31.cell? ⟨gb111, 2, none⟩ = some (.int .u8 a0_2) := (blk_cell BK111.out 2).trans rfl; have hcz32_3 : w31.cell? ⟨gb111, 3, none⟩ = some (.int .u16 a0_3) := (blk_cell BK111.out 3).trans rfl; have hcz32_4 : w31.cell? ⟨gb111, 4, none⟩ = some (.bool a0_4) := (blk_cell BK111.out 4).trans rfl; have hcz32_5 : w31.cell? ⟨gb111, 5, none⟩ = some (.bool a0_5) := (blk_cell BK111.out 5).trans rfl; have hfz32_0 := blk_frozen BK111.out 0; have hfz32_1 := blk_frozen BK111.out 1; have hfz32_2 := blk_frozen BK111.out 2; have hfz32_3 := blk_frozen BK111.out 3; have hfz32_4 := blk_frozen BK111.out 4; have hfz32_5 := blk_frozen BK111.out 5) | (go_at_call 66; (with_reducible refine (clock_Norm.calls a0_0 a0_1 a0_2 a0_3 a0_4 a0_5 t112 t113 t114 t115 t116 t117 _ A3.out).mono ?_); rintro e w33 ⟨rfl, hb⟩; have n0_ := Aside0.mk (blk_below (g := gb111) (o := .cells #[.int .u8 a0_0, .int .u8 a0_1, .int .u8 a0_2, .int .u16 a0_3, .bool a0_4, .bool a0_5] 34 (0, 0)) (by (with_reducible repeat (first | refine blk_drewN ?_ _ | refine blk_drew ?_ | refine blk_alloc ?_ _)); exact BK111.out) hb); have n1_ := Aside0.mk (below_step (by repeat (first | (with_reducible first | exact HB.out | apply below_alloc | apply pw_below_drewN | apply below_drew1 | refine below_set ?_ GE111.out) | exact HB.out)) hb); clear BK111; clear HB; have BK111 := n0_; have HB := n1_; clear n0_ n1_; (try clear hb); (try clear hb2); (try clear hk); (try clear hi); have hcz34_0 : w33.cell? ⟨gb111, 0, none⟩ = some (.int .u8 a0_0) := (blk_cell BK111.out 0).trans rfl; have hcz34_1 : w33.cell? ⟨gb111, 1, none⟩ = some (.int .u8 a0_1) := (blk_cell BK111.out 1).trans rfl; have hcz34_2 : w33.cell? ⟨gb111, 2, none⟩ = some (.int .u8 a0_2) := (blk_cell BK111.out 2).trans rfl; have hcz34_3 : w33.cell? ⟨gb111, 3, none⟩ = some (.int .u16 a0_3) := (blk_cell BK111.out 3).trans rfl; have hcz34_4 : w33.cell? ⟨gb111, 4, none⟩ = some (.bool a0_4) := (blk_cell BK111.out 4).trans rfl; have hcz34_5 : w33.cell? ⟨gb111, 5, none⟩ = some (.bool a0_5) := (blk_cell BK111.out 5).trans rfl; have hfz34_0 := blk_frozen BK111.out 0; have hfz34_1 := blk_frozen BK111.out 1; have hfz34_2 := blk_frozen BK111.out 2; have hfz34_3 := blk_frozen BK111.out 3; have hfz34_4 := blk_frozen BK111.out 4; have hfz34_5 := blk_frozen BK111.out 5)); try go_wp2_with (first | ((with_reducible refine gate_dst (N := 2) rfl ?_); refine box_event ?hg (N := 2) ?hd (cs := #[.int .u8 a0_0, .int .u8 a0_1, .int .u8 a0_2, .int .u16 a0_3, .bool a0_4, .bool a0_5]) (t := 34) ?hr ?_; (case hd => rfl); (case hg => rfl); (case hr => first | (go_simp; done) | (go_simp; rfl)); intro gb111 hg w31 hbox hb; have n0_ := Aside0.mk (below_step (by repeat (first | (with_reducible first | exact HB.out | apply below_alloc | apply pw_below_drewN | apply below_drew1) | exact HB.out)) hb); have n1_ := Aside0.mk (hbox); have n2_ := Aside0.mk ((by rw [hg]; exact (below_size (by repeat (first | (with_reducible first | exact HB.out | apply below_alloc | apply pw_below_drewN | apply below_drew1) | exact HB.out))) : w.heap.size ≤ gb111)); have n3_ := Aside0.mk ((by rw [hg]; exact (below_size (by repeat (first | (with_reducible first | exact HB.out | apply below_alloc | apply pw_below_drewN | apply below_drew1) | exact HB.out))) : w.heap.size ≤ gb111)); clear HB; have HB := n0_; have BK111 := n1_; have GW111 := n2_; have GE111 := n3_; clear n0_ n1_ n2_ n3_; clear hb hbox hg; have hcz32_0 : w31.cell? ⟨gb111, 0, none⟩ = some (.int .u8 a0_0) := (blk_cell BK111.out 0).trans rfl; have hcz32_1 : w31.cell? ⟨gb111, 1, none⟩ = some (.int .u8 a0_1) := (blk_cell BK111.out 1).trans rfl; have hcz32_2 : w31.cell? ⟨gb111, 2, none⟩ = some (.int .u8 a0_2) := (blk_cell BK111.out 2).trans rfl; have hcz32_3 : w31.cell? ⟨gb111, 3, none⟩ = some (.int .u16 a0_3) := (blk_cell BK111.out 3).trans rfl; have hcz32_4 : w31.cell? ⟨gb111, 4, none⟩ = some (.bool a0_4) := (blk_cell BK111.out 4).trans rfl; have hcz32_5 : w31.cell? ⟨gb111, 5, none⟩ = some (.bool a0_5) := (blk_cell BK111.out 5).trans rfl; have hfz32_0 := blk_frozen BK111.out 0; have hfz32_1 := blk_frozen BK111.out 1; have hfz32_2 := blk_frozen BK111.out 2; have hfz32_3 := blk_frozen BK111.out 3; have hfz32_4 := blk_frozen BK111.out 4; have hfz32_5 := blk_frozen BK111.out 5) | (go_at_call 66; (with_reducible refine (clock_Norm.calls a0_0 a0_1 a0_2 a0_3 a0_4 a0_5 t112 t113 t114 t115 t116 t117 _ A3.out).mono ?_); rintro e w33 ⟨rfl, hb⟩; have n0_ := Aside0.mk (blk_below (g := gb111) (o := .cells #[.int .u8 a0_0, .int .u8 a0_1, .int .u8 a0_2, .int .u16 a0_3, .bool a0_4, .bool a0_5] 34 (0, 0)) (by (with_reducible repeat (first | refine blk_drewN ?_ _ | refine blk_drew ?_ | refine blk_alloc ?_ _)); exact BK111.out) hb); have n1_ := Aside0.mk (below_step (by repeat (first | (with_reducible first | exact HB.out | apply below_alloc | apply pw_below_drewN | apply below_drew1 | refine below_set ?_ GE111.out) | exact HB.out)) hb); clear BK111; clear HB; have BK111 := n0_; have HB := n1_; clear n0_ n1_; (try clear hb); (try clear hb2); (try clear hk); (try clear hi); have hcz34_0 : w33.cell? ⟨gb111, 0, none⟩ = some (.int .u8 a0_0) := (blk_cell BK111.out 0).trans rfl; have hcz34_1 : w33.cell? ⟨gb111, 1, none⟩ = some (.int .u8 a0_1) := (blk_cell BK111.out 1).trans rfl; have hcz34_2 : w33.cell? ⟨gb111, 2, none⟩ = some (.int .u8 a0_2) := (blk_cell BK111.out 2).trans rfl; have hcz34_3 : w33.cell? ⟨gb111, 3, none⟩ = some (.int .u16 a0_3) := (blk_cell BK111.out 3).trans rfl; have hcz34_4 : w33.cell? ⟨gb111, 4, none⟩ = some (.bool a0_4) := (blk_cell BK111.out 4).trans rfl; have hcz34_5 : w33.cell? ⟨gb111, 5, none⟩ = some (.bool a0_5) := (blk_cell BK111.out 5).trans rfl; have hfz34_0 := blk_frozen BK111.out 0; have hfz34_1 := blk_frozen BK111.out 1; have hfz34_2 := blk_frozen BK111.out 2; have hfz34_3 := blk_frozen BK111.out 3; have hfz34_4 := blk_frozen BK111.out 4; have hfz34_5 := blk_frozen BK111.out 5)))
            go_ret2
            exact ⟨by first | rfl | (simp [errW_none, errW_some] <;> rfl) | (simp [*, errW_none, errW_some] <;> rfl), by repeat (first | (with_reducible first | exact HB.out | apply below_alloc | apply pw_below_drewN | apply below_drew1 | refine below_set ?_ GE111.out) | exact HB.out)⟩
end Go.Proofs.Ytmjjojbedllmgaa.G
end
section
namespace Go.Proofs.Ytmjjojbedllmgaa.Hand
open Go.RowKit
open Go.Proofs.Ytmjjojbedllmgaa.G
open Go.Proofs.YtmjjojbedllmgaaW.PrintWords Go.Proofs.YtmjjojbedllmgaaW.PrintLast Go.Proofs.YtmjjojbedllmgaaW.PrintMore
set_option linter.unusedVariables false
set_option linter.unusedSimpArgs false
def Ct.latch (s : Ct) (v : Int) : Ct := if v = 1 ∧ s.last = 0 then { s with hd := s.lv, last := v } else { s with last := v }
set_option maxRecDepth 100000 in
set_option maxHeartbeats 4000000 in
theorem latch_at {w : World} {a : Ad} {s : Ct} (h : CartAt w a s) (v : Int) :
    Calls Try.prog 42 #[a.p, .int .u8 v] w fun e w' => e = .returned (.tuple #[]) ∧ CartAt w' a (s.latch v) ∧ Upto a.S w w' := by
  have c6 := h.c6
  have c7 := h.c7
  have c8 := h.c8
  have c9 := h.c9
  have c10 := h.c10
  have c11 := h.c11
  have c12 := h.c12
  have c13 := h.c13
  have c14 := h.c14
  have c15 := h.c15
  have c16 := h.c16
  have c17 := h.c17
  have c18 := h.c18
  have fz := h.frozen
  have HH := Aside0.mk h
  clear h
  by_cases hv : v = 1
  case neg =>
    have hv' : (v == 1) = false := by simp [hv]
    rw [Ct.latch, if_neg (fun q => hv q.1)]
    go_enter Try.func42, Try.ntmps42
    go_wp2
    go_returns
    refine ⟨rfl, HH.out.stored ?_ ?_ rfl rfl⟩
    · have p := blk_setL HH.out.box 18 (.int .u8 v)
      rw [cells_last] at p
      exact p
    · with_reducible (refine Upto.setB ?_ _ _; exact Upto.refl _ _)
  case pos =>
    subst hv
    by_cases hl : s.last = 0
    case neg =>
      rw [Ct.latch, if_neg (fun q => hl q.2)]
      go_enter Try.func42, Try.ntmps42
      go_wp2
      go_returns
      refine ⟨rfl, HH.out.stored ?_ ?_ rfl rfl⟩
      · have p := blk_setL HH.out.box 18 (.int .u8 1)
        rw [cells_last] at p
        exact p
      · with_reducible (refine Upto.setB ?_ _ _; exact Upto.refl _ _)
    case pos =>
      rw [Ct.latch, if_pos ⟨rfl, hl⟩]
      rw [hl] at c18
      go_enter Try.func42, Try.ntmps42
      go_wp2
      go_returns
      refine ⟨rfl, HH.out.stored ?_ ?_ rfl rfl⟩
      · have p := (blk_setL (blk_setL (blk_setL (blk_setL (blk_setL (blk_setL HH.out.box 12 (.int .u8 s.lv.s)) 13 (.int .u8 s.lv.m)) 14 (.int .u8 s.lv.h)) 15 (.int .u16 s.lv.d)) 16 (.bool s.lv.ht)) 17 (.bool s.lv.cy))
        rw [cells_hd] at p
        replace p := blk_setL p 18 (.int .u8 1)
        rw [cells_last] at p
        exact p
      · with_reducible (refine Upto.setB ?_ _ _; refine Upto.setB ?_ _ _; refine Upto.setB ?_ _ _; refine Upto.setB ?_ _ _; refine Upto.setB ?_ _ _; refine Upto.setB ?_ _ _; refine Upto.setB ?_ _ _; exact Upto.refl _ _)
def Ct.rom (s : Ct) (ad : Int) : Option Int := mapper_Rom.f s.mp.k s.mp.o s.mp.l s.mp.h s.mp.r s.mp.md ad s.img.length
def Ct.at (s : Ct) (ad : Int) : Int := ramF s.mp.k s.mp.o s.mp.h s.mp.r s.mp.md ad s.ram.length
theorem at_eq (s : Ct) (ad : Int) : mapper_Ram.f s.mp.k s.mp.o s.mp.l s.mp.h s.mp.r s.mp.md ad s.ram.length = some (s.at ad) := rfl
set_option maxRecDepth 100000 in
set_option maxHeartbeats 4000000 in
theorem read_rom {w : World} {a : Ad} {s : Ct} (h : CartAt w a s) (ad n : Int) (hn : s.rom ad = some n) (h0 : n ≥ 0) (h1 : n < s.img.length) :
    Calls Try.prog 13 #[a.p, .int .u16 ad] w fun e w' => e = .returned (.int .u8 (rd s.img n)) ∧ Below w.heap.size w w' := by
  have HH := Aside0.mk h
  have HN : Aside0 (mapper_Rom.f s.mp.k s.mp.o s.mp.l s.mp.h s.mp.r s.mp.md ad s.img.length = some n) := Aside0.mk hn
  clear h hn
  go_enter Try.func13, Try.ntmps13
  go_wp2_with fail
  refine (none_at HH.out).mono ?_
  rintro e' w1 ⟨rfl, hw⟩
  replace hw := hw.symm
  subst hw
  have c0 := HH.out.c0
  have c1 := HH.out.c1
  have c2 := HH.out.c2
  have c3 := HH.out.c3
  have c4 := HH.out.c4
  have c5 := HH.out.c5
  have c29 := HH.out.c29
  have c30 := HH.out.c30
  go_wp2_with fail
  go_region_with ((go_at_call 33; ((with_reducible refine (mapper_Rom.calls _ _ _ _ _ _ _ _ n _ HN.out).mono ?_)); rintro e' w1 ⟨rfl, hb⟩; have HB : Aside0 (Below w.heap.size w w1) := Aside0.mk (Below.trans (below_drew1 (Below.refl _ _)) hb); clear hb))
  all_goals (
    have h1 := HH.out.below HB.out
    have d29 := h1.c29
    have hcell := h1.image.cell n.toNat (by omega)
    have hx : ((n.toNat : Nat) : Int) = n := by omega
    rw [hx] at hcell
    clear hx h1
    go_wp2
    go_returns
    exact ⟨rfl, by have q := HB.out; go_grown⟩)
set_option maxRecDepth 100000 in
set_option maxHeartbeats 4000000 in
theorem read_reg {w : World} {a : Ad} {s : Ct} (h : CartAt w a s) (ad m v e : Int) (hn : s.rom ad = some (-1)) (hg : s.reg ad = some m) (hm : m > 0) (hv : clock_Read.f s.hd.s s.hd.m s.hd.h s.hd.d s.hd.ht s.hd.cy m = some (v, e)) :
    Calls Try.prog 13 #[a.p, .int .u16 ad] w fun e w' => e = .returned (.int .u8 v) ∧ Below w.heap.size w w' := by
  have HR := Aside0.mk hv
  clear hv
  have HH := Aside0.mk h
  have HN : Aside0 (mapper_Rom.f s.mp.k s.mp.o s.mp.l s.mp.h s.mp.r s.mp.md ad s.img.length = some (-1)) := Aside0.mk hn
  have HG := Aside0.mk hg
  clear h hn hg
  go_enter Try.func13, Try.ntmps13
  go_wp2_with fail
  refine (none_at HH.out).mono ?_
  rintro e' w1 ⟨rfl, hw⟩
  replace hw := hw.symm
  subst hw
  have c0 := HH.out.c0
  have c1 := HH.out.c1
  have c2 := HH.out.c2
  have c3 := HH.out.c3
  have c4 := HH.out.c4
  have c5 := HH.out.c5
  have c29 := HH.out.c29
  have c30 := HH.out.c30
  go_wp2_with fail
  go_region_with ((go_at_call 33; ((with_reducible refine (mapper_Rom.calls _ _ _ _ _ _ _ _ (-1) _ HN.out).mono ?_)); rintro e' w1 ⟨rfl, hb⟩; have HB : Aside0 (Below w.heap.size w w1) := Aside0.mk (Below.trans (below_drew1 (Below.refl _ _)) hb); clear hb))
  all_goals (
    have h1 := HH.out.below HB.out
    have HV := Aside0.mk h1
    clear c0 c1 c2 c3 c4 c5 c29 c30 h1
    go_wp2_with fail
    refine (reg_at HV.out ad _ HG.out).mono ?_
    rintro e' w2 ⟨rfl, hb⟩
    have HB2 : Aside0 (Below w.heap.size w w2) := Aside0.mk (below_step HB.out hb)
    clear hb HB HV
    have h2 := HH.out.below HB2.out
    have H2 := Aside0.mk h2
    clear h2 HH
    have d12 := H2.out.c12
    have d13 := H2.out.c13
    have d14 := H2.out.c14
    have d15 := H2.out.c15
    have d16 := H2.out.c16
    have d17 := H2.out.c17
    go_wp2_with fail
    refine (clock_Read.calls _ _ _ _ _ _ _ _ _ _ HR.out).mono ?_
    rintro e' w3 ⟨rfl, hb⟩
    have HB3 := Aside0.mk (below_step HB2.out hb)
    clear hb
    go_wp2
    go_returns
    exact ⟨rfl, HB3.out⟩)
set_option maxRecDepth 100000 in
set_option maxHeartbeats 4000000 in
theorem read_ram {w : World} {a : Ad} {s : Ct} (h : CartAt w a s) (ad m n : Int) (hn : s.rom ad = some (-1)) (hg : s.reg ad = some m) (hm : ¬ m > 0) (hat : s.at ad = n) (h0 : n ≥ 0) (h1 : n < s.ram.length) :
    Calls Try.prog 13 #[a.p, .int .u16 ad] w fun e w' => e = .returned (.int .u8 (rd s.ram n)) ∧ Below w.heap.size w w' := by
  have HA : Aside0 (mapper_Ram.f s.mp.k s.mp.o s.mp.l s.mp.h s.mp.r s.mp.md ad s.ram.length = some n) := Aside0.mk ((at_eq s ad).trans (congrArg some hat))
  clear hat
  have HH := Aside0.mk h
  have HN : Aside0 (mapper_Rom.f s.mp.k s.mp.o s.mp.l s.mp.h s.mp.r s.mp.md ad s.img.length = some (-1)) := Aside0.mk hn
  have HG := Aside0.mk hg
  clear h hn hg
  go_enter Try.func13, Try.ntmps13
  go_wp2_with fail
  refine (none_at HH.out).mono ?_
  rintro e' w1 ⟨rfl, hw⟩
  replace hw := hw.symm
  subst hw
  have c0 := HH.out.c0
  have c1 := HH.out.c1
  have c2 := HH.out.c2
  have c3 := HH.out.c3
  have c4 := HH.out.c4
  have c5 := HH.out.c5
  have c29 := HH.out.c29
  have c30 := HH.out.c30
  go_wp2_with fail
  go_region_with ((go_at_call 33; ((with_reducible refine (mapper_Rom.calls _ _ _ _ _ _ _ _ (-1) _ HN.out).mono ?_)); rintro e' w1 ⟨rfl, hb⟩; have HB : Aside0 (Below w.heap.size w w1) := Aside0.mk (Below.trans (below_drew1 (Below.refl _ _)) hb); clear hb))
  all_goals (
    have h1 := HH.out.below HB.out
    have HV := Aside0.mk h1
    clear c0 c1 c2 c3 c4 c5 c29 c30 h1
    go_wp2_with fail
    refine (reg_at HV.out ad _ HG.out).mono ?_
    rintro e' w2 ⟨rfl, hb⟩
    have HB2 : Aside0 (Below w.heap.size w w2) := Aside0.mk (below_step HB.out hb)
    clear hb HB HV
    have h2 := HH.out.below HB2.out
    have H2 := Aside0.mk h2
    clear h2 HH
    have d0 := H2.out.c0
    have d1 := H2.out.c1
    have d2 := H2.out.c2
    have d3 := H2.out.c3
    have d4 := H2.out.c4
    have d5 := H2.out.c5
    have d30 := H2.out.c30
    go_wp2_with fail
    go_region_with ((go_at_call 36; ((with_reducible refine (mapper_Ram.calls _ _ _ _ _ _ _ _ _ _ HA.out).mono ?_)); rintro e' w3 ⟨rfl, hb⟩; have HB3 : Aside0 (Below w.heap.size w w3) := Aside0.mk (below_step HB2.out (Below.trans (below_drew1 (Below.refl _ _)) hb)); have H3 : Aside0 (CartAt w3 a s) := Aside0.mk (H2.out.below (Below.trans (below_drew1 (Below.refl _ _)) hb)); clear hb))
    all_goals (
      have g30 := H3.out.c30
      have hcell := H3.out.row.cell n.toNat (by omega)
      have hx : ((n.toNat : Nat) : Int) = n := by omega
      rw [hx] at hcell
      clear hx
      go_wp2
      go_returns
      exact ⟨rfl, HB3.out⟩))
set_option maxRecDepth 100000 in
set_option maxHeartbeats 4000000 in
theorem read_no {w : World} {a : Ad} {s : Ct} (h : CartAt w a s) (ad m n : Int) (hn : s.rom ad = some (-1)) (hg : s.reg ad = some m) (hm : ¬ m > 0) (hat : s.at ad = n) (h0 : ¬ n ≥ 0) :
    Calls Try.prog 13 #[a.p, .int .u16 ad] w fun e w' => e = .returned (.int .u8 255) ∧ Below w.heap.size w w' := by
  have HA : Aside0 (mapper_Ram.f s.mp.k s.mp.o s.mp.l s.mp.h s.mp.r s.mp.md ad s.ram.length = some n) := Aside0.mk ((at_eq s ad).trans (congrArg some hat))
  clear hat
  have HH := Aside0.mk h
  have HN : Aside0 (mapper_Rom.f s.mp.k s.mp.o s.mp.l s.mp.h s.mp.r s.mp.md ad s.img.length = some (-1)) := Aside0.mk hn
  have HG := Aside0.mk hg
  clear h hn hg
  go_enter Try.func13, Try.ntmps13
  go_wp2_with fail
  refine (none_at HH.out).mono ?_
  rintro e' w1 ⟨rfl, hw⟩
  replace hw := hw.symm
  subst hw
  have c0 := HH.out.c0
  have c1 := HH.out.c1
  have c2 := HH.out.c2
  have c3 := HH.out.c3
  have c4 := HH.out.c4
  have c5 := HH.out.c5
  have c29 := HH.out.c29
  have c30 := HH.out.c30
  go_wp2_with fail
  go_region_with ((go_at_call 33; ((with_reducible refine (mapper_Rom.calls _ _ _ _ _ _ _ _ (-1) _ HN.out).mono ?_)); rintro e' w1 ⟨rfl, hb⟩; have HB : Aside0 (Below w.heap.size w w1) := Aside0.mk (Below.trans (below_drew1 (Below.refl _ _)) hb); clear hb))
  all_goals (
    have h1 := HH.out.below HB.out
    have HV := Aside0.mk h1
    clear c0 c1 c2 c3 c4 c5 c29 c30 h1
    go_wp2_with fail
    refine (reg_at HV.out ad _ HG.out).mono ?_
    rintro e' w2 ⟨rfl, hb⟩
    have HB2 : Aside0 (Below w.heap.size w w2) := Aside0.mk (below_step HB.out hb)
    clear hb HB HV
    have h2 := HH.out.below HB2.out
    have H2 := Aside0.mk h2
    clear h2 HH
    have d0 := H2.out.c0
    have d1 := H2.out.c1
    have d2 := H2.out.c2
    have d3 := H2.out.c3
    have d4 := H2.out.c4
    have d5 := H2.out.c5
    have d30 := H2.out.c30
    go_wp2_with fail
    go_region_with ((go_at_call 36; ((with_reducible refine (mapper_Ram.calls _ _ _ _ _ _ _ _ _ _ HA.out).mono ?_)); rintro e' w3 ⟨rfl, hb⟩; have HB3 : Aside0 (Below w.heap.size w w3) := Aside0.mk (below_step HB2.out (Below.trans (below_drew1 (Below.refl _ _)) hb)); have H3 : Aside0 (CartAt w3 a s) := Aside0.mk (H2.out.below (Below.trans (below_drew1 (Below.refl _ _)) hb)); clear hb))
    all_goals (
      go_wp2
      go_returns
      exact ⟨rfl, HB3.out⟩))
end Go.Proofs.Ytmjjojbedllmgaa.Hand
end
