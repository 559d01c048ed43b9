/- clock.Tick by hand: a second later: the labelled loop over the four parts, each stepped through its address. -/
import Derived.Test.YtkfjofkocccefaaG2
import Derived.Deep.MidRow
import Derived.Lib.EndianMore
import Derived.WalkMore
import Derived.Handy
namespace Go.Proofs.Ytkfjofkocccefaa.Hand
open Go.RowKit
open Go.Proofs.Ytkfjofkocccefaa.G
open Go.Proofs.YtkfjofkocccefaaW.PrintWords Go.Proofs.YtkfjofkocccefaaW.PrintLast Go.Proofs.YtkfjofkocccefaaW.PrintMore
set_option linter.unusedVariables false
set_option maxRecDepth 100000 in
set_option maxHeartbeats 4000000 in
theorem tick_halt (a0 a1 a2 a3 : Int) (a4 a5 : Bool) (s m h d : Int) (cy : Bool) (hn : clock_Norm.f a0 a1 a2 a3 a4 a5 = some (s, m, h, d, true, cy))  (w : World) :
    Calls Try.prog 13 #[.agg #[.int .u8 a0, .int .u8 a1, .int .u8 a2, .int .u16 a3, .bool a4, .bool a5]] w fun e' w' => e' = .returned (.agg #[.int .u8 s, .int .u8 m, .int .u8 h, .int .u16 d, .bool true, .bool cy]) ∧ Below w.heap.size w w' := by
  have HN := Aside0.mk hn
  clear hn
  go_enter Try.func13, Try.ntmps13
  go_wp2_with fail
  have BK := Aside0.mk (blk_alloc (blk_new w (.cells #[.int .u8 a0, .int .u8 a1, .int .u8 a2, .int .u16 a3, .bool a4, .bool a5] 24)) (.cells #[.int .u8 0, .int .u8 0, .int .u8 0, .int .u16 0, .bool false, .bool false] 24))
  have e1 : (w.alloc (.cells #[.int .u8 a0, .int .u8 a1, .int .u8 a2, .int .u16 a3, .bool a4, .bool a5] 24)).heap.size = w.heap.size + 1 := by simp
  have zN := heap_alloc_new (w.alloc (.cells #[.int .u8 a0, .int .u8 a1, .int .u8 a2, .int .u16 a3, .bool a4, .bool a5] 24)) (.cells #[.int .u8 0, .int .u8 0, .int .u8 0, .int .u16 0, .bool false, .bool false] 24)
  rw [e1] at zN
  have BR := Aside0.mk zN
  have HB := Aside0.mk (below_alloc (below_alloc (Below.refl w.heap.size w) (.cells #[.int .u8 a0, .int .u8 a1, .int .u8 a2, .int .u16 a3, .bool a4, .bool a5] 24)) (.cells #[.int .u8 0, .int .u8 0, .int .u8 0, .int .u16 0, .bool false, .bool false] 24))
  clear zN e1
  have hz : ((w.alloc (.cells #[.int .u8 a0, .int .u8 a1, .int .u8 a2, .int .u16 a3, .bool a4, .bool a5] 24)).alloc (.cells #[.int .u8 0, .int .u8 0, .int .u8 0, .int .u16 0, .bool false, .bool false] 24)).heap.size = w.heap.size + 2 := by simp
  generalize (w.alloc (.cells #[.int .u8 a0, .int .u8 a1, .int .u8 a2, .int .u16 a3, .bool a4, .bool a5] 24)).alloc (.cells #[.int .u8 0, .int .u8 0, .int .u8 0, .int .u16 0, .bool false, .bool false] 24) = W at *
  have c0 : W.cell? ⟨w.heap.size, 0, none⟩ = some (.int .u8 a0) := (blk_cell BK.out 0).trans rfl
  have c1 : W.cell? ⟨w.heap.size, 1, none⟩ = some (.int .u8 a1) := (blk_cell BK.out 1).trans rfl
  have c2 : W.cell? ⟨w.heap.size, 2, none⟩ = some (.int .u8 a2) := (blk_cell BK.out 2).trans rfl
  have c3 : W.cell? ⟨w.heap.size, 3, none⟩ = some (.int .u16 a3) := (blk_cell BK.out 3).trans rfl
  have c4 : W.cell? ⟨w.heap.size, 4, none⟩ = some (.bool a4) := (blk_cell BK.out 4).trans rfl
  have c5 : W.cell? ⟨w.heap.size, 5, none⟩ = some (.bool a5) := (blk_cell BK.out 5).trans rfl
  have fz := fun i => blk_frozen BK.out i
  go_step3
  go_wp2_with (first | (go_at_call 15; ((with_reducible refine (clock_Norm.calls a0 a1 a2 a3 a4 a5 (s) (m) (h) (d) (true) (cy) _ HN.out).mono ?_)); rintro e' w1 ⟨rfl, hb⟩; have n0 := Aside0.mk ((hb.block w.heap.size (by rw [hz]; omega)).trans BK.out); have n1 := Aside0.mk ((hb.block (w.heap.size + 1) (by rw [hz]; omega)).trans BR.out); have n2 := Aside0.mk (Below.trans HB.out (hb.mono (by rw [hz]; omega))); clear hb BK BR HB c0 c1 c2 c3 c4 c5 fz; have c0 : w1.cell? ⟨w.heap.size, 0, none⟩ = some (.int .u8 a0) := (blk_cell n0.out 0).trans rfl; have c1 : w1.cell? ⟨w.heap.size, 1, none⟩ = some (.int .u8 a1) := (blk_cell n0.out 1).trans rfl; have c2 : w1.cell? ⟨w.heap.size, 2, none⟩ = some (.int .u8 a2) := (blk_cell n0.out 2).trans rfl; have c3 : w1.cell? ⟨w.heap.size, 3, none⟩ = some (.int .u16 a3) := (blk_cell n0.out 3).trans rfl; have c4 : w1.cell? ⟨w.heap.size, 4, none⟩ = some (.bool a4) := (blk_cell n0.out 4).trans rfl; have c5 : w1.cell? ⟨w.heap.size, 5, none⟩ = some (.bool a5) := (blk_cell n0.out 5).trans rfl; have z0 : w1.cell? ⟨(w.heap.size + 1), 0, none⟩ = some (.int .u8 0) := (blk_cell n1.out 0).trans rfl; have z1 : w1.cell? ⟨(w.heap.size + 1), 1, none⟩ = some (.int .u8 0) := (blk_cell n1.out 1).trans rfl; have z2 : w1.cell? ⟨(w.heap.size + 1), 2, none⟩ = some (.int .u8 0) := (blk_cell n1.out 2).trans rfl; have z3 : w1.cell? ⟨(w.heap.size + 1), 3, none⟩ = some (.int .u16 0) := (blk_cell n1.out 3).trans rfl; have z4 : w1.cell? ⟨(w.heap.size + 1), 4, none⟩ = some (.bool false) := (blk_cell n1.out 4).trans rfl; have z5 : w1.cell? ⟨(w.heap.size + 1), 5, none⟩ = some (.bool false) := (blk_cell n1.out 5).trans rfl; have fz := fun i => blk_frozen n0.out i; have fr := fun i => blk_frozen n1.out i))
  rw [Exit.noGoto_ret]
  have m1 : ((((((((((((w1.setCell ⟨w.heap.size, 0, none⟩ (.int .u8 s)).setCell ⟨w.heap.size, 1, none⟩ (.int .u8 m)).setCell ⟨w.heap.size, 2, none⟩ (.int .u8 h)).setCell ⟨w.heap.size, 3, none⟩ (.int .u16 d)).setCell ⟨w.heap.size, 4, none⟩ (.bool true)).setCell ⟨w.heap.size, 5, none⟩ (.bool cy)).setCell ⟨w.heap.size + 1, 0, none⟩ (.int .u8 s)).setCell ⟨w.heap.size + 1, 1, none⟩ (.int .u8 m)).setCell ⟨w.heap.size + 1, 2, none⟩ (.int .u8 h)).setCell ⟨w.heap.size + 1, 3, none⟩ (.int .u16 d)).setCell ⟨w.heap.size + 1, 4, none⟩ (.bool true)).setCell ⟨w.heap.size + 1, 5, none⟩ (.bool cy)).heap[w.heap.size + 1]? = some (.cells #[.int .u8 s, .int .u8 m, .int .u8 h, .int .u16 d, .bool true, .bool cy] 24 (0, 0)) := (by
    have p0 : (((((((w1.setCell ⟨w.heap.size, 0, none⟩ (.int .u8 s)).setCell ⟨w.heap.size, 1, none⟩ (.int .u8 m)).setCell ⟨w.heap.size, 2, none⟩ (.int .u8 h)).setCell ⟨w.heap.size, 3, none⟩ (.int .u16 d)).setCell ⟨w.heap.size, 4, none⟩ (.bool true)).setCell ⟨w.heap.size, 5, none⟩ (.bool cy)).setCell ⟨w.heap.size + 1, 0, none⟩ (.int .u8 s)).heap[w.heap.size + 1]? = some (.cells #[.int .u8 s, .int .u8 0, .int .u8 0, .int .u16 0, .bool false, .bool false] 24 (0, 0)) := blk_put (by repeat (first | (with_reducible exact n1.out) | refine blk_far ?_ (by simp) _) : ((((((w1.setCell ⟨w.heap.size, 0, none⟩ (.int .u8 s)).setCell ⟨w.heap.size, 1, none⟩ (.int .u8 m)).setCell ⟨w.heap.size, 2, none⟩ (.int .u8 h)).setCell ⟨w.heap.size, 3, none⟩ (.int .u16 d)).setCell ⟨w.heap.size, 4, none⟩ (.bool true)).setCell ⟨w.heap.size, 5, none⟩ (.bool cy)).heap[w.heap.size + 1]? = some (.cells #[.int .u8 0, .int .u8 0, .int .u8 0, .int .u16 0, .bool false, .bool false] 24 (0, 0))) 0 _ rfl
    have p1 : ((((((((w1.setCell ⟨w.heap.size, 0, none⟩ (.int .u8 s)).setCell ⟨w.heap.size, 1, none⟩ (.int .u8 m)).setCell ⟨w.heap.size, 2, none⟩ (.int .u8 h)).setCell ⟨w.heap.size, 3, none⟩ (.int .u16 d)).setCell ⟨w.heap.size, 4, none⟩ (.bool true)).setCell ⟨w.heap.size, 5, none⟩ (.bool cy)).setCell ⟨w.heap.size + 1, 0, none⟩ (.int .u8 s)).setCell ⟨w.heap.size + 1, 1, none⟩ (.int .u8 m)).heap[w.heap.size + 1]? = some (.cells #[.int .u8 s, .int .u8 m, .int .u8 0, .int .u16 0, .bool false, .bool false] 24 (0, 0)) := blk_put p0 1 _ rfl
    have p2 : (((((((((w1.setCell ⟨w.heap.size, 0, none⟩ (.int .u8 s)).setCell ⟨w.heap.size, 1, none⟩ (.int .u8 m)).setCell ⟨w.heap.size, 2, none⟩ (.int .u8 h)).setCell ⟨w.heap.size, 3, none⟩ (.int .u16 d)).setCell ⟨w.heap.size, 4, none⟩ (.bool true)).setCell ⟨w.heap.size, 5, none⟩ (.bool cy)).setCell ⟨w.heap.size + 1, 0, none⟩ (.int .u8 s)).setCell ⟨w.heap.size + 1, 1, none⟩ (.int .u8 m)).setCell ⟨w.heap.size + 1, 2, none⟩ (.int .u8 h)).heap[w.heap.size + 1]? = some (.cells #[.int .u8 s, .int .u8 m, .int .u8 h, .int .u16 0, .bool false, .bool false] 24 (0, 0)) := blk_put p1 2 _ rfl
    have p3 : ((((((((((w1.setCell ⟨w.heap.size, 0, none⟩ (.int .u8 s)).setCell ⟨w.heap.size, 1, none⟩ (.int .u8 m)).setCell ⟨w.heap.size, 2, none⟩ (.int .u8 h)).setCell ⟨w.heap.size, 3, none⟩ (.int .u16 d)).setCell ⟨w.heap.size, 4, none⟩ (.bool true)).setCell ⟨w.heap.size, 5, none⟩ (.bool cy)).setCell ⟨w.heap.size + 1, 0, none⟩ (.int .u8 s)).setCell ⟨w.heap.size + 1, 1, none⟩ (.int .u8 m)).setCell ⟨w.heap.size + 1, 2, none⟩ (.int .u8 h)).setCell ⟨w.heap.size + 1, 3, none⟩ (.int .u16 d)).heap[w.heap.size + 1]? = some (.cells #[.int .u8 s, .int .u8 m, .int .u8 h, .int .u16 d, .bool false, .bool false] 24 (0, 0)) := blk_put p2 3 _ rfl
    have p4 : (((((((((((w1.setCell ⟨w.heap.size, 0, none⟩ (.int .u8 s)).setCell ⟨w.heap.size, 1, none⟩ (.int .u8 m)).setCell ⟨w.heap.size, 2, none⟩ (.int .u8 h)).setCell ⟨w.heap.size, 3, none⟩ (.int .u16 d)).setCell ⟨w.heap.size, 4, none⟩ (.bool true)).setCell ⟨w.heap.size, 5, none⟩ (.bool cy)).setCell ⟨w.heap.size + 1, 0, none⟩ (.int .u8 s)).setCell ⟨w.heap.size + 1, 1, none⟩ (.int .u8 m)).setCell ⟨w.heap.size + 1, 2, none⟩ (.int .u8 h)).setCell ⟨w.heap.size + 1, 3, none⟩ (.int .u16 d)).setCell ⟨w.heap.size + 1, 4, none⟩ (.bool true)).heap[w.heap.size + 1]? = some (.cells #[.int .u8 s, .int .u8 m, .int .u8 h, .int .u16 d, .bool true, .bool false] 24 (0, 0)) := blk_put p3 4 _ rfl
    have p5 : ((((((((((((w1.setCell ⟨w.heap.size, 0, none⟩ (.int .u8 s)).setCell ⟨w.heap.size, 1, none⟩ (.int .u8 m)).setCell ⟨w.heap.size, 2, none⟩ (.int .u8 h)).setCell ⟨w.heap.size, 3, none⟩ (.int .u16 d)).setCell ⟨w.heap.size, 4, none⟩ (.bool true)).setCell ⟨w.heap.size, 5, none⟩ (.bool cy)).setCell ⟨w.heap.size + 1, 0, none⟩ (.int .u8 s)).setCell ⟨w.heap.size + 1, 1, none⟩ (.int .u8 m)).setCell ⟨w.heap.size + 1, 2, none⟩ (.int .u8 h)).setCell ⟨w.heap.size + 1, 3, none⟩ (.int .u16 d)).setCell ⟨w.heap.size + 1, 4, none⟩ (.bool true)).setCell ⟨w.heap.size + 1, 5, none⟩ (.bool cy)).heap[w.heap.size + 1]? = some (.cells #[.int .u8 s, .int .u8 m, .int .u8 h, .int .u16 d, .bool true, .bool cy] 24 (0, 0)) := blk_put p4 5 _ rfl
    exact p5)
  have m2 : Below w.heap.size w ((((((((((((w1.setCell ⟨w.heap.size, 0, none⟩ (.int .u8 s)).setCell ⟨w.heap.size, 1, none⟩ (.int .u8 m)).setCell ⟨w.heap.size, 2, none⟩ (.int .u8 h)).setCell ⟨w.heap.size, 3, none⟩ (.int .u16 d)).setCell ⟨w.heap.size, 4, none⟩ (.bool true)).setCell ⟨w.heap.size, 5, none⟩ (.bool cy)).setCell ⟨w.heap.size + 1, 0, none⟩ (.int .u8 s)).setCell ⟨w.heap.size + 1, 1, none⟩ (.int .u8 m)).setCell ⟨w.heap.size + 1, 2, none⟩ (.int .u8 h)).setCell ⟨w.heap.size + 1, 3, none⟩ (.int .u16 d)).setCell ⟨w.heap.size + 1, 4, none⟩ (.bool true)).setCell ⟨w.heap.size + 1, 5, none⟩ (.bool cy)) := (below_set (below_set (below_set (below_set (below_set (below_set (below_set (below_set (below_set (below_set (below_set (below_set n2.out (Nat.le_refl _)) (Nat.le_refl _)) (Nat.le_refl _)) (Nat.le_refl _)) (Nat.le_refl _)) (Nat.le_refl _)) (Nat.le_succ _)) (Nat.le_succ _)) (Nat.le_succ _)) (Nat.le_succ _)) (Nat.le_succ _)) (Nat.le_succ _))
  generalize ((((((((((((w1.setCell ⟨w.heap.size, 0, none⟩ (.int .u8 s)).setCell ⟨w.heap.size, 1, none⟩ (.int .u8 m)).setCell ⟨w.heap.size, 2, none⟩ (.int .u8 h)).setCell ⟨w.heap.size, 3, none⟩ (.int .u16 d)).setCell ⟨w.heap.size, 4, none⟩ (.bool true)).setCell ⟨w.heap.size, 5, none⟩ (.bool cy)).setCell ⟨w.heap.size + 1, 0, none⟩ (.int .u8 s)).setCell ⟨w.heap.size + 1, 1, none⟩ (.int .u8 m)).setCell ⟨w.heap.size + 1, 2, none⟩ (.int .u8 h)).setCell ⟨w.heap.size + 1, 3, none⟩ (.int .u16 d)).setCell ⟨w.heap.size + 1, 4, none⟩ (.bool true)).setCell ⟨w.heap.size + 1, 5, none⟩ (.bool cy)) = Y at m1 m2 ⊢
  have u0 : Y.cell? ⟨w.heap.size + 1, 0, none⟩ = some (.int .u8 s) := (blk_cell m1 0).trans rfl
  have u1 : Y.cell? ⟨w.heap.size + 1, 1, none⟩ = some (.int .u8 m) := (blk_cell m1 1).trans rfl
  have u2 : Y.cell? ⟨w.heap.size + 1, 2, none⟩ = some (.int .u8 h) := (blk_cell m1 2).trans rfl
  have u3 : Y.cell? ⟨w.heap.size + 1, 3, none⟩ = some (.int .u16 d) := (blk_cell m1 3).trans rfl
  have u4 : Y.cell? ⟨w.heap.size + 1, 4, none⟩ = some (.bool true) := (blk_cell m1 4).trans rfl
  have u5 : Y.cell? ⟨w.heap.size + 1, 5, none⟩ = some (.bool cy) := (blk_cell m1 5).trans rfl
  exact bodyPost_ret (v := .agg #[.int .u8 s, .int .u8 m, .int .u8 h, .int .u16 d, .bool true, .bool cy]) (by simp [results, Try.results13, go_sem, u0, u1, u2, u3, u4, u5]) rfl ⟨rfl, m2⟩
set_option maxRecDepth 100000 in
set_option maxHeartbeats 4000000 in
theorem tick_sec (a0 a1 a2 a3 : Int) (a4 a5 : Bool) (s m h d : Int) (cy : Bool) (hn : clock_Norm.f a0 a1 a2 a3 a4 a5 = some (s, m, h, d, false, cy)) (hs : ¬ s = 59) (w : World) :
    Calls Try.prog 13 #[.agg #[.int .u8 a0, .int .u8 a1, .int .u8 a2, .int .u16 a3, .bool a4, .bool a5]] w fun e' w' => e' = .returned (.agg #[.int .u8 ((s + 1) % 64), .int .u8 m, .int .u8 h, .int .u16 d, .bool false, .bool cy]) ∧ Below w.heap.size w w' := by
  have HN := Aside0.mk hn
  clear hn
  go_enter Try.func13, Try.ntmps13
  go_wp2_with fail
  have BK := Aside0.mk (blk_alloc (blk_new w (.cells #[.int .u8 a0, .int .u8 a1, .int .u8 a2, .int .u16 a3, .bool a4, .bool a5] 24)) (.cells #[.int .u8 0, .int .u8 0, .int .u8 0, .int .u16 0, .bool false, .bool false] 24))
  have e1 : (w.alloc (.cells #[.int .u8 a0, .int .u8 a1, .int .u8 a2, .int .u16 a3, .bool a4, .bool a5] 24)).heap.size = w.heap.size + 1 := by simp
  have zN := heap_alloc_new (w.alloc (.cells #[.int .u8 a0, .int .u8 a1, .int .u8 a2, .int .u16 a3, .bool a4, .bool a5] 24)) (.cells #[.int .u8 0, .int .u8 0, .int .u8 0, .int .u16 0, .bool false, .bool false] 24)
  rw [e1] at zN
  have BR := Aside0.mk zN
  have HB := Aside0.mk (below_alloc (below_alloc (Below.refl w.heap.size w) (.cells #[.int .u8 a0, .int .u8 a1, .int .u8 a2, .int .u16 a3, .bool a4, .bool a5] 24)) (.cells #[.int .u8 0, .int .u8 0, .int .u8 0, .int .u16 0, .bool false, .bool false] 24))
  clear zN e1
  have hz : ((w.alloc (.cells #[.int .u8 a0, .int .u8 a1, .int .u8 a2, .int .u16 a3, .bool a4, .bool a5] 24)).alloc (.cells #[.int .u8 0, .int .u8 0, .int .u8 0, .int .u16 0, .bool false, .bool false] 24)).heap.size = w.heap.size + 2 := by simp
  generalize (w.alloc (.cells #[.int .u8 a0, .int .u8 a1, .int .u8 a2, .int .u16 a3, .bool a4, .bool a5] 24)).alloc (.cells #[.int .u8 0, .int .u8 0, .int .u8 0, .int .u16 0, .bool false, .bool false] 24) = W at *
  have c0 : W.cell? ⟨w.heap.size, 0, none⟩ = some (.int .u8 a0) := (blk_cell BK.out 0).trans rfl
  have c1 : W.cell? ⟨w.heap.size, 1, none⟩ = some (.int .u8 a1) := (blk_cell BK.out 1).trans rfl
  have c2 : W.cell? ⟨w.heap.size, 2, none⟩ = some (.int .u8 a2) := (blk_cell BK.out 2).trans rfl
  have c3 : W.cell? ⟨w.heap.size, 3, none⟩ = some (.int .u16 a3) := (blk_cell BK.out 3).trans rfl
  have c4 : W.cell? ⟨w.heap.size, 4, none⟩ = some (.bool a4) := (blk_cell BK.out 4).trans rfl
  have c5 : W.cell? ⟨w.heap.size, 5, none⟩ = some (.bool a5) := (blk_cell BK.out 5).trans rfl
  have fz := fun i => blk_frozen BK.out i
  go_step3
  go_wp2_with (first | (go_at_call 15; ((with_reducible refine (clock_Norm.calls a0 a1 a2 a3 a4 a5 (s) (m) (h) (d) (false) (cy) _ HN.out).mono ?_)); rintro e' w1 ⟨rfl, hb⟩; have n0 := Aside0.mk ((hb.block w.heap.size (by rw [hz]; omega)).trans BK.out); have n1 := Aside0.mk ((hb.block (w.heap.size + 1) (by rw [hz]; omega)).trans BR.out); have n2 := Aside0.mk (Below.trans HB.out (hb.mono (by rw [hz]; omega))); clear hb BK BR HB c0 c1 c2 c3 c4 c5 fz; have c0 : w1.cell? ⟨w.heap.size, 0, none⟩ = some (.int .u8 a0) := (blk_cell n0.out 0).trans rfl; have c1 : w1.cell? ⟨w.heap.size, 1, none⟩ = some (.int .u8 a1) := (blk_cell n0.out 1).trans rfl; have c2 : w1.cell? ⟨w.heap.size, 2, none⟩ = some (.int .u8 a2) := (blk_cell n0.out 2).trans rfl; have c3 : w1.cell? ⟨w.heap.size, 3, none⟩ = some (.int .u16 a3) := (blk_cell n0.out 3).trans rfl; have c4 : w1.cell? ⟨w.heap.size, 4, none⟩ = some (.bool a4) := (blk_cell n0.out 4).trans rfl; have c5 : w1.cell? ⟨w.heap.size, 5, none⟩ = some (.bool a5) := (blk_cell n0.out 5).trans rfl; have z0 : w1.cell? ⟨(w.heap.size + 1), 0, none⟩ = some (.int .u8 0) := (blk_cell n1.out 0).trans rfl; have z1 : w1.cell? ⟨(w.heap.size + 1), 1, none⟩ = some (.int .u8 0) := (blk_cell n1.out 1).trans rfl; have z2 : w1.cell? ⟨(w.heap.size + 1), 2, none⟩ = some (.int .u8 0) := (blk_cell n1.out 2).trans rfl; have z3 : w1.cell? ⟨(w.heap.size + 1), 3, none⟩ = some (.int .u16 0) := (blk_cell n1.out 3).trans rfl; have z4 : w1.cell? ⟨(w.heap.size + 1), 4, none⟩ = some (.bool false) := (blk_cell n1.out 4).trans rfl; have z5 : w1.cell? ⟨(w.heap.size + 1), 5, none⟩ = some (.bool false) := (blk_cell n1.out 5).trans rfl; have fz := fun i => blk_frozen n0.out i; have fr := fun i => blk_frozen n1.out i))
  have m0 : ((((((w1.setCell ⟨w.heap.size, 0, none⟩ (.int .u8 s)).setCell ⟨w.heap.size, 1, none⟩ (.int .u8 m)).setCell ⟨w.heap.size, 2, none⟩ (.int .u8 h)).setCell ⟨w.heap.size, 3, none⟩ (.int .u16 d)).setCell ⟨w.heap.size, 4, none⟩ (.bool false)).setCell ⟨w.heap.size, 5, none⟩ (.bool cy)).heap[w.heap.size]? = some (.cells #[.int .u8 s, .int .u8 m, .int .u8 h, .int .u16 d, .bool false, .bool cy] 24 (0, 0)) := (by
    have p0 : (w1.setCell ⟨w.heap.size, 0, none⟩ (.int .u8 s)).heap[w.heap.size]? = some (.cells #[.int .u8 s, .int .u8 a1, .int .u8 a2, .int .u16 a3, .bool a4, .bool a5] 24 (0, 0)) := blk_put n0.out 0 _ rfl
    have p1 : ((w1.setCell ⟨w.heap.size, 0, none⟩ (.int .u8 s)).setCell ⟨w.heap.size, 1, none⟩ (.int .u8 m)).heap[w.heap.size]? = some (.cells #[.int .u8 s, .int .u8 m, .int .u8 a2, .int .u16 a3, .bool a4, .bool a5] 24 (0, 0)) := blk_put p0 1 _ rfl
    have p2 : (((w1.setCell ⟨w.heap.size, 0, none⟩ (.int .u8 s)).setCell ⟨w.heap.size, 1, none⟩ (.int .u8 m)).setCell ⟨w.heap.size, 2, none⟩ (.int .u8 h)).heap[w.heap.size]? = some (.cells #[.int .u8 s, .int .u8 m, .int .u8 h, .int .u16 a3, .bool a4, .bool a5] 24 (0, 0)) := blk_put p1 2 _ rfl
    have p3 : ((((w1.setCell ⟨w.heap.size, 0, none⟩ (.int .u8 s)).setCell ⟨w.heap.size, 1, none⟩ (.int .u8 m)).setCell ⟨w.heap.size, 2, none⟩ (.int .u8 h)).setCell ⟨w.heap.size, 3, none⟩ (.int .u16 d)).heap[w.heap.size]? = some (.cells #[.int .u8 s, .int .u8 m, .int .u8 h, .int .u16 d, .bool a4, .bool a5] 24 (0, 0)) := blk_put p2 3 _ rfl
    have p4 : (((((w1.setCell ⟨w.heap.size, 0, none⟩ (.int .u8 s)).setCell ⟨w.heap.size, 1, none⟩ (.int .u8 m)).setCell ⟨w.heap.size, 2, none⟩ (.int .u8 h)).setCell ⟨w.heap.size, 3, none⟩ (.int .u16 d)).setCell ⟨w.heap.size, 4, none⟩ (.bool false)).heap[w.heap.size]? = some (.cells #[.int .u8 s, .int .u8 m, .int .u8 h, .int .u16 d, .bool false, .bool a5] 24 (0, 0)) := blk_put p3 4 _ rfl
    have p5 : ((((((w1.setCell ⟨w.heap.size, 0, none⟩ (.int .u8 s)).setCell ⟨w.heap.size, 1, none⟩ (.int .u8 m)).setCell ⟨w.heap.size, 2, none⟩ (.int .u8 h)).setCell ⟨w.heap.size, 3, none⟩ (.int .u16 d)).setCell ⟨w.heap.size, 4, none⟩ (.bool false)).setCell ⟨w.heap.size, 5, none⟩ (.bool cy)).heap[w.heap.size]? = some (.cells #[.int .u8 s, .int .u8 m, .int .u8 h, .int .u16 d, .bool false, .bool cy] 24 (0, 0)) := blk_put p4 5 _ rfl
    exact p5)
  have m1 : ((((((w1.setCell ⟨w.heap.size, 0, none⟩ (.int .u8 s)).setCell ⟨w.heap.size, 1, none⟩ (.int .u8 m)).setCell ⟨w.heap.size, 2, none⟩ (.int .u8 h)).setCell ⟨w.heap.size, 3, none⟩ (.int .u16 d)).setCell ⟨w.heap.size, 4, none⟩ (.bool false)).setCell ⟨w.heap.size, 5, none⟩ (.bool cy)).heap[w.heap.size + 1]? = some (.cells #[.int .u8 0, .int .u8 0, .int .u8 0, .int .u16 0, .bool false, .bool false] 24 (0, 0)) := (by repeat (first | (with_reducible exact n1.out) | refine blk_far ?_ (by simp) _))
  have m2 : Below w.heap.size w ((((((w1.setCell ⟨w.heap.size, 0, none⟩ (.int .u8 s)).setCell ⟨w.heap.size, 1, none⟩ (.int .u8 m)).setCell ⟨w.heap.size, 2, none⟩ (.int .u8 h)).setCell ⟨w.heap.size, 3, none⟩ (.int .u16 d)).setCell ⟨w.heap.size, 4, none⟩ (.bool false)).setCell ⟨w.heap.size, 5, none⟩ (.bool cy)) := (below_set (below_set (below_set (below_set (below_set (below_set n2.out (Nat.le_refl _)) (Nat.le_refl _)) (Nat.le_refl _)) (Nat.le_refl _)) (Nat.le_refl _)) (Nat.le_refl _))
  generalize ((((((w1.setCell ⟨w.heap.size, 0, none⟩ (.int .u8 s)).setCell ⟨w.heap.size, 1, none⟩ (.int .u8 m)).setCell ⟨w.heap.size, 2, none⟩ (.int .u8 h)).setCell ⟨w.heap.size, 3, none⟩ (.int .u16 d)).setCell ⟨w.heap.size, 4, none⟩ (.bool false)).setCell ⟨w.heap.size, 5, none⟩ (.bool cy)) = X at m0 m1 m2 ⊢
  clear n0 n1 n2 c0 c1 c2 c3 c4 c5 z0 z1 z2 z3 z4 z5 fz fr hz
  have BK := Aside0.mk m0
  have BR := Aside0.mk m1
  have HB := Aside0.mk m2
  clear m0 m1 m2
  have c0 : X.cell? ⟨w.heap.size, 0, none⟩ = some (.int .u8 s) := (blk_cell BK.out 0).trans rfl
  have c1 : X.cell? ⟨w.heap.size, 1, none⟩ = some (.int .u8 m) := (blk_cell BK.out 1).trans rfl
  have c2 : X.cell? ⟨w.heap.size, 2, none⟩ = some (.int .u8 h) := (blk_cell BK.out 2).trans rfl
  have c3 : X.cell? ⟨w.heap.size, 3, none⟩ = some (.int .u16 d) := (blk_cell BK.out 3).trans rfl
  have c4 : X.cell? ⟨w.heap.size, 4, none⟩ = some (.bool false) := (blk_cell BK.out 4).trans rfl
  have c5 : X.cell? ⟨w.heap.size, 5, none⟩ = some (.bool cy) := (blk_cell BK.out 5).trans rfl
  have z0 : X.cell? ⟨(w.heap.size + 1), 0, none⟩ = some (.int .u8 0) := (blk_cell BR.out 0).trans rfl
  have z1 : X.cell? ⟨(w.heap.size + 1), 1, none⟩ = some (.int .u8 0) := (blk_cell BR.out 1).trans rfl
  have z2 : X.cell? ⟨(w.heap.size + 1), 2, none⟩ = some (.int .u8 0) := (blk_cell BR.out 2).trans rfl
  have z3 : X.cell? ⟨(w.heap.size + 1), 3, none⟩ = some (.int .u16 0) := (blk_cell BR.out 3).trans rfl
  have z4 : X.cell? ⟨(w.heap.size + 1), 4, none⟩ = some (.bool false) := (blk_cell BR.out 4).trans rfl
  have z5 : X.cell? ⟨(w.heap.size + 1), 5, none⟩ = some (.bool false) := (blk_cell BR.out 5).trans rfl
  have fz := fun i => blk_frozen BK.out i
  have fr := fun i => blk_frozen BR.out i
  go_step3
  go_wp2
  go_rounds 5
  rw [Exit.noGoto_ret]
  have m1 : (((((((X.setCell ⟨w.heap.size, 0, none⟩ (.int .u8 ((s + 1) % 64))).setCell ⟨w.heap.size + 1, 0, none⟩ (.int .u8 ((s + 1) % 64))).setCell ⟨w.heap.size + 1, 1, none⟩ (.int .u8 m)).setCell ⟨w.heap.size + 1, 2, none⟩ (.int .u8 h)).setCell ⟨w.heap.size + 1, 3, none⟩ (.int .u16 d)).setCell ⟨w.heap.size + 1, 4, none⟩ (.bool false)).setCell ⟨w.heap.size + 1, 5, none⟩ (.bool cy)).heap[w.heap.size + 1]? = some (.cells #[.int .u8 ((s + 1) % 64), .int .u8 m, .int .u8 h, .int .u16 d, .bool false, .bool cy] 24 (0, 0)) := (by
    have p0 : ((X.setCell ⟨w.heap.size, 0, none⟩ (.int .u8 ((s + 1) % 64))).setCell ⟨w.heap.size + 1, 0, none⟩ (.int .u8 ((s + 1) % 64))).heap[w.heap.size + 1]? = some (.cells #[.int .u8 ((s + 1) % 64), .int .u8 0, .int .u8 0, .int .u16 0, .bool false, .bool false] 24 (0, 0)) := blk_put (by repeat (first | (with_reducible exact BR.out) | refine blk_far ?_ (by simp) _) : (X.setCell ⟨w.heap.size, 0, none⟩ (.int .u8 ((s + 1) % 64))).heap[w.heap.size + 1]? = some (.cells #[.int .u8 0, .int .u8 0, .int .u8 0, .int .u16 0, .bool false, .bool false] 24 (0, 0))) 0 _ rfl
    have p1 : (((X.setCell ⟨w.heap.size, 0, none⟩ (.int .u8 ((s + 1) % 64))).setCell ⟨w.heap.size + 1, 0, none⟩ (.int .u8 ((s + 1) % 64))).setCell ⟨w.heap.size + 1, 1, none⟩ (.int .u8 m)).heap[w.heap.size + 1]? = some (.cells #[.int .u8 ((s + 1) % 64), .int .u8 m, .int .u8 0, .int .u16 0, .bool false, .bool false] 24 (0, 0)) := blk_put p0 1 _ rfl
    have p2 : ((((X.setCell ⟨w.heap.size, 0, none⟩ (.int .u8 ((s + 1) % 64))).setCell ⟨w.heap.size + 1, 0, none⟩ (.int .u8 ((s + 1) % 64))).setCell ⟨w.heap.size + 1, 1, none⟩ (.int .u8 m)).setCell ⟨w.heap.size + 1, 2, none⟩ (.int .u8 h)).heap[w.heap.size + 1]? = some (.cells #[.int .u8 ((s + 1) % 64), .int .u8 m, .int .u8 h, .int .u16 0, .bool false, .bool false] 24 (0, 0)) := blk_put p1 2 _ rfl
    have p3 : (((((X.setCell ⟨w.heap.size, 0, none⟩ (.int .u8 ((s + 1) % 64))).setCell ⟨w.heap.size + 1, 0, none⟩ (.int .u8 ((s + 1) % 64))).setCell ⟨w.heap.size + 1, 1, none⟩ (.int .u8 m)).setCell ⟨w.heap.size + 1, 2, none⟩ (.int .u8 h)).setCell ⟨w.heap.size + 1, 3, none⟩ (.int .u16 d)).heap[w.heap.size + 1]? = some (.cells #[.int .u8 ((s + 1) % 64), .int .u8 m, .int .u8 h, .int .u16 d, .bool false, .bool false] 24 (0, 0)) := blk_put p2 3 _ rfl
    have p4 : ((((((X.setCell ⟨w.heap.size, 0, none⟩ (.int .u8 ((s + 1) % 64))).setCell ⟨w.heap.size + 1, 0, none⟩ (.int .u8 ((s + 1) % 64))).setCell ⟨w.heap.size + 1, 1, none⟩ (.int .u8 m)).setCell ⟨w.heap.size + 1, 2, none⟩ (.int .u8 h)).setCell ⟨w.heap.size + 1, 3, none⟩ (.int .u16 d)).setCell ⟨w.heap.size + 1, 4, none⟩ (.bool false)).heap[w.heap.size + 1]? = some (.cells #[.int .u8 ((s + 1) % 64), .int .u8 m, .int .u8 h, .int .u16 d, .bool false, .bool false] 24 (0, 0)) := blk_put p3 4 _ rfl
    have p5 : (((((((X.setCell ⟨w.heap.size, 0, none⟩ (.int .u8 ((s + 1) % 64))).setCell ⟨w.heap.size + 1, 0, none⟩ (.int .u8 ((s + 1) % 64))).setCell ⟨w.heap.size + 1, 1, none⟩ (.int .u8 m)).setCell ⟨w.heap.size + 1, 2, none⟩ (.int .u8 h)).setCell ⟨w.heap.size + 1, 3, none⟩ (.int .u16 d)).setCell ⟨w.heap.size + 1, 4, none⟩ (.bool false)).setCell ⟨w.heap.size + 1, 5, none⟩ (.bool cy)).heap[w.heap.size + 1]? = some (.cells #[.int .u8 ((s + 1) % 64), .int .u8 m, .int .u8 h, .int .u16 d, .bool false, .bool cy] 24 (0, 0)) := blk_put p4 5 _ rfl
    exact p5)
  have m2 : Below w.heap.size w (((((((X.setCell ⟨w.heap.size, 0, none⟩ (.int .u8 ((s + 1) % 64))).setCell ⟨w.heap.size + 1, 0, none⟩ (.int .u8 ((s + 1) % 64))).setCell ⟨w.heap.size + 1, 1, none⟩ (.int .u8 m)).setCell ⟨w.heap.size + 1, 2, none⟩ (.int .u8 h)).setCell ⟨w.heap.size + 1, 3, none⟩ (.int .u16 d)).setCell ⟨w.heap.size + 1, 4, none⟩ (.bool false)).setCell ⟨w.heap.size + 1, 5, none⟩ (.bool cy)) := (below_set (below_set (below_set (below_set (below_set (below_set (below_set HB.out (Nat.le_refl _)) (Nat.le_succ _)) (Nat.le_succ _)) (Nat.le_succ _)) (Nat.le_succ _)) (Nat.le_succ _)) (Nat.le_succ _))
  generalize (((((((X.setCell ⟨w.heap.size, 0, none⟩ (.int .u8 ((s + 1) % 64))).setCell ⟨w.heap.size + 1, 0, none⟩ (.int .u8 ((s + 1) % 64))).setCell ⟨w.heap.size + 1, 1, none⟩ (.int .u8 m)).setCell ⟨w.heap.size + 1, 2, none⟩ (.int .u8 h)).setCell ⟨w.heap.size + 1, 3, none⟩ (.int .u16 d)).setCell ⟨w.heap.size + 1, 4, none⟩ (.bool false)).setCell ⟨w.heap.size + 1, 5, none⟩ (.bool cy)) = Y at m1 m2 ⊢
  have u0 : Y.cell? ⟨w.heap.size + 1, 0, none⟩ = some (.int .u8 ((s + 1) % 64)) := (blk_cell m1 0).trans rfl
  have u1 : Y.cell? ⟨w.heap.size + 1, 1, none⟩ = some (.int .u8 m) := (blk_cell m1 1).trans rfl
  have u2 : Y.cell? ⟨w.heap.size + 1, 2, none⟩ = some (.int .u8 h) := (blk_cell m1 2).trans rfl
  have u3 : Y.cell? ⟨w.heap.size + 1, 3, none⟩ = some (.int .u16 d) := (blk_cell m1 3).trans rfl
  have u4 : Y.cell? ⟨w.heap.size + 1, 4, none⟩ = some (.bool false) := (blk_cell m1 4).trans rfl
  have u5 : Y.cell? ⟨w.heap.size + 1, 5, none⟩ = some (.bool cy) := (blk_cell m1 5).trans rfl
  exact bodyPost_ret (v := .agg #[.int .u8 ((s + 1) % 64), .int .u8 m, .int .u8 h, .int .u16 d, .bool false, .bool cy]) (by simp [results, Try.results13, go_sem, u0, u1, u2, u3, u4, u5]) rfl ⟨rfl, m2⟩
set_option maxRecDepth 100000 in
set_option maxHeartbeats 4000000 in
theorem tick_min (a0 a1 a2 a3 : Int) (a4 a5 : Bool) (m h d : Int) (cy : Bool) (hn : clock_Norm.f a0 a1 a2 a3 a4 a5 = some (59, m, h, d, false, cy)) (hs : ¬ m = 59) (w : World) :
    Calls Try.prog 13 #[.agg #[.int .u8 a0, .int .u8 a1, .int .u8 a2, .int .u16 a3, .bool a4, .bool a5]] w fun e' w' => e' = .returned (.agg #[.int .u8 0, .int .u8 ((m + 1) % 64), .int .u8 h, .int .u16 d, .bool false, .bool cy]) ∧ Below w.heap.size w w' := by
  have HN := Aside0.mk hn
  clear hn
  go_enter Try.func13, Try.ntmps13
  go_wp2_with fail
  have BK := Aside0.mk (blk_alloc (blk_new w (.cells #[.int .u8 a0, .int .u8 a1, .int .u8 a2, .int .u16 a3, .bool a4, .bool a5] 24)) (.cells #[.int .u8 0, .int .u8 0, .int .u8 0, .int .u16 0, .bool false, .bool false] 24))
  have e1 : (w.alloc (.cells #[.int .u8 a0, .int .u8 a1, .int .u8 a2, .int .u16 a3, .bool a4, .bool a5] 24)).heap.size = w.heap.size + 1 := by simp
  have zN := heap_alloc_new (w.alloc (.cells #[.int .u8 a0, .int .u8 a1, .int .u8 a2, .int .u16 a3, .bool a4, .bool a5] 24)) (.cells #[.int .u8 0, .int .u8 0, .int .u8 0, .int .u16 0, .bool false, .bool false] 24)
  rw [e1] at zN
  have BR := Aside0.mk zN
  have HB := Aside0.mk (below_alloc (below_alloc (Below.refl w.heap.size w) (.cells #[.int .u8 a0, .int .u8 a1, .int .u8 a2, .int .u16 a3, .bool a4, .bool a5] 24)) (.cells #[.int .u8 0, .int .u8 0, .int .u8 0, .int .u16 0, .bool false, .bool false] 24))
  clear zN e1
  have hz : ((w.alloc (.cells #[.int .u8 a0, .int .u8 a1, .int .u8 a2, .int .u16 a3, .bool a4, .bool a5] 24)).alloc (.cells #[.int .u8 0, .int .u8 0, .int .u8 0, .int .u16 0, .bool false, .bool false] 24)).heap.size = w.heap.size + 2 := by simp
  generalize (w.alloc (.cells #[.int .u8 a0, .int .u8 a1, .int .u8 a2, .int .u16 a3, .bool a4, .bool a5] 24)).alloc (.cells #[.int .u8 0, .int .u8 0, .int .u8 0, .int .u16 0, .bool false, .bool false] 24) = W at *
  have c0 : W.cell? ⟨w.heap.size, 0, none⟩ = some (.int .u8 a0) := (blk_cell BK.out 0).trans rfl
  have c1 : W.cell? ⟨w.heap.size, 1, none⟩ = some (.int .u8 a1) := (blk_cell BK.out 1).trans rfl
  have c2 : W.cell? ⟨w.heap.size, 2, none⟩ = some (.int .u8 a2) := (blk_cell BK.out 2).trans rfl
  have c3 : W.cell? ⟨w.heap.size, 3, none⟩ = some (.int .u16 a3) := (blk_cell BK.out 3).trans rfl
  have c4 : W.cell? ⟨w.heap.size, 4, none⟩ = some (.bool a4) := (blk_cell BK.out 4).trans rfl
  have c5 : W.cell? ⟨w.heap.size, 5, none⟩ = some (.bool a5) := (blk_cell BK.out 5).trans rfl
  have fz := fun i => blk_frozen BK.out i
  go_step3
  go_wp2_with (first | (go_at_call 15; ((with_reducible refine (clock_Norm.calls a0 a1 a2 a3 a4 a5 (59) (m) (h) (d) (false) (cy) _ HN.out).mono ?_)); rintro e' w1 ⟨rfl, hb⟩; have n0 := Aside0.mk ((hb.block w.heap.size (by rw [hz]; omega)).trans BK.out); have n1 := Aside0.mk ((hb.block (w.heap.size + 1) (by rw [hz]; omega)).trans BR.out); have n2 := Aside0.mk (Below.trans HB.out (hb.mono (by rw [hz]; omega))); clear hb BK BR HB c0 c1 c2 c3 c4 c5 fz; have c0 : w1.cell? ⟨w.heap.size, 0, none⟩ = some (.int .u8 a0) := (blk_cell n0.out 0).trans rfl; have c1 : w1.cell? ⟨w.heap.size, 1, none⟩ = some (.int .u8 a1) := (blk_cell n0.out 1).trans rfl; have c2 : w1.cell? ⟨w.heap.size, 2, none⟩ = some (.int .u8 a2) := (blk_cell n0.out 2).trans rfl; have c3 : w1.cell? ⟨w.heap.size, 3, none⟩ = some (.int .u16 a3) := (blk_cell n0.out 3).trans rfl; have c4 : w1.cell? ⟨w.heap.size, 4, none⟩ = some (.bool a4) := (blk_cell n0.out 4).trans rfl; have c5 : w1.cell? ⟨w.heap.size, 5, none⟩ = some (.bool a5) := (blk_cell n0.out 5).trans rfl; have z0 : w1.cell? ⟨(w.heap.size + 1), 0, none⟩ = some (.int .u8 0) := (blk_cell n1.out 0).trans rfl; have z1 : w1.cell? ⟨(w.heap.size + 1), 1, none⟩ = some (.int .u8 0) := (blk_cell n1.out 1).trans rfl; have z2 : w1.cell? ⟨(w.heap.size + 1), 2, none⟩ = some (.int .u8 0) := (blk_cell n1.out 2).trans rfl; have z3 : w1.cell? ⟨(w.heap.size + 1), 3, none⟩ = some (.int .u16 0) := (blk_cell n1.out 3).trans rfl; have z4 : w1.cell? ⟨(w.heap.size + 1), 4, none⟩ = some (.bool false) := (blk_cell n1.out 4).trans rfl; have z5 : w1.cell? ⟨(w.heap.size + 1), 5, none⟩ = some (.bool false) := (blk_cell n1.out 5).trans rfl; have fz := fun i => blk_frozen n0.out i; have fr := fun i => blk_frozen n1.out i))
  have m0 : ((((((w1.setCell ⟨w.heap.size, 0, none⟩ (.int .u8 59)).setCell ⟨w.heap.size, 1, none⟩ (.int .u8 m)).setCell ⟨w.heap.size, 2, none⟩ (.int .u8 h)).setCell ⟨w.heap.size, 3, none⟩ (.int .u16 d)).setCell ⟨w.heap.size, 4, none⟩ (.bool false)).setCell ⟨w.heap.size, 5, none⟩ (.bool cy)).heap[w.heap.size]? = some (.cells #[.int .u8 59, .int .u8 m, .int .u8 h, .int .u16 d, .bool false, .bool cy] 24 (0, 0)) := (by
    have p0 : (w1.setCell ⟨w.heap.size, 0, none⟩ (.int .u8 59)).heap[w.heap.size]? = some (.cells #[.int .u8 59, .int .u8 a1, .int .u8 a2, .int .u16 a3, .bool a4, .bool a5] 24 (0, 0)) := blk_put n0.out 0 _ rfl
    have p1 : ((w1.setCell ⟨w.heap.size, 0, none⟩ (.int .u8 59)).setCell ⟨w.heap.size, 1, none⟩ (.int .u8 m)).heap[w.heap.size]? = some (.cells #[.int .u8 59, .int .u8 m, .int .u8 a2, .int .u16 a3, .bool a4, .bool a5] 24 (0, 0)) := blk_put p0 1 _ rfl
    have p2 : (((w1.setCell ⟨w.heap.size, 0, none⟩ (.int .u8 59)).setCell ⟨w.heap.size, 1, none⟩ (.int .u8 m)).setCell ⟨w.heap.size, 2, none⟩ (.int .u8 h)).heap[w.heap.size]? = some (.cells #[.int .u8 59, .int .u8 m, .int .u8 h, .int .u16 a3, .bool a4, .bool a5] 24 (0, 0)) := blk_put p1 2 _ rfl
    have p3 : ((((w1.setCell ⟨w.heap.size, 0, none⟩ (.int .u8 59)).setCell ⟨w.heap.size, 1, none⟩ (.int .u8 m)).setCell ⟨w.heap.size, 2, none⟩ (.int .u8 h)).setCell ⟨w.heap.size, 3, none⟩ (.int .u16 d)).heap[w.heap.size]? = some (.cells #[.int .u8 59, .int .u8 m, .int .u8 h, .int .u16 d, .bool a4, .bool a5] 24 (0, 0)) := blk_put p2 3 _ rfl
    have p4 : (((((w1.setCell ⟨w.heap.size, 0, none⟩ (.int .u8 59)).setCell ⟨w.heap.size, 1, none⟩ (.int .u8 m)).setCell ⟨w.heap.size, 2, none⟩ (.int .u8 h)).setCell ⟨w.heap.size, 3, none⟩ (.int .u16 d)).setCell ⟨w.heap.size, 4, none⟩ (.bool false)).heap[w.heap.size]? = some (.cells #[.int .u8 59, .int .u8 m, .int .u8 h, .int .u16 d, .bool false, .bool a5] 24 (0, 0)) := blk_put p3 4 _ rfl
    have p5 : ((((((w1.setCell ⟨w.heap.size, 0, none⟩ (.int .u8 59)).setCell ⟨w.heap.size, 1, none⟩ (.int .u8 m)).setCell ⟨w.heap.size, 2, none⟩ (.int .u8 h)).setCell ⟨w.heap.size, 3, none⟩ (.int .u16 d)).setCell ⟨w.heap.size, 4, none⟩ (.bool false)).setCell ⟨w.heap.size, 5, none⟩ (.bool cy)).heap[w.heap.size]? = some (.cells #[.int .u8 59, .int .u8 m, .int .u8 h, .int .u16 d, .bool false, .bool cy] 24 (0, 0)) := blk_put p4 5 _ rfl
    exact p5)
  have m1 : ((((((w1.setCell ⟨w.heap.size, 0, none⟩ (.int .u8 59)).setCell ⟨w.heap.size, 1, none⟩ (.int .u8 m)).setCell ⟨w.heap.size, 2, none⟩ (.int .u8 h)).setCell ⟨w.heap.size, 3, none⟩ (.int .u16 d)).setCell ⟨w.heap.size, 4, none⟩ (.bool false)).setCell ⟨w.heap.size, 5, none⟩ (.bool cy)).heap[w.heap.size + 1]? = some (.cells #[.int .u8 0, .int .u8 0, .int .u8 0, .int .u16 0, .bool false, .bool false] 24 (0, 0)) := (by repeat (first | (with_reducible exact n1.out) | refine blk_far ?_ (by simp) _))
  have m2 : Below w.heap.size w ((((((w1.setCell ⟨w.heap.size, 0, none⟩ (.int .u8 59)).setCell ⟨w.heap.size, 1, none⟩ (.int .u8 m)).setCell ⟨w.heap.size, 2, none⟩ (.int .u8 h)).setCell ⟨w.heap.size, 3, none⟩ (.int .u16 d)).setCell ⟨w.heap.size, 4, none⟩ (.bool false)).setCell ⟨w.heap.size, 5, none⟩ (.bool cy)) := (below_set (below_set (below_set (below_set (below_set (below_set n2.out (Nat.le_refl _)) (Nat.le_refl _)) (Nat.le_refl _)) (Nat.le_refl _)) (Nat.le_refl _)) (Nat.le_refl _))
  generalize ((((((w1.setCell ⟨w.heap.size, 0, none⟩ (.int .u8 59)).setCell ⟨w.heap.size, 1, none⟩ (.int .u8 m)).setCell ⟨w.heap.size, 2, none⟩ (.int .u8 h)).setCell ⟨w.heap.size, 3, none⟩ (.int .u16 d)).setCell ⟨w.heap.size, 4, none⟩ (.bool false)).setCell ⟨w.heap.size, 5, none⟩ (.bool cy)) = X at m0 m1 m2 ⊢
  clear n0 n1 n2 c0 c1 c2 c3 c4 c5 z0 z1 z2 z3 z4 z5 fz fr hz
  have BK := Aside0.mk m0
  have BR := Aside0.mk m1
  have HB := Aside0.mk m2
  clear m0 m1 m2
  have c0 : X.cell? ⟨w.heap.size, 0, none⟩ = some (.int .u8 59) := (blk_cell BK.out 0).trans rfl
  have c1 : X.cell? ⟨w.heap.size, 1, none⟩ = some (.int .u8 m) := (blk_cell BK.out 1).trans rfl
  have c2 : X.cell? ⟨w.heap.size, 2, none⟩ = some (.int .u8 h) := (blk_cell BK.out 2).trans rfl
  have c3 : X.cell? ⟨w.heap.size, 3, none⟩ = some (.int .u16 d) := (blk_cell BK.out 3).trans rfl
  have c4 : X.cell? ⟨w.heap.size, 4, none⟩ = some (.bool false) := (blk_cell BK.out 4).trans rfl
  have c5 : X.cell? ⟨w.heap.size, 5, none⟩ = some (.bool cy) := (blk_cell BK.out 5).trans rfl
  have z0 : X.cell? ⟨(w.heap.size + 1), 0, none⟩ = some (.int .u8 0) := (blk_cell BR.out 0).trans rfl
  have z1 : X.cell? ⟨(w.heap.size + 1), 1, none⟩ = some (.int .u8 0) := (blk_cell BR.out 1).trans rfl
  have z2 : X.cell? ⟨(w.heap.size + 1), 2, none⟩ = some (.int .u8 0) := (blk_cell BR.out 2).trans rfl
  have z3 : X.cell? ⟨(w.heap.size + 1), 3, none⟩ = some (.int .u16 0) := (blk_cell BR.out 3).trans rfl
  have z4 : X.cell? ⟨(w.heap.size + 1), 4, none⟩ = some (.bool false) := (blk_cell BR.out 4).trans rfl
  have z5 : X.cell? ⟨(w.heap.size + 1), 5, none⟩ = some (.bool false) := (blk_cell BR.out 5).trans rfl
  have fz := fun i => blk_frozen BK.out i
  have fr := fun i => blk_frozen BR.out i
  go_step3
  go_wp2
  go_rounds 5
  rw [Exit.noGoto_ret]
  have m1 : ((((((((X.setCell ⟨w.heap.size, 0, none⟩ (.int .u8 0)).setCell ⟨w.heap.size, 1, none⟩ (.int .u8 ((m + 1) % 64))).setCell ⟨w.heap.size + 1, 0, none⟩ (.int .u8 0)).setCell ⟨w.heap.size + 1, 1, none⟩ (.int .u8 ((m + 1) % 64))).setCell ⟨w.heap.size + 1, 2, none⟩ (.int .u8 h)).setCell ⟨w.heap.size + 1, 3, none⟩ (.int .u16 d)).setCell ⟨w.heap.size + 1, 4, none⟩ (.bool false)).setCell ⟨w.heap.size + 1, 5, none⟩ (.bool cy)).heap[w.heap.size + 1]? = some (.cells #[.int .u8 0, .int .u8 ((m + 1) % 64), .int .u8 h, .int .u16 d, .bool false, .bool cy] 24 (0, 0)) := (by
    have p0 : (((X.setCell ⟨w.heap.size, 0, none⟩ (.int .u8 0)).setCell ⟨w.heap.size, 1, none⟩ (.int .u8 ((m + 1) % 64))).setCell ⟨w.heap.size + 1, 0, none⟩ (.int .u8 0)).heap[w.heap.size + 1]? = some (.cells #[.int .u8 0, .int .u8 0, .int .u8 0, .int .u16 0, .bool false, .bool false] 24 (0, 0)) := blk_put (by repeat (first | (with_reducible exact BR.out) | refine blk_far ?_ (by simp) _) : ((X.setCell ⟨w.heap.size, 0, none⟩ (.int .u8 0)).setCell ⟨w.heap.size, 1, none⟩ (.int .u8 ((m + 1) % 64))).heap[w.heap.size + 1]? = some (.cells #[.int .u8 0, .int .u8 0, .int .u8 0, .int .u16 0, .bool false, .bool false] 24 (0, 0))) 0 _ rfl
    have p1 : ((((X.setCell ⟨w.heap.size, 0, none⟩ (.int .u8 0)).setCell ⟨w.heap.size, 1, none⟩ (.int .u8 ((m + 1) % 64))).setCell ⟨w.heap.size + 1, 0, none⟩ (.int .u8 0)).setCell ⟨w.heap.size + 1, 1, none⟩ (.int .u8 ((m + 1) % 64))).heap[w.heap.size + 1]? = some (.cells #[.int .u8 0, .int .u8 ((m + 1) % 64), .int .u8 0, .int .u16 0, .bool false, .bool false] 24 (0, 0)) := blk_put p0 1 _ rfl
    have p2 : (((((X.setCell ⟨w.heap.size, 0, none⟩ (.int .u8 0)).setCell ⟨w.heap.size, 1, none⟩ (.int .u8 ((m + 1) % 64))).setCell ⟨w.heap.size + 1, 0, none⟩ (.int .u8 0)).setCell ⟨w.heap.size + 1, 1, none⟩ (.int .u8 ((m + 1) % 64))).setCell ⟨w.heap.size + 1, 2, none⟩ (.int .u8 h)).heap[w.heap.size + 1]? = some (.cells #[.int .u8 0, .int .u8 ((m + 1) % 64), .int .u8 h, .int .u16 0, .bool false, .bool false] 24 (0, 0)) := blk_put p1 2 _ rfl
    have p3 : ((((((X.setCell ⟨w.heap.size, 0, none⟩ (.int .u8 0)).setCell ⟨w.heap.size, 1, none⟩ (.int .u8 ((m + 1) % 64))).setCell ⟨w.heap.size + 1, 0, none⟩ (.int .u8 0)).setCell ⟨w.heap.size + 1, 1, none⟩ (.int .u8 ((m + 1) % 64))).setCell ⟨w.heap.size + 1, 2, none⟩ (.int .u8 h)).setCell ⟨w.heap.size + 1, 3, none⟩ (.int .u16 d)).heap[w.heap.size + 1]? = some (.cells #[.int .u8 0, .int .u8 ((m + 1) % 64), .int .u8 h, .int .u16 d, .bool false, .bool false] 24 (0, 0)) := blk_put p2 3 _ rfl
    have p4 : (((((((X.setCell ⟨w.heap.size, 0, none⟩ (.int .u8 0)).setCell ⟨w.heap.size, 1, none⟩ (.int .u8 ((m + 1) % 64))).setCell ⟨w.heap.size + 1, 0, none⟩ (.int .u8 0)).setCell ⟨w.heap.size + 1, 1, none⟩ (.int .u8 ((m + 1) % 64))).setCell ⟨w.heap.size + 1, 2, none⟩ (.int .u8 h)).setCell ⟨w.heap.size + 1, 3, none⟩ (.int .u16 d)).setCell ⟨w.heap.size + 1, 4, none⟩ (.bool false)).heap[w.heap.size + 1]? = some (.cells #[.int .u8 0, .int .u8 ((m + 1) % 64), .int .u8 h, .int .u16 d, .bool false, .bool false] 24 (0, 0)) := blk_put p3 4 _ rfl
    have p5 : ((((((((X.setCell ⟨w.heap.size, 0, none⟩ (.int .u8 0)).setCell ⟨w.heap.size, 1, none⟩ (.int .u8 ((m + 1) % 64))).setCell ⟨w.heap.size + 1, 0, none⟩ (.int .u8 0)).setCell ⟨w.heap.size + 1, 1, none⟩ (.int .u8 ((m + 1) % 64))).setCell ⟨w.heap.size + 1, 2, none⟩ (.int .u8 h)).setCell ⟨w.heap.size + 1, 3, none⟩ (.int .u16 d)).setCell ⟨w.heap.size + 1, 4, none⟩ (.bool false)).setCell ⟨w.heap.size + 1, 5, none⟩ (.bool cy)).heap[w.heap.size + 1]? = some (.cells #[.int .u8 0, .int .u8 ((m + 1) % 64), .int .u8 h, .int .u16 d, .bool false, .bool cy] 24 (0, 0)) := blk_put p4 5 _ rfl
    exact p5)
  have m2 : Below w.heap.size w ((((((((X.setCell ⟨w.heap.size, 0, none⟩ (.int .u8 0)).setCell ⟨w.heap.size, 1, none⟩ (.int .u8 ((m + 1) % 64))).setCell ⟨w.heap.size + 1, 0, none⟩ (.int .u8 0)).setCell ⟨w.heap.size + 1, 1, none⟩ (.int .u8 ((m + 1) % 64))).setCell ⟨w.heap.size + 1, 2, none⟩ (.int .u8 h)).setCell ⟨w.heap.size + 1, 3, none⟩ (.int .u16 d)).setCell ⟨w.heap.size + 1, 4, none⟩ (.bool false)).setCell ⟨w.heap.size + 1, 5, none⟩ (.bool cy)) := (below_set (below_set (below_set (below_set (below_set (below_set (below_set (below_set HB.out (Nat.le_refl _)) (Nat.le_refl _)) (Nat.le_succ _)) (Nat.le_succ _)) (Nat.le_succ _)) (Nat.le_succ _)) (Nat.le_succ _)) (Nat.le_succ _))
  generalize ((((((((X.setCell ⟨w.heap.size, 0, none⟩ (.int .u8 0)).setCell ⟨w.heap.size, 1, none⟩ (.int .u8 ((m + 1) % 64))).setCell ⟨w.heap.size + 1, 0, none⟩ (.int .u8 0)).setCell ⟨w.heap.size + 1, 1, none⟩ (.int .u8 ((m + 1) % 64))).setCell ⟨w.heap.size + 1, 2, none⟩ (.int .u8 h)).setCell ⟨w.heap.size + 1, 3, none⟩ (.int .u16 d)).setCell ⟨w.heap.size + 1, 4, none⟩ (.bool false)).setCell ⟨w.heap.size + 1, 5, none⟩ (.bool cy)) = Y at m1 m2 ⊢
  have u0 : Y.cell? ⟨w.heap.size + 1, 0, none⟩ = some (.int .u8 0) := (blk_cell m1 0).trans rfl
  have u1 : Y.cell? ⟨w.heap.size + 1, 1, none⟩ = some (.int .u8 ((m + 1) % 64)) := (blk_cell m1 1).trans rfl
  have u2 : Y.cell? ⟨w.heap.size + 1, 2, none⟩ = some (.int .u8 h) := (blk_cell m1 2).trans rfl
  have u3 : Y.cell? ⟨w.heap.size + 1, 3, none⟩ = some (.int .u16 d) := (blk_cell m1 3).trans rfl
  have u4 : Y.cell? ⟨w.heap.size + 1, 4, none⟩ = some (.bool false) := (blk_cell m1 4).trans rfl
  have u5 : Y.cell? ⟨w.heap.size + 1, 5, none⟩ = some (.bool cy) := (blk_cell m1 5).trans rfl
  exact bodyPost_ret (v := .agg #[.int .u8 0, .int .u8 ((m + 1) % 64), .int .u8 h, .int .u16 d, .bool false, .bool cy]) (by simp [results, Try.results13, go_sem, u0, u1, u2, u3, u4, u5]) rfl ⟨rfl, m2⟩
set_option maxRecDepth 100000 in
set_option maxHeartbeats 4000000 in
theorem tick_hour (a0 a1 a2 a3 : Int) (a4 a5 : Bool) (h d : Int) (cy : Bool) (hn : clock_Norm.f a0 a1 a2 a3 a4 a5 = some (59, 59, h, d, false, cy)) (hs : ¬ h = 23) (w : World) :
    Calls Try.prog 13 #[.agg #[.int .u8 a0, .int .u8 a1, .int .u8 a2, .int .u16 a3, .bool a4, .bool a5]] w fun e' w' => e' = .returned (.agg #[.int .u8 0, .int .u8 0, .int .u8 ((h + 1) % 32), .int .u16 d, .bool false, .bool cy]) ∧ Below w.heap.size w w' := by
  have HN := Aside0.mk hn
  clear hn
  go_enter Try.func13, Try.ntmps13
  go_wp2_with fail
  have BK := Aside0.mk (blk_alloc (blk_new w (.cells #[.int .u8 a0, .int .u8 a1, .int .u8 a2, .int .u16 a3, .bool a4, .bool a5] 24)) (.cells #[.int .u8 0, .int .u8 0, .int .u8 0, .int .u16 0, .bool false, .bool false] 24))
  have e1 : (w.alloc (.cells #[.int .u8 a0, .int .u8 a1, .int .u8 a2, .int .u16 a3, .bool a4, .bool a5] 24)).heap.size = w.heap.size + 1 := by simp
  have zN := heap_alloc_new (w.alloc (.cells #[.int .u8 a0, .int .u8 a1, .int .u8 a2, .int .u16 a3, .bool a4, .bool a5] 24)) (.cells #[.int .u8 0, .int .u8 0, .int .u8 0, .int .u16 0, .bool false, .bool false] 24)
  rw [e1] at zN
  have BR := Aside0.mk zN
  have HB := Aside0.mk (below_alloc (below_alloc (Below.refl w.heap.size w) (.cells #[.int .u8 a0, .int .u8 a1, .int .u8 a2, .int .u16 a3, .bool a4, .bool a5] 24)) (.cells #[.int .u8 0, .int .u8 0, .int .u8 0, .int .u16 0, .bool false, .bool false] 24))
  clear zN e1
  have hz : ((w.alloc (.cells #[.int .u8 a0, .int .u8 a1, .int .u8 a2, .int .u16 a3, .bool a4, .bool a5] 24)).alloc (.cells #[.int .u8 0, .int .u8 0, .int .u8 0, .int .u16 0, .bool false, .bool false] 24)).heap.size = w.heap.size + 2 := by simp
  generalize (w.alloc (.cells #[.int .u8 a0, .int .u8 a1, .int .u8 a2, .int .u16 a3, .bool a4, .bool a5] 24)).alloc (.cells #[.int .u8 0, .int .u8 0, .int .u8 0, .int .u16 0, .bool false, .bool false] 24) = W at *
  have c0 : W.cell? ⟨w.heap.size, 0, none⟩ = some (.int .u8 a0) := (blk_cell BK.out 0).trans rfl
  have c1 : W.cell? ⟨w.heap.size, 1, none⟩ = some (.int .u8 a1) := (blk_cell BK.out 1).trans rfl
  have c2 : W.cell? ⟨w.heap.size, 2, none⟩ = some (.int .u8 a2) := (blk_cell BK.out 2).trans rfl
  have c3 : W.cell? ⟨w.heap.size, 3, none⟩ = some (.int .u16 a3) := (blk_cell BK.out 3).trans rfl
  have c4 : W.cell? ⟨w.heap.size, 4, none⟩ = some (.bool a4) := (blk_cell BK.out 4).trans rfl
  have c5 : W.cell? ⟨w.heap.size, 5, none⟩ = some (.bool a5) := (blk_cell BK.out 5).trans rfl
  have fz := fun i => blk_frozen BK.out i
  go_step3
  go_wp2_with (first | (go_at_call 15; ((with_reducible refine (clock_Norm.calls a0 a1 a2 a3 a4 a5 (59) (59) (h) (d) (false) (cy) _ HN.out).mono ?_)); rintro e' w1 ⟨rfl, hb⟩; have n0 := Aside0.mk ((hb.block w.heap.size (by rw [hz]; omega)).trans BK.out); have n1 := Aside0.mk ((hb.block (w.heap.size + 1) (by rw [hz]; omega)).trans BR.out); have n2 := Aside0.mk (Below.trans HB.out (hb.mono (by rw [hz]; omega))); clear hb BK BR HB c0 c1 c2 c3 c4 c5 fz; have c0 : w1.cell? ⟨w.heap.size, 0, none⟩ = some (.int .u8 a0) := (blk_cell n0.out 0).trans rfl; have c1 : w1.cell? ⟨w.heap.size, 1, none⟩ = some (.int .u8 a1) := (blk_cell n0.out 1).trans rfl; have c2 : w1.cell? ⟨w.heap.size, 2, none⟩ = some (.int .u8 a2) := (blk_cell n0.out 2).trans rfl; have c3 : w1.cell? ⟨w.heap.size, 3, none⟩ = some (.int .u16 a3) := (blk_cell n0.out 3).trans rfl; have c4 : w1.cell? ⟨w.heap.size, 4, none⟩ = some (.bool a4) := (blk_cell n0.out 4).trans rfl; have c5 : w1.cell? ⟨w.heap.size, 5, none⟩ = some (.bool a5) := (blk_cell n0.out 5).trans rfl; have z0 : w1.cell? ⟨(w.heap.size + 1), 0, none⟩ = some (.int .u8 0) := (blk_cell n1.out 0).trans rfl; have z1 : w1.cell? ⟨(w.heap.size + 1), 1, none⟩ = some (.int .u8 0) := (blk_cell n1.out 1).trans rfl; have z2 : w1.cell? ⟨(w.heap.size + 1), 2, none⟩ = some (.int .u8 0) := (blk_cell n1.out 2).trans rfl; have z3 : w1.cell? ⟨(w.heap.size + 1), 3, none⟩ = some (.int .u16 0) := (blk_cell n1.out 3).trans rfl; have z4 : w1.cell? ⟨(w.heap.size + 1), 4, none⟩ = some (.bool false) := (blk_cell n1.out 4).trans rfl; have z5 : w1.cell? ⟨(w.heap.size + 1), 5, none⟩ = some (.bool false) := (blk_cell n1.out 5).trans rfl; have fz := fun i => blk_frozen n0.out i; have fr := fun i => blk_frozen n1.out i))
  have m0 : ((((((w1.setCell ⟨w.heap.size, 0, none⟩ (.int .u8 59)).setCell ⟨w.heap.size, 1, none⟩ (.int .u8 59)).setCell ⟨w.heap.size, 2, none⟩ (.int .u8 h)).setCell ⟨w.heap.size, 3, none⟩ (.int .u16 d)).setCell ⟨w.heap.size, 4, none⟩ (.bool false)).setCell ⟨w.heap.size, 5, none⟩ (.bool cy)).heap[w.heap.size]? = some (.cells #[.int .u8 59, .int .u8 59, .int .u8 h, .int .u16 d, .bool false, .bool cy] 24 (0, 0)) := (by
    have p0 : (w1.setCell ⟨w.heap.size, 0, none⟩ (.int .u8 59)).heap[w.heap.size]? = some (.cells #[.int .u8 59, .int .u8 a1, .int .u8 a2, .int .u16 a3, .bool a4, .bool a5] 24 (0, 0)) := blk_put n0.out 0 _ rfl
    have p1 : ((w1.setCell ⟨w.heap.size, 0, none⟩ (.int .u8 59)).setCell ⟨w.heap.size, 1, none⟩ (.int .u8 59)).heap[w.heap.size]? = some (.cells #[.int .u8 59, .int .u8 59, .int .u8 a2, .int .u16 a3, .bool a4, .bool a5] 24 (0, 0)) := blk_put p0 1 _ rfl
    have p2 : (((w1.setCell ⟨w.heap.size, 0, none⟩ (.int .u8 59)).setCell ⟨w.heap.size, 1, none⟩ (.int .u8 59)).setCell ⟨w.heap.size, 2, none⟩ (.int .u8 h)).heap[w.heap.size]? = some (.cells #[.int .u8 59, .int .u8 59, .int .u8 h, .int .u16 a3, .bool a4, .bool a5] 24 (0, 0)) := blk_put p1 2 _ rfl
    have p3 : ((((w1.setCell ⟨w.heap.size, 0, none⟩ (.int .u8 59)).setCell ⟨w.heap.size, 1, none⟩ (.int .u8 59)).setCell ⟨w.heap.size, 2, none⟩ (.int .u8 h)).setCell ⟨w.heap.size, 3, none⟩ (.int .u16 d)).heap[w.heap.size]? = some (.cells #[.int .u8 59, .int .u8 59, .int .u8 h, .int .u16 d, .bool a4, .bool a5] 24 (0, 0)) := blk_put p2 3 _ rfl
    have p4 : (((((w1.setCell ⟨w.heap.size, 0, none⟩ (.int .u8 59)).setCell ⟨w.heap.size, 1, none⟩ (.int .u8 59)).setCell ⟨w.heap.size, 2, none⟩ (.int .u8 h)).setCell ⟨w.heap.size, 3, none⟩ (.int .u16 d)).setCell ⟨w.heap.size, 4, none⟩ (.bool false)).heap[w.heap.size]? = some (.cells #[.int .u8 59, .int .u8 59, .int .u8 h, .int .u16 d, .bool false, .bool a5] 24 (0, 0)) := blk_put p3 4 _ rfl
    have p5 : ((((((w1.setCell ⟨w.heap.size, 0, none⟩ (.int .u8 59)).setCell ⟨w.heap.size, 1, none⟩ (.int .u8 59)).setCell ⟨w.heap.size, 2, none⟩ (.int .u8 h)).setCell ⟨w.heap.size, 3, none⟩ (.int .u16 d)).setCell ⟨w.heap.size, 4, none⟩ (.bool false)).setCell ⟨w.heap.size, 5, none⟩ (.bool cy)).heap[w.heap.size]? = some (.cells #[.int .u8 59, .int .u8 59, .int .u8 h, .int .u16 d, .bool false, .bool cy] 24 (0, 0)) := blk_put p4 5 _ rfl
    exact p5)
  have m1 : ((((((w1.setCell ⟨w.heap.size, 0, none⟩ (.int .u8 59)).setCell ⟨w.heap.size, 1, none⟩ (.int .u8 59)).setCell ⟨w.heap.size, 2, none⟩ (.int .u8 h)).setCell ⟨w.heap.size, 3, none⟩ (.int .u16 d)).setCell ⟨w.heap.size, 4, none⟩ (.bool false)).setCell ⟨w.heap.size, 5, none⟩ (.bool cy)).heap[w.heap.size + 1]? = some (.cells #[.int .u8 0, .int .u8 0, .int .u8 0, .int .u16 0, .bool false, .bool false] 24 (0, 0)) := (by repeat (first | (with_reducible exact n1.out) | refine blk_far ?_ (by simp) _))
  have m2 : Below w.heap.size w ((((((w1.setCell ⟨w.heap.size, 0, none⟩ (.int .u8 59)).setCell ⟨w.heap.size, 1, none⟩ (.int .u8 59)).setCell ⟨w.heap.size, 2, none⟩ (.int .u8 h)).setCell ⟨w.heap.size, 3, none⟩ (.int .u16 d)).setCell ⟨w.heap.size, 4, none⟩ (.bool false)).setCell ⟨w.heap.size, 5, none⟩ (.bool cy)) := (below_set (below_set (below_set (below_set (below_set (below_set n2.out (Nat.le_refl _)) (Nat.le_refl _)) (Nat.le_refl _)) (Nat.le_refl _)) (Nat.le_refl _)) (Nat.le_refl _))
  generalize ((((((w1.setCell ⟨w.heap.size, 0, none⟩ (.int .u8 59)).setCell ⟨w.heap.size, 1, none⟩ (.int .u8 59)).setCell ⟨w.heap.size, 2, none⟩ (.int .u8 h)).setCell ⟨w.heap.size, 3, none⟩ (.int .u16 d)).setCell ⟨w.heap.size, 4, none⟩ (.bool false)).setCell ⟨w.heap.size, 5, none⟩ (.bool cy)) = X at m0 m1 m2 ⊢
  clear n0 n1 n2 c0 c1 c2 c3 c4 c5 z0 z1 z2 z3 z4 z5 fz fr hz
  have BK := Aside0.mk m0
  have BR := Aside0.mk m1
  have HB := Aside0.mk m2
  clear m0 m1 m2
  have c0 : X.cell? ⟨w.heap.size, 0, none⟩ = some (.int .u8 59) := (blk_cell BK.out 0).trans rfl
  have c1 : X.cell? ⟨w.heap.size, 1, none⟩ = some (.int .u8 59) := (blk_cell BK.out 1).trans rfl
  have c2 : X.cell? ⟨w.heap.size, 2, none⟩ = some (.int .u8 h) := (blk_cell BK.out 2).trans rfl
  have c3 : X.cell? ⟨w.heap.size, 3, none⟩ = some (.int .u16 d) := (blk_cell BK.out 3).trans rfl
  have c4 : X.cell? ⟨w.heap.size, 4, none⟩ = some (.bool false) := (blk_cell BK.out 4).trans rfl
  have c5 : X.cell? ⟨w.heap.size, 5, none⟩ = some (.bool cy) := (blk_cell BK.out 5).trans rfl
  have z0 : X.cell? ⟨(w.heap.size + 1), 0, none⟩ = some (.int .u8 0) := (blk_cell BR.out 0).trans rfl
  have z1 : X.cell? ⟨(w.heap.size + 1), 1, none⟩ = some (.int .u8 0) := (blk_cell BR.out 1).trans rfl
  have z2 : X.cell? ⟨(w.heap.size + 1), 2, none⟩ = some (.int .u8 0) := (blk_cell BR.out 2).trans rfl
  have z3 : X.cell? ⟨(w.heap.size + 1), 3, none⟩ = some (.int .u16 0) := (blk_cell BR.out 3).trans rfl
  have z4 : X.cell? ⟨(w.heap.size + 1), 4, none⟩ = some (.bool false) := (blk_cell BR.out 4).trans rfl
  have z5 : X.cell? ⟨(w.heap.size + 1), 5, none⟩ = some (.bool false) := (blk_cell BR.out 5).trans rfl
  have fz := fun i => blk_frozen BK.out i
  have fr := fun i => blk_frozen BR.out i
  go_step3
  go_wp2
  go_rounds 5
  rw [Exit.noGoto_ret]
  have m1 : (((((((((X.setCell ⟨w.heap.size, 0, none⟩ (.int .u8 0)).setCell ⟨w.heap.size, 1, none⟩ (.int .u8 0)).setCell ⟨w.heap.size, 2, none⟩ (.int .u8 ((h + 1) % 32))).setCell ⟨w.heap.size + 1, 0, none⟩ (.int .u8 0)).setCell ⟨w.heap.size + 1, 1, none⟩ (.int .u8 0)).setCell ⟨w.heap.size + 1, 2, none⟩ (.int .u8 ((h + 1) % 32))).setCell ⟨w.heap.size + 1, 3, none⟩ (.int .u16 d)).setCell ⟨w.heap.size + 1, 4, none⟩ (.bool false)).setCell ⟨w.heap.size + 1, 5, none⟩ (.bool cy)).heap[w.heap.size + 1]? = some (.cells #[.int .u8 0, .int .u8 0, .int .u8 ((h + 1) % 32), .int .u16 d, .bool false, .bool cy] 24 (0, 0)) := (by
    have p0 : ((((X.setCell ⟨w.heap.size, 0, none⟩ (.int .u8 0)).setCell ⟨w.heap.size, 1, none⟩ (.int .u8 0)).setCell ⟨w.heap.size, 2, none⟩ (.int .u8 ((h + 1) % 32))).setCell ⟨w.heap.size + 1, 0, none⟩ (.int .u8 0)).heap[w.heap.size + 1]? = some (.cells #[.int .u8 0, .int .u8 0, .int .u8 0, .int .u16 0, .bool false, .bool false] 24 (0, 0)) := blk_put (by repeat (first | (with_reducible exact BR.out) | refine blk_far ?_ (by simp) _) : (((X.setCell ⟨w.heap.size, 0, none⟩ (.int .u8 0)).setCell ⟨w.heap.size, 1, none⟩ (.int .u8 0)).setCell ⟨w.heap.size, 2, none⟩ (.int .u8 ((h + 1) % 32))).heap[w.heap.size + 1]? = some (.cells #[.int .u8 0, .int .u8 0, .int .u8 0, .int .u16 0, .bool false, .bool false] 24 (0, 0))) 0 _ rfl
    have p1 : (((((X.setCell ⟨w.heap.size, 0, none⟩ (.int .u8 0)).setCell ⟨w.heap.size, 1, none⟩ (.int .u8 0)).setCell ⟨w.heap.size, 2, none⟩ (.int .u8 ((h + 1) % 32))).setCell ⟨w.heap.size + 1, 0, none⟩ (.int .u8 0)).setCell ⟨w.heap.size + 1, 1, none⟩ (.int .u8 0)).heap[w.heap.size + 1]? = some (.cells #[.int .u8 0, .int .u8 0, .int .u8 0, .int .u16 0, .bool false, .bool false] 24 (0, 0)) := blk_put p0 1 _ rfl
    have p2 : ((((((X.setCell ⟨w.heap.size, 0, none⟩ (.int .u8 0)).setCell ⟨w.heap.size, 1, none⟩ (.int .u8 0)).setCell ⟨w.heap.size, 2, none⟩ (.int .u8 ((h + 1) % 32))).setCell ⟨w.heap.size + 1, 0, none⟩ (.int .u8 0)).setCell ⟨w.heap.size + 1, 1, none⟩ (.int .u8 0)).setCell ⟨w.heap.size + 1, 2, none⟩ (.int .u8 ((h + 1) % 32))).heap[w.heap.size + 1]? = some (.cells #[.int .u8 0, .int .u8 0, .int .u8 ((h + 1) % 32), .int .u16 0, .bool false, .bool false] 24 (0, 0)) := blk_put p1 2 _ rfl
    have p3 : (((((((X.setCell ⟨w.heap.size, 0, none⟩ (.int .u8 0)).setCell ⟨w.heap.size, 1, none⟩ (.int .u8 0)).setCell ⟨w.heap.size, 2, none⟩ (.int .u8 ((h + 1) % 32))).setCell ⟨w.heap.size + 1, 0, none⟩ (.int .u8 0)).setCell ⟨w.heap.size + 1, 1, none⟩ (.int .u8 0)).setCell ⟨w.heap.size + 1, 2, none⟩ (.int .u8 ((h + 1) % 32))).setCell ⟨w.heap.size + 1, 3, none⟩ (.int .u16 d)).heap[w.heap.size + 1]? = some (.cells #[.int .u8 0, .int .u8 0, .int .u8 ((h + 1) % 32), .int .u16 d, .bool false, .bool false] 24 (0, 0)) := blk_put p2 3 _ rfl
    have p4 : ((((((((X.setCell ⟨w.heap.size, 0, none⟩ (.int .u8 0)).setCell ⟨w.heap.size, 1, none⟩ (.int .u8 0)).setCell ⟨w.heap.size, 2, none⟩ (.int .u8 ((h + 1) % 32))).setCell ⟨w.heap.size + 1, 0, none⟩ (.int .u8 0)).setCell ⟨w.heap.size + 1, 1, none⟩ (.int .u8 0)).setCell ⟨w.heap.size + 1, 2, none⟩ (.int .u8 ((h + 1) % 32))).setCell ⟨w.heap.size + 1, 3, none⟩ (.int .u16 d)).setCell ⟨w.heap.size + 1, 4, none⟩ (.bool false)).heap[w.heap.size + 1]? = some (.cells #[.int .u8 0, .int .u8 0, .int .u8 ((h + 1) % 32), .int .u16 d, .bool false, .bool false] 24 (0, 0)) := blk_put p3 4 _ rfl
    have p5 : (((((((((X.setCell ⟨w.heap.size, 0, none⟩ (.int .u8 0)).setCell ⟨w.heap.size, 1, none⟩ (.int .u8 0)).setCell ⟨w.heap.size, 2, none⟩ (.int .u8 ((h + 1) % 32))).setCell ⟨w.heap.size + 1, 0, none⟩ (.int .u8 0)).setCell ⟨w.heap.size + 1, 1, none⟩ (.int .u8 0)).setCell ⟨w.heap.size + 1, 2, none⟩ (.int .u8 ((h + 1) % 32))).setCell ⟨w.heap.size + 1, 3, none⟩ (.int .u16 d)).setCell ⟨w.heap.size + 1, 4, none⟩ (.bool false)).setCell ⟨w.heap.size + 1, 5, none⟩ (.bool cy)).heap[w.heap.size + 1]? = some (.cells #[.int .u8 0, .int .u8 0, .int .u8 ((h + 1) % 32), .int .u16 d, .bool false, .bool cy] 24 (0, 0)) := blk_put p4 5 _ rfl
    exact p5)
  have m2 : Below w.heap.size w (((((((((X.setCell ⟨w.heap.size, 0, none⟩ (.int .u8 0)).setCell ⟨w.heap.size, 1, none⟩ (.int .u8 0)).setCell ⟨w.heap.size, 2, none⟩ (.int .u8 ((h + 1) % 32))).setCell ⟨w.heap.size + 1, 0, none⟩ (.int .u8 0)).setCell ⟨w.heap.size + 1, 1, none⟩ (.int .u8 0)).setCell ⟨w.heap.size + 1, 2, none⟩ (.int .u8 ((h + 1) % 32))).setCell ⟨w.heap.size + 1, 3, none⟩ (.int .u16 d)).setCell ⟨w.heap.size + 1, 4, none⟩ (.bool false)).setCell ⟨w.heap.size + 1, 5, none⟩ (.bool cy)) := (below_set (below_set (below_set (below_set (below_set (below_set (below_set (below_set (below_set HB.out (Nat.le_refl _)) (Nat.le_refl _)) (Nat.le_refl _)) (Nat.le_succ _)) (Nat.le_succ _)) (Nat.le_succ _)) (Nat.le_succ _)) (Nat.le_succ _)) (Nat.le_succ _))
  generalize (((((((((X.setCell ⟨w.heap.size, 0, none⟩ (.int .u8 0)).setCell ⟨w.heap.size, 1, none⟩ (.int .u8 0)).setCell ⟨w.heap.size, 2, none⟩ (.int .u8 ((h + 1) % 32))).setCell ⟨w.heap.size + 1, 0, none⟩ (.int .u8 0)).setCell ⟨w.heap.size + 1, 1, none⟩ (.int .u8 0)).setCell ⟨w.heap.size + 1, 2, none⟩ (.int .u8 ((h + 1) % 32))).setCell ⟨w.heap.size + 1, 3, none⟩ (.int .u16 d)).setCell ⟨w.heap.size + 1, 4, none⟩ (.bool false)).setCell ⟨w.heap.size + 1, 5, none⟩ (.bool cy)) = Y at m1 m2 ⊢
  have u0 : Y.cell? ⟨w.heap.size + 1, 0, none⟩ = some (.int .u8 0) := (blk_cell m1 0).trans rfl
  have u1 : Y.cell? ⟨w.heap.size + 1, 1, none⟩ = some (.int .u8 0) := (blk_cell m1 1).trans rfl
  have u2 : Y.cell? ⟨w.heap.size + 1, 2, none⟩ = some (.int .u8 ((h + 1) % 32)) := (blk_cell m1 2).trans rfl
  have u3 : Y.cell? ⟨w.heap.size + 1, 3, none⟩ = some (.int .u16 d) := (blk_cell m1 3).trans rfl
  have u4 : Y.cell? ⟨w.heap.size + 1, 4, none⟩ = some (.bool false) := (blk_cell m1 4).trans rfl
  have u5 : Y.cell? ⟨w.heap.size + 1, 5, none⟩ = some (.bool cy) := (blk_cell m1 5).trans rfl
  exact bodyPost_ret (v := .agg #[.int .u8 0, .int .u8 0, .int .u8 ((h + 1) % 32), .int .u16 d, .bool false, .bool cy]) (by simp [results, Try.results13, go_sem, u0, u1, u2, u3, u4, u5]) rfl ⟨rfl, m2⟩
set_option maxRecDepth 100000 in
set_option maxHeartbeats 4000000 in
theorem tick_day1 (a0 a1 a2 a3 : Int) (a4 a5 : Bool) (d : Int) (hn : clock_Norm.f a0 a1 a2 a3 a4 a5 = some (59, 59, 23, d, false, true))  (w : World) :
    Calls Try.prog 13 #[.agg #[.int .u8 a0, .int .u8 a1, .int .u8 a2, .int .u16 a3, .bool a4, .bool a5]] w fun e' w' => e' = .returned (.agg #[.int .u8 0, .int .u8 0, .int .u8 0, .int .u16 (Go.bits .and .u16 (IntKind.u16.wrap (d + 1)) 511), .bool false, .bool true]) ∧ Below w.heap.size w w' := by
  have HN := Aside0.mk hn
  clear hn
  go_enter Try.func13, Try.ntmps13
  go_wp2_with fail
  have BK := Aside0.mk (blk_alloc (blk_new w (.cells #[.int .u8 a0, .int .u8 a1, .int .u8 a2, .int .u16 a3, .bool a4, .bool a5] 24)) (.cells #[.int .u8 0, .int .u8 0, .int .u8 0, .int .u16 0, .bool false, .bool false] 24))
  have e1 : (w.alloc (.cells #[.int .u8 a0, .int .u8 a1, .int .u8 a2, .int .u16 a3, .bool a4, .bool a5] 24)).heap.size = w.heap.size + 1 := by simp
  have zN := heap_alloc_new (w.alloc (.cells #[.int .u8 a0, .int .u8 a1, .int .u8 a2, .int .u16 a3, .bool a4, .bool a5] 24)) (.cells #[.int .u8 0, .int .u8 0, .int .u8 0, .int .u16 0, .bool false, .bool false] 24)
  rw [e1] at zN
  have BR := Aside0.mk zN
  have HB := Aside0.mk (below_alloc (below_alloc (Below.refl w.heap.size w) (.cells #[.int .u8 a0, .int .u8 a1, .int .u8 a2, .int .u16 a3, .bool a4, .bool a5] 24)) (.cells #[.int .u8 0, .int .u8 0, .int .u8 0, .int .u16 0, .bool false, .bool false] 24))
  clear zN e1
  have hz : ((w.alloc (.cells #[.int .u8 a0, .int .u8 a1, .int .u8 a2, .int .u16 a3, .bool a4, .bool a5] 24)).alloc (.cells #[.int .u8 0, .int .u8 0, .int .u8 0, .int .u16 0, .bool false, .bool false] 24)).heap.size = w.heap.size + 2 := by simp
  generalize (w.alloc (.cells #[.int .u8 a0, .int .u8 a1, .int .u8 a2, .int .u16 a3, .bool a4, .bool a5] 24)).alloc (.cells #[.int .u8 0, .int .u8 0, .int .u8 0, .int .u16 0, .bool false, .bool false] 24) = W at *
  have c0 : W.cell? ⟨w.heap.size, 0, none⟩ = some (.int .u8 a0) := (blk_cell BK.out 0).trans rfl
  have c1 : W.cell? ⟨w.heap.size, 1, none⟩ = some (.int .u8 a1) := (blk_cell BK.out 1).trans rfl
  have c2 : W.cell? ⟨w.heap.size, 2, none⟩ = some (.int .u8 a2) := (blk_cell BK.out 2).trans rfl
  have c3 : W.cell? ⟨w.heap.size, 3, none⟩ = some (.int .u16 a3) := (blk_cell BK.out 3).trans rfl
  have c4 : W.cell? ⟨w.heap.size, 4, none⟩ = some (.bool a4) := (blk_cell BK.out 4).trans rfl
  have c5 : W.cell? ⟨w.heap.size, 5, none⟩ = some (.bool a5) := (blk_cell BK.out 5).trans rfl
  have fz := fun i => blk_frozen BK.out i
  go_step3
  go_wp2_with (first | (go_at_call 15; ((with_reducible refine (clock_Norm.calls a0 a1 a2 a3 a4 a5 (59) (59) (23) (d) (false) (true) _ HN.out).mono ?_)); rintro e' w1 ⟨rfl, hb⟩; have n0 := Aside0.mk ((hb.block w.heap.size (by rw [hz]; omega)).trans BK.out); have n1 := Aside0.mk ((hb.block (w.heap.size + 1) (by rw [hz]; omega)).trans BR.out); have n2 := Aside0.mk (Below.trans HB.out (hb.mono (by rw [hz]; omega))); clear hb BK BR HB c0 c1 c2 c3 c4 c5 fz; have c0 : w1.cell? ⟨w.heap.size, 0, none⟩ = some (.int .u8 a0) := (blk_cell n0.out 0).trans rfl; have c1 : w1.cell? ⟨w.heap.size, 1, none⟩ = some (.int .u8 a1) := (blk_cell n0.out 1).trans rfl; have c2 : w1.cell? ⟨w.heap.size, 2, none⟩ = some (.int .u8 a2) := (blk_cell n0.out 2).trans rfl; have c3 : w1.cell? ⟨w.heap.size, 3, none⟩ = some (.int .u16 a3) := (blk_cell n0.out 3).trans rfl; have c4 : w1.cell? ⟨w.heap.size, 4, none⟩ = some (.bool a4) := (blk_cell n0.out 4).trans rfl; have c5 : w1.cell? ⟨w.heap.size, 5, none⟩ = some (.bool a5) := (blk_cell n0.out 5).trans rfl; have z0 : w1.cell? ⟨(w.heap.size + 1), 0, none⟩ = some (.int .u8 0) := (blk_cell n1.out 0).trans rfl; have z1 : w1.cell? ⟨(w.heap.size + 1), 1, none⟩ = some (.int .u8 0) := (blk_cell n1.out 1).trans rfl; have z2 : w1.cell? ⟨(w.heap.size + 1), 2, none⟩ = some (.int .u8 0) := (blk_cell n1.out 2).trans rfl; have z3 : w1.cell? ⟨(w.heap.size + 1), 3, none⟩ = some (.int .u16 0) := (blk_cell n1.out 3).trans rfl; have z4 : w1.cell? ⟨(w.heap.size + 1), 4, none⟩ = some (.bool false) := (blk_cell n1.out 4).trans rfl; have z5 : w1.cell? ⟨(w.heap.size + 1), 5, none⟩ = some (.bool false) := (blk_cell n1.out 5).trans rfl; have fz := fun i => blk_frozen n0.out i; have fr := fun i => blk_frozen n1.out i))
  have m0 : ((((((w1.setCell ⟨w.heap.size, 0, none⟩ (.int .u8 59)).setCell ⟨w.heap.size, 1, none⟩ (.int .u8 59)).setCell ⟨w.heap.size, 2, none⟩ (.int .u8 23)).setCell ⟨w.heap.size, 3, none⟩ (.int .u16 d)).setCell ⟨w.heap.size, 4, none⟩ (.bool false)).setCell ⟨w.heap.size, 5, none⟩ (.bool true)).heap[w.heap.size]? = some (.cells #[.int .u8 59, .int .u8 59, .int .u8 23, .int .u16 d, .bool false, .bool true] 24 (0, 0)) := (by
    have p0 : (w1.setCell ⟨w.heap.size, 0, none⟩ (.int .u8 59)).heap[w.heap.size]? = some (.cells #[.int .u8 59, .int .u8 a1, .int .u8 a2, .int .u16 a3, .bool a4, .bool a5] 24 (0, 0)) := blk_put n0.out 0 _ rfl
    have p1 : ((w1.setCell ⟨w.heap.size, 0, none⟩ (.int .u8 59)).setCell ⟨w.heap.size, 1, none⟩ (.int .u8 59)).heap[w.heap.size]? = some (.cells #[.int .u8 59, .int .u8 59, .int .u8 a2, .int .u16 a3, .bool a4, .bool a5] 24 (0, 0)) := blk_put p0 1 _ rfl
    have p2 : (((w1.setCell ⟨w.heap.size, 0, none⟩ (.int .u8 59)).setCell ⟨w.heap.size, 1, none⟩ (.int .u8 59)).setCell ⟨w.heap.size, 2, none⟩ (.int .u8 23)).heap[w.heap.size]? = some (.cells #[.int .u8 59, .int .u8 59, .int .u8 23, .int .u16 a3, .bool a4, .bool a5] 24 (0, 0)) := blk_put p1 2 _ rfl
    have p3 : ((((w1.setCell ⟨w.heap.size, 0, none⟩ (.int .u8 59)).setCell ⟨w.heap.size, 1, none⟩ (.int .u8 59)).setCell ⟨w.heap.size, 2, none⟩ (.int .u8 23)).setCell ⟨w.heap.size, 3, none⟩ (.int .u16 d)).heap[w.heap.size]? = some (.cells #[.int .u8 59, .int .u8 59, .int .u8 23, .int .u16 d, .bool a4, .bool a5] 24 (0, 0)) := blk_put p2 3 _ rfl
    have p4 : (((((w1.setCell ⟨w.heap.size, 0, none⟩ (.int .u8 59)).setCell ⟨w.heap.size, 1, none⟩ (.int .u8 59)).setCell ⟨w.heap.size, 2, none⟩ (.int .u8 23)).setCell ⟨w.heap.size, 3, none⟩ (.int .u16 d)).setCell ⟨w.heap.size, 4, none⟩ (.bool false)).heap[w.heap.size]? = some (.cells #[.int .u8 59, .int .u8 59, .int .u8 23, .int .u16 d, .bool false, .bool a5] 24 (0, 0)) := blk_put p3 4 _ rfl
    have p5 : ((((((w1.setCell ⟨w.heap.size, 0, none⟩ (.int .u8 59)).setCell ⟨w.heap.size, 1, none⟩ (.int .u8 59)).setCell ⟨w.heap.size, 2, none⟩ (.int .u8 23)).setCell ⟨w.heap.size, 3, none⟩ (.int .u16 d)).setCell ⟨w.heap.size, 4, none⟩ (.bool false)).setCell ⟨w.heap.size, 5, none⟩ (.bool true)).heap[w.heap.size]? = some (.cells #[.int .u8 59, .int .u8 59, .int .u8 23, .int .u16 d, .bool false, .bool true] 24 (0, 0)) := blk_put p4 5 _ rfl
    exact p5)
  have m1 : ((((((w1.setCell ⟨w.heap.size, 0, none⟩ (.int .u8 59)).setCell ⟨w.heap.size, 1, none⟩ (.int .u8 59)).setCell ⟨w.heap.size, 2, none⟩ (.int .u8 23)).setCell ⟨w.heap.size, 3, none⟩ (.int .u16 d)).setCell ⟨w.heap.size, 4, none⟩ (.bool false)).setCell ⟨w.heap.size, 5, none⟩ (.bool true)).heap[w.heap.size + 1]? = some (.cells #[.int .u8 0, .int .u8 0, .int .u8 0, .int .u16 0, .bool false, .bool false] 24 (0, 0)) := (by repeat (first | (with_reducible exact n1.out) | refine blk_far ?_ (by simp) _))
  have m2 : Below w.heap.size w ((((((w1.setCell ⟨w.heap.size, 0, none⟩ (.int .u8 59)).setCell ⟨w.heap.size, 1, none⟩ (.int .u8 59)).setCell ⟨w.heap.size, 2, none⟩ (.int .u8 23)).setCell ⟨w.heap.size, 3, none⟩ (.int .u16 d)).setCell ⟨w.heap.size, 4, none⟩ (.bool false)).setCell ⟨w.heap.size, 5, none⟩ (.bool true)) := (below_set (below_set (below_set (below_set (below_set (below_set n2.out (Nat.le_refl _)) (Nat.le_refl _)) (Nat.le_refl _)) (Nat.le_refl _)) (Nat.le_refl _)) (Nat.le_refl _))
  generalize ((((((w1.setCell ⟨w.heap.size, 0, none⟩ (.int .u8 59)).setCell ⟨w.heap.size, 1, none⟩ (.int .u8 59)).setCell ⟨w.heap.size, 2, none⟩ (.int .u8 23)).setCell ⟨w.heap.size, 3, none⟩ (.int .u16 d)).setCell ⟨w.heap.size, 4, none⟩ (.bool false)).setCell ⟨w.heap.size, 5, none⟩ (.bool true)) = X at m0 m1 m2 ⊢
  clear n0 n1 n2 c0 c1 c2 c3 c4 c5 z0 z1 z2 z3 z4 z5 fz fr hz
  have BK := Aside0.mk m0
  have BR := Aside0.mk m1
  have HB := Aside0.mk m2
  clear m0 m1 m2
  have c0 : X.cell? ⟨w.heap.size, 0, none⟩ = some (.int .u8 59) := (blk_cell BK.out 0).trans rfl
  have c1 : X.cell? ⟨w.heap.size, 1, none⟩ = some (.int .u8 59) := (blk_cell BK.out 1).trans rfl
  have c2 : X.cell? ⟨w.heap.size, 2, none⟩ = some (.int .u8 23) := (blk_cell BK.out 2).trans rfl
  have c3 : X.cell? ⟨w.heap.size, 3, none⟩ = some (.int .u16 d) := (blk_cell BK.out 3).trans rfl
  have c4 : X.cell? ⟨w.heap.size, 4, none⟩ = some (.bool false) := (blk_cell BK.out 4).trans rfl
  have c5 : X.cell? ⟨w.heap.size, 5, none⟩ = some (.bool true) := (blk_cell BK.out 5).trans rfl
  have z0 : X.cell? ⟨(w.heap.size + 1), 0, none⟩ = some (.int .u8 0) := (blk_cell BR.out 0).trans rfl
  have z1 : X.cell? ⟨(w.heap.size + 1), 1, none⟩ = some (.int .u8 0) := (blk_cell BR.out 1).trans rfl
  have z2 : X.cell? ⟨(w.heap.size + 1), 2, none⟩ = some (.int .u8 0) := (blk_cell BR.out 2).trans rfl
  have z3 : X.cell? ⟨(w.heap.size + 1), 3, none⟩ = some (.int .u16 0) := (blk_cell BR.out 3).trans rfl
  have z4 : X.cell? ⟨(w.heap.size + 1), 4, none⟩ = some (.bool false) := (blk_cell BR.out 4).trans rfl
  have z5 : X.cell? ⟨(w.heap.size + 1), 5, none⟩ = some (.bool false) := (blk_cell BR.out 5).trans rfl
  have fz := fun i => blk_frozen BK.out i
  have fr := fun i => blk_frozen BR.out i
  go_step3
  go_wp2
  go_rounds 5
  rw [Exit.noGoto_ret]
  have m1 : (((((((((((X.setCell ⟨w.heap.size, 0, none⟩ (.int .u8 0)).setCell ⟨w.heap.size, 1, none⟩ (.int .u8 0)).setCell ⟨w.heap.size, 2, none⟩ (.int .u8 0)).setCell ⟨w.heap.size, 5, none⟩ (.bool true)).setCell ⟨w.heap.size, 3, none⟩ (.int .u16 (Go.bits .and .u16 (IntKind.u16.wrap (d + 1)) 511))).setCell ⟨w.heap.size + 1, 0, none⟩ (.int .u8 0)).setCell ⟨w.heap.size + 1, 1, none⟩ (.int .u8 0)).setCell ⟨w.heap.size + 1, 2, none⟩ (.int .u8 0)).setCell ⟨w.heap.size + 1, 3, none⟩ (.int .u16 (Go.bits .and .u16 (IntKind.u16.wrap (d + 1)) 511))).setCell ⟨w.heap.size + 1, 4, none⟩ (.bool false)).setCell ⟨w.heap.size + 1, 5, none⟩ (.bool true)).heap[w.heap.size + 1]? = some (.cells #[.int .u8 0, .int .u8 0, .int .u8 0, .int .u16 (Go.bits .and .u16 (IntKind.u16.wrap (d + 1)) 511), .bool false, .bool true] 24 (0, 0)) := (by
    have p0 : ((((((X.setCell ⟨w.heap.size, 0, none⟩ (.int .u8 0)).setCell ⟨w.heap.size, 1, none⟩ (.int .u8 0)).setCell ⟨w.heap.size, 2, none⟩ (.int .u8 0)).setCell ⟨w.heap.size, 5, none⟩ (.bool true)).setCell ⟨w.heap.size, 3, none⟩ (.int .u16 (Go.bits .and .u16 (IntKind.u16.wrap (d + 1)) 511))).setCell ⟨w.heap.size + 1, 0, none⟩ (.int .u8 0)).heap[w.heap.size + 1]? = some (.cells #[.int .u8 0, .int .u8 0, .int .u8 0, .int .u16 0, .bool false, .bool false] 24 (0, 0)) := blk_put (by repeat (first | (with_reducible exact BR.out) | refine blk_far ?_ (by simp) _) : (((((X.setCell ⟨w.heap.size, 0, none⟩ (.int .u8 0)).setCell ⟨w.heap.size, 1, none⟩ (.int .u8 0)).setCell ⟨w.heap.size, 2, none⟩ (.int .u8 0)).setCell ⟨w.heap.size, 5, none⟩ (.bool true)).setCell ⟨w.heap.size, 3, none⟩ (.int .u16 (Go.bits .and .u16 (IntKind.u16.wrap (d + 1)) 511))).heap[w.heap.size + 1]? = some (.cells #[.int .u8 0, .int .u8 0, .int .u8 0, .int .u16 0, .bool false, .bool false] 24 (0, 0))) 0 _ rfl
    have p1 : (((((((X.setCell ⟨w.heap.size, 0, none⟩ (.int .u8 0)).setCell ⟨w.heap.size, 1, none⟩ (.int .u8 0)).setCell ⟨w.heap.size, 2, none⟩ (.int .u8 0)).setCell ⟨w.heap.size, 5, none⟩ (.bool true)).setCell ⟨w.heap.size, 3, none⟩ (.int .u16 (Go.bits .and .u16 (IntKind.u16.wrap (d + 1)) 511))).setCell ⟨w.heap.size + 1, 0, none⟩ (.int .u8 0)).setCell ⟨w.heap.size + 1, 1, none⟩ (.int .u8 0)).heap[w.heap.size + 1]? = some (.cells #[.int .u8 0, .int .u8 0, .int .u8 0, .int .u16 0, .bool false, .bool false] 24 (0, 0)) := blk_put p0 1 _ rfl
    have p2 : ((((((((X.setCell ⟨w.heap.size, 0, none⟩ (.int .u8 0)).setCell ⟨w.heap.size, 1, none⟩ (.int .u8 0)).setCell ⟨w.heap.size, 2, none⟩ (.int .u8 0)).setCell ⟨w.heap.size, 5, none⟩ (.bool true)).setCell ⟨w.heap.size, 3, none⟩ (.int .u16 (Go.bits .and .u16 (IntKind.u16.wrap (d + 1)) 511))).setCell ⟨w.heap.size + 1, 0, none⟩ (.int .u8 0)).setCell ⟨w.heap.size + 1, 1, none⟩ (.int .u8 0)).setCell ⟨w.heap.size + 1, 2, none⟩ (.int .u8 0)).heap[w.heap.size + 1]? = some (.cells #[.int .u8 0, .int .u8 0, .int .u8 0, .int .u16 0, .bool false, .bool false] 24 (0, 0)) := blk_put p1 2 _ rfl
    have p3 : (((((((((X.setCell ⟨w.heap.size, 0, none⟩ (.int .u8 0)).setCell ⟨w.heap.size, 1, none⟩ (.int .u8 0)).setCell ⟨w.heap.size, 2, none⟩ (.int .u8 0)).setCell ⟨w.heap.size, 5, none⟩ (.bool true)).setCell ⟨w.heap.size, 3, none⟩ (.int .u16 (Go.bits .and .u16 (IntKind.u16.wrap (d + 1)) 511))).setCell ⟨w.heap.size + 1, 0, none⟩ (.int .u8 0)).setCell ⟨w.heap.size + 1, 1, none⟩ (.int .u8 0)).setCell ⟨w.heap.size + 1, 2, none⟩ (.int .u8 0)).setCell ⟨w.heap.size + 1, 3, none⟩ (.int .u16 (Go.bits .and .u16 (IntKind.u16.wrap (d + 1)) 511))).heap[w.heap.size + 1]? = some (.cells #[.int .u8 0, .int .u8 0, .int .u8 0, .int .u16 (Go.bits .and .u16 (IntKind.u16.wrap (d + 1)) 511), .bool false, .bool false] 24 (0, 0)) := blk_put p2 3 _ rfl
    have p4 : ((((((((((X.setCell ⟨w.heap.size, 0, none⟩ (.int .u8 0)).setCell ⟨w.heap.size, 1, none⟩ (.int .u8 0)).setCell ⟨w.heap.size, 2, none⟩ (.int .u8 0)).setCell ⟨w.heap.size, 5, none⟩ (.bool true)).setCell ⟨w.heap.size, 3, none⟩ (.int .u16 (Go.bits .and .u16 (IntKind.u16.wrap (d + 1)) 511))).setCell ⟨w.heap.size + 1, 0, none⟩ (.int .u8 0)).setCell ⟨w.heap.size + 1, 1, none⟩ (.int .u8 0)).setCell ⟨w.heap.size + 1, 2, none⟩ (.int .u8 0)).setCell ⟨w.heap.size + 1, 3, none⟩ (.int .u16 (Go.bits .and .u16 (IntKind.u16.wrap (d + 1)) 511))).setCell ⟨w.heap.size + 1, 4, none⟩ (.bool false)).heap[w.heap.size + 1]? = some (.cells #[.int .u8 0, .int .u8 0, .int .u8 0, .int .u16 (Go.bits .and .u16 (IntKind.u16.wrap (d + 1)) 511), .bool false, .bool false] 24 (0, 0)) := blk_put p3 4 _ rfl
    have p5 : (((((((((((X.setCell ⟨w.heap.size, 0, none⟩ (.int .u8 0)).setCell ⟨w.heap.size, 1, none⟩ (.int .u8 0)).setCell ⟨w.heap.size, 2, none⟩ (.int .u8 0)).setCell ⟨w.heap.size, 5, none⟩ (.bool true)).setCell ⟨w.heap.size, 3, none⟩ (.int .u16 (Go.bits .and .u16 (IntKind.u16.wrap (d + 1)) 511))).setCell ⟨w.heap.size + 1, 0, none⟩ (.int .u8 0)).setCell ⟨w.heap.size + 1, 1, none⟩ (.int .u8 0)).setCell ⟨w.heap.size + 1, 2, none⟩ (.int .u8 0)).setCell ⟨w.heap.size + 1, 3, none⟩ (.int .u16 (Go.bits .and .u16 (IntKind.u16.wrap (d + 1)) 511))).setCell ⟨w.heap.size + 1, 4, none⟩ (.bool false)).setCell ⟨w.heap.size + 1, 5, none⟩ (.bool true)).heap[w.heap.size + 1]? = some (.cells #[.int .u8 0, .int .u8 0, .int .u8 0, .int .u16 (Go.bits .and .u16 (IntKind.u16.wrap (d + 1)) 511), .bool false, .bool true] 24 (0, 0)) := blk_put p4 5 _ rfl
    exact p5)
  have m2 : Below w.heap.size w (((((((((((X.setCell ⟨w.heap.size, 0, none⟩ (.int .u8 0)).setCell ⟨w.heap.size, 1, none⟩ (.int .u8 0)).setCell ⟨w.heap.size, 2, none⟩ (.int .u8 0)).setCell ⟨w.heap.size, 5, none⟩ (.bool true)).setCell ⟨w.heap.size, 3, none⟩ (.int .u16 (Go.bits .and .u16 (IntKind.u16.wrap (d + 1)) 511))).setCell ⟨w.heap.size + 1, 0, none⟩ (.int .u8 0)).setCell ⟨w.heap.size + 1, 1, none⟩ (.int .u8 0)).setCell ⟨w.heap.size + 1, 2, none⟩ (.int .u8 0)).setCell ⟨w.heap.size + 1, 3, none⟩ (.int .u16 (Go.bits .and .u16 (IntKind.u16.wrap (d + 1)) 511))).setCell ⟨w.heap.size + 1, 4, none⟩ (.bool false)).setCell ⟨w.heap.size + 1, 5, none⟩ (.bool true)) := (below_set (below_set (below_set (below_set (below_set (below_set (below_set (below_set (below_set (below_set (below_set HB.out (Nat.le_refl _)) (Nat.le_refl _)) (Nat.le_refl _)) (Nat.le_refl _)) (Nat.le_refl _)) (Nat.le_succ _)) (Nat.le_succ _)) (Nat.le_succ _)) (Nat.le_succ _)) (Nat.le_succ _)) (Nat.le_succ _))
  generalize (((((((((((X.setCell ⟨w.heap.size, 0, none⟩ (.int .u8 0)).setCell ⟨w.heap.size, 1, none⟩ (.int .u8 0)).setCell ⟨w.heap.size, 2, none⟩ (.int .u8 0)).setCell ⟨w.heap.size, 5, none⟩ (.bool true)).setCell ⟨w.heap.size, 3, none⟩ (.int .u16 (Go.bits .and .u16 (IntKind.u16.wrap (d + 1)) 511))).setCell ⟨w.heap.size + 1, 0, none⟩ (.int .u8 0)).setCell ⟨w.heap.size + 1, 1, none⟩ (.int .u8 0)).setCell ⟨w.heap.size + 1, 2, none⟩ (.int .u8 0)).setCell ⟨w.heap.size + 1, 3, none⟩ (.int .u16 (Go.bits .and .u16 (IntKind.u16.wrap (d + 1)) 511))).setCell ⟨w.heap.size + 1, 4, none⟩ (.bool false)).setCell ⟨w.heap.size + 1, 5, none⟩ (.bool true)) = Y at m1 m2 ⊢
  have u0 : Y.cell? ⟨w.heap.size + 1, 0, none⟩ = some (.int .u8 0) := (blk_cell m1 0).trans rfl
  have u1 : Y.cell? ⟨w.heap.size + 1, 1, none⟩ = some (.int .u8 0) := (blk_cell m1 1).trans rfl
  have u2 : Y.cell? ⟨w.heap.size + 1, 2, none⟩ = some (.int .u8 0) := (blk_cell m1 2).trans rfl
  have u3 : Y.cell? ⟨w.heap.size + 1, 3, none⟩ = some (.int .u16 (Go.bits .and .u16 (IntKind.u16.wrap (d + 1)) 511)) := (blk_cell m1 3).trans rfl
  have u4 : Y.cell? ⟨w.heap.size + 1, 4, none⟩ = some (.bool false) := (blk_cell m1 4).trans rfl
  have u5 : Y.cell? ⟨w.heap.size + 1, 5, none⟩ = some (.bool true) := (blk_cell m1 5).trans rfl
  exact bodyPost_ret (v := .agg #[.int .u8 0, .int .u8 0, .int .u8 0, .int .u16 (Go.bits .and .u16 (IntKind.u16.wrap (d + 1)) 511), .bool false, .bool true]) (by simp [results, Try.results13, go_sem, u0, u1, u2, u3, u4, u5]) rfl ⟨rfl, m2⟩
set_option maxRecDepth 100000 in
set_option maxHeartbeats 4000000 in
theorem tick_day0 (a0 a1 a2 a3 : Int) (a4 a5 : Bool) (d : Int) (hn : clock_Norm.f a0 a1 a2 a3 a4 a5 = some (59, 59, 23, d, false, false))  (w : World) :
    Calls Try.prog 13 #[.agg #[.int .u8 a0, .int .u8 a1, .int .u8 a2, .int .u16 a3, .bool a4, .bool a5]] w fun e' w' => e' = .returned (.agg #[.int .u8 0, .int .u8 0, .int .u8 0, .int .u16 (Go.bits .and .u16 (IntKind.u16.wrap (d + 1)) 511), .bool false, .bool (d == 511)]) ∧ Below w.heap.size w w' := by
  have HN := Aside0.mk hn
  clear hn
  go_enter Try.func13, Try.ntmps13
  go_wp2_with fail
  have BK := Aside0.mk (blk_alloc (blk_new w (.cells #[.int .u8 a0, .int .u8 a1, .int .u8 a2, .int .u16 a3, .bool a4, .bool a5] 24)) (.cells #[.int .u8 0, .int .u8 0, .int .u8 0, .int .u16 0, .bool false, .bool false] 24))
  have e1 : (w.alloc (.cells #[.int .u8 a0, .int .u8 a1, .int .u8 a2, .int .u16 a3, .bool a4, .bool a5] 24)).heap.size = w.heap.size + 1 := by simp
  have zN := heap_alloc_new (w.alloc (.cells #[.int .u8 a0, .int .u8 a1, .int .u8 a2, .int .u16 a3, .bool a4, .bool a5] 24)) (.cells #[.int .u8 0, .int .u8 0, .int .u8 0, .int .u16 0, .bool false, .bool false] 24)
  rw [e1] at zN
  have BR := Aside0.mk zN
  have HB := Aside0.mk (below_alloc (below_alloc (Below.refl w.heap.size w) (.cells #[.int .u8 a0, .int .u8 a1, .int .u8 a2, .int .u16 a3, .bool a4, .bool a5] 24)) (.cells #[.int .u8 0, .int .u8 0, .int .u8 0, .int .u16 0, .bool false, .bool false] 24))
  clear zN e1
  have hz : ((w.alloc (.cells #[.int .u8 a0, .int .u8 a1, .int .u8 a2, .int .u16 a3, .bool a4, .bool a5] 24)).alloc (.cells #[.int .u8 0, .int .u8 0, .int .u8 0, .int .u16 0, .bool false, .bool false] 24)).heap.size = w.heap.size + 2 := by simp
  generalize (w.alloc (.cells #[.int .u8 a0, .int .u8 a1, .int .u8 a2, .int .u16 a3, .bool a4, .bool a5] 24)).alloc (.cells #[.int .u8 0, .int .u8 0, .int .u8 0, .int .u16 0, .bool false, .bool false] 24) = W at *
  have c0 : W.cell? ⟨w.heap.size, 0, none⟩ = some (.int .u8 a0) := (blk_cell BK.out 0).trans rfl
  have c1 : W.cell? ⟨w.heap.size, 1, none⟩ = some (.int .u8 a1) := (blk_cell BK.out 1).trans rfl
  have c2 : W.cell? ⟨w.heap.size, 2, none⟩ = some (.int .u8 a2) := (blk_cell BK.out 2).trans rfl
  have c3 : W.cell? ⟨w.heap.size, 3, none⟩ = some (.int .u16 a3) := (blk_cell BK.out 3).trans rfl
  have c4 : W.cell? ⟨w.heap.size, 4, none⟩ = some (.bool a4) := (blk_cell BK.out 4).trans rfl
  have c5 : W.cell? ⟨w.heap.size, 5, none⟩ = some (.bool a5) := (blk_cell BK.out 5).trans rfl
  have fz := fun i => blk_frozen BK.out i
  go_step3
  go_wp2_with (first | (go_at_call 15; ((with_reducible refine (clock_Norm.calls a0 a1 a2 a3 a4 a5 (59) (59) (23) (d) (false) (false) _ HN.out).mono ?_)); rintro e' w1 ⟨rfl, hb⟩; have n0 := Aside0.mk ((hb.block w.heap.size (by rw [hz]; omega)).trans BK.out); have n1 := Aside0.mk ((hb.block (w.heap.size + 1) (by rw [hz]; omega)).trans BR.out); have n2 := Aside0.mk (Below.trans HB.out (hb.mono (by rw [hz]; omega))); clear hb BK BR HB c0 c1 c2 c3 c4 c5 fz; have c0 : w1.cell? ⟨w.heap.size, 0, none⟩ = some (.int .u8 a0) := (blk_cell n0.out 0).trans rfl; have c1 : w1.cell? ⟨w.heap.size, 1, none⟩ = some (.int .u8 a1) := (blk_cell n0.out 1).trans rfl; have c2 : w1.cell? ⟨w.heap.size, 2, none⟩ = some (.int .u8 a2) := (blk_cell n0.out 2).trans rfl; have c3 : w1.cell? ⟨w.heap.size, 3, none⟩ = some (.int .u16 a3) := (blk_cell n0.out 3).trans rfl; have c4 : w1.cell? ⟨w.heap.size, 4, none⟩ = some (.bool a4) := (blk_cell n0.out 4).trans rfl; have c5 : w1.cell? ⟨w.heap.size, 5, none⟩ = some (.bool a5) := (blk_cell n0.out 5).trans rfl; have z0 : w1.cell? ⟨(w.heap.size + 1), 0, none⟩ = some (.int .u8 0) := (blk_cell n1.out 0).trans rfl; have z1 : w1.cell? ⟨(w.heap.size + 1), 1, none⟩ = some (.int .u8 0) := (blk_cell n1.out 1).trans rfl; have z2 : w1.cell? ⟨(w.heap.size + 1), 2, none⟩ = some (.int .u8 0) := (blk_cell n1.out 2).trans rfl; have z3 : w1.cell? ⟨(w.heap.size + 1), 3, none⟩ = some (.int .u16 0) := (blk_cell n1.out 3).trans rfl; have z4 : w1.cell? ⟨(w.heap.size + 1), 4, none⟩ = some (.bool false) := (blk_cell n1.out 4).trans rfl; have z5 : w1.cell? ⟨(w.heap.size + 1), 5, none⟩ = some (.bool false) := (blk_cell n1.out 5).trans rfl; have fz := fun i => blk_frozen n0.out i; have fr := fun i => blk_frozen n1.out i))
  have m0 : ((((((w1.setCell ⟨w.heap.size, 0, none⟩ (.int .u8 59)).setCell ⟨w.heap.size, 1, none⟩ (.int .u8 59)).setCell ⟨w.heap.size, 2, none⟩ (.int .u8 23)).setCell ⟨w.heap.size, 3, none⟩ (.int .u16 d)).setCell ⟨w.heap.size, 4, none⟩ (.bool false)).setCell ⟨w.heap.size, 5, none⟩ (.bool false)).heap[w.heap.size]? = some (.cells #[.int .u8 59, .int .u8 59, .int .u8 23, .int .u16 d, .bool false, .bool false] 24 (0, 0)) := (by
    have p0 : (w1.setCell ⟨w.heap.size, 0, none⟩ (.int .u8 59)).heap[w.heap.size]? = some (.cells #[.int .u8 59, .int .u8 a1, .int .u8 a2, .int .u16 a3, .bool a4, .bool a5] 24 (0, 0)) := blk_put n0.out 0 _ rfl
    have p1 : ((w1.setCell ⟨w.heap.size, 0, none⟩ (.int .u8 59)).setCell ⟨w.heap.size, 1, none⟩ (.int .u8 59)).heap[w.heap.size]? = some (.cells #[.int .u8 59, .int .u8 59, .int .u8 a2, .int .u16 a3, .bool a4, .bool a5] 24 (0, 0)) := blk_put p0 1 _ rfl
    have p2 : (((w1.setCell ⟨w.heap.size, 0, none⟩ (.int .u8 59)).setCell ⟨w.heap.size, 1, none⟩ (.int .u8 59)).setCell ⟨w.heap.size, 2, none⟩ (.int .u8 23)).heap[w.heap.size]? = some (.cells #[.int .u8 59, .int .u8 59, .int .u8 23, .int .u16 a3, .bool a4, .bool a5] 24 (0, 0)) := blk_put p1 2 _ rfl
    have p3 : ((((w1.setCell ⟨w.heap.size, 0, none⟩ (.int .u8 59)).setCell ⟨w.heap.size, 1, none⟩ (.int .u8 59)).setCell ⟨w.heap.size, 2, none⟩ (.int .u8 23)).setCell ⟨w.heap.size, 3, none⟩ (.int .u16 d)).heap[w.heap.size]? = some (.cells #[.int .u8 59, .int .u8 59, .int .u8 23, .int .u16 d, .bool a4, .bool a5] 24 (0, 0)) := blk_put p2 3 _ rfl
    have p4 : (((((w1.setCell ⟨w.heap.size, 0, none⟩ (.int .u8 59)).setCell ⟨w.heap.size, 1, none⟩ (.int .u8 59)).setCell ⟨w.heap.size, 2, none⟩ (.int .u8 23)).setCell ⟨w.heap.size, 3, none⟩ (.int .u16 d)).setCell ⟨w.heap.size, 4, none⟩ (.bool false)).heap[w.heap.size]? = some (.cells #[.int .u8 59, .int .u8 59, .int .u8 23, .int .u16 d, .bool false, .bool a5] 24 (0, 0)) := blk_put p3 4 _ rfl
    have p5 : ((((((w1.setCell ⟨w.heap.size, 0, none⟩ (.int .u8 59)).setCell ⟨w.heap.size, 1, none⟩ (.int .u8 59)).setCell ⟨w.heap.size, 2, none⟩ (.int .u8 23)).setCell ⟨w.heap.size, 3, none⟩ (.int .u16 d)).setCell ⟨w.heap.size, 4, none⟩ (.bool false)).setCell ⟨w.heap.size, 5, none⟩ (.bool false)).heap[w.heap.size]? = some (.cells #[.int .u8 59, .int .u8 59, .int .u8 23, .int .u16 d, .bool false, .bool false] 24 (0, 0)) := blk_put p4 5 _ rfl
    exact p5)
  have m1 : ((((((w1.setCell ⟨w.heap.size, 0, none⟩ (.int .u8 59)).setCell ⟨w.heap.size, 1, none⟩ (.int .u8 59)).setCell ⟨w.heap.size, 2, none⟩ (.int .u8 23)).setCell ⟨w.heap.size, 3, none⟩ (.int .u16 d)).setCell ⟨w.heap.size, 4, none⟩ (.bool false)).setCell ⟨w.heap.size, 5, none⟩ (.bool false)).heap[w.heap.size + 1]? = some (.cells #[.int .u8 0, .int .u8 0, .int .u8 0, .int .u16 0, .bool false, .bool false] 24 (0, 0)) := (by repeat (first | (with_reducible exact n1.out) | refine blk_far ?_ (by simp) _))
  have m2 : Below w.heap.size w ((((((w1.setCell ⟨w.heap.size, 0, none⟩ (.int .u8 59)).setCell ⟨w.heap.size, 1, none⟩ (.int .u8 59)).setCell ⟨w.heap.size, 2, none⟩ (.int .u8 23)).setCell ⟨w.heap.size, 3, none⟩ (.int .u16 d)).setCell ⟨w.heap.size, 4, none⟩ (.bool false)).setCell ⟨w.heap.size, 5, none⟩ (.bool false)) := (below_set (below_set (below_set (below_set (below_set (below_set n2.out (Nat.le_refl _)) (Nat.le_refl _)) (Nat.le_refl _)) (Nat.le_refl _)) (Nat.le_refl _)) (Nat.le_refl _))
  generalize ((((((w1.setCell ⟨w.heap.size, 0, none⟩ (.int .u8 59)).setCell ⟨w.heap.size, 1, none⟩ (.int .u8 59)).setCell ⟨w.heap.size, 2, none⟩ (.int .u8 23)).setCell ⟨w.heap.size, 3, none⟩ (.int .u16 d)).setCell ⟨w.heap.size, 4, none⟩ (.bool false)).setCell ⟨w.heap.size, 5, none⟩ (.bool false)) = X at m0 m1 m2 ⊢
  clear n0 n1 n2 c0 c1 c2 c3 c4 c5 z0 z1 z2 z3 z4 z5 fz fr hz
  have BK := Aside0.mk m0
  have BR := Aside0.mk m1
  have HB := Aside0.mk m2
  clear m0 m1 m2
  have c0 : X.cell? ⟨w.heap.size, 0, none⟩ = some (.int .u8 59) := (blk_cell BK.out 0).trans rfl
  have c1 : X.cell? ⟨w.heap.size, 1, none⟩ = some (.int .u8 59) := (blk_cell BK.out 1).trans rfl
  have c2 : X.cell? ⟨w.heap.size, 2, none⟩ = some (.int .u8 23) := (blk_cell BK.out 2).trans rfl
  have c3 : X.cell? ⟨w.heap.size, 3, none⟩ = some (.int .u16 d) := (blk_cell BK.out 3).trans rfl
  have c4 : X.cell? ⟨w.heap.size, 4, none⟩ = some (.bool false) := (blk_cell BK.out 4).trans rfl
  have c5 : X.cell? ⟨w.heap.size, 5, none⟩ = some (.bool false) := (blk_cell BK.out 5).trans rfl
  have z0 : X.cell? ⟨(w.heap.size + 1), 0, none⟩ = some (.int .u8 0) := (blk_cell BR.out 0).trans rfl
  have z1 : X.cell? ⟨(w.heap.size + 1), 1, none⟩ = some (.int .u8 0) := (blk_cell BR.out 1).trans rfl
  have z2 : X.cell? ⟨(w.heap.size + 1), 2, none⟩ = some (.int .u8 0) := (blk_cell BR.out 2).trans rfl
  have z3 : X.cell? ⟨(w.heap.size + 1), 3, none⟩ = some (.int .u16 0) := (blk_cell BR.out 3).trans rfl
  have z4 : X.cell? ⟨(w.heap.size + 1), 4, none⟩ = some (.bool false) := (blk_cell BR.out 4).trans rfl
  have z5 : X.cell? ⟨(w.heap.size + 1), 5, none⟩ = some (.bool false) := (blk_cell BR.out 5).trans rfl
  have fz := fun i => blk_frozen BK.out i
  have fr := fun i => blk_frozen BR.out i
  go_step3
  go_wp2
  go_rounds 5
  rw [Exit.noGoto_ret]
  have m1 : (((((((((((X.setCell ⟨w.heap.size, 0, none⟩ (.int .u8 0)).setCell ⟨w.heap.size, 1, none⟩ (.int .u8 0)).setCell ⟨w.heap.size, 2, none⟩ (.int .u8 0)).setCell ⟨w.heap.size, 5, none⟩ (.bool (d == 511))).setCell ⟨w.heap.size, 3, none⟩ (.int .u16 (Go.bits .and .u16 (IntKind.u16.wrap (d + 1)) 511))).setCell ⟨w.heap.size + 1, 0, none⟩ (.int .u8 0)).setCell ⟨w.heap.size + 1, 1, none⟩ (.int .u8 0)).setCell ⟨w.heap.size + 1, 2, none⟩ (.int .u8 0)).setCell ⟨w.heap.size + 1, 3, none⟩ (.int .u16 (Go.bits .and .u16 (IntKind.u16.wrap (d + 1)) 511))).setCell ⟨w.heap.size + 1, 4, none⟩ (.bool false)).setCell ⟨w.heap.size + 1, 5, none⟩ (.bool (d == 511))).heap[w.heap.size + 1]? = some (.cells #[.int .u8 0, .int .u8 0, .int .u8 0, .int .u16 (Go.bits .and .u16 (IntKind.u16.wrap (d + 1)) 511), .bool false, .bool (d == 511)] 24 (0, 0)) := (by
    have p0 : ((((((X.setCell ⟨w.heap.size, 0, none⟩ (.int .u8 0)).setCell ⟨w.heap.size, 1, none⟩ (.int .u8 0)).setCell ⟨w.heap.size, 2, none⟩ (.int .u8 0)).setCell ⟨w.heap.size, 5, none⟩ (.bool (d == 511))).setCell ⟨w.heap.size, 3, none⟩ (.int .u16 (Go.bits .and .u16 (IntKind.u16.wrap (d + 1)) 511))).setCell ⟨w.heap.size + 1, 0, none⟩ (.int .u8 0)).heap[w.heap.size + 1]? = some (.cells #[.int .u8 0, .int .u8 0, .int .u8 0, .int .u16 0, .bool false, .bool false] 24 (0, 0)) := blk_put (by repeat (first | (with_reducible exact BR.out) | refine blk_far ?_ (by simp) _) : (((((X.setCell ⟨w.heap.size, 0, none⟩ (.int .u8 0)).setCell ⟨w.heap.size, 1, none⟩ (.int .u8 0)).setCell ⟨w.heap.size, 2, none⟩ (.int .u8 0)).setCell ⟨w.heap.size, 5, none⟩ (.bool (d == 511))).setCell ⟨w.heap.size, 3, none⟩ (.int .u16 (Go.bits .and .u16 (IntKind.u16.wrap (d + 1)) 511))).heap[w.heap.size + 1]? = some (.cells #[.int .u8 0, .int .u8 0, .int .u8 0, .int .u16 0, .bool false, .bool false] 24 (0, 0))) 0 _ rfl
    have p1 : (((((((X.setCell ⟨w.heap.size, 0, none⟩ (.int .u8 0)).setCell ⟨w.heap.size, 1, none⟩ (.int .u8 0)).setCell ⟨w.heap.size, 2, none⟩ (.int .u8 0)).setCell ⟨w.heap.size, 5, none⟩ (.bool (d == 511))).setCell ⟨w.heap.size, 3, none⟩ (.int .u16 (Go.bits .and .u16 (IntKind.u16.wrap (d + 1)) 511))).setCell ⟨w.heap.size + 1, 0, none⟩ (.int .u8 0)).setCell ⟨w.heap.size + 1, 1, none⟩ (.int .u8 0)).heap[w.heap.size + 1]? = some (.cells #[.int .u8 0, .int .u8 0, .int .u8 0, .int .u16 0, .bool false, .bool false] 24 (0, 0)) := blk_put p0 1 _ rfl
    have p2 : ((((((((X.setCell ⟨w.heap.size, 0, none⟩ (.int .u8 0)).setCell ⟨w.heap.size, 1, none⟩ (.int .u8 0)).setCell ⟨w.heap.size, 2, none⟩ (.int .u8 0)).setCell ⟨w.heap.size, 5, none⟩ (.bool (d == 511))).setCell ⟨w.heap.size, 3, none⟩ (.int .u16 (Go.bits .and .u16 (IntKind.u16.wrap (d + 1)) 511))).setCell ⟨w.heap.size + 1, 0, none⟩ (.int .u8 0)).setCell ⟨w.heap.size + 1, 1, none⟩ (.int .u8 0)).setCell ⟨w.heap.size + 1, 2, none⟩ (.int .u8 0)).heap[w.heap.size + 1]? = some (.cells #[.int .u8 0, .int .u8 0, .int .u8 0, .int .u16 0, .bool false, .bool false] 24 (0, 0)) := blk_put p1 2 _ rfl
    have p3 : (((((((((X.setCell ⟨w.heap.size, 0, none⟩ (.int .u8 0)).setCell ⟨w.heap.size, 1, none⟩ (.int .u8 0)).setCell ⟨w.heap.size, 2, none⟩ (.int .u8 0)).setCell ⟨w.heap.size, 5, none⟩ (.bool (d == 511))).setCell ⟨w.heap.size, 3, none⟩ (.int .u16 (Go.bits .and .u16 (IntKind.u16.wrap (d + 1)) 511))).setCell ⟨w.heap.size + 1, 0, none⟩ (.int .u8 0)).setCell ⟨w.heap.size + 1, 1, none⟩ (.int .u8 0)).setCell ⟨w.heap.size + 1, 2, none⟩ (.int .u8 0)).setCell ⟨w.heap.size + 1, 3, none⟩ (.int .u16 (Go.bits .and .u16 (IntKind.u16.wrap (d + 1)) 511))).heap[w.heap.size + 1]? = some (.cells #[.int .u8 0, .int .u8 0, .int .u8 0, .int .u16 (Go.bits .and .u16 (IntKind.u16.wrap (d + 1)) 511), .bool false, .bool false] 24 (0, 0)) := blk_put p2 3 _ rfl
    have p4 : ((((((((((X.setCell ⟨w.heap.size, 0, none⟩ (.int .u8 0)).setCell ⟨w.heap.size, 1, none⟩ (.int .u8 0)).setCell ⟨w.heap.size, 2, none⟩ (.int .u8 0)).setCell ⟨w.heap.size, 5, none⟩ (.bool (d == 511))).setCell ⟨w.heap.size, 3, none⟩ (.int .u16 (Go.bits .and .u16 (IntKind.u16.wrap (d + 1)) 511))).setCell ⟨w.heap.size + 1, 0, none⟩ (.int .u8 0)).setCell ⟨w.heap.size + 1, 1, none⟩ (.int .u8 0)).setCell ⟨w.heap.size + 1, 2, none⟩ (.int .u8 0)).setCell ⟨w.heap.size + 1, 3, none⟩ (.int .u16 (Go.bits .and .u16 (IntKind.u16.wrap (d + 1)) 511))).setCell ⟨w.heap.size + 1, 4, none⟩ (.bool false)).heap[w.heap.size + 1]? = some (.cells #[.int .u8 0, .int .u8 0, .int .u8 0, .int .u16 (Go.bits .and .u16 (IntKind.u16.wrap (d + 1)) 511), .bool false, .bool false] 24 (0, 0)) := blk_put p3 4 _ rfl
    have p5 : (((((((((((X.setCell ⟨w.heap.size, 0, none⟩ (.int .u8 0)).setCell ⟨w.heap.size, 1, none⟩ (.int .u8 0)).setCell ⟨w.heap.size, 2, none⟩ (.int .u8 0)).setCell ⟨w.heap.size, 5, none⟩ (.bool (d == 511))).setCell ⟨w.heap.size, 3, none⟩ (.int .u16 (Go.bits .and .u16 (IntKind.u16.wrap (d + 1)) 511))).setCell ⟨w.heap.size + 1, 0, none⟩ (.int .u8 0)).setCell ⟨w.heap.size + 1, 1, none⟩ (.int .u8 0)).setCell ⟨w.heap.size + 1, 2, none⟩ (.int .u8 0)).setCell ⟨w.heap.size + 1, 3, none⟩ (.int .u16 (Go.bits .and .u16 (IntKind.u16.wrap (d + 1)) 511))).setCell ⟨w.heap.size + 1, 4, none⟩ (.bool false)).setCell ⟨w.heap.size + 1, 5, none⟩ (.bool (d == 511))).heap[w.heap.size + 1]? = some (.cells #[.int .u8 0, .int .u8 0, .int .u8 0, .int .u16 (Go.bits .and .u16 (IntKind.u16.wrap (d + 1)) 511), .bool false, .bool (d == 511)] 24 (0, 0)) := blk_put p4 5 _ rfl
    exact p5)
  have m2 : Below w.heap.size w (((((((((((X.setCell ⟨w.heap.size, 0, none⟩ (.int .u8 0)).setCell ⟨w.heap.size, 1, none⟩ (.int .u8 0)).setCell ⟨w.heap.size, 2, none⟩ (.int .u8 0)).setCell ⟨w.heap.size, 5, none⟩ (.bool (d == 511))).setCell ⟨w.heap.size, 3, none⟩ (.int .u16 (Go.bits .and .u16 (IntKind.u16.wrap (d + 1)) 511))).setCell ⟨w.heap.size + 1, 0, none⟩ (.int .u8 0)).setCell ⟨w.heap.size + 1, 1, none⟩ (.int .u8 0)).setCell ⟨w.heap.size + 1, 2, none⟩ (.int .u8 0)).setCell ⟨w.heap.size + 1, 3, none⟩ (.int .u16 (Go.bits .and .u16 (IntKind.u16.wrap (d + 1)) 511))).setCell ⟨w.heap.size + 1, 4, none⟩ (.bool false)).setCell ⟨w.heap.size + 1, 5, none⟩ (.bool (d == 511))) := (below_set (below_set (below_set (below_set (below_set (below_set (below_set (below_set (below_set (below_set (below_set HB.out (Nat.le_refl _)) (Nat.le_refl _)) (Nat.le_refl _)) (Nat.le_refl _)) (Nat.le_refl _)) (Nat.le_succ _)) (Nat.le_succ _)) (Nat.le_succ _)) (Nat.le_succ _)) (Nat.le_succ _)) (Nat.le_succ _))
  generalize (((((((((((X.setCell ⟨w.heap.size, 0, none⟩ (.int .u8 0)).setCell ⟨w.heap.size, 1, none⟩ (.int .u8 0)).setCell ⟨w.heap.size, 2, none⟩ (.int .u8 0)).setCell ⟨w.heap.size, 5, none⟩ (.bool (d == 511))).setCell ⟨w.heap.size, 3, none⟩ (.int .u16 (Go.bits .and .u16 (IntKind.u16.wrap (d + 1)) 511))).setCell ⟨w.heap.size + 1, 0, none⟩ (.int .u8 0)).setCell ⟨w.heap.size + 1, 1, none⟩ (.int .u8 0)).setCell ⟨w.heap.size + 1, 2, none⟩ (.int .u8 0)).setCell ⟨w.heap.size + 1, 3, none⟩ (.int .u16 (Go.bits .and .u16 (IntKind.u16.wrap (d + 1)) 511))).setCell ⟨w.heap.size + 1, 4, none⟩ (.bool false)).setCell ⟨w.heap.size + 1, 5, none⟩ (.bool (d == 511))) = Y at m1 m2 ⊢
  have u0 : Y.cell? ⟨w.heap.size + 1, 0, none⟩ = some (.int .u8 0) := (blk_cell m1 0).trans rfl
  have u1 : Y.cell? ⟨w.heap.size + 1, 1, none⟩ = some (.int .u8 0) := (blk_cell m1 1).trans rfl
  have u2 : Y.cell? ⟨w.heap.size + 1, 2, none⟩ = some (.int .u8 0) := (blk_cell m1 2).trans rfl
  have u3 : Y.cell? ⟨w.heap.size + 1, 3, none⟩ = some (.int .u16 (Go.bits .and .u16 (IntKind.u16.wrap (d + 1)) 511)) := (blk_cell m1 3).trans rfl
  have u4 : Y.cell? ⟨w.heap.size + 1, 4, none⟩ = some (.bool false) := (blk_cell m1 4).trans rfl
  have u5 : Y.cell? ⟨w.heap.size + 1, 5, none⟩ = some (.bool (d == 511)) := (blk_cell m1 5).trans rfl
  exact bodyPost_ret (v := .agg #[.int .u8 0, .int .u8 0, .int .u8 0, .int .u16 (Go.bits .and .u16 (IntKind.u16.wrap (d + 1)) 511), .bool false, .bool (d == 511)]) (by simp [results, Try.results13, go_sem, u0, u1, u2, u3, u4, u5]) rfl ⟨rfl, m2⟩
def tickT (s m h d : Int) (ht cy : Bool) : Int × Int × Int × Int × Bool × Bool :=
  if ht = true then (s, m, h, d, true, cy) else
  if ¬ s = 59 then ((s + 1) % 64, m, h, d, false, cy) else
  if ¬ m = 59 then (0, (m + 1) % 64, h, d, false, cy) else
  if ¬ h = 23 then (0, 0, (h + 1) % 32, d, false, cy) else
  (0, 0, 0, Go.bits .and .u16 (IntKind.u16.wrap (d + 1)) 511, false, if cy = true then true else d == 511)
def clock_Tick.f (a0_0 a0_1 a0_2 a0_3 : Int) (a0_4 a0_5 : Bool) : Option (Int × Int × Int × Int × Bool × Bool) :=
  (clock_Norm.f a0_0 a0_1 a0_2 a0_3 a0_4 a0_5).bind fun t => some (tickT t.1 t.2.1 t.2.2.1 t.2.2.2.1 t.2.2.2.2.1 t.2.2.2.2.2)
theorem clock_Tick.calls (a0_0 a0_1 a0_2 a0_3 : Int) (a0_4 a0_5 : Bool) (r1 r2 r3 r4 : Int) (r5 r6 : Bool) (w : World) (h : clock_Tick.f a0_0 a0_1 a0_2 a0_3 a0_4 a0_5 = some (r1, r2, r3, r4, r5, r6)) :
    Calls Try.prog 13 #[.agg #[.int .u8 a0_0, .int .u8 a0_1, .int .u8 a0_2, .int .u16 a0_3, .bool a0_4, .bool a0_5]] w fun e w' => e = .returned (.agg #[.int .u8 r1, .int .u8 r2, .int .u8 r3, .int .u16 r4, .bool r5, .bool r6]) ∧ Below w.heap.size w w' := by
  unfold clock_Tick.f at h
  obtain ⟨⟨s, m, hh, d, ht, cy⟩, hn, h⟩ := Option.bind_eq_some_iff.mp h
  have h := Option.some.inj h
  dsimp only at h
  unfold tickT at h
  by_cases c0 : ht = true
  · subst c0
    rw [if_pos rfl] at h
    cases h
    exact tick_halt _ _ _ _ _ _ _ _ _ _ _ hn w
  have c0 : ht = false := by simpa using c0
  subst c0
  rw [if_neg (by simp)] at h
  by_cases c1 : s = 59
  · subst c1
    rw [if_neg (by simp)] at h
    by_cases c2 : m = 59
    · subst c2
      rw [if_neg (by simp)] at h
      by_cases c3 : hh = 23
      · subst c3
        rw [if_neg (by simp)] at h
        cases cy with
        | true => cases h; exact tick_day1 _ _ _ _ _ _ _ hn w
        | false => cases h; exact tick_day0 _ _ _ _ _ _ _ hn w
      · rw [if_pos c3] at h
        cases h
        exact tick_hour _ _ _ _ _ _ _ _ _ hn c3 w
    · rw [if_pos c2] at h
      cases h
      exact tick_min _ _ _ _ _ _ _ _ _ _ hn c2 w
  · rw [if_pos c1] at h
    cases h
    exact tick_sec _ _ _ _ _ _ _ _ _ _ _ hn c1 w
end Go.Proofs.Ytkfjofkocccefaa.Hand
