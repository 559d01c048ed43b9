/- regs.Put by hand: a register set by its number. -/
import Derived.Test.YthkoofidnaghcaaHShut
import Derived.Deep.MidRow
import Derived.Lib.EndianMore
namespace Go.Proofs.Ythkoofidnaghcaa.Hand
open Go.RowKit
open Go.Proofs.Ythkoofidnaghcaa.G
open Go.Proofs.YthkoofidnaghcaaW.PrintWords Go.Proofs.YthkoofidnaghcaaW.PrintLast Go.Proofs.YthkoofidnaghcaaW.PrintMore
set_option linter.unusedVariables false
theorem put_cells (W : World) (B : Nat) (cs : Array Value) (t : TypeId) (h : W.heap[B]? = some (.cells cs t (0, 0))) (vs : List Value) (hn : vs.length = cs.size) (k : Nat) (v : Value) (hv : vs[k]? = some v) : (W.setCells B 0 vs).cell? ⟨B, k, none⟩ = some v := by
  have hr := World.rangeAt_setCells_same W B 0 vs (fun j hj => by
    rw [Nat.zero_add]
    exact ⟨by rw [blk_cell h j]; simp; omega, blk_frozen h j⟩) k v hv
  rwa [Nat.zero_add] at hr
theorem put_below (W : World) (B g : Nat) (hg : B ≤ g) (vs : List Value) (w : World) (h : Below B w W) : Below B w (W.setCells g 0 vs) := h.trans (Go.Lib.below_setCells_w hg vs 0 W)

set_option maxRecDepth 100000 in
set_option maxHeartbeats 4000000 in
theorem put0 (a f b c d e h l s p : Int) (v : Int) (w : World) :
    Calls Try.prog 19 #[.agg #[.int .u8 a, .int .u8 f, .int .u8 b, .int .u8 c, .int .u8 d, .int .u8 e, .int .u8 h, .int .u8 l, .int .u16 s, .int .u16 p], .int .i64 0, .int .u8 v] w fun e' w' => e' = .returned (.tuple #[.agg #[.int .u8 a, .int .u8 f, .int .u8 v, .int .u8 c, .int .u8 d, .int .u8 e, .int .u8 h, .int .u8 l, .int .u16 s, .int .u16 p], .int .i64 0]) ∧ Below w.heap.size w w' := by
  have HM := Aside0.mk (may_in 0 (by omega) (by omega) (by omega))
  go_enter Try.func19, Try.ntmps19
  go_wp2_with (first | (go_at_call 33; ((with_reducible refine (regs_may.calls 3 _ 0 _ HM.out).mono ?_)); rintro e' w1 ⟨rfl, ⟨nd, rfl⟩⟩))
  refine (open_calls _ _ _ _ _ _ _ _ _ _ _).mono ?_
  rintro e' w1 ⟨rfl, hb⟩
  have rB := (hb.block w.heap.size (by simp; omega)).trans (blk_alloc (blk_new w (.cells #[.int .u8 a, .int .u8 f, .int .u8 b, .int .u8 c, .int .u8 d, .int .u8 e, .int .u8 h, .int .u8 l, .int .u16 s, .int .u16 p] 24)) (.cells #[.int .u8 0, .int .u8 0, .int .u8 0, .int .u8 0, .int .u8 0, .int .u8 0, .int .u8 0, .int .u8 0, .int .u16 0, .int .u16 0] 24))
  have e1 : (w.alloc (.cells #[.int .u8 a, .int .u8 f, .int .u8 b, .int .u8 c, .int .u8 d, .int .u8 e, .int .u8 h, .int .u8 l, .int .u16 s, .int .u16 p] 24)).heap.size = w.heap.size + 1 := by simp
  have zN := heap_alloc_new (w.alloc (.cells #[.int .u8 a, .int .u8 f, .int .u8 b, .int .u8 c, .int .u8 d, .int .u8 e, .int .u8 h, .int .u8 l, .int .u16 s, .int .u16 p] 24)) (.cells #[.int .u8 0, .int .u8 0, .int .u8 0, .int .u8 0, .int .u8 0, .int .u8 0, .int .u8 0, .int .u8 0, .int .u16 0, .int .u16 0] 24)
  rw [e1] at zN
  have zB : w1.heap[w.heap.size + 1]? = some (.cells #[.int .u8 0, .int .u8 0, .int .u8 0, .int .u8 0, .int .u8 0, .int .u8 0, .int .u8 0, .int .u8 0, .int .u16 0, .int .u16 0] 24) := (hb.block (w.heap.size + 1) (by simp)).trans zN
  clear zN e1
  have hz : w.heap.size + 2 ≤ w1.heap.size := by have := hb.size; simp at this; omega
  have r0 : ∀ o, (w1.alloc o).cell? ⟨w.heap.size, 0, none⟩ = some (.int .u8 a) := fun o => (blk_cell (blk_alloc rB o) 0).trans rfl
  have r1 : ∀ o, (w1.alloc o).cell? ⟨w.heap.size, 1, none⟩ = some (.int .u8 f) := fun o => (blk_cell (blk_alloc rB o) 1).trans rfl
  have r2 : ∀ o, (w1.alloc o).cell? ⟨w.heap.size, 2, none⟩ = some (.int .u8 b) := fun o => (blk_cell (blk_alloc rB o) 2).trans rfl
  have r3 : ∀ o, (w1.alloc o).cell? ⟨w.heap.size, 3, none⟩ = some (.int .u8 c) := fun o => (blk_cell (blk_alloc rB o) 3).trans rfl
  have r4 : ∀ o, (w1.alloc o).cell? ⟨w.heap.size, 4, none⟩ = some (.int .u8 d) := fun o => (blk_cell (blk_alloc rB o) 4).trans rfl
  have r5 : ∀ o, (w1.alloc o).cell? ⟨w.heap.size, 5, none⟩ = some (.int .u8 e) := fun o => (blk_cell (blk_alloc rB o) 5).trans rfl
  have r6 : ∀ o, (w1.alloc o).cell? ⟨w.heap.size, 6, none⟩ = some (.int .u8 h) := fun o => (blk_cell (blk_alloc rB o) 6).trans rfl
  have r7 : ∀ o, (w1.alloc o).cell? ⟨w.heap.size, 7, none⟩ = some (.int .u8 l) := fun o => (blk_cell (blk_alloc rB o) 7).trans rfl
  have r8 : ∀ o, (w1.alloc o).cell? ⟨w.heap.size, 8, none⟩ = some (.int .u16 s) := fun o => (blk_cell (blk_alloc rB o) 8).trans rfl
  have r9 : ∀ o, (w1.alloc o).cell? ⟨w.heap.size, 9, none⟩ = some (.int .u16 p) := fun o => (blk_cell (blk_alloc rB o) 9).trans rfl
  have hn1 : ¬ w.heap.size = w1.heap.size := by omega
  have hn2 : ¬ w.heap.size + 1 = w1.heap.size := by omega
  have HB := Aside0.mk hb
  have RB := Aside0.mk rB
  have HZ := Aside0.mk hz
  have ZB := Aside0.mk zB
  clear hb rB zB hz
  go_wp2_with fail
  refine (shut_calls _ _ _ _ _ _ _ _ _ _ _ _ _ _ _ _ _ _ _).mono ?_
  rintro e' w2 ⟨rfl, hb2⟩
  have hz := HZ.out
  have z2 : w2.heap[w.heap.size + 1]? = some (.cells #[.int .u8 0, .int .u8 0, .int .u8 0, .int .u8 0, .int .u8 0, .int .u8 0, .int .u8 0, .int .u8 0, .int .u16 0, .int .u16 0] 24) := (hb2.block (w.heap.size + 1) (by simp; omega)).trans (blk_alloc ZB.out _)
  have q0 : w2.cell? ⟨w.heap.size + 1, 0, none⟩ = some (.int .u8 0) := (blk_cell z2 0).trans rfl
  have q1 : w2.cell? ⟨w.heap.size + 1, 1, none⟩ = some (.int .u8 0) := (blk_cell z2 1).trans rfl
  have q2 : w2.cell? ⟨w.heap.size + 1, 2, none⟩ = some (.int .u8 0) := (blk_cell z2 2).trans rfl
  have q3 : w2.cell? ⟨w.heap.size + 1, 3, none⟩ = some (.int .u8 0) := (blk_cell z2 3).trans rfl
  have q4 : w2.cell? ⟨w.heap.size + 1, 4, none⟩ = some (.int .u8 0) := (blk_cell z2 4).trans rfl
  have q5 : w2.cell? ⟨w.heap.size + 1, 5, none⟩ = some (.int .u8 0) := (blk_cell z2 5).trans rfl
  have q6 : w2.cell? ⟨w.heap.size + 1, 6, none⟩ = some (.int .u8 0) := (blk_cell z2 6).trans rfl
  have q7 : w2.cell? ⟨w.heap.size + 1, 7, none⟩ = some (.int .u8 0) := (blk_cell z2 7).trans rfl
  have q8 : w2.cell? ⟨w.heap.size + 1, 8, none⟩ = some (.int .u16 0) := (blk_cell z2 8).trans rfl
  have q9 : w2.cell? ⟨w.heap.size + 1, 9, none⟩ = some (.int .u16 0) := (blk_cell z2 9).trans rfl
  have fz : ∀ i, w2.frozen? ⟨w.heap.size + 1, i, none⟩ = false := fun i => blk_frozen z2 i
  have HB2 := Aside0.mk hb2
  have Z2 := Aside0.mk z2
  clear hb2 z2 hz
  have hz := HZ.out
  go_wp2
  change bodyPost _ _ _ _ _ (w2.setCells (w.heap.size + 1) 0 [.int .u8 a, .int .u8 f, .int .u8 v, .int .u8 c, .int .u8 d, .int .u8 e, .int .u8 h, .int .u8 l, .int .u16 s, .int .u16 p])
  have u0 := put_cells w2 (w.heap.size + 1) _ _ Z2.out [.int .u8 a, .int .u8 f, .int .u8 v, .int .u8 c, .int .u8 d, .int .u8 e, .int .u8 h, .int .u8 l, .int .u16 s, .int .u16 p] rfl 0 _ rfl
  have u1 := put_cells w2 (w.heap.size + 1) _ _ Z2.out [.int .u8 a, .int .u8 f, .int .u8 v, .int .u8 c, .int .u8 d, .int .u8 e, .int .u8 h, .int .u8 l, .int .u16 s, .int .u16 p] rfl 1 _ rfl
  have u2 := put_cells w2 (w.heap.size + 1) _ _ Z2.out [.int .u8 a, .int .u8 f, .int .u8 v, .int .u8 c, .int .u8 d, .int .u8 e, .int .u8 h, .int .u8 l, .int .u16 s, .int .u16 p] rfl 2 _ rfl
  have u3 := put_cells w2 (w.heap.size + 1) _ _ Z2.out [.int .u8 a, .int .u8 f, .int .u8 v, .int .u8 c, .int .u8 d, .int .u8 e, .int .u8 h, .int .u8 l, .int .u16 s, .int .u16 p] rfl 3 _ rfl
  have u4 := put_cells w2 (w.heap.size + 1) _ _ Z2.out [.int .u8 a, .int .u8 f, .int .u8 v, .int .u8 c, .int .u8 d, .int .u8 e, .int .u8 h, .int .u8 l, .int .u16 s, .int .u16 p] rfl 4 _ rfl
  have u5 := put_cells w2 (w.heap.size + 1) _ _ Z2.out [.int .u8 a, .int .u8 f, .int .u8 v, .int .u8 c, .int .u8 d, .int .u8 e, .int .u8 h, .int .u8 l, .int .u16 s, .int .u16 p] rfl 5 _ rfl
  have u6 := put_cells w2 (w.heap.size + 1) _ _ Z2.out [.int .u8 a, .int .u8 f, .int .u8 v, .int .u8 c, .int .u8 d, .int .u8 e, .int .u8 h, .int .u8 l, .int .u16 s, .int .u16 p] rfl 6 _ rfl
  have u7 := put_cells w2 (w.heap.size + 1) _ _ Z2.out [.int .u8 a, .int .u8 f, .int .u8 v, .int .u8 c, .int .u8 d, .int .u8 e, .int .u8 h, .int .u8 l, .int .u16 s, .int .u16 p] rfl 7 _ rfl
  have u8 := put_cells w2 (w.heap.size + 1) _ _ Z2.out [.int .u8 a, .int .u8 f, .int .u8 v, .int .u8 c, .int .u8 d, .int .u8 e, .int .u8 h, .int .u8 l, .int .u16 s, .int .u16 p] rfl 8 _ rfl
  have u9 := put_cells w2 (w.heap.size + 1) _ _ Z2.out [.int .u8 a, .int .u8 f, .int .u8 v, .int .u8 c, .int .u8 d, .int .u8 e, .int .u8 h, .int .u8 l, .int .u16 s, .int .u16 p] rfl 9 _ rfl
  have hbl := put_below w2 w.heap.size (w.heap.size + 1) (by omega) [.int .u8 a, .int .u8 f, .int .u8 v, .int .u8 c, .int .u8 d, .int .u8 e, .int .u8 h, .int .u8 l, .int .u16 s, .int .u16 p] w (by
    refine Below.trans ?_ (HB2.out.mono (by simp; omega))
    repeat (first | exact Below.refl _ _ | apply below_alloc | apply below_drew1 | apply pw_below_drewN | (refine Below.trans ?_ (HB.out.mono (by simp; omega)))))
  generalize w2.setCells (w.heap.size + 1) 0 [.int .u8 a, .int .u8 f, .int .u8 v, .int .u8 c, .int .u8 d, .int .u8 e, .int .u8 h, .int .u8 l, .int .u16 s, .int .u16 p] = W3 at *
  exact bodyPost_ret (v := .tuple #[.agg #[.int .u8 a, .int .u8 f, .int .u8 v, .int .u8 c, .int .u8 d, .int .u8 e, .int .u8 h, .int .u8 l, .int .u16 s, .int .u16 p], .int .i64 0]) (by simp [results, Try.results19, go_sem, u0, u1, u2, u3, u4, u5, u6, u7, u8, u9]) rfl ⟨rfl, hbl⟩
set_option maxRecDepth 100000 in
set_option maxHeartbeats 4000000 in
theorem put1 (a f b c d e h l s p : Int) (v : Int) (w : World) :
    Calls Try.prog 19 #[.agg #[.int .u8 a, .int .u8 f, .int .u8 b, .int .u8 c, .int .u8 d, .int .u8 e, .int .u8 h, .int .u8 l, .int .u16 s, .int .u16 p], .int .i64 1, .int .u8 v] w fun e' w' => e' = .returned (.tuple #[.agg #[.int .u8 a, .int .u8 f, .int .u8 b, .int .u8 v, .int .u8 d, .int .u8 e, .int .u8 h, .int .u8 l, .int .u16 s, .int .u16 p], .int .i64 0]) ∧ Below w.heap.size w w' := by
  have HM := Aside0.mk (may_in 1 (by omega) (by omega) (by omega))
  go_enter Try.func19, Try.ntmps19
  go_wp2_with (first | (go_at_call 33; ((with_reducible refine (regs_may.calls 3 _ 0 _ HM.out).mono ?_)); rintro e' w1 ⟨rfl, ⟨nd, rfl⟩⟩))
  refine (open_calls _ _ _ _ _ _ _ _ _ _ _).mono ?_
  rintro e' w1 ⟨rfl, hb⟩
  have rB := (hb.block w.heap.size (by simp; omega)).trans (blk_alloc (blk_new w (.cells #[.int .u8 a, .int .u8 f, .int .u8 b, .int .u8 c, .int .u8 d, .int .u8 e, .int .u8 h, .int .u8 l, .int .u16 s, .int .u16 p] 24)) (.cells #[.int .u8 0, .int .u8 0, .int .u8 0, .int .u8 0, .int .u8 0, .int .u8 0, .int .u8 0, .int .u8 0, .int .u16 0, .int .u16 0] 24))
  have e1 : (w.alloc (.cells #[.int .u8 a, .int .u8 f, .int .u8 b, .int .u8 c, .int .u8 d, .int .u8 e, .int .u8 h, .int .u8 l, .int .u16 s, .int .u16 p] 24)).heap.size = w.heap.size + 1 := by simp
  have zN := heap_alloc_new (w.alloc (.cells #[.int .u8 a, .int .u8 f, .int .u8 b, .int .u8 c, .int .u8 d, .int .u8 e, .int .u8 h, .int .u8 l, .int .u16 s, .int .u16 p] 24)) (.cells #[.int .u8 0, .int .u8 0, .int .u8 0, .int .u8 0, .int .u8 0, .int .u8 0, .int .u8 0, .int .u8 0, .int .u16 0, .int .u16 0] 24)
  rw [e1] at zN
  have zB : w1.heap[w.heap.size + 1]? = some (.cells #[.int .u8 0, .int .u8 0, .int .u8 0, .int .u8 0, .int .u8 0, .int .u8 0, .int .u8 0, .int .u8 0, .int .u16 0, .int .u16 0] 24) := (hb.block (w.heap.size + 1) (by simp)).trans zN
  clear zN e1
  have hz : w.heap.size + 2 ≤ w1.heap.size := by have := hb.size; simp at this; omega
  have r0 : ∀ o, (w1.alloc o).cell? ⟨w.heap.size, 0, none⟩ = some (.int .u8 a) := fun o => (blk_cell (blk_alloc rB o) 0).trans rfl
  have r1 : ∀ o, (w1.alloc o).cell? ⟨w.heap.size, 1, none⟩ = some (.int .u8 f) := fun o => (blk_cell (blk_alloc rB o) 1).trans rfl
  have r2 : ∀ o, (w1.alloc o).cell? ⟨w.heap.size, 2, none⟩ = some (.int .u8 b) := fun o => (blk_cell (blk_alloc rB o) 2).trans rfl
  have r3 : ∀ o, (w1.alloc o).cell? ⟨w.heap.size, 3, none⟩ = some (.int .u8 c) := fun o => (blk_cell (blk_alloc rB o) 3).trans rfl
  have r4 : ∀ o, (w1.alloc o).cell? ⟨w.heap.size, 4, none⟩ = some (.int .u8 d) := fun o => (blk_cell (blk_alloc rB o) 4).trans rfl
  have r5 : ∀ o, (w1.alloc o).cell? ⟨w.heap.size, 5, none⟩ = some (.int .u8 e) := fun o => (blk_cell (blk_alloc rB o) 5).trans rfl
  have r6 : ∀ o, (w1.alloc o).cell? ⟨w.heap.size, 6, none⟩ = some (.int .u8 h) := fun o => (blk_cell (blk_alloc rB o) 6).trans rfl
  have r7 : ∀ o, (w1.alloc o).cell? ⟨w.heap.size, 7, none⟩ = some (.int .u8 l) := fun o => (blk_cell (blk_alloc rB o) 7).trans rfl
  have r8 : ∀ o, (w1.alloc o).cell? ⟨w.heap.size, 8, none⟩ = some (.int .u16 s) := fun o => (blk_cell (blk_alloc rB o) 8).trans rfl
  have r9 : ∀ o, (w1.alloc o).cell? ⟨w.heap.size, 9, none⟩ = some (.int .u16 p) := fun o => (blk_cell (blk_alloc rB o) 9).trans rfl
  have hn1 : ¬ w.heap.size = w1.heap.size := by omega
  have hn2 : ¬ w.heap.size + 1 = w1.heap.size := by omega
  have HB := Aside0.mk hb
  have RB := Aside0.mk rB
  have HZ := Aside0.mk hz
  have ZB := Aside0.mk zB
  clear hb rB zB hz
  go_wp2_with fail
  refine (shut_calls _ _ _ _ _ _ _ _ _ _ _ _ _ _ _ _ _ _ _).mono ?_
  rintro e' w2 ⟨rfl, hb2⟩
  have hz := HZ.out
  have z2 : w2.heap[w.heap.size + 1]? = some (.cells #[.int .u8 0, .int .u8 0, .int .u8 0, .int .u8 0, .int .u8 0, .int .u8 0, .int .u8 0, .int .u8 0, .int .u16 0, .int .u16 0] 24) := (hb2.block (w.heap.size + 1) (by simp; omega)).trans (blk_alloc ZB.out _)
  have q0 : w2.cell? ⟨w.heap.size + 1, 0, none⟩ = some (.int .u8 0) := (blk_cell z2 0).trans rfl
  have q1 : w2.cell? ⟨w.heap.size + 1, 1, none⟩ = some (.int .u8 0) := (blk_cell z2 1).trans rfl
  have q2 : w2.cell? ⟨w.heap.size + 1, 2, none⟩ = some (.int .u8 0) := (blk_cell z2 2).trans rfl
  have q3 : w2.cell? ⟨w.heap.size + 1, 3, none⟩ = some (.int .u8 0) := (blk_cell z2 3).trans rfl
  have q4 : w2.cell? ⟨w.heap.size + 1, 4, none⟩ = some (.int .u8 0) := (blk_cell z2 4).trans rfl
  have q5 : w2.cell? ⟨w.heap.size + 1, 5, none⟩ = some (.int .u8 0) := (blk_cell z2 5).trans rfl
  have q6 : w2.cell? ⟨w.heap.size + 1, 6, none⟩ = some (.int .u8 0) := (blk_cell z2 6).trans rfl
  have q7 : w2.cell? ⟨w.heap.size + 1, 7, none⟩ = some (.int .u8 0) := (blk_cell z2 7).trans rfl
  have q8 : w2.cell? ⟨w.heap.size + 1, 8, none⟩ = some (.int .u16 0) := (blk_cell z2 8).trans rfl
  have q9 : w2.cell? ⟨w.heap.size + 1, 9, none⟩ = some (.int .u16 0) := (blk_cell z2 9).trans rfl
  have fz : ∀ i, w2.frozen? ⟨w.heap.size + 1, i, none⟩ = false := fun i => blk_frozen z2 i
  have HB2 := Aside0.mk hb2
  have Z2 := Aside0.mk z2
  clear hb2 z2 hz
  have hz := HZ.out
  go_wp2
  change bodyPost _ _ _ _ _ (w2.setCells (w.heap.size + 1) 0 [.int .u8 a, .int .u8 f, .int .u8 b, .int .u8 v, .int .u8 d, .int .u8 e, .int .u8 h, .int .u8 l, .int .u16 s, .int .u16 p])
  have u0 := put_cells w2 (w.heap.size + 1) _ _ Z2.out [.int .u8 a, .int .u8 f, .int .u8 b, .int .u8 v, .int .u8 d, .int .u8 e, .int .u8 h, .int .u8 l, .int .u16 s, .int .u16 p] rfl 0 _ rfl
  have u1 := put_cells w2 (w.heap.size + 1) _ _ Z2.out [.int .u8 a, .int .u8 f, .int .u8 b, .int .u8 v, .int .u8 d, .int .u8 e, .int .u8 h, .int .u8 l, .int .u16 s, .int .u16 p] rfl 1 _ rfl
  have u2 := put_cells w2 (w.heap.size + 1) _ _ Z2.out [.int .u8 a, .int .u8 f, .int .u8 b, .int .u8 v, .int .u8 d, .int .u8 e, .int .u8 h, .int .u8 l, .int .u16 s, .int .u16 p] rfl 2 _ rfl
  have u3 := put_cells w2 (w.heap.size + 1) _ _ Z2.out [.int .u8 a, .int .u8 f, .int .u8 b, .int .u8 v, .int .u8 d, .int .u8 e, .int .u8 h, .int .u8 l, .int .u16 s, .int .u16 p] rfl 3 _ rfl
  have u4 := put_cells w2 (w.heap.size + 1) _ _ Z2.out [.int .u8 a, .int .u8 f, .int .u8 b, .int .u8 v, .int .u8 d, .int .u8 e, .int .u8 h, .int .u8 l, .int .u16 s, .int .u16 p] rfl 4 _ rfl
  have u5 := put_cells w2 (w.heap.size + 1) _ _ Z2.out [.int .u8 a, .int .u8 f, .int .u8 b, .int .u8 v, .int .u8 d, .int .u8 e, .int .u8 h, .int .u8 l, .int .u16 s, .int .u16 p] rfl 5 _ rfl
  have u6 := put_cells w2 (w.heap.size + 1) _ _ Z2.out [.int .u8 a, .int .u8 f, .int .u8 b, .int .u8 v, .int .u8 d, .int .u8 e, .int .u8 h, .int .u8 l, .int .u16 s, .int .u16 p] rfl 6 _ rfl
  have u7 := put_cells w2 (w.heap.size + 1) _ _ Z2.out [.int .u8 a, .int .u8 f, .int .u8 b, .int .u8 v, .int .u8 d, .int .u8 e, .int .u8 h, .int .u8 l, .int .u16 s, .int .u16 p] rfl 7 _ rfl
  have u8 := put_cells w2 (w.heap.size + 1) _ _ Z2.out [.int .u8 a, .int .u8 f, .int .u8 b, .int .u8 v, .int .u8 d, .int .u8 e, .int .u8 h, .int .u8 l, .int .u16 s, .int .u16 p] rfl 8 _ rfl
  have u9 := put_cells w2 (w.heap.size + 1) _ _ Z2.out [.int .u8 a, .int .u8 f, .int .u8 b, .int .u8 v, .int .u8 d, .int .u8 e, .int .u8 h, .int .u8 l, .int .u16 s, .int .u16 p] rfl 9 _ rfl
  have hbl := put_below w2 w.heap.size (w.heap.size + 1) (by omega) [.int .u8 a, .int .u8 f, .int .u8 b, .int .u8 v, .int .u8 d, .int .u8 e, .int .u8 h, .int .u8 l, .int .u16 s, .int .u16 p] w (by
    refine Below.trans ?_ (HB2.out.mono (by simp; omega))
    repeat (first | exact Below.refl _ _ | apply below_alloc | apply below_drew1 | apply pw_below_drewN | (refine Below.trans ?_ (HB.out.mono (by simp; omega)))))
  generalize w2.setCells (w.heap.size + 1) 0 [.int .u8 a, .int .u8 f, .int .u8 b, .int .u8 v, .int .u8 d, .int .u8 e, .int .u8 h, .int .u8 l, .int .u16 s, .int .u16 p] = W3 at *
  exact bodyPost_ret (v := .tuple #[.agg #[.int .u8 a, .int .u8 f, .int .u8 b, .int .u8 v, .int .u8 d, .int .u8 e, .int .u8 h, .int .u8 l, .int .u16 s, .int .u16 p], .int .i64 0]) (by simp [results, Try.results19, go_sem, u0, u1, u2, u3, u4, u5, u6, u7, u8, u9]) rfl ⟨rfl, hbl⟩
set_option maxRecDepth 100000 in
set_option maxHeartbeats 4000000 in
theorem put2 (a f b c d e h l s p : Int) (v : Int) (w : World) :
    Calls Try.prog 19 #[.agg #[.int .u8 a, .int .u8 f, .int .u8 b, .int .u8 c, .int .u8 d, .int .u8 e, .int .u8 h, .int .u8 l, .int .u16 s, .int .u16 p], .int .i64 2, .int .u8 v] w fun e' w' => e' = .returned (.tuple #[.agg #[.int .u8 a, .int .u8 f, .int .u8 b, .int .u8 c, .int .u8 v, .int .u8 e, .int .u8 h, .int .u8 l, .int .u16 s, .int .u16 p], .int .i64 0]) ∧ Below w.heap.size w w' := by
  have HM := Aside0.mk (may_in 2 (by omega) (by omega) (by omega))
  go_enter Try.func19, Try.ntmps19
  go_wp2_with (first | (go_at_call 33; ((with_reducible refine (regs_may.calls 3 _ 0 _ HM.out).mono ?_)); rintro e' w1 ⟨rfl, ⟨nd, rfl⟩⟩))
  refine (open_calls _ _ _ _ _ _ _ _ _ _ _).mono ?_
  rintro e' w1 ⟨rfl, hb⟩
  have rB := (hb.block w.heap.size (by simp; omega)).trans (blk_alloc (blk_new w (.cells #[.int .u8 a, .int .u8 f, .int .u8 b, .int .u8 c, .int .u8 d, .int .u8 e, .int .u8 h, .int .u8 l, .int .u16 s, .int .u16 p] 24)) (.cells #[.int .u8 0, .int .u8 0, .int .u8 0, .int .u8 0, .int .u8 0, .int .u8 0, .int .u8 0, .int .u8 0, .int .u16 0, .int .u16 0] 24))
  have e1 : (w.alloc (.cells #[.int .u8 a, .int .u8 f, .int .u8 b, .int .u8 c, .int .u8 d, .int .u8 e, .int .u8 h, .int .u8 l, .int .u16 s, .int .u16 p] 24)).heap.size = w.heap.size + 1 := by simp
  have zN := heap_alloc_new (w.alloc (.cells #[.int .u8 a, .int .u8 f, .int .u8 b, .int .u8 c, .int .u8 d, .int .u8 e, .int .u8 h, .int .u8 l, .int .u16 s, .int .u16 p] 24)) (.cells #[.int .u8 0, .int .u8 0, .int .u8 0, .int .u8 0, .int .u8 0, .int .u8 0, .int .u8 0, .int .u8 0, .int .u16 0, .int .u16 0] 24)
  rw [e1] at zN
  have zB : w1.heap[w.heap.size + 1]? = some (.cells #[.int .u8 0, .int .u8 0, .int .u8 0, .int .u8 0, .int .u8 0, .int .u8 0, .int .u8 0, .int .u8 0, .int .u16 0, .int .u16 0] 24) := (hb.block (w.heap.size + 1) (by simp)).trans zN
  clear zN e1
  have hz : w.heap.size + 2 ≤ w1.heap.size := by have := hb.size; simp at this; omega
  have r0 : ∀ o, (w1.alloc o).cell? ⟨w.heap.size, 0, none⟩ = some (.int .u8 a) := fun o => (blk_cell (blk_alloc rB o) 0).trans rfl
  have r1 : ∀ o, (w1.alloc o).cell? ⟨w.heap.size, 1, none⟩ = some (.int .u8 f) := fun o => (blk_cell (blk_alloc rB o) 1).trans rfl
  have r2 : ∀ o, (w1.alloc o).cell? ⟨w.heap.size, 2, none⟩ = some (.int .u8 b) := fun o => (blk_cell (blk_alloc rB o) 2).trans rfl
  have r3 : ∀ o, (w1.alloc o).cell? ⟨w.heap.size, 3, none⟩ = some (.int .u8 c) := fun o => (blk_cell (blk_alloc rB o) 3).trans rfl
  have r4 : ∀ o, (w1.alloc o).cell? ⟨w.heap.size, 4, none⟩ = some (.int .u8 d) := fun o => (blk_cell (blk_alloc rB o) 4).trans rfl
  have r5 : ∀ o, (w1.alloc o).cell? ⟨w.heap.size, 5, none⟩ = some (.int .u8 e) := fun o => (blk_cell (blk_alloc rB o) 5).trans rfl
  have r6 : ∀ o, (w1.alloc o).cell? ⟨w.heap.size, 6, none⟩ = some (.int .u8 h) := fun o => (blk_cell (blk_alloc rB o) 6).trans rfl
  have r7 : ∀ o, (w1.alloc o).cell? ⟨w.heap.size, 7, none⟩ = some (.int .u8 l) := fun o => (blk_cell (blk_alloc rB o) 7).trans rfl
  have r8 : ∀ o, (w1.alloc o).cell? ⟨w.heap.size, 8, none⟩ = some (.int .u16 s) := fun o => (blk_cell (blk_alloc rB o) 8).trans rfl
  have r9 : ∀ o, (w1.alloc o).cell? ⟨w.heap.size, 9, none⟩ = some (.int .u16 p) := fun o => (blk_cell (blk_alloc rB o) 9).trans rfl
  have hn1 : ¬ w.heap.size = w1.heap.size := by omega
  have hn2 : ¬ w.heap.size + 1 = w1.heap.size := by omega
  have HB := Aside0.mk hb
  have RB := Aside0.mk rB
  have HZ := Aside0.mk hz
  have ZB := Aside0.mk zB
  clear hb rB zB hz
  go_wp2_with fail
  refine (shut_calls _ _ _ _ _ _ _ _ _ _ _ _ _ _ _ _ _ _ _).mono ?_
  rintro e' w2 ⟨rfl, hb2⟩
  have hz := HZ.out
  have z2 : w2.heap[w.heap.size + 1]? = some (.cells #[.int .u8 0, .int .u8 0, .int .u8 0, .int .u8 0, .int .u8 0, .int .u8 0, .int .u8 0, .int .u8 0, .int .u16 0, .int .u16 0] 24) := (hb2.block (w.heap.size + 1) (by simp; omega)).trans (blk_alloc ZB.out _)
  have q0 : w2.cell? ⟨w.heap.size + 1, 0, none⟩ = some (.int .u8 0) := (blk_cell z2 0).trans rfl
  have q1 : w2.cell? ⟨w.heap.size + 1, 1, none⟩ = some (.int .u8 0) := (blk_cell z2 1).trans rfl
  have q2 : w2.cell? ⟨w.heap.size + 1, 2, none⟩ = some (.int .u8 0) := (blk_cell z2 2).trans rfl
  have q3 : w2.cell? ⟨w.heap.size + 1, 3, none⟩ = some (.int .u8 0) := (blk_cell z2 3).trans rfl
  have q4 : w2.cell? ⟨w.heap.size + 1, 4, none⟩ = some (.int .u8 0) := (blk_cell z2 4).trans rfl
  have q5 : w2.cell? ⟨w.heap.size + 1, 5, none⟩ = some (.int .u8 0) := (blk_cell z2 5).trans rfl
  have q6 : w2.cell? ⟨w.heap.size + 1, 6, none⟩ = some (.int .u8 0) := (blk_cell z2 6).trans rfl
  have q7 : w2.cell? ⟨w.heap.size + 1, 7, none⟩ = some (.int .u8 0) := (blk_cell z2 7).trans rfl
  have q8 : w2.cell? ⟨w.heap.size + 1, 8, none⟩ = some (.int .u16 0) := (blk_cell z2 8).trans rfl
  have q9 : w2.cell? ⟨w.heap.size + 1, 9, none⟩ = some (.int .u16 0) := (blk_cell z2 9).trans rfl
  have fz : ∀ i, w2.frozen? ⟨w.heap.size + 1, i, none⟩ = false := fun i => blk_frozen z2 i
  have HB2 := Aside0.mk hb2
  have Z2 := Aside0.mk z2
  clear hb2 z2 hz
  have hz := HZ.out
  go_wp2
  change bodyPost _ _ _ _ _ (w2.setCells (w.heap.size + 1) 0 [.int .u8 a, .int .u8 f, .int .u8 b, .int .u8 c, .int .u8 v, .int .u8 e, .int .u8 h, .int .u8 l, .int .u16 s, .int .u16 p])
  have u0 := put_cells w2 (w.heap.size + 1) _ _ Z2.out [.int .u8 a, .int .u8 f, .int .u8 b, .int .u8 c, .int .u8 v, .int .u8 e, .int .u8 h, .int .u8 l, .int .u16 s, .int .u16 p] rfl 0 _ rfl
  have u1 := put_cells w2 (w.heap.size + 1) _ _ Z2.out [.int .u8 a, .int .u8 f, .int .u8 b, .int .u8 c, .int .u8 v, .int .u8 e, .int .u8 h, .int .u8 l, .int .u16 s, .int .u16 p] rfl 1 _ rfl
  have u2 := put_cells w2 (w.heap.size + 1) _ _ Z2.out [.int .u8 a, .int .u8 f, .int .u8 b, .int .u8 c, .int .u8 v, .int .u8 e, .int .u8 h, .int .u8 l, .int .u16 s, .int .u16 p] rfl 2 _ rfl
  have u3 := put_cells w2 (w.heap.size + 1) _ _ Z2.out [.int .u8 a, .int .u8 f, .int .u8 b, .int .u8 c, .int .u8 v, .int .u8 e, .int .u8 h, .int .u8 l, .int .u16 s, .int .u16 p] rfl 3 _ rfl
  have u4 := put_cells w2 (w.heap.size + 1) _ _ Z2.out [.int .u8 a, .int .u8 f, .int .u8 b, .int .u8 c, .int .u8 v, .int .u8 e, .int .u8 h, .int .u8 l, .int .u16 s, .int .u16 p] rfl 4 _ rfl
  have u5 := put_cells w2 (w.heap.size + 1) _ _ Z2.out [.int .u8 a, .int .u8 f, .int .u8 b, .int .u8 c, .int .u8 v, .int .u8 e, .int .u8 h, .int .u8 l, .int .u16 s, .int .u16 p] rfl 5 _ rfl
  have u6 := put_cells w2 (w.heap.size + 1) _ _ Z2.out [.int .u8 a, .int .u8 f, .int .u8 b, .int .u8 c, .int .u8 v, .int .u8 e, .int .u8 h, .int .u8 l, .int .u16 s, .int .u16 p] rfl 6 _ rfl
  have u7 := put_cells w2 (w.heap.size + 1) _ _ Z2.out [.int .u8 a, .int .u8 f, .int .u8 b, .int .u8 c, .int .u8 v, .int .u8 e, .int .u8 h, .int .u8 l, .int .u16 s, .int .u16 p] rfl 7 _ rfl
  have u8 := put_cells w2 (w.heap.size + 1) _ _ Z2.out [.int .u8 a, .int .u8 f, .int .u8 b, .int .u8 c, .int .u8 v, .int .u8 e, .int .u8 h, .int .u8 l, .int .u16 s, .int .u16 p] rfl 8 _ rfl
  have u9 := put_cells w2 (w.heap.size + 1) _ _ Z2.out [.int .u8 a, .int .u8 f, .int .u8 b, .int .u8 c, .int .u8 v, .int .u8 e, .int .u8 h, .int .u8 l, .int .u16 s, .int .u16 p] rfl 9 _ rfl
  have hbl := put_below w2 w.heap.size (w.heap.size + 1) (by omega) [.int .u8 a, .int .u8 f, .int .u8 b, .int .u8 c, .int .u8 v, .int .u8 e, .int .u8 h, .int .u8 l, .int .u16 s, .int .u16 p] w (by
    refine Below.trans ?_ (HB2.out.mono (by simp; omega))
    repeat (first | exact Below.refl _ _ | apply below_alloc | apply below_drew1 | apply pw_below_drewN | (refine Below.trans ?_ (HB.out.mono (by simp; omega)))))
  generalize w2.setCells (w.heap.size + 1) 0 [.int .u8 a, .int .u8 f, .int .u8 b, .int .u8 c, .int .u8 v, .int .u8 e, .int .u8 h, .int .u8 l, .int .u16 s, .int .u16 p] = W3 at *
  exact bodyPost_ret (v := .tuple #[.agg #[.int .u8 a, .int .u8 f, .int .u8 b, .int .u8 c, .int .u8 v, .int .u8 e, .int .u8 h, .int .u8 l, .int .u16 s, .int .u16 p], .int .i64 0]) (by simp [results, Try.results19, go_sem, u0, u1, u2, u3, u4, u5, u6, u7, u8, u9]) rfl ⟨rfl, hbl⟩
set_option maxRecDepth 100000 in
set_option maxHeartbeats 4000000 in
theorem put3 (a f b c d e h l s p : Int) (v : Int) (w : World) :
    Calls Try.prog 19 #[.agg #[.int .u8 a, .int .u8 f, .int .u8 b, .int .u8 c, .int .u8 d, .int .u8 e, .int .u8 h, .int .u8 l, .int .u16 s, .int .u16 p], .int .i64 3, .int .u8 v] w fun e' w' => e' = .returned (.tuple #[.agg #[.int .u8 a, .int .u8 f, .int .u8 b, .int .u8 c, .int .u8 d, .int .u8 v, .int .u8 h, .int .u8 l, .int .u16 s, .int .u16 p], .int .i64 0]) ∧ Below w.heap.size w w' := by
  have HM := Aside0.mk (may_in 3 (by omega) (by omega) (by omega))
  go_enter Try.func19, Try.ntmps19
  go_wp2_with (first | (go_at_call 33; ((with_reducible refine (regs_may.calls 3 _ 0 _ HM.out).mono ?_)); rintro e' w1 ⟨rfl, ⟨nd, rfl⟩⟩))
  refine (open_calls _ _ _ _ _ _ _ _ _ _ _).mono ?_
  rintro e' w1 ⟨rfl, hb⟩
  have rB := (hb.block w.heap.size (by simp; omega)).trans (blk_alloc (blk_new w (.cells #[.int .u8 a, .int .u8 f, .int .u8 b, .int .u8 c, .int .u8 d, .int .u8 e, .int .u8 h, .int .u8 l, .int .u16 s, .int .u16 p] 24)) (.cells #[.int .u8 0, .int .u8 0, .int .u8 0, .int .u8 0, .int .u8 0, .int .u8 0, .int .u8 0, .int .u8 0, .int .u16 0, .int .u16 0] 24))
  have e1 : (w.alloc (.cells #[.int .u8 a, .int .u8 f, .int .u8 b, .int .u8 c, .int .u8 d, .int .u8 e, .int .u8 h, .int .u8 l, .int .u16 s, .int .u16 p] 24)).heap.size = w.heap.size + 1 := by simp
  have zN := heap_alloc_new (w.alloc (.cells #[.int .u8 a, .int .u8 f, .int .u8 b, .int .u8 c, .int .u8 d, .int .u8 e, .int .u8 h, .int .u8 l, .int .u16 s, .int .u16 p] 24)) (.cells #[.int .u8 0, .int .u8 0, .int .u8 0, .int .u8 0, .int .u8 0, .int .u8 0, .int .u8 0, .int .u8 0, .int .u16 0, .int .u16 0] 24)
  rw [e1] at zN
  have zB : w1.heap[w.heap.size + 1]? = some (.cells #[.int .u8 0, .int .u8 0, .int .u8 0, .int .u8 0, .int .u8 0, .int .u8 0, .int .u8 0, .int .u8 0, .int .u16 0, .int .u16 0] 24) := (hb.block (w.heap.size + 1) (by simp)).trans zN
  clear zN e1
  have hz : w.heap.size + 2 ≤ w1.heap.size := by have := hb.size; simp at this; omega
  have r0 : ∀ o, (w1.alloc o).cell? ⟨w.heap.size, 0, none⟩ = some (.int .u8 a) := fun o => (blk_cell (blk_alloc rB o) 0).trans rfl
  have r1 : ∀ o, (w1.alloc o).cell? ⟨w.heap.size, 1, none⟩ = some (.int .u8 f) := fun o => (blk_cell (blk_alloc rB o) 1).trans rfl
  have r2 : ∀ o, (w1.alloc o).cell? ⟨w.heap.size, 2, none⟩ = some (.int .u8 b) := fun o => (blk_cell (blk_alloc rB o) 2).trans rfl
  have r3 : ∀ o, (w1.alloc o).cell? ⟨w.heap.size, 3, none⟩ = some (.int .u8 c) := fun o => (blk_cell (blk_alloc rB o) 3).trans rfl
  have r4 : ∀ o, (w1.alloc o).cell? ⟨w.heap.size, 4, none⟩ = some (.int .u8 d) := fun o => (blk_cell (blk_alloc rB o) 4).trans rfl
  have r5 : ∀ o, (w1.alloc o).cell? ⟨w.heap.size, 5, none⟩ = some (.int .u8 e) := fun o => (blk_cell (blk_alloc rB o) 5).trans rfl
  have r6 : ∀ o, (w1.alloc o).cell? ⟨w.heap.size, 6, none⟩ = some (.int .u8 h) := fun o => (blk_cell (blk_alloc rB o) 6).trans rfl
  have r7 : ∀ o, (w1.alloc o).cell? ⟨w.heap.size, 7, none⟩ = some (.int .u8 l) := fun o => (blk_cell (blk_alloc rB o) 7).trans rfl
  have r8 : ∀ o, (w1.alloc o).cell? ⟨w.heap.size, 8, none⟩ = some (.int .u16 s) := fun o => (blk_cell (blk_alloc rB o) 8).trans rfl
  have r9 : ∀ o, (w1.alloc o).cell? ⟨w.heap.size, 9, none⟩ = some (.int .u16 p) := fun o => (blk_cell (blk_alloc rB o) 9).trans rfl
  have hn1 : ¬ w.heap.size = w1.heap.size := by omega
  have hn2 : ¬ w.heap.size + 1 = w1.heap.size := by omega
  have HB := Aside0.mk hb
  have RB := Aside0.mk rB
  have HZ := Aside0.mk hz
  have ZB := Aside0.mk zB
  clear hb rB zB hz
  go_wp2_with fail
  refine (shut_calls _ _ _ _ _ _ _ _ _ _ _ _ _ _ _ _ _ _ _).mono ?_
  rintro e' w2 ⟨rfl, hb2⟩
  have hz := HZ.out
  have z2 : w2.heap[w.heap.size + 1]? = some (.cells #[.int .u8 0, .int .u8 0, .int .u8 0, .int .u8 0, .int .u8 0, .int .u8 0, .int .u8 0, .int .u8 0, .int .u16 0, .int .u16 0] 24) := (hb2.block (w.heap.size + 1) (by simp; omega)).trans (blk_alloc ZB.out _)
  have q0 : w2.cell? ⟨w.heap.size + 1, 0, none⟩ = some (.int .u8 0) := (blk_cell z2 0).trans rfl
  have q1 : w2.cell? ⟨w.heap.size + 1, 1, none⟩ = some (.int .u8 0) := (blk_cell z2 1).trans rfl
  have q2 : w2.cell? ⟨w.heap.size + 1, 2, none⟩ = some (.int .u8 0) := (blk_cell z2 2).trans rfl
  have q3 : w2.cell? ⟨w.heap.size + 1, 3, none⟩ = some (.int .u8 0) := (blk_cell z2 3).trans rfl
  have q4 : w2.cell? ⟨w.heap.size + 1, 4, none⟩ = some (.int .u8 0) := (blk_cell z2 4).trans rfl
  have q5 : w2.cell? ⟨w.heap.size + 1, 5, none⟩ = some (.int .u8 0) := (blk_cell z2 5).trans rfl
  have q6 : w2.cell? ⟨w.heap.size + 1, 6, none⟩ = some (.int .u8 0) := (blk_cell z2 6).trans rfl
  have q7 : w2.cell? ⟨w.heap.size + 1, 7, none⟩ = some (.int .u8 0) := (blk_cell z2 7).trans rfl
  have q8 : w2.cell? ⟨w.heap.size + 1, 8, none⟩ = some (.int .u16 0) := (blk_cell z2 8).trans rfl
  have q9 : w2.cell? ⟨w.heap.size + 1, 9, none⟩ = some (.int .u16 0) := (blk_cell z2 9).trans rfl
  have fz : ∀ i, w2.frozen? ⟨w.heap.size + 1, i, none⟩ = false := fun i => blk_frozen z2 i
  have HB2 := Aside0.mk hb2
  have Z2 := Aside0.mk z2
  clear hb2 z2 hz
  have hz := HZ.out
  go_wp2
  change bodyPost _ _ _ _ _ (w2.setCells (w.heap.size + 1) 0 [.int .u8 a, .int .u8 f, .int .u8 b, .int .u8 c, .int .u8 d, .int .u8 v, .int .u8 h, .int .u8 l, .int .u16 s, .int .u16 p])
  have u0 := put_cells w2 (w.heap.size + 1) _ _ Z2.out [.int .u8 a, .int .u8 f, .int .u8 b, .int .u8 c, .int .u8 d, .int .u8 v, .int .u8 h, .int .u8 l, .int .u16 s, .int .u16 p] rfl 0 _ rfl
  have u1 := put_cells w2 (w.heap.size + 1) _ _ Z2.out [.int .u8 a, .int .u8 f, .int .u8 b, .int .u8 c, .int .u8 d, .int .u8 v, .int .u8 h, .int .u8 l, .int .u16 s, .int .u16 p] rfl 1 _ rfl
  have u2 := put_cells w2 (w.heap.size + 1) _ _ Z2.out [.int .u8 a, .int .u8 f, .int .u8 b, .int .u8 c, .int .u8 d, .int .u8 v, .int .u8 h, .int .u8 l, .int .u16 s, .int .u16 p] rfl 2 _ rfl
  have u3 := put_cells w2 (w.heap.size + 1) _ _ Z2.out [.int .u8 a, .int .u8 f, .int .u8 b, .int .u8 c, .int .u8 d, .int .u8 v, .int .u8 h, .int .u8 l, .int .u16 s, .int .u16 p] rfl 3 _ rfl
  have u4 := put_cells w2 (w.heap.size + 1) _ _ Z2.out [.int .u8 a, .int .u8 f, .int .u8 b, .int .u8 c, .int .u8 d, .int .u8 v, .int .u8 h, .int .u8 l, .int .u16 s, .int .u16 p] rfl 4 _ rfl
  have u5 := put_cells w2 (w.heap.size + 1) _ _ Z2.out [.int .u8 a, .int .u8 f, .int .u8 b, .int .u8 c, .int .u8 d, .int .u8 v, .int .u8 h, .int .u8 l, .int .u16 s, .int .u16 p] rfl 5 _ rfl
  have u6 := put_cells w2 (w.heap.size + 1) _ _ Z2.out [.int .u8 a, .int .u8 f, .int .u8 b, .int .u8 c, .int .u8 d, .int .u8 v, .int .u8 h, .int .u8 l, .int .u16 s, .int .u16 p] rfl 6 _ rfl
  have u7 := put_cells w2 (w.heap.size + 1) _ _ Z2.out [.int .u8 a, .int .u8 f, .int .u8 b, .int .u8 c, .int .u8 d, .int .u8 v, .int .u8 h, .int .u8 l, .int .u16 s, .int .u16 p] rfl 7 _ rfl
  have u8 := put_cells w2 (w.heap.size + 1) _ _ Z2.out [.int .u8 a, .int .u8 f, .int .u8 b, .int .u8 c, .int .u8 d, .int .u8 v, .int .u8 h, .int .u8 l, .int .u16 s, .int .u16 p] rfl 8 _ rfl
  have u9 := put_cells w2 (w.heap.size + 1) _ _ Z2.out [.int .u8 a, .int .u8 f, .int .u8 b, .int .u8 c, .int .u8 d, .int .u8 v, .int .u8 h, .int .u8 l, .int .u16 s, .int .u16 p] rfl 9 _ rfl
  have hbl := put_below w2 w.heap.size (w.heap.size + 1) (by omega) [.int .u8 a, .int .u8 f, .int .u8 b, .int .u8 c, .int .u8 d, .int .u8 v, .int .u8 h, .int .u8 l, .int .u16 s, .int .u16 p] w (by
    refine Below.trans ?_ (HB2.out.mono (by simp; omega))
    repeat (first | exact Below.refl _ _ | apply below_alloc | apply below_drew1 | apply pw_below_drewN | (refine Below.trans ?_ (HB.out.mono (by simp; omega)))))
  generalize w2.setCells (w.heap.size + 1) 0 [.int .u8 a, .int .u8 f, .int .u8 b, .int .u8 c, .int .u8 d, .int .u8 v, .int .u8 h, .int .u8 l, .int .u16 s, .int .u16 p] = W3 at *
  exact bodyPost_ret (v := .tuple #[.agg #[.int .u8 a, .int .u8 f, .int .u8 b, .int .u8 c, .int .u8 d, .int .u8 v, .int .u8 h, .int .u8 l, .int .u16 s, .int .u16 p], .int .i64 0]) (by simp [results, Try.results19, go_sem, u0, u1, u2, u3, u4, u5, u6, u7, u8, u9]) rfl ⟨rfl, hbl⟩
set_option maxRecDepth 100000 in
set_option maxHeartbeats 4000000 in
theorem put4 (a f b c d e h l s p : Int) (v : Int) (w : World) :
    Calls Try.prog 19 #[.agg #[.int .u8 a, .int .u8 f, .int .u8 b, .int .u8 c, .int .u8 d, .int .u8 e, .int .u8 h, .int .u8 l, .int .u16 s, .int .u16 p], .int .i64 4, .int .u8 v] w fun e' w' => e' = .returned (.tuple #[.agg #[.int .u8 a, .int .u8 f, .int .u8 b, .int .u8 c, .int .u8 d, .int .u8 e, .int .u8 v, .int .u8 l, .int .u16 s, .int .u16 p], .int .i64 0]) ∧ Below w.heap.size w w' := by
  have HM := Aside0.mk (may_in 4 (by omega) (by omega) (by omega))
  go_enter Try.func19, Try.ntmps19
  go_wp2_with (first | (go_at_call 33; ((with_reducible refine (regs_may.calls 3 _ 0 _ HM.out).mono ?_)); rintro e' w1 ⟨rfl, ⟨nd, rfl⟩⟩))
  refine (open_calls _ _ _ _ _ _ _ _ _ _ _).mono ?_
  rintro e' w1 ⟨rfl, hb⟩
  have rB := (hb.block w.heap.size (by simp; omega)).trans (blk_alloc (blk_new w (.cells #[.int .u8 a, .int .u8 f, .int .u8 b, .int .u8 c, .int .u8 d, .int .u8 e, .int .u8 h, .int .u8 l, .int .u16 s, .int .u16 p] 24)) (.cells #[.int .u8 0, .int .u8 0, .int .u8 0, .int .u8 0, .int .u8 0, .int .u8 0, .int .u8 0, .int .u8 0, .int .u16 0, .int .u16 0] 24))
  have e1 : (w.alloc (.cells #[.int .u8 a, .int .u8 f, .int .u8 b, .int .u8 c, .int .u8 d, .int .u8 e, .int .u8 h, .int .u8 l, .int .u16 s, .int .u16 p] 24)).heap.size = w.heap.size + 1 := by simp
  have zN := heap_alloc_new (w.alloc (.cells #[.int .u8 a, .int .u8 f, .int .u8 b, .int .u8 c, .int .u8 d, .int .u8 e, .int .u8 h, .int .u8 l, .int .u16 s, .int .u16 p] 24)) (.cells #[.int .u8 0, .int .u8 0, .int .u8 0, .int .u8 0, .int .u8 0, .int .u8 0, .int .u8 0, .int .u8 0, .int .u16 0, .int .u16 0] 24)
  rw [e1] at zN
  have zB : w1.heap[w.heap.size + 1]? = some (.cells #[.int .u8 0, .int .u8 0, .int .u8 0, .int .u8 0, .int .u8 0, .int .u8 0, .int .u8 0, .int .u8 0, .int .u16 0, .int .u16 0] 24) := (hb.block (w.heap.size + 1) (by simp)).trans zN
  clear zN e1
  have hz : w.heap.size + 2 ≤ w1.heap.size := by have := hb.size; simp at this; omega
  have r0 : ∀ o, (w1.alloc o).cell? ⟨w.heap.size, 0, none⟩ = some (.int .u8 a) := fun o => (blk_cell (blk_alloc rB o) 0).trans rfl
  have r1 : ∀ o, (w1.alloc o).cell? ⟨w.heap.size, 1, none⟩ = some (.int .u8 f) := fun o => (blk_cell (blk_alloc rB o) 1).trans rfl
  have r2 : ∀ o, (w1.alloc o).cell? ⟨w.heap.size, 2, none⟩ = some (.int .u8 b) := fun o => (blk_cell (blk_alloc rB o) 2).trans rfl
  have r3 : ∀ o, (w1.alloc o).cell? ⟨w.heap.size, 3, none⟩ = some (.int .u8 c) := fun o => (blk_cell (blk_alloc rB o) 3).trans rfl
  have r4 : ∀ o, (w1.alloc o).cell? ⟨w.heap.size, 4, none⟩ = some (.int .u8 d) := fun o => (blk_cell (blk_alloc rB o) 4).trans rfl
  have r5 : ∀ o, (w1.alloc o).cell? ⟨w.heap.size, 5, none⟩ = some (.int .u8 e) := fun o => (blk_cell (blk_alloc rB o) 5).trans rfl
  have r6 : ∀ o, (w1.alloc o).cell? ⟨w.heap.size, 6, none⟩ = some (.int .u8 h) := fun o => (blk_cell (blk_alloc rB o) 6).trans rfl
  have r7 : ∀ o, (w1.alloc o).cell? ⟨w.heap.size, 7, none⟩ = some (.int .u8 l) := fun o => (blk_cell (blk_alloc rB o) 7).trans rfl
  have r8 : ∀ o, (w1.alloc o).cell? ⟨w.heap.size, 8, none⟩ = some (.int .u16 s) := fun o => (blk_cell (blk_alloc rB o) 8).trans rfl
  have r9 : ∀ o, (w1.alloc o).cell? ⟨w.heap.size, 9, none⟩ = some (.int .u16 p) := fun o => (blk_cell (blk_alloc rB o) 9).trans rfl
  have hn1 : ¬ w.heap.size = w1.heap.size := by omega
  have hn2 : ¬ w.heap.size + 1 = w1.heap.size := by omega
  have HB := Aside0.mk hb
  have RB := Aside0.mk rB
  have HZ := Aside0.mk hz
  have ZB := Aside0.mk zB
  clear hb rB zB hz
  go_wp2_with fail
  refine (shut_calls _ _ _ _ _ _ _ _ _ _ _ _ _ _ _ _ _ _ _).mono ?_
  rintro e' w2 ⟨rfl, hb2⟩
  have hz := HZ.out
  have z2 : w2.heap[w.heap.size + 1]? = some (.cells #[.int .u8 0, .int .u8 0, .int .u8 0, .int .u8 0, .int .u8 0, .int .u8 0, .int .u8 0, .int .u8 0, .int .u16 0, .int .u16 0] 24) := (hb2.block (w.heap.size + 1) (by simp; omega)).trans (blk_alloc ZB.out _)
  have q0 : w2.cell? ⟨w.heap.size + 1, 0, none⟩ = some (.int .u8 0) := (blk_cell z2 0).trans rfl
  have q1 : w2.cell? ⟨w.heap.size + 1, 1, none⟩ = some (.int .u8 0) := (blk_cell z2 1).trans rfl
  have q2 : w2.cell? ⟨w.heap.size + 1, 2, none⟩ = some (.int .u8 0) := (blk_cell z2 2).trans rfl
  have q3 : w2.cell? ⟨w.heap.size + 1, 3, none⟩ = some (.int .u8 0) := (blk_cell z2 3).trans rfl
  have q4 : w2.cell? ⟨w.heap.size + 1, 4, none⟩ = some (.int .u8 0) := (blk_cell z2 4).trans rfl
  have q5 : w2.cell? ⟨w.heap.size + 1, 5, none⟩ = some (.int .u8 0) := (blk_cell z2 5).trans rfl
  have q6 : w2.cell? ⟨w.heap.size + 1, 6, none⟩ = some (.int .u8 0) := (blk_cell z2 6).trans rfl
  have q7 : w2.cell? ⟨w.heap.size + 1, 7, none⟩ = some (.int .u8 0) := (blk_cell z2 7).trans rfl
  have q8 : w2.cell? ⟨w.heap.size + 1, 8, none⟩ = some (.int .u16 0) := (blk_cell z2 8).trans rfl
  have q9 : w2.cell? ⟨w.heap.size + 1, 9, none⟩ = some (.int .u16 0) := (blk_cell z2 9).trans rfl
  have fz : ∀ i, w2.frozen? ⟨w.heap.size + 1, i, none⟩ = false := fun i => blk_frozen z2 i
  have HB2 := Aside0.mk hb2
  have Z2 := Aside0.mk z2
  clear hb2 z2 hz
  have hz := HZ.out
  go_wp2
  change bodyPost _ _ _ _ _ (w2.setCells (w.heap.size + 1) 0 [.int .u8 a, .int .u8 f, .int .u8 b, .int .u8 c, .int .u8 d, .int .u8 e, .int .u8 v, .int .u8 l, .int .u16 s, .int .u16 p])
  have u0 := put_cells w2 (w.heap.size + 1) _ _ Z2.out [.int .u8 a, .int .u8 f, .int .u8 b, .int .u8 c, .int .u8 d, .int .u8 e, .int .u8 v, .int .u8 l, .int .u16 s, .int .u16 p] rfl 0 _ rfl
  have u1 := put_cells w2 (w.heap.size + 1) _ _ Z2.out [.int .u8 a, .int .u8 f, .int .u8 b, .int .u8 c, .int .u8 d, .int .u8 e, .int .u8 v, .int .u8 l, .int .u16 s, .int .u16 p] rfl 1 _ rfl
  have u2 := put_cells w2 (w.heap.size + 1) _ _ Z2.out [.int .u8 a, .int .u8 f, .int .u8 b, .int .u8 c, .int .u8 d, .int .u8 e, .int .u8 v, .int .u8 l, .int .u16 s, .int .u16 p] rfl 2 _ rfl
  have u3 := put_cells w2 (w.heap.size + 1) _ _ Z2.out [.int .u8 a, .int .u8 f, .int .u8 b, .int .u8 c, .int .u8 d, .int .u8 e, .int .u8 v, .int .u8 l, .int .u16 s, .int .u16 p] rfl 3 _ rfl
  have u4 := put_cells w2 (w.heap.size + 1) _ _ Z2.out [.int .u8 a, .int .u8 f, .int .u8 b, .int .u8 c, .int .u8 d, .int .u8 e, .int .u8 v, .int .u8 l, .int .u16 s, .int .u16 p] rfl 4 _ rfl
  have u5 := put_cells w2 (w.heap.size + 1) _ _ Z2.out [.int .u8 a, .int .u8 f, .int .u8 b, .int .u8 c, .int .u8 d, .int .u8 e, .int .u8 v, .int .u8 l, .int .u16 s, .int .u16 p] rfl 5 _ rfl
  have u6 := put_cells w2 (w.heap.size + 1) _ _ Z2.out [.int .u8 a, .int .u8 f, .int .u8 b, .int .u8 c, .int .u8 d, .int .u8 e, .int .u8 v, .int .u8 l, .int .u16 s, .int .u16 p] rfl 6 _ rfl
  have u7 := put_cells w2 (w.heap.size + 1) _ _ Z2.out [.int .u8 a, .int .u8 f, .int .u8 b, .int .u8 c, .int .u8 d, .int .u8 e, .int .u8 v, .int .u8 l, .int .u16 s, .int .u16 p] rfl 7 _ rfl
  have u8 := put_cells w2 (w.heap.size + 1) _ _ Z2.out [.int .u8 a, .int .u8 f, .int .u8 b, .int .u8 c, .int .u8 d, .int .u8 e, .int .u8 v, .int .u8 l, .int .u16 s, .int .u16 p] rfl 8 _ rfl
  have u9 := put_cells w2 (w.heap.size + 1) _ _ Z2.out [.int .u8 a, .int .u8 f, .int .u8 b, .int .u8 c, .int .u8 d, .int .u8 e, .int .u8 v, .int .u8 l, .int .u16 s, .int .u16 p] rfl 9 _ rfl
  have hbl := put_below w2 w.heap.size (w.heap.size + 1) (by omega) [.int .u8 a, .int .u8 f, .int .u8 b, .int .u8 c, .int .u8 d, .int .u8 e, .int .u8 v, .int .u8 l, .int .u16 s, .int .u16 p] w (by
    refine Below.trans ?_ (HB2.out.mono (by simp; omega))
    repeat (first | exact Below.refl _ _ | apply below_alloc | apply below_drew1 | apply pw_below_drewN | (refine Below.trans ?_ (HB.out.mono (by simp; omega)))))
  generalize w2.setCells (w.heap.size + 1) 0 [.int .u8 a, .int .u8 f, .int .u8 b, .int .u8 c, .int .u8 d, .int .u8 e, .int .u8 v, .int .u8 l, .int .u16 s, .int .u16 p] = W3 at *
  exact bodyPost_ret (v := .tuple #[.agg #[.int .u8 a, .int .u8 f, .int .u8 b, .int .u8 c, .int .u8 d, .int .u8 e, .int .u8 v, .int .u8 l, .int .u16 s, .int .u16 p], .int .i64 0]) (by simp [results, Try.results19, go_sem, u0, u1, u2, u3, u4, u5, u6, u7, u8, u9]) rfl ⟨rfl, hbl⟩
set_option maxRecDepth 100000 in
set_option maxHeartbeats 4000000 in
theorem put5 (a f b c d e h l s p : Int) (v : Int) (w : World) :
    Calls Try.prog 19 #[.agg #[.int .u8 a, .int .u8 f, .int .u8 b, .int .u8 c, .int .u8 d, .int .u8 e, .int .u8 h, .int .u8 l, .int .u16 s, .int .u16 p], .int .i64 5, .int .u8 v] w fun e' w' => e' = .returned (.tuple #[.agg #[.int .u8 a, .int .u8 f, .int .u8 b, .int .u8 c, .int .u8 d, .int .u8 e, .int .u8 h, .int .u8 v, .int .u16 s, .int .u16 p], .int .i64 0]) ∧ Below w.heap.size w w' := by
  have HM := Aside0.mk (may_in 5 (by omega) (by omega) (by omega))
  go_enter Try.func19, Try.ntmps19
  go_wp2_with (first | (go_at_call 33; ((with_reducible refine (regs_may.calls 3 _ 0 _ HM.out).mono ?_)); rintro e' w1 ⟨rfl, ⟨nd, rfl⟩⟩))
  refine (open_calls _ _ _ _ _ _ _ _ _ _ _).mono ?_
  rintro e' w1 ⟨rfl, hb⟩
  have rB := (hb.block w.heap.size (by simp; omega)).trans (blk_alloc (blk_new w (.cells #[.int .u8 a, .int .u8 f, .int .u8 b, .int .u8 c, .int .u8 d, .int .u8 e, .int .u8 h, .int .u8 l, .int .u16 s, .int .u16 p] 24)) (.cells #[.int .u8 0, .int .u8 0, .int .u8 0, .int .u8 0, .int .u8 0, .int .u8 0, .int .u8 0, .int .u8 0, .int .u16 0, .int .u16 0] 24))
  have e1 : (w.alloc (.cells #[.int .u8 a, .int .u8 f, .int .u8 b, .int .u8 c, .int .u8 d, .int .u8 e, .int .u8 h, .int .u8 l, .int .u16 s, .int .u16 p] 24)).heap.size = w.heap.size + 1 := by simp
  have zN := heap_alloc_new (w.alloc (.cells #[.int .u8 a, .int .u8 f, .int .u8 b, .int .u8 c, .int .u8 d, .int .u8 e, .int .u8 h, .int .u8 l, .int .u16 s, .int .u16 p] 24)) (.cells #[.int .u8 0, .int .u8 0, .int .u8 0, .int .u8 0, .int .u8 0, .int .u8 0, .int .u8 0, .int .u8 0, .int .u16 0, .int .u16 0] 24)
  rw [e1] at zN
  have zB : w1.heap[w.heap.size + 1]? = some (.cells #[.int .u8 0, .int .u8 0, .int .u8 0, .int .u8 0, .int .u8 0, .int .u8 0, .int .u8 0, .int .u8 0, .int .u16 0, .int .u16 0] 24) := (hb.block (w.heap.size + 1) (by simp)).trans zN
  clear zN e1
  have hz : w.heap.size + 2 ≤ w1.heap.size := by have := hb.size; simp at this; omega
  have r0 : ∀ o, (w1.alloc o).cell? ⟨w.heap.size, 0, none⟩ = some (.int .u8 a) := fun o => (blk_cell (blk_alloc rB o) 0).trans rfl
  have r1 : ∀ o, (w1.alloc o).cell? ⟨w.heap.size, 1, none⟩ = some (.int .u8 f) := fun o => (blk_cell (blk_alloc rB o) 1).trans rfl
  have r2 : ∀ o, (w1.alloc o).cell? ⟨w.heap.size, 2, none⟩ = some (.int .u8 b) := fun o => (blk_cell (blk_alloc rB o) 2).trans rfl
  have r3 : ∀ o, (w1.alloc o).cell? ⟨w.heap.size, 3, none⟩ = some (.int .u8 c) := fun o => (blk_cell (blk_alloc rB o) 3).trans rfl
  have r4 : ∀ o, (w1.alloc o).cell? ⟨w.heap.size, 4, none⟩ = some (.int .u8 d) := fun o => (blk_cell (blk_alloc rB o) 4).trans rfl
  have r5 : ∀ o, (w1.alloc o).cell? ⟨w.heap.size, 5, none⟩ = some (.int .u8 e) := fun o => (blk_cell (blk_alloc rB o) 5).trans rfl
  have r6 : ∀ o, (w1.alloc o).cell? ⟨w.heap.size, 6, none⟩ = some (.int .u8 h) := fun o => (blk_cell (blk_alloc rB o) 6).trans rfl
  have r7 : ∀ o, (w1.alloc o).cell? ⟨w.heap.size, 7, none⟩ = some (.int .u8 l) := fun o => (blk_cell (blk_alloc rB o) 7).trans rfl
  have r8 : ∀ o, (w1.alloc o).cell? ⟨w.heap.size, 8, none⟩ = some (.int .u16 s) := fun o => (blk_cell (blk_alloc rB o) 8).trans rfl
  have r9 : ∀ o, (w1.alloc o).cell? ⟨w.heap.size, 9, none⟩ = some (.int .u16 p) := fun o => (blk_cell (blk_alloc rB o) 9).trans rfl
  have hn1 : ¬ w.heap.size = w1.heap.size := by omega
  have hn2 : ¬ w.heap.size + 1 = w1.heap.size := by omega
  have HB := Aside0.mk hb
  have RB := Aside0.mk rB
  have HZ := Aside0.mk hz
  have ZB := Aside0.mk zB
  clear hb rB zB hz
  go_wp2_with fail
  refine (shut_calls _ _ _ _ _ _ _ _ _ _ _ _ _ _ _ _ _ _ _).mono ?_
  rintro e' w2 ⟨rfl, hb2⟩
  have hz := HZ.out
  have z2 : w2.heap[w.heap.size + 1]? = some (.cells #[.int .u8 0, .int .u8 0, .int .u8 0, .int .u8 0, .int .u8 0, .int .u8 0, .int .u8 0, .int .u8 0, .int .u16 0, .int .u16 0] 24) := (hb2.block (w.heap.size + 1) (by simp; omega)).trans (blk_alloc ZB.out _)
  have q0 : w2.cell? ⟨w.heap.size + 1, 0, none⟩ = some (.int .u8 0) := (blk_cell z2 0).trans rfl
  have q1 : w2.cell? ⟨w.heap.size + 1, 1, none⟩ = some (.int .u8 0) := (blk_cell z2 1).trans rfl
  have q2 : w2.cell? ⟨w.heap.size + 1, 2, none⟩ = some (.int .u8 0) := (blk_cell z2 2).trans rfl
  have q3 : w2.cell? ⟨w.heap.size + 1, 3, none⟩ = some (.int .u8 0) := (blk_cell z2 3).trans rfl
  have q4 : w2.cell? ⟨w.heap.size + 1, 4, none⟩ = some (.int .u8 0) := (blk_cell z2 4).trans rfl
  have q5 : w2.cell? ⟨w.heap.size + 1, 5, none⟩ = some (.int .u8 0) := (blk_cell z2 5).trans rfl
  have q6 : w2.cell? ⟨w.heap.size + 1, 6, none⟩ = some (.int .u8 0) := (blk_cell z2 6).trans rfl
  have q7 : w2.cell? ⟨w.heap.size + 1, 7, none⟩ = some (.int .u8 0) := (blk_cell z2 7).trans rfl
  have q8 : w2.cell? ⟨w.heap.size + 1, 8, none⟩ = some (.int .u16 0) := (blk_cell z2 8).trans rfl
  have q9 : w2.cell? ⟨w.heap.size + 1, 9, none⟩ = some (.int .u16 0) := (blk_cell z2 9).trans rfl
  have fz : ∀ i, w2.frozen? ⟨w.heap.size + 1, i, none⟩ = false := fun i => blk_frozen z2 i
  have HB2 := Aside0.mk hb2
  have Z2 := Aside0.mk z2
  clear hb2 z2 hz
  have hz := HZ.out
  go_wp2
  change bodyPost _ _ _ _ _ (w2.setCells (w.heap.size + 1) 0 [.int .u8 a, .int .u8 f, .int .u8 b, .int .u8 c, .int .u8 d, .int .u8 e, .int .u8 h, .int .u8 v, .int .u16 s, .int .u16 p])
  have u0 := put_cells w2 (w.heap.size + 1) _ _ Z2.out [.int .u8 a, .int .u8 f, .int .u8 b, .int .u8 c, .int .u8 d, .int .u8 e, .int .u8 h, .int .u8 v, .int .u16 s, .int .u16 p] rfl 0 _ rfl
  have u1 := put_cells w2 (w.heap.size + 1) _ _ Z2.out [.int .u8 a, .int .u8 f, .int .u8 b, .int .u8 c, .int .u8 d, .int .u8 e, .int .u8 h, .int .u8 v, .int .u16 s, .int .u16 p] rfl 1 _ rfl
  have u2 := put_cells w2 (w.heap.size + 1) _ _ Z2.out [.int .u8 a, .int .u8 f, .int .u8 b, .int .u8 c, .int .u8 d, .int .u8 e, .int .u8 h, .int .u8 v, .int .u16 s, .int .u16 p] rfl 2 _ rfl
  have u3 := put_cells w2 (w.heap.size + 1) _ _ Z2.out [.int .u8 a, .int .u8 f, .int .u8 b, .int .u8 c, .int .u8 d, .int .u8 e, .int .u8 h, .int .u8 v, .int .u16 s, .int .u16 p] rfl 3 _ rfl
  have u4 := put_cells w2 (w.heap.size + 1) _ _ Z2.out [.int .u8 a, .int .u8 f, .int .u8 b, .int .u8 c, .int .u8 d, .int .u8 e, .int .u8 h, .int .u8 v, .int .u16 s, .int .u16 p] rfl 4 _ rfl
  have u5 := put_cells w2 (w.heap.size + 1) _ _ Z2.out [.int .u8 a, .int .u8 f, .int .u8 b, .int .u8 c, .int .u8 d, .int .u8 e, .int .u8 h, .int .u8 v, .int .u16 s, .int .u16 p] rfl 5 _ rfl
  have u6 := put_cells w2 (w.heap.size + 1) _ _ Z2.out [.int .u8 a, .int .u8 f, .int .u8 b, .int .u8 c, .int .u8 d, .int .u8 e, .int .u8 h, .int .u8 v, .int .u16 s, .int .u16 p] rfl 6 _ rfl
  have u7 := put_cells w2 (w.heap.size + 1) _ _ Z2.out [.int .u8 a, .int .u8 f, .int .u8 b, .int .u8 c, .int .u8 d, .int .u8 e, .int .u8 h, .int .u8 v, .int .u16 s, .int .u16 p] rfl 7 _ rfl
  have u8 := put_cells w2 (w.heap.size + 1) _ _ Z2.out [.int .u8 a, .int .u8 f, .int .u8 b, .int .u8 c, .int .u8 d, .int .u8 e, .int .u8 h, .int .u8 v, .int .u16 s, .int .u16 p] rfl 8 _ rfl
  have u9 := put_cells w2 (w.heap.size + 1) _ _ Z2.out [.int .u8 a, .int .u8 f, .int .u8 b, .int .u8 c, .int .u8 d, .int .u8 e, .int .u8 h, .int .u8 v, .int .u16 s, .int .u16 p] rfl 9 _ rfl
  have hbl := put_below w2 w.heap.size (w.heap.size + 1) (by omega) [.int .u8 a, .int .u8 f, .int .u8 b, .int .u8 c, .int .u8 d, .int .u8 e, .int .u8 h, .int .u8 v, .int .u16 s, .int .u16 p] w (by
    refine Below.trans ?_ (HB2.out.mono (by simp; omega))
    repeat (first | exact Below.refl _ _ | apply below_alloc | apply below_drew1 | apply pw_below_drewN | (refine Below.trans ?_ (HB.out.mono (by simp; omega)))))
  generalize w2.setCells (w.heap.size + 1) 0 [.int .u8 a, .int .u8 f, .int .u8 b, .int .u8 c, .int .u8 d, .int .u8 e, .int .u8 h, .int .u8 v, .int .u16 s, .int .u16 p] = W3 at *
  exact bodyPost_ret (v := .tuple #[.agg #[.int .u8 a, .int .u8 f, .int .u8 b, .int .u8 c, .int .u8 d, .int .u8 e, .int .u8 h, .int .u8 v, .int .u16 s, .int .u16 p], .int .i64 0]) (by simp [results, Try.results19, go_sem, u0, u1, u2, u3, u4, u5, u6, u7, u8, u9]) rfl ⟨rfl, hbl⟩
set_option maxRecDepth 100000 in
set_option maxHeartbeats 4000000 in
theorem put7 (a f b c d e h l s p : Int) (v : Int) (w : World) :
    Calls Try.prog 19 #[.agg #[.int .u8 a, .int .u8 f, .int .u8 b, .int .u8 c, .int .u8 d, .int .u8 e, .int .u8 h, .int .u8 l, .int .u16 s, .int .u16 p], .int .i64 7, .int .u8 v] w fun e' w' => e' = .returned (.tuple #[.agg #[.int .u8 v, .int .u8 f, .int .u8 b, .int .u8 c, .int .u8 d, .int .u8 e, .int .u8 h, .int .u8 l, .int .u16 s, .int .u16 p], .int .i64 0]) ∧ Below w.heap.size w w' := by
  have HM := Aside0.mk (may_in 7 (by omega) (by omega) (by omega))
  go_enter Try.func19, Try.ntmps19
  go_wp2_with (first | (go_at_call 33; ((with_reducible refine (regs_may.calls 3 _ 0 _ HM.out).mono ?_)); rintro e' w1 ⟨rfl, ⟨nd, rfl⟩⟩))
  refine (open_calls _ _ _ _ _ _ _ _ _ _ _).mono ?_
  rintro e' w1 ⟨rfl, hb⟩
  have rB := (hb.block w.heap.size (by simp; omega)).trans (blk_alloc (blk_new w (.cells #[.int .u8 a, .int .u8 f, .int .u8 b, .int .u8 c, .int .u8 d, .int .u8 e, .int .u8 h, .int .u8 l, .int .u16 s, .int .u16 p] 24)) (.cells #[.int .u8 0, .int .u8 0, .int .u8 0, .int .u8 0, .int .u8 0, .int .u8 0, .int .u8 0, .int .u8 0, .int .u16 0, .int .u16 0] 24))
  have e1 : (w.alloc (.cells #[.int .u8 a, .int .u8 f, .int .u8 b, .int .u8 c, .int .u8 d, .int .u8 e, .int .u8 h, .int .u8 l, .int .u16 s, .int .u16 p] 24)).heap.size = w.heap.size + 1 := by simp
  have zN := heap_alloc_new (w.alloc (.cells #[.int .u8 a, .int .u8 f, .int .u8 b, .int .u8 c, .int .u8 d, .int .u8 e, .int .u8 h, .int .u8 l, .int .u16 s, .int .u16 p] 24)) (.cells #[.int .u8 0, .int .u8 0, .int .u8 0, .int .u8 0, .int .u8 0, .int .u8 0, .int .u8 0, .int .u8 0, .int .u16 0, .int .u16 0] 24)
  rw [e1] at zN
  have zB : w1.heap[w.heap.size + 1]? = some (.cells #[.int .u8 0, .int .u8 0, .int .u8 0, .int .u8 0, .int .u8 0, .int .u8 0, .int .u8 0, .int .u8 0, .int .u16 0, .int .u16 0] 24) := (hb.block (w.heap.size + 1) (by simp)).trans zN
  clear zN e1
  have hz : w.heap.size + 2 ≤ w1.heap.size := by have := hb.size; simp at this; omega
  have r0 : ∀ o, (w1.alloc o).cell? ⟨w.heap.size, 0, none⟩ = some (.int .u8 a) := fun o => (blk_cell (blk_alloc rB o) 0).trans rfl
  have r1 : ∀ o, (w1.alloc o).cell? ⟨w.heap.size, 1, none⟩ = some (.int .u8 f) := fun o => (blk_cell (blk_alloc rB o) 1).trans rfl
  have r2 : ∀ o, (w1.alloc o).cell? ⟨w.heap.size, 2, none⟩ = some (.int .u8 b) := fun o => (blk_cell (blk_alloc rB o) 2).trans rfl
  have r3 : ∀ o, (w1.alloc o).cell? ⟨w.heap.size, 3, none⟩ = some (.int .u8 c) := fun o => (blk_cell (blk_alloc rB o) 3).trans rfl
  have r4 : ∀ o, (w1.alloc o).cell? ⟨w.heap.size, 4, none⟩ = some (.int .u8 d) := fun o => (blk_cell (blk_alloc rB o) 4).trans rfl
  have r5 : ∀ o, (w1.alloc o).cell? ⟨w.heap.size, 5, none⟩ = some (.int .u8 e) := fun o => (blk_cell (blk_alloc rB o) 5).trans rfl
  have r6 : ∀ o, (w1.alloc o).cell? ⟨w.heap.size, 6, none⟩ = some (.int .u8 h) := fun o => (blk_cell (blk_alloc rB o) 6).trans rfl
  have r7 : ∀ o, (w1.alloc o).cell? ⟨w.heap.size, 7, none⟩ = some (.int .u8 l) := fun o => (blk_cell (blk_alloc rB o) 7).trans rfl
  have r8 : ∀ o, (w1.alloc o).cell? ⟨w.heap.size, 8, none⟩ = some (.int .u16 s) := fun o => (blk_cell (blk_alloc rB o) 8).trans rfl
  have r9 : ∀ o, (w1.alloc o).cell? ⟨w.heap.size, 9, none⟩ = some (.int .u16 p) := fun o => (blk_cell (blk_alloc rB o) 9).trans rfl
  have hn1 : ¬ w.heap.size = w1.heap.size := by omega
  have hn2 : ¬ w.heap.size + 1 = w1.heap.size := by omega
  have HB := Aside0.mk hb
  have RB := Aside0.mk rB
  have HZ := Aside0.mk hz
  have ZB := Aside0.mk zB
  clear hb rB zB hz
  go_wp2_with fail
  refine (shut_calls _ _ _ _ _ _ _ _ _ _ _ _ _ _ _ _ _ _ _).mono ?_
  rintro e' w2 ⟨rfl, hb2⟩
  have hz := HZ.out
  have z2 : w2.heap[w.heap.size + 1]? = some (.cells #[.int .u8 0, .int .u8 0, .int .u8 0, .int .u8 0, .int .u8 0, .int .u8 0, .int .u8 0, .int .u8 0, .int .u16 0, .int .u16 0] 24) := (hb2.block (w.heap.size + 1) (by simp; omega)).trans (blk_alloc ZB.out _)
  have q0 : w2.cell? ⟨w.heap.size + 1, 0, none⟩ = some (.int .u8 0) := (blk_cell z2 0).trans rfl
  have q1 : w2.cell? ⟨w.heap.size + 1, 1, none⟩ = some (.int .u8 0) := (blk_cell z2 1).trans rfl
  have q2 : w2.cell? ⟨w.heap.size + 1, 2, none⟩ = some (.int .u8 0) := (blk_cell z2 2).trans rfl
  have q3 : w2.cell? ⟨w.heap.size + 1, 3, none⟩ = some (.int .u8 0) := (blk_cell z2 3).trans rfl
  have q4 : w2.cell? ⟨w.heap.size + 1, 4, none⟩ = some (.int .u8 0) := (blk_cell z2 4).trans rfl
  have q5 : w2.cell? ⟨w.heap.size + 1, 5, none⟩ = some (.int .u8 0) := (blk_cell z2 5).trans rfl
  have q6 : w2.cell? ⟨w.heap.size + 1, 6, none⟩ = some (.int .u8 0) := (blk_cell z2 6).trans rfl
  have q7 : w2.cell? ⟨w.heap.size + 1, 7, none⟩ = some (.int .u8 0) := (blk_cell z2 7).trans rfl
  have q8 : w2.cell? ⟨w.heap.size + 1, 8, none⟩ = some (.int .u16 0) := (blk_cell z2 8).trans rfl
  have q9 : w2.cell? ⟨w.heap.size + 1, 9, none⟩ = some (.int .u16 0) := (blk_cell z2 9).trans rfl
  have fz : ∀ i, w2.frozen? ⟨w.heap.size + 1, i, none⟩ = false := fun i => blk_frozen z2 i
  have HB2 := Aside0.mk hb2
  have Z2 := Aside0.mk z2
  clear hb2 z2 hz
  have hz := HZ.out
  go_wp2
  change bodyPost _ _ _ _ _ (w2.setCells (w.heap.size + 1) 0 [.int .u8 v, .int .u8 f, .int .u8 b, .int .u8 c, .int .u8 d, .int .u8 e, .int .u8 h, .int .u8 l, .int .u16 s, .int .u16 p])
  have u0 := put_cells w2 (w.heap.size + 1) _ _ Z2.out [.int .u8 v, .int .u8 f, .int .u8 b, .int .u8 c, .int .u8 d, .int .u8 e, .int .u8 h, .int .u8 l, .int .u16 s, .int .u16 p] rfl 0 _ rfl
  have u1 := put_cells w2 (w.heap.size + 1) _ _ Z2.out [.int .u8 v, .int .u8 f, .int .u8 b, .int .u8 c, .int .u8 d, .int .u8 e, .int .u8 h, .int .u8 l, .int .u16 s, .int .u16 p] rfl 1 _ rfl
  have u2 := put_cells w2 (w.heap.size + 1) _ _ Z2.out [.int .u8 v, .int .u8 f, .int .u8 b, .int .u8 c, .int .u8 d, .int .u8 e, .int .u8 h, .int .u8 l, .int .u16 s, .int .u16 p] rfl 2 _ rfl
  have u3 := put_cells w2 (w.heap.size + 1) _ _ Z2.out [.int .u8 v, .int .u8 f, .int .u8 b, .int .u8 c, .int .u8 d, .int .u8 e, .int .u8 h, .int .u8 l, .int .u16 s, .int .u16 p] rfl 3 _ rfl
  have u4 := put_cells w2 (w.heap.size + 1) _ _ Z2.out [.int .u8 v, .int .u8 f, .int .u8 b, .int .u8 c, .int .u8 d, .int .u8 e, .int .u8 h, .int .u8 l, .int .u16 s, .int .u16 p] rfl 4 _ rfl
  have u5 := put_cells w2 (w.heap.size + 1) _ _ Z2.out [.int .u8 v, .int .u8 f, .int .u8 b, .int .u8 c, .int .u8 d, .int .u8 e, .int .u8 h, .int .u8 l, .int .u16 s, .int .u16 p] rfl 5 _ rfl
  have u6 := put_cells w2 (w.heap.size + 1) _ _ Z2.out [.int .u8 v, .int .u8 f, .int .u8 b, .int .u8 c, .int .u8 d, .int .u8 e, .int .u8 h, .int .u8 l, .int .u16 s, .int .u16 p] rfl 6 _ rfl
  have u7 := put_cells w2 (w.heap.size + 1) _ _ Z2.out [.int .u8 v, .int .u8 f, .int .u8 b, .int .u8 c, .int .u8 d, .int .u8 e, .int .u8 h, .int .u8 l, .int .u16 s, .int .u16 p] rfl 7 _ rfl
  have u8 := put_cells w2 (w.heap.size + 1) _ _ Z2.out [.int .u8 v, .int .u8 f, .int .u8 b, .int .u8 c, .int .u8 d, .int .u8 e, .int .u8 h, .int .u8 l, .int .u16 s, .int .u16 p] rfl 8 _ rfl
  have u9 := put_cells w2 (w.heap.size + 1) _ _ Z2.out [.int .u8 v, .int .u8 f, .int .u8 b, .int .u8 c, .int .u8 d, .int .u8 e, .int .u8 h, .int .u8 l, .int .u16 s, .int .u16 p] rfl 9 _ rfl
  have hbl := put_below w2 w.heap.size (w.heap.size + 1) (by omega) [.int .u8 v, .int .u8 f, .int .u8 b, .int .u8 c, .int .u8 d, .int .u8 e, .int .u8 h, .int .u8 l, .int .u16 s, .int .u16 p] w (by
    refine Below.trans ?_ (HB2.out.mono (by simp; omega))
    repeat (first | exact Below.refl _ _ | apply below_alloc | apply below_drew1 | apply pw_below_drewN | (refine Below.trans ?_ (HB.out.mono (by simp; omega)))))
  generalize w2.setCells (w.heap.size + 1) 0 [.int .u8 v, .int .u8 f, .int .u8 b, .int .u8 c, .int .u8 d, .int .u8 e, .int .u8 h, .int .u8 l, .int .u16 s, .int .u16 p] = W3 at *
  exact bodyPost_ret (v := .tuple #[.agg #[.int .u8 v, .int .u8 f, .int .u8 b, .int .u8 c, .int .u8 d, .int .u8 e, .int .u8 h, .int .u8 l, .int .u16 s, .int .u16 p], .int .i64 0]) (by simp [results, Try.results19, go_sem, u0, u1, u2, u3, u4, u5, u6, u7, u8, u9]) rfl ⟨rfl, hbl⟩
set_option maxRecDepth 100000 in
set_option maxHeartbeats 4000000 in
theorem put_no (a f b c d e h l s p : Int) (n v q : Int) (hq : (q != 0) = true) (hm : regs_may.f 3 n = some q) (w : World) :
    Calls Try.prog 19 #[.agg #[.int .u8 a, .int .u8 f, .int .u8 b, .int .u8 c, .int .u8 d, .int .u8 e, .int .u8 h, .int .u8 l, .int .u16 s, .int .u16 p], .int .i64 n, .int .u8 v] w fun e' w' => e' = .returned (.tuple #[.agg #[.int .u8 0, .int .u8 0, .int .u8 0, .int .u8 0, .int .u8 0, .int .u8 0, .int .u8 0, .int .u8 0, .int .u16 0, .int .u16 0], .int .i64 q]) ∧ Below w.heap.size w w' := by
  have HM := Aside0.mk hm
  clear hm
  go_enter Try.func19, Try.ntmps19
  go_wp2_with (first | (go_at_call 33; ((with_reducible refine (regs_may.calls 3 _ q _ HM.out).mono ?_)); rintro e' w1 ⟨rfl, ⟨nd, rfl⟩⟩))
  have e1 : (w.alloc (.cells #[.int .u8 a, .int .u8 f, .int .u8 b, .int .u8 c, .int .u8 d, .int .u8 e, .int .u8 h, .int .u8 l, .int .u16 s, .int .u16 p] 24)).heap.size = w.heap.size + 1 := by simp
  have zN := heap_alloc_new (w.alloc (.cells #[.int .u8 a, .int .u8 f, .int .u8 b, .int .u8 c, .int .u8 d, .int .u8 e, .int .u8 h, .int .u8 l, .int .u16 s, .int .u16 p] 24)) (.cells #[.int .u8 0, .int .u8 0, .int .u8 0, .int .u8 0, .int .u8 0, .int .u8 0, .int .u8 0, .int .u8 0, .int .u16 0, .int .u16 0] 24)
  rw [e1] at zN
  change bodyPost _ _ _ _ _ ((((w.alloc (.cells #[.int .u8 a, .int .u8 f, .int .u8 b, .int .u8 c, .int .u8 d, .int .u8 e, .int .u8 h, .int .u8 l, .int .u16 s, .int .u16 p] 24)).alloc (.cells #[.int .u8 0, .int .u8 0, .int .u8 0, .int .u8 0, .int .u8 0, .int .u8 0, .int .u8 0, .int .u8 0, .int .u16 0, .int .u16 0] 24)).drewN nd).setCells (w.heap.size + 1) 0 [.int .u8 0, .int .u8 0, .int .u8 0, .int .u8 0, .int .u8 0, .int .u8 0, .int .u8 0, .int .u8 0, .int .u16 0, .int .u16 0])
  have z2 : (((w.alloc (.cells #[.int .u8 a, .int .u8 f, .int .u8 b, .int .u8 c, .int .u8 d, .int .u8 e, .int .u8 h, .int .u8 l, .int .u16 s, .int .u16 p] 24)).alloc (.cells #[.int .u8 0, .int .u8 0, .int .u8 0, .int .u8 0, .int .u8 0, .int .u8 0, .int .u8 0, .int .u8 0, .int .u16 0, .int .u16 0] 24)).drewN nd).heap[w.heap.size + 1]? = some (.cells #[.int .u8 0, .int .u8 0, .int .u8 0, .int .u8 0, .int .u8 0, .int .u8 0, .int .u8 0, .int .u8 0, .int .u16 0, .int .u16 0] 24) := zN
  have hbl : Below w.heap.size w (((w.alloc (.cells #[.int .u8 a, .int .u8 f, .int .u8 b, .int .u8 c, .int .u8 d, .int .u8 e, .int .u8 h, .int .u8 l, .int .u16 s, .int .u16 p] 24)).alloc (.cells #[.int .u8 0, .int .u8 0, .int .u8 0, .int .u8 0, .int .u8 0, .int .u8 0, .int .u8 0, .int .u8 0, .int .u16 0, .int .u16 0] 24)).drewN nd) := pw_below_drewN (below_alloc (below_alloc (Below.refl _ _) _) _) _
  generalize (((w.alloc (.cells #[.int .u8 a, .int .u8 f, .int .u8 b, .int .u8 c, .int .u8 d, .int .u8 e, .int .u8 h, .int .u8 l, .int .u16 s, .int .u16 p] 24)).alloc (.cells #[.int .u8 0, .int .u8 0, .int .u8 0, .int .u8 0, .int .u8 0, .int .u8 0, .int .u8 0, .int .u8 0, .int .u16 0, .int .u16 0] 24)).drewN nd) = w2 at *
  have u0 := put_cells w2 (w.heap.size + 1) _ _ z2 [.int .u8 0, .int .u8 0, .int .u8 0, .int .u8 0, .int .u8 0, .int .u8 0, .int .u8 0, .int .u8 0, .int .u16 0, .int .u16 0] rfl 0 _ rfl
  have u1 := put_cells w2 (w.heap.size + 1) _ _ z2 [.int .u8 0, .int .u8 0, .int .u8 0, .int .u8 0, .int .u8 0, .int .u8 0, .int .u8 0, .int .u8 0, .int .u16 0, .int .u16 0] rfl 1 _ rfl
  have u2 := put_cells w2 (w.heap.size + 1) _ _ z2 [.int .u8 0, .int .u8 0, .int .u8 0, .int .u8 0, .int .u8 0, .int .u8 0, .int .u8 0, .int .u8 0, .int .u16 0, .int .u16 0] rfl 2 _ rfl
  have u3 := put_cells w2 (w.heap.size + 1) _ _ z2 [.int .u8 0, .int .u8 0, .int .u8 0, .int .u8 0, .int .u8 0, .int .u8 0, .int .u8 0, .int .u8 0, .int .u16 0, .int .u16 0] rfl 3 _ rfl
  have u4 := put_cells w2 (w.heap.size + 1) _ _ z2 [.int .u8 0, .int .u8 0, .int .u8 0, .int .u8 0, .int .u8 0, .int .u8 0, .int .u8 0, .int .u8 0, .int .u16 0, .int .u16 0] rfl 4 _ rfl
  have u5 := put_cells w2 (w.heap.size + 1) _ _ z2 [.int .u8 0, .int .u8 0, .int .u8 0, .int .u8 0, .int .u8 0, .int .u8 0, .int .u8 0, .int .u8 0, .int .u16 0, .int .u16 0] rfl 5 _ rfl
  have u6 := put_cells w2 (w.heap.size + 1) _ _ z2 [.int .u8 0, .int .u8 0, .int .u8 0, .int .u8 0, .int .u8 0, .int .u8 0, .int .u8 0, .int .u8 0, .int .u16 0, .int .u16 0] rfl 6 _ rfl
  have u7 := put_cells w2 (w.heap.size + 1) _ _ z2 [.int .u8 0, .int .u8 0, .int .u8 0, .int .u8 0, .int .u8 0, .int .u8 0, .int .u8 0, .int .u8 0, .int .u16 0, .int .u16 0] rfl 7 _ rfl
  have u8 := put_cells w2 (w.heap.size + 1) _ _ z2 [.int .u8 0, .int .u8 0, .int .u8 0, .int .u8 0, .int .u8 0, .int .u8 0, .int .u8 0, .int .u8 0, .int .u16 0, .int .u16 0] rfl 8 _ rfl
  have u9 := put_cells w2 (w.heap.size + 1) _ _ z2 [.int .u8 0, .int .u8 0, .int .u8 0, .int .u8 0, .int .u8 0, .int .u8 0, .int .u8 0, .int .u8 0, .int .u16 0, .int .u16 0] rfl 9 _ rfl
  have hbm := put_below w2 w.heap.size (w.heap.size + 1) (by omega) [.int .u8 0, .int .u8 0, .int .u8 0, .int .u8 0, .int .u8 0, .int .u8 0, .int .u8 0, .int .u8 0, .int .u16 0, .int .u16 0] w hbl
  generalize w2.setCells (w.heap.size + 1) 0 [.int .u8 0, .int .u8 0, .int .u8 0, .int .u8 0, .int .u8 0, .int .u8 0, .int .u8 0, .int .u8 0, .int .u16 0, .int .u16 0] = W3 at *
  exact bodyPost_ret (v := .tuple #[.agg #[.int .u8 0, .int .u8 0, .int .u8 0, .int .u8 0, .int .u8 0, .int .u8 0, .int .u8 0, .int .u8 0, .int .u16 0, .int .u16 0], .int .i64 q]) (by simp [results, Try.results19, go_sem, u0, u1, u2, u3, u4, u5, u6, u7, u8, u9]) rfl ⟨rfl, hbm⟩
def regs_Put.f (a0_0 : Int) (a0_1 : Int) (a0_2 : Int) (a0_3 : Int) (a0_4 : Int) (a0_5 : Int) (a0_6 : Int) (a0_7 : Int) (a0_8 : Int) (a0_9 : Int) (a1 a2 : Int) : Option (Int × Int × Int × Int × Int × Int × Int × Int × Int × Int × Int) :=
  if a1 < 0 ∨ 7 < a1 then some (0, 0, 0, 0, 0, 0, 0, 0, 0, 0, 1) else if a1 = 6 then some (0, 0, 0, 0, 0, 0, 0, 0, 0, 0, 7) else if a1 = 0 then some (a0_0, a0_1, a2, a0_3, a0_4, a0_5, a0_6, a0_7, a0_8, a0_9, 0) else if a1 = 1 then some (a0_0, a0_1, a0_2, a2, a0_4, a0_5, a0_6, a0_7, a0_8, a0_9, 0) else if a1 = 2 then some (a0_0, a0_1, a0_2, a0_3, a2, a0_5, a0_6, a0_7, a0_8, a0_9, 0) else if a1 = 3 then some (a0_0, a0_1, a0_2, a0_3, a0_4, a2, a0_6, a0_7, a0_8, a0_9, 0) else if a1 = 4 then some (a0_0, a0_1, a0_2, a0_3, a0_4, a0_5, a2, a0_7, a0_8, a0_9, 0) else if a1 = 5 then some (a0_0, a0_1, a0_2, a0_3, a0_4, a0_5, a0_6, a2, a0_8, a0_9, 0) else some (a2, a0_1, a0_2, a0_3, a0_4, a0_5, a0_6, a0_7, a0_8, a0_9, 0)
theorem regs_Put.calls (a0_0 : Int) (a0_1 : Int) (a0_2 : Int) (a0_3 : Int) (a0_4 : Int) (a0_5 : Int) (a0_6 : Int) (a0_7 : Int) (a0_8 : Int) (a0_9 : Int) (a1 a2 : Int) (r1_0 r1_1 r1_2 r1_3 r1_4 r1_5 r1_6 r1_7 r1_8 r1_9 r2 : Int) (w : World) (h : regs_Put.f a0_0 a0_1 a0_2 a0_3 a0_4 a0_5 a0_6 a0_7 a0_8 a0_9 a1 a2 = some (r1_0, r1_1, r1_2, r1_3, r1_4, r1_5, r1_6, r1_7, r1_8, r1_9, r2)) :
    Calls Try.prog 19 #[.agg #[.int .u8 a0_0, .int .u8 a0_1, .int .u8 a0_2, .int .u8 a0_3, .int .u8 a0_4, .int .u8 a0_5, .int .u8 a0_6, .int .u8 a0_7, .int .u16 a0_8, .int .u16 a0_9], .int .i64 a1, .int .u8 a2] w fun e w' => e = .returned (.tuple #[.agg #[.int .u8 r1_0, .int .u8 r1_1, .int .u8 r1_2, .int .u8 r1_3, .int .u8 r1_4, .int .u8 r1_5, .int .u8 r1_6, .int .u8 r1_7, .int .u16 r1_8, .int .u16 r1_9], .int .i64 r2]) ∧ Below w.heap.size w w' := by
  unfold regs_Put.f at h
  by_cases c9 : a1 < 0 ∨ 7 < a1
  · rw [if_pos c9] at h
    simp only [Option.some.injEq, Prod.mk.injEq] at h
    obtain ⟨rfl, rfl, rfl, rfl, rfl, rfl, rfl, rfl, rfl, rfl, rfl⟩ := h
    exact put_no _ _ _ _ _ _ _ _ _ _ a1 a2 1 (by decide) (may_out a1 c9) w
  rw [if_neg c9] at h
  by_cases c6 : a1 = 6
  · rw [if_pos c6] at h
    simp only [Option.some.injEq, Prod.mk.injEq] at h
    obtain ⟨rfl, rfl, rfl, rfl, rfl, rfl, rfl, rfl, rfl, rfl, rfl⟩ := h
    subst c6
    exact put_no _ _ _ _ _ _ _ _ _ _ 6 a2 7 (by decide) may_six w
  rw [if_neg c6] at h
  by_cases c0 : a1 = 0
  · rw [if_pos c0] at h
    simp only [Option.some.injEq, Prod.mk.injEq] at h
    obtain ⟨rfl, rfl, rfl, rfl, rfl, rfl, rfl, rfl, rfl, rfl, rfl⟩ := h
    subst c0
    exact put0 _ _ _ _ _ _ _ _ _ _ a2 w
  rw [if_neg c0] at h
  by_cases c1 : a1 = 1
  · rw [if_pos c1] at h
    simp only [Option.some.injEq, Prod.mk.injEq] at h
    obtain ⟨rfl, rfl, rfl, rfl, rfl, rfl, rfl, rfl, rfl, rfl, rfl⟩ := h
    subst c1
    exact put1 _ _ _ _ _ _ _ _ _ _ a2 w
  rw [if_neg c1] at h
  by_cases c2 : a1 = 2
  · rw [if_pos c2] at h
    simp only [Option.some.injEq, Prod.mk.injEq] at h
    obtain ⟨rfl, rfl, rfl, rfl, rfl, rfl, rfl, rfl, rfl, rfl, rfl⟩ := h
    subst c2
    exact put2 _ _ _ _ _ _ _ _ _ _ a2 w
  rw [if_neg c2] at h
  by_cases c3 : a1 = 3
  · rw [if_pos c3] at h
    simp only [Option.some.injEq, Prod.mk.injEq] at h
    obtain ⟨rfl, rfl, rfl, rfl, rfl, rfl, rfl, rfl, rfl, rfl, rfl⟩ := h
    subst c3
    exact put3 _ _ _ _ _ _ _ _ _ _ a2 w
  rw [if_neg c3] at h
  by_cases c4 : a1 = 4
  · rw [if_pos c4] at h
    simp only [Option.some.injEq, Prod.mk.injEq] at h
    obtain ⟨rfl, rfl, rfl, rfl, rfl, rfl, rfl, rfl, rfl, rfl, rfl⟩ := h
    subst c4
    exact put4 _ _ _ _ _ _ _ _ _ _ a2 w
  rw [if_neg c4] at h
  by_cases c5 : a1 = 5
  · rw [if_pos c5] at h
    simp only [Option.some.injEq, Prod.mk.injEq] at h
    obtain ⟨rfl, rfl, rfl, rfl, rfl, rfl, rfl, rfl, rfl, rfl, rfl⟩ := h
    subst c5
    exact put5 _ _ _ _ _ _ _ _ _ _ a2 w
  rw [if_neg c5] at h
  simp only [Option.some.injEq, Prod.mk.injEq] at h
  obtain ⟨rfl, rfl, rfl, rfl, rfl, rfl, rfl, rfl, rfl, rfl, rfl⟩ := h
  obtain rfl : a1 = 7 := by omega
  exact put7 _ _ _ _ _ _ _ _ _ _ a2 w
end Go.Proofs.Ythkoofidnaghcaa.Hand
