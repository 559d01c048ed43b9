/- clock.Run by hand: so many seconds later. -/
import Derived.Test.YtkfjofkocccefaaG2
import Derived.Test.YtkfjofkocccefaaHTick
import Derived.Test.YtkfjofkocccefaaG1
import Derived.Deep.MidRow
import Derived.Handy
namespace Go.Proofs.Ytkfjofkocccefaa.Hand
open Go.RowKit
open Go.Proofs.Ytkfjofkocccefaa.G
open Go.Proofs.YtkfjofkocccefaaW.PrintWords Go.Proofs.YtkfjofkocccefaaW.PrintLast Go.Proofs.YtkfjofkocccefaaW.PrintMore
set_option linter.unusedVariables false
attribute [local go_sem high] eqA24
/-! ### clock_Run: function 21 -/
mutual
def clock_Run.j0 : Nat → Int → Bool → Int → Int → Int → Int → Bool → Bool → Option (Int × Int × Int × Int × Bool × Bool × Int)
  | 0, _, _, _, _, _, _, _, _ => none
  | k + 1, x1, x12, x207000, x207001, x207002, x207003, x207004, x207005 => if x12 = true then (some (0, 0, 0, 0, false, false, 1)) else ((clock_Norm.f x207000 x207001 x207002 x207003 x207004 x207005).bind fun bt208 => (clock_Run.l0 k x1 0 bt208.1 bt208.2.1 bt208.2.2.1 bt208.2.2.2.1 bt208.2.2.2.2.1 bt208.2.2.2.2.2))
def clock_Run.l0 : Nat → Int → Int → Int → Int → Int → Int → Bool → Bool → Option (Int × Int × Int × Int × Bool × Bool × Int)
  | 0, _, _, _, _, _, _, _, _ => none
  | k + 1, x16, x17, x207000, x207001, x207002, x207003, x207004, x207005 => if x17 < x16 then ((clock_Tick.f x207000 x207001 x207002 x207003 x207004 x207005).bind fun bt214 => (if (bt214.1 == x207000 && (bt214.2.1 == x207001 && (bt214.2.2.1 == x207002 && (bt214.2.2.2.1 == x207003 && (bt214.2.2.2.2.1 == x207004 && (bt214.2.2.2.2.2 == x207005)))))) = true then (some (x207000, x207001, x207002, x207003, x207004, x207005, 0)) else (clock_Run.l0 k x16 (wrap64 (x17 + 1)) bt214.1 bt214.2.1 bt214.2.2.1 bt214.2.2.2.1 bt214.2.2.2.2.1 bt214.2.2.2.2.2))) else (some (x207000, x207001, x207002, x207003, x207004, x207005, 0))
end
def clock_Run.f (k : Nat) (a0_0 : Int) (a0_1 : Int) (a0_2 : Int) (a0_3 : Int) (a0_4 : Bool) (a0_5 : Bool) (a1 : Int) : Option (Int × Int × Int × Int × Bool × Bool × Int) := if a1 < 0 then (clock_Run.j0 k a1 true a0_0 a0_1 a0_2 a0_3 a0_4 a0_5) else (clock_Run.j0 k a1 (decide (a1 > 100000)) a0_0 a0_1 a0_2 a0_3 a0_4 a0_5)
theorem clock_Run.mono_l : ∀ k, (∀ y0 y1 y2 y3 y4 y5 y6 y7, LeO (clock_Run.j0 k y0 y1 y2 y3 y4 y5 y6 y7) (clock_Run.j0 (k + 1) y0 y1 y2 y3 y4 y5 y6 y7)) ∧ (∀ y0 y1 y2 y3 y4 y5 y6 y7, LeO (clock_Run.l0 k y0 y1 y2 y3 y4 y5 y6 y7) (clock_Run.l0 (k + 1) y0 y1 y2 y3 y4 y5 y6 y7))
  | 0 => ⟨fun _ _ _ _ _ _ _ _ r h => by simp [clock_Run.j0] at h, fun _ _ _ _ _ _ _ _ r h => by simp [clock_Run.l0] at h⟩
  | k + 1 => by
    obtain ⟨ih0, ih1⟩ := clock_Run.mono_l k
    refine ⟨?_, ?_⟩
    · intro y0 y1 y2 y3 y4 y5 y6 y7
      unfold clock_Run.j0
      repeat' first
      | (with_reducible exact ih0 _ _ _ _ _ _ _ _)
      | (with_reducible exact ih1 _ _ _ _ _ _ _ _)
      | (with_reducible exact LeO.refl _)
      | (with_reducible exact LeO.none _)
      | (with_reducible refine LeO.ite ?_ ?_)
      | (with_reducible refine LeO.bind ?_ (fun _ => ?_))
      | exact ih0 _ _ _ _ _ _ _ _
      | exact ih1 _ _ _ _ _ _ _ _
      | exact LeO.none _
      | refine LeO.ite ?_ ?_
      | refine LeO.bind ?_ (fun _ => ?_)
    · intro y0 y1 y2 y3 y4 y5 y6 y7
      unfold clock_Run.l0
      repeat' first
      | (with_reducible exact ih0 _ _ _ _ _ _ _ _)
      | (with_reducible exact ih1 _ _ _ _ _ _ _ _)
      | (with_reducible exact LeO.refl _)
      | (with_reducible exact LeO.none _)
      | (with_reducible refine LeO.ite ?_ ?_)
      | (with_reducible refine LeO.bind ?_ (fun _ => ?_))
      | exact ih0 _ _ _ _ _ _ _ _
      | exact ih1 _ _ _ _ _ _ _ _
      | exact LeO.none _
      | refine LeO.ite ?_ ?_
      | refine LeO.bind ?_ (fun _ => ?_)
theorem clock_Run.mono : ∀ a0 a1 a2 a3 a4 a5 a6 k, LeO (clock_Run.f k a0 a1 a2 a3 a4 a5 a6) (clock_Run.f (k + 1) a0 a1 a2 a3 a4 a5 a6) := by
  intro a0 a1 a2 a3 a4 a5 a6 k
  obtain ⟨ih0, ih1⟩ := clock_Run.mono_l k
  unfold clock_Run.f
  repeat' first
      | (with_reducible exact ih0 _ _ _ _ _ _ _ _)
      | (with_reducible exact ih1 _ _ _ _ _ _ _ _)
      | (with_reducible exact LeO.refl _)
      | (with_reducible exact LeO.none _)
      | (with_reducible refine LeO.ite ?_ ?_)
      | (with_reducible refine LeO.bind ?_ (fun _ => ?_))
      | exact ih0 _ _ _ _ _ _ _ _
      | exact ih1 _ _ _ _ _ _ _ _
      | exact LeO.none _
      | refine LeO.ite ?_ ?_
      | refine LeO.bind ?_ (fun _ => ?_)
theorem blk_at1 (w : World) (A B : Obj) : ((w.alloc A).alloc B).heap[w.heap.size + 1]? = some B := by
  have z := heap_alloc_new (w.alloc A) B
  have e : (w.alloc A).heap.size = w.heap.size + 1 := by simp
  rwa [e] at z

set_option maxRecDepth 100000 in
set_option maxHeartbeats 4000000 in
theorem run_in (k : Nat) (a0_0 a0_1 a0_2 a0_3 : Int) (a0_4 a0_5 : Bool) (a1 : Int) (r1 r2 r3 r4 : Int) (r5 r6 : Bool) (r7 : Int) (h0 : ¬ a1 < 0) (h1 : ¬ a1 > 100000) (hr : clock_Run.l0 k a1 0 (Go.bits .and .u8 a0_0 63) (Go.bits .and .u8 a0_1 63) (Go.bits .and .u8 a0_2 31) (Go.bits .and .u16 a0_3 511) a0_4 a0_5 = some (r1, r2, r3, r4, r5, r6, r7)) (w : World) :
    Calls Try.prog 21 #[.agg #[.int .u8 a0_0, .int .u8 a0_1, .int .u8 a0_2, .int .u16 a0_3, .bool a0_4, .bool a0_5], .int .i64 a1] w fun e w' => e = .returned (.tuple #[.agg #[.int .u8 r1, .int .u8 r2, .int .u8 r3, .int .u16 r4, .bool r5, .bool r6], .int .i64 r7]) ∧ Below w.heap.size w w' := by
  have HR := Aside0.mk hr
  clear hr
  go_enter Try.func21, Try.ntmps21
  go_wp2
  go_loopw [17] (fun i w' => ∃ (j : Nat) (kk : Nat) (s m h d : Int) (ht cy : Bool), i = .int .i64 j ∧ Aside0 ((j : Int) ≤ a1 ∧ w'.heap[w.heap.size]? = some (.cells #[.int .u8 s, .int .u8 m, .int .u8 h, .int .u16 d, .bool ht, .bool cy] 24 (0, 0)) ∧ w'.heap[w.heap.size + 1]? = some (.cells #[.int .u8 0, .int .u8 0, .int .u8 0, .int .u16 0, .bool false, .bool false] 24 (0, 0)) ∧ Below w.heap.size w w' ∧ clock_Run.l0 kk a1 j s m h d ht cy = some (r1, r2, r3, r4, r5, r6, r7))) (fun i _ => 100000 - (intOf i).toNat)
  case atStart =>
    refine ⟨0, k, _, _, _, _, _, _, rfl, Aside0.mk ⟨by omega, ?_, ?_, ?_, HR.out⟩⟩
    · repeat (first | exact blk_new _ _ | refine blk_alloc ?_ _)
    · repeat (first | (with_reducible exact blk_at1 _ _ _) | refine blk_alloc ?_ _)
    · go_grown
  case round =>
    obtain ⟨j, kk, s, m, h, d, ht, cy, rfl, HA⟩ := hrel
    obtain ⟨hj, bk, br, hb, H⟩ := HA.out
    clear HA
    have BK := Aside0.mk bk
    have BR := Aside0.mk br
    have HB := Aside0.mk hb
    clear bk br hb
    have hsz : w.heap.size + 1 < wr.heap.size := blk_lt BR.out
    obtain ⟨kk, rfl⟩ : ∃ q, kk = q + 1 := by cases kk with | zero => simp [clock_Run.l0] at H | succ q => exact ⟨q, rfl⟩
    simp only [clock_Run.l0] at H
    have c0 : wr.cell? ⟨w.heap.size, 0, none⟩ = some (.int .u8 s) := (blk_cell BK.out 0).trans rfl
    have c1 : wr.cell? ⟨w.heap.size, 1, none⟩ = some (.int .u8 m) := (blk_cell BK.out 1).trans rfl
    have c2 : wr.cell? ⟨w.heap.size, 2, none⟩ = some (.int .u8 h) := (blk_cell BK.out 2).trans rfl
    have c3 : wr.cell? ⟨w.heap.size, 3, none⟩ = some (.int .u16 d) := (blk_cell BK.out 3).trans rfl
    have c4 : wr.cell? ⟨w.heap.size, 4, none⟩ = some (.bool ht) := (blk_cell BK.out 4).trans rfl
    have c5 : wr.cell? ⟨w.heap.size, 5, none⟩ = some (.bool cy) := (blk_cell BK.out 5).trans rfl
    have z0 : wr.cell? ⟨(w.heap.size + 1), 0, none⟩ = some (.int .u8 0) := (blk_cell BR.out 0).trans rfl
    have z1 : wr.cell? ⟨(w.heap.size + 1), 1, none⟩ = some (.int .u8 0) := (blk_cell BR.out 1).trans rfl
    have z2 : wr.cell? ⟨(w.heap.size + 1), 2, none⟩ = some (.int .u8 0) := (blk_cell BR.out 2).trans rfl
    have z3 : wr.cell? ⟨(w.heap.size + 1), 3, none⟩ = some (.int .u16 0) := (blk_cell BR.out 3).trans rfl
    have z4 : wr.cell? ⟨(w.heap.size + 1), 4, none⟩ = some (.bool false) := (blk_cell BR.out 4).trans rfl
    have z5 : wr.cell? ⟨(w.heap.size + 1), 5, none⟩ = some (.bool false) := (blk_cell BR.out 5).trans rfl
    have fz := fun i => blk_frozen BK.out i
    have fr := fun i => blk_frozen BR.out i
    by_cases hlt : (j : Int) < a1
    · rw [if_pos hlt] at H
      obtain ⟨⟨t1, t2, t3, t4, t5, t6⟩, A, H⟩ := Option.bind_eq_some_iff.mp H
      dsimp only at H
      have HT := Aside0.mk A
      clear A
      by_cases hq : (t1 == s && (t2 == m && (t3 == h && (t4 == d && (t5 == ht && (t6 == cy)))))) = true
      · rw [if_pos hq] at H
        have HH := Aside0.mk H
        clear H
        go_wp2_with (first | (go_at_call 13; ((with_reducible refine (clock_Tick.calls s m h d ht cy t1 t2 t3 t4 t5 t6 _ HT.out).mono ?_)); rintro e' w1 ⟨rfl, hb⟩; have n0 := Aside0.mk (blk_below BK.out hb); have n1 := Aside0.mk (blk_below BR.out hb); have n2 := Aside0.mk (below_step HB.out hb); clear hb BK BR HB c0 c1 c2 c3 c4 c5 z0 z1 z2 z3 z4 z5 fz fr; have hq1 : ¬ w.heap.size = w1.heap.size := Nat.ne_of_lt (blk_lt n0.out); have hq2 : ¬ w.heap.size + 1 = w1.heap.size := Nat.ne_of_lt (blk_lt n1.out); have c0 : ∀ o, (w1.alloc o).cell? ⟨w.heap.size, 0, none⟩ = some (.int .u8 s) := fun o => (blk_cell (blk_alloc n0.out o) 0).trans rfl; have c1 : ∀ o, (w1.alloc o).cell? ⟨w.heap.size, 1, none⟩ = some (.int .u8 m) := fun o => (blk_cell (blk_alloc n0.out o) 1).trans rfl; have c2 : ∀ o, (w1.alloc o).cell? ⟨w.heap.size, 2, none⟩ = some (.int .u8 h) := fun o => (blk_cell (blk_alloc n0.out o) 2).trans rfl; have c3 : ∀ o, (w1.alloc o).cell? ⟨w.heap.size, 3, none⟩ = some (.int .u16 d) := fun o => (blk_cell (blk_alloc n0.out o) 3).trans rfl; have c4 : ∀ o, (w1.alloc o).cell? ⟨w.heap.size, 4, none⟩ = some (.bool ht) := fun o => (blk_cell (blk_alloc n0.out o) 4).trans rfl; have c5 : ∀ o, (w1.alloc o).cell? ⟨w.heap.size, 5, none⟩ = some (.bool cy) := fun o => (blk_cell (blk_alloc n0.out o) 5).trans rfl; have z0 : ∀ o, (w1.alloc o).cell? ⟨(w.heap.size + 1), 0, none⟩ = some (.int .u8 0) := fun o => (blk_cell (blk_alloc n1.out o) 0).trans rfl; have z1 : ∀ o, (w1.alloc o).cell? ⟨(w.heap.size + 1), 1, none⟩ = some (.int .u8 0) := fun o => (blk_cell (blk_alloc n1.out o) 1).trans rfl; have z2 : ∀ o, (w1.alloc o).cell? ⟨(w.heap.size + 1), 2, none⟩ = some (.int .u8 0) := fun o => (blk_cell (blk_alloc n1.out o) 2).trans rfl; have z3 : ∀ o, (w1.alloc o).cell? ⟨(w.heap.size + 1), 3, none⟩ = some (.int .u16 0) := fun o => (blk_cell (blk_alloc n1.out o) 3).trans rfl; have z4 : ∀ o, (w1.alloc o).cell? ⟨(w.heap.size + 1), 4, none⟩ = some (.bool false) := fun o => (blk_cell (blk_alloc n1.out o) 4).trans rfl; have z5 : ∀ o, (w1.alloc o).cell? ⟨(w.heap.size + 1), 5, none⟩ = some (.bool false) := fun o => (blk_cell (blk_alloc n1.out o) 5).trans rfl; have fz : ∀ o i, (w1.alloc o).frozen? ⟨w.heap.size, i, none⟩ = false := fun o i => blk_frozen (blk_alloc n0.out o) i; have fr : ∀ o i, (w1.alloc o).frozen? ⟨w.heap.size + 1, i, none⟩ = false := fun o i => blk_frozen (blk_alloc n1.out o) i))
        have hh := HH.out
        clear HH
        simp only [Option.some.injEq, Prod.mk.injEq] at hh
        obtain ⟨rfl, rfl, rfl, rfl, rfl, rfl, rfl⟩ := hh
        have m1 : (((((((w1.alloc (.cells #[.int .u8 t1, .int .u8 t2, .int .u8 t3, .int .u16 t4, .bool t5, .bool t6] 24)).setCell ⟨w.heap.size + 1, 0, none⟩ (.int .u8 s)).setCell ⟨w.heap.size + 1, 1, none⟩ (.int .u8 m)).setCell ⟨w.heap.size + 1, 2, none⟩ (.int .u8 h)).setCell ⟨w.heap.size + 1, 3, none⟩ (.int .u16 d)).setCell ⟨w.heap.size + 1, 4, none⟩ (.bool ht)).setCell ⟨w.heap.size + 1, 5, none⟩ (.bool cy)).heap[w.heap.size + 1]? = some (.cells #[.int .u8 s, .int .u8 m, .int .u8 h, .int .u16 d, .bool ht, .bool cy] 24 (0, 0)) := (blk_put (blk_put (blk_put (blk_put (blk_put (blk_put (blk_alloc n1.out _) 0 _ rfl) 1 _ rfl) 2 _ rfl) 3 _ rfl) 4 _ rfl) 5 _ rfl)
        have m2 : Below w.heap.size w (((((((w1.alloc (.cells #[.int .u8 t1, .int .u8 t2, .int .u8 t3, .int .u16 t4, .bool t5, .bool t6] 24)).setCell ⟨w.heap.size + 1, 0, none⟩ (.int .u8 s)).setCell ⟨w.heap.size + 1, 1, none⟩ (.int .u8 m)).setCell ⟨w.heap.size + 1, 2, none⟩ (.int .u8 h)).setCell ⟨w.heap.size + 1, 3, none⟩ (.int .u16 d)).setCell ⟨w.heap.size + 1, 4, none⟩ (.bool ht)).setCell ⟨w.heap.size + 1, 5, none⟩ (.bool cy)) := (below_set (below_set (below_set (below_set (below_set (below_set (below_alloc n2.out _) (Nat.le_succ _)) (Nat.le_succ _)) (Nat.le_succ _)) (Nat.le_succ _)) (Nat.le_succ _)) (Nat.le_succ _))
        generalize (((((((w1.alloc (.cells #[.int .u8 t1, .int .u8 t2, .int .u8 t3, .int .u16 t4, .bool t5, .bool t6] 24)).setCell ⟨w.heap.size + 1, 0, none⟩ (.int .u8 s)).setCell ⟨w.heap.size + 1, 1, none⟩ (.int .u8 m)).setCell ⟨w.heap.size + 1, 2, none⟩ (.int .u8 h)).setCell ⟨w.heap.size + 1, 3, none⟩ (.int .u16 d)).setCell ⟨w.heap.size + 1, 4, none⟩ (.bool ht)).setCell ⟨w.heap.size + 1, 5, none⟩ (.bool cy)) = Y at m1 m2 ⊢
        have u0 : Y.cell? ⟨w.heap.size + 1, 0, none⟩ = some (.int .u8 s) := (blk_cell m1 0).trans rfl
        have u1 : Y.cell? ⟨w.heap.size + 1, 1, none⟩ = some (.int .u8 m) := (blk_cell m1 1).trans rfl
        have u2 : Y.cell? ⟨w.heap.size + 1, 2, none⟩ = some (.int .u8 h) := (blk_cell m1 2).trans rfl
        have u3 : Y.cell? ⟨w.heap.size + 1, 3, none⟩ = some (.int .u16 d) := (blk_cell m1 3).trans rfl
        have u4 : Y.cell? ⟨w.heap.size + 1, 4, none⟩ = some (.bool ht) := (blk_cell m1 4).trans rfl
        have u5 : Y.cell? ⟨w.heap.size + 1, 5, none⟩ = some (.bool cy) := (blk_cell m1 5).trans rfl
        exact bodyPost_ret (v := .tuple #[.agg #[.int .u8 s, .int .u8 m, .int .u8 h, .int .u16 d, .bool ht, .bool cy], .int .i64 0]) (by simp [results, Try.results21, go_sem, u0, u1, u2, u3, u4, u5]) rfl ⟨rfl, m2⟩
      · rw [if_neg hq] at H
        have hq : (t1 == s && (t2 == m && (t3 == h && (t4 == d && (t5 == ht && (t6 == cy)))))) = false := by simpa using hq
        have HH := Aside0.mk H
        clear H
        go_wp2_with (first | (go_at_call 13; ((with_reducible refine (clock_Tick.calls s m h d ht cy t1 t2 t3 t4 t5 t6 _ HT.out).mono ?_)); rintro e' w1 ⟨rfl, hb⟩; have n0 := Aside0.mk (blk_below BK.out hb); have n1 := Aside0.mk (blk_below BR.out hb); have n2 := Aside0.mk (below_step HB.out hb); clear hb BK BR HB c0 c1 c2 c3 c4 c5 z0 z1 z2 z3 z4 z5 fz fr; have hq1 : ¬ w.heap.size = w1.heap.size := Nat.ne_of_lt (blk_lt n0.out); have hq2 : ¬ w.heap.size + 1 = w1.heap.size := Nat.ne_of_lt (blk_lt n1.out); have c0 : ∀ o, (w1.alloc o).cell? ⟨w.heap.size, 0, none⟩ = some (.int .u8 s) := fun o => (blk_cell (blk_alloc n0.out o) 0).trans rfl; have c1 : ∀ o, (w1.alloc o).cell? ⟨w.heap.size, 1, none⟩ = some (.int .u8 m) := fun o => (blk_cell (blk_alloc n0.out o) 1).trans rfl; have c2 : ∀ o, (w1.alloc o).cell? ⟨w.heap.size, 2, none⟩ = some (.int .u8 h) := fun o => (blk_cell (blk_alloc n0.out o) 2).trans rfl; have c3 : ∀ o, (w1.alloc o).cell? ⟨w.heap.size, 3, none⟩ = some (.int .u16 d) := fun o => (blk_cell (blk_alloc n0.out o) 3).trans rfl; have c4 : ∀ o, (w1.alloc o).cell? ⟨w.heap.size, 4, none⟩ = some (.bool ht) := fun o => (blk_cell (blk_alloc n0.out o) 4).trans rfl; have c5 : ∀ o, (w1.alloc o).cell? ⟨w.heap.size, 5, none⟩ = some (.bool cy) := fun o => (blk_cell (blk_alloc n0.out o) 5).trans rfl; have z0 : ∀ o, (w1.alloc o).cell? ⟨(w.heap.size + 1), 0, none⟩ = some (.int .u8 0) := fun o => (blk_cell (blk_alloc n1.out o) 0).trans rfl; have z1 : ∀ o, (w1.alloc o).cell? ⟨(w.heap.size + 1), 1, none⟩ = some (.int .u8 0) := fun o => (blk_cell (blk_alloc n1.out o) 1).trans rfl; have z2 : ∀ o, (w1.alloc o).cell? ⟨(w.heap.size + 1), 2, none⟩ = some (.int .u8 0) := fun o => (blk_cell (blk_alloc n1.out o) 2).trans rfl; have z3 : ∀ o, (w1.alloc o).cell? ⟨(w.heap.size + 1), 3, none⟩ = some (.int .u16 0) := fun o => (blk_cell (blk_alloc n1.out o) 3).trans rfl; have z4 : ∀ o, (w1.alloc o).cell? ⟨(w.heap.size + 1), 4, none⟩ = some (.bool false) := fun o => (blk_cell (blk_alloc n1.out o) 4).trans rfl; have z5 : ∀ o, (w1.alloc o).cell? ⟨(w.heap.size + 1), 5, none⟩ = some (.bool false) := fun o => (blk_cell (blk_alloc n1.out o) 5).trans rfl; have fz : ∀ o i, (w1.alloc o).frozen? ⟨w.heap.size, i, none⟩ = false := fun o i => blk_frozen (blk_alloc n0.out o) i; have fr : ∀ o i, (w1.alloc o).frozen? ⟨w.heap.size + 1, i, none⟩ = false := fun o i => blk_frozen (blk_alloc n1.out o) i))
        have hw : wrap64 ((j : Int) + 1) = ((j + 1 : Nat) : Int) := by unfold wrap64; omega
        have hh := HH.out
        rw [hw] at hh
        refine ⟨⟨j + 1, kk, t1, t2, t3, t4, t5, t6, rfl, Aside0.mk ⟨by omega, ?_, ?_, ?_, hh⟩⟩, ?_⟩
        · exact (blk_put (blk_put (blk_put (blk_put (blk_put (blk_put (blk_alloc n0.out _) 0 _ rfl) 1 _ rfl) 2 _ rfl) 3 _ rfl) 4 _ rfl) 5 _ rfl)
        · repeat (first | (with_reducible exact blk_alloc n1.out _) | refine blk_far ?_ (by simp) _)
        · exact (below_set (below_set (below_set (below_set (below_set (below_set (below_alloc n2.out _) (Nat.le_refl _)) (Nat.le_refl _)) (Nat.le_refl _)) (Nat.le_refl _)) (Nat.le_refl _)) (Nat.le_refl _))
        · simp [intOf]; omega
    · rw [if_neg hlt] at H
      have HH := Aside0.mk H
      clear H
      go_wp2
      have hh := HH.out
      clear HH
      simp only [Option.some.injEq, Prod.mk.injEq] at hh
      obtain ⟨rfl, rfl, rfl, rfl, rfl, rfl, rfl⟩ := hh
      have m1 : ((((((wr.setCell ⟨w.heap.size + 1, 0, none⟩ (.int .u8 s)).setCell ⟨w.heap.size + 1, 1, none⟩ (.int .u8 m)).setCell ⟨w.heap.size + 1, 2, none⟩ (.int .u8 h)).setCell ⟨w.heap.size + 1, 3, none⟩ (.int .u16 d)).setCell ⟨w.heap.size + 1, 4, none⟩ (.bool ht)).setCell ⟨w.heap.size + 1, 5, none⟩ (.bool cy)).heap[w.heap.size + 1]? = some (.cells #[.int .u8 s, .int .u8 m, .int .u8 h, .int .u16 d, .bool ht, .bool cy] 24 (0, 0)) := (blk_put (blk_put (blk_put (blk_put (blk_put (blk_put BR.out 0 _ rfl) 1 _ rfl) 2 _ rfl) 3 _ rfl) 4 _ rfl) 5 _ rfl)
      have m2 : Below w.heap.size w ((((((wr.setCell ⟨w.heap.size + 1, 0, none⟩ (.int .u8 s)).setCell ⟨w.heap.size + 1, 1, none⟩ (.int .u8 m)).setCell ⟨w.heap.size + 1, 2, none⟩ (.int .u8 h)).setCell ⟨w.heap.size + 1, 3, none⟩ (.int .u16 d)).setCell ⟨w.heap.size + 1, 4, none⟩ (.bool ht)).setCell ⟨w.heap.size + 1, 5, none⟩ (.bool cy)) := (below_set (below_set (below_set (below_set (below_set (below_set HB.out (Nat.le_succ _)) (Nat.le_succ _)) (Nat.le_succ _)) (Nat.le_succ _)) (Nat.le_succ _)) (Nat.le_succ _))
      generalize ((((((wr.setCell ⟨w.heap.size + 1, 0, none⟩ (.int .u8 s)).setCell ⟨w.heap.size + 1, 1, none⟩ (.int .u8 m)).setCell ⟨w.heap.size + 1, 2, none⟩ (.int .u8 h)).setCell ⟨w.heap.size + 1, 3, none⟩ (.int .u16 d)).setCell ⟨w.heap.size + 1, 4, none⟩ (.bool ht)).setCell ⟨w.heap.size + 1, 5, none⟩ (.bool cy)) = Y at m1 m2 ⊢
      have u0 : Y.cell? ⟨w.heap.size + 1, 0, none⟩ = some (.int .u8 s) := (blk_cell m1 0).trans rfl
      have u1 : Y.cell? ⟨w.heap.size + 1, 1, none⟩ = some (.int .u8 m) := (blk_cell m1 1).trans rfl
      have u2 : Y.cell? ⟨w.heap.size + 1, 2, none⟩ = some (.int .u8 h) := (blk_cell m1 2).trans rfl
      have u3 : Y.cell? ⟨w.heap.size + 1, 3, none⟩ = some (.int .u16 d) := (blk_cell m1 3).trans rfl
      have u4 : Y.cell? ⟨w.heap.size + 1, 4, none⟩ = some (.bool ht) := (blk_cell m1 4).trans rfl
      have u5 : Y.cell? ⟨w.heap.size + 1, 5, none⟩ = some (.bool cy) := (blk_cell m1 5).trans rfl
      exact bodyPost_ret (v := .tuple #[.agg #[.int .u8 s, .int .u8 m, .int .u8 h, .int .u16 d, .bool ht, .bool cy], .int .i64 0]) (by simp [results, Try.results21, go_sem, u0, u1, u2, u3, u4, u5]) rfl ⟨rfl, m2⟩
set_option maxRecDepth 100000 in
set_option maxHeartbeats 4000000 in
theorem run_no (a0_0 a0_1 a0_2 a0_3 : Int) (a0_4 a0_5 : Bool) (a1 : Int) (h0 : a1 < 0 ∨ a1 > 100000) (w : World) :
    Calls Try.prog 21 #[.agg #[.int .u8 a0_0, .int .u8 a0_1, .int .u8 a0_2, .int .u16 a0_3, .bool a0_4, .bool a0_5], .int .i64 a1] w fun e w' => e = .returned (.tuple #[.agg #[.int .u8 0, .int .u8 0, .int .u8 0, .int .u16 0, .bool false, .bool false], .int .i64 1]) ∧ Below w.heap.size w w' := by
  rcases h0 with h0 | h0
  · go_enter Try.func21, Try.ntmps21
    go_wp2
    go_returns
    exact ⟨rfl, by go_grown⟩
  · have h1 : ¬ a1 < 0 := by omega
    go_enter Try.func21, Try.ntmps21
    go_wp2
    go_returns
    exact ⟨rfl, by go_grown⟩
theorem clock_Run.calls (k : Nat) (a0_0 a0_1 a0_2 a0_3 : Int) (a0_4 a0_5 : Bool) (a1 : Int) (r1 r2 r3 r4 : Int) (r5 r6 : Bool) (r7 : Int) (w : World) (h : clock_Run.f k a0_0 a0_1 a0_2 a0_3 a0_4 a0_5 a1 = some (r1, r2, r3, r4, r5, r6, r7)) :
    Calls Try.prog 21 #[.agg #[.int .u8 a0_0, .int .u8 a0_1, .int .u8 a0_2, .int .u16 a0_3, .bool a0_4, .bool a0_5], .int .i64 a1] w fun e w' => e = .returned (.tuple #[.agg #[.int .u8 r1, .int .u8 r2, .int .u8 r3, .int .u16 r4, .bool r5, .bool r6], .int .i64 r7]) ∧ Below w.heap.size w w' := by
  unfold clock_Run.f at h
  cases k with
  | zero => simp [clock_Run.j0] at h
  | succ k =>
    simp only [clock_Run.j0] at h
    by_cases c0 : a1 < 0
    · rw [if_pos c0, if_pos trivial] at h
      cases h
      exact run_no _ _ _ _ _ _ _ (.inl c0) w
    · rw [if_neg c0] at h
      by_cases c1 : a1 > 100000
      · rw [if_pos (decide_eq_true c1)] at h
        cases h
        exact run_no _ _ _ _ _ _ _ (.inr c1) w
      · rw [if_neg (by simpa using c1)] at h
        unfold clock_Norm.f at h
        exact run_in k _ _ _ _ _ _ _ _ _ _ _ _ _ _ c0 c1 h w
end Go.Proofs.Ytkfjofkocccefaa.Hand
