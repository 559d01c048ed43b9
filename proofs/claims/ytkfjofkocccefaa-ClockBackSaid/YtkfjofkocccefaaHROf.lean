/- whirligigref09.Of by hand: two clocks out of ten bytes. -/
import Derived.Test.YtkfjofkocccefaaHOne
import Derived.Deep.MidRow
import Derived.BigRegion
import Derived.Handy
namespace Go.Proofs.Ytkfjofkocccefaa.Hand
open Go.RowKit
open Go.Proofs.Ytkfjofkocccefaa.G
open Go.Proofs.YtkfjofkocccefaaW.PrintWords Go.Proofs.YtkfjofkocccefaaW.PrintLast Go.Proofs.YtkfjofkocccefaaW.PrintMore
set_option linter.unusedVariables false
set_option linter.unusedSimpArgs false
set_option maxRecDepth 100000 in
set_option maxHeartbeats 4000000 in
theorem rof_ok (A : Option Addr) (c : Nat) (l : List Int) (hl : l.length = 10) (x0 x1 x2 x3 : Int) (x4 x5 : Bool) (y0 y1 y2 y3 : Int) (y4 y5 : Bool) (h0 : whirligigref09_one.f (l.take 5) = some (x0, x1, x2, x3, x4, x5, true)) (h1 : whirligigref09_one.f (l.drop 5) = some (y0, y1, y2, y3, y4, y5, true)) (w : World) (hr : Kd.C (Kd.int .u8) w A l.length l) (hc : l.length ≤ c) :
    Calls Try.prog 26 #[.slice A l.length c] w fun e' w' => e' = .returned (.tuple #[.agg #[.int .u8 x0, .int .u8 x1, .int .u8 x2, .int .u16 x3, .bool x4, .bool x5], .agg #[.int .u8 y0, .int .u8 y1, .int .u8 y2, .int .u16 y3, .bool y4, .bool y5], .int .i64 0]) ∧ Below w.heap.size w w' := by
  have H0 := Aside0.mk h0
  have H1 := Aside0.mk h1
  clear h0 h1
  have HT := Aside0.mk (Kd.C_take (m := 5) hr (by omega))
  have HD := Aside0.mk (Kd.C_drop (m := 5) hr (by omega) hc)
  rw [hl] at hr hc ⊢
  obtain ⟨ad, rfl, _⟩ := Kd.at_int hr 0 (by omega) (by omega)
  clear hr
  have hc5 : (5 : Int) ≤ c := by omega
  go_enter Try.func26, Try.ntmps26
  go_wp2_with fail
  have z0 := blk_alloc (blk_new w (.cells #[.int .u8 0, .int .u8 0, .int .u8 0, .int .u16 0, .bool false, .bool false] 24)) (.cells #[.int .u8 0, .int .u8 0, .int .u8 0, .int .u16 0, .bool false, .bool false] 24)
  have z1 := heap_alloc_new (w.alloc (.cells #[.int .u8 0, .int .u8 0, .int .u8 0, .int .u16 0, .bool false, .bool false] 24)) (.cells #[.int .u8 0, .int .u8 0, .int .u8 0, .int .u16 0, .bool false, .bool false] 24)
  rw [show (w.alloc (.cells #[.int .u8 0, .int .u8 0, .int .u8 0, .int .u16 0, .bool false, .bool false] 24)).heap.size = w.heap.size + 1 by simp] at z1
  have z2 := below_alloc (below_alloc (Below.refl w.heap.size w) (.cells #[.int .u8 0, .int .u8 0, .int .u8 0, .int .u16 0, .bool false, .bool false] 24)) (.cells #[.int .u8 0, .int .u8 0, .int .u8 0, .int .u16 0, .bool false, .bool false] 24)
  generalize (w.alloc (.cells #[.int .u8 0, .int .u8 0, .int .u8 0, .int .u16 0, .bool false, .bool false] 24)).alloc (.cells #[.int .u8 0, .int .u8 0, .int .u8 0, .int .u16 0, .bool false, .bool false] 24) = W0 at z0 z1 z2 ⊢
  have q := (whirligigref09_one.calls (some ad) c (l.take 5) _ _ _ _ _ _ _ W0 (Kd.C_below HT.out z2) (by simp [hl]; omega) H0.out)
  rw [show (l.take 5).length = 5 by simp [hl]] at q
  refine q.mono ?_
  clear q
  rintro e' w1 ⟨rfl, hb⟩
  have B0 := Aside0.mk (blk_below z0 hb)
  have B1 := Aside0.mk (blk_below z1 hb)
  have B2 := Aside0.mk (Below.trans z2 (hb.mono z2.size))
  clear z0 z1 z2 hb
  go_wp2_with fail
  have v0 := blk_alloc B0.out (.cells #[.int .u8 x0, .int .u8 x1, .int .u8 x2, .int .u16 x3, .bool x4, .bool x5] 24)
  have v1 := blk_alloc B1.out (.cells #[.int .u8 x0, .int .u8 x1, .int .u8 x2, .int .u16 x3, .bool x4, .bool x5] 24)
  have v2 := below_alloc B2.out (.cells #[.int .u8 x0, .int .u8 x1, .int .u8 x2, .int .u16 x3, .bool x4, .bool x5] 24)
  have v3 := heap_alloc_new w1 (.cells #[.int .u8 x0, .int .u8 x1, .int .u8 x2, .int .u16 x3, .bool x4, .bool x5] 24)
  have g1 : w.heap.size + 1 < w1.heap.size := blk_lt B1.out
  generalize w1.alloc (.cells #[.int .u8 x0, .int .u8 x1, .int .u8 x2, .int .u16 x3, .bool x4, .bool x5] 24) = W1 at v0 v1 v2 v3 ⊢
  have HD2 := HD.out
  rw [if_neg (show ¬ c = 5 by omega)] at HD2
  have q := (whirligigref09_one.calls (some ⟨ad.block, ad.off + 5, none⟩) (c - 5) (l.drop 5) _ _ _ _ _ _ _ W1 (Kd.C_below HD2 v2) (by simp [hl]; omega) H1.out)
  rw [show (l.drop 5).length = 5 by simp [hl]] at q
  refine q.mono ?_
  clear q HD2
  rintro e' w2 ⟨rfl, hb⟩
  have C0 := Aside0.mk (blk_below v0 hb)
  have C1 := Aside0.mk (blk_below v1 hb)
  have C3 := Aside0.mk (blk_below v3 hb)
  have C2 := Aside0.mk (Below.trans v2 (hb.mono v2.size))
  clear v0 v1 v2 v3 hb
  go_wp2_with fail
  have u0 := blk_alloc C0.out (.cells #[.int .u8 y0, .int .u8 y1, .int .u8 y2, .int .u16 y3, .bool y4, .bool y5] 24)
  have u1 := blk_alloc C1.out (.cells #[.int .u8 y0, .int .u8 y1, .int .u8 y2, .int .u16 y3, .bool y4, .bool y5] 24)
  have u2 := below_alloc C2.out (.cells #[.int .u8 y0, .int .u8 y1, .int .u8 y2, .int .u16 y3, .bool y4, .bool y5] 24)
  have u3 := blk_alloc C3.out (.cells #[.int .u8 y0, .int .u8 y1, .int .u8 y2, .int .u16 y3, .bool y4, .bool y5] 24)
  have u4 := heap_alloc_new w2 (.cells #[.int .u8 y0, .int .u8 y1, .int .u8 y2, .int .u16 y3, .bool y4, .bool y5] 24)
  have g2 : w1.heap.size < w2.heap.size := blk_lt C3.out
  generalize w2.alloc (.cells #[.int .u8 y0, .int .u8 y1, .int .u8 y2, .int .u16 y3, .bool y4, .bool y5] 24) = W2 at u0 u1 u2 u3 u4 ⊢
  have a0 : W2.cell? ⟨w1.heap.size, 0, none⟩ = some (.int .u8 x0) := (blk_cell u3 0).trans rfl
  have a1 : W2.cell? ⟨w1.heap.size, 1, none⟩ = some (.int .u8 x1) := (blk_cell u3 1).trans rfl
  have a2 : W2.cell? ⟨w1.heap.size, 2, none⟩ = some (.int .u8 x2) := (blk_cell u3 2).trans rfl
  have a3 : W2.cell? ⟨w1.heap.size, 3, none⟩ = some (.int .u16 x3) := (blk_cell u3 3).trans rfl
  have a4 : W2.cell? ⟨w1.heap.size, 4, none⟩ = some (.bool x4) := (blk_cell u3 4).trans rfl
  have a5 : W2.cell? ⟨w1.heap.size, 5, none⟩ = some (.bool x5) := (blk_cell u3 5).trans rfl
  have b0 : W2.cell? ⟨w2.heap.size, 0, none⟩ = some (.int .u8 y0) := (blk_cell u4 0).trans rfl
  have b1 : W2.cell? ⟨w2.heap.size, 1, none⟩ = some (.int .u8 y1) := (blk_cell u4 1).trans rfl
  have b2 : W2.cell? ⟨w2.heap.size, 2, none⟩ = some (.int .u8 y2) := (blk_cell u4 2).trans rfl
  have b3 : W2.cell? ⟨w2.heap.size, 3, none⟩ = some (.int .u16 y3) := (blk_cell u4 3).trans rfl
  have b4 : W2.cell? ⟨w2.heap.size, 4, none⟩ = some (.bool y4) := (blk_cell u4 4).trans rfl
  have b5 : W2.cell? ⟨w2.heap.size, 5, none⟩ = some (.bool y5) := (blk_cell u4 5).trans rfl
  have p0 : W2.cell? ⟨w.heap.size, 0, none⟩ = some (.int .u8 0) := (blk_cell u0 0).trans rfl
  have p1 : W2.cell? ⟨w.heap.size, 1, none⟩ = some (.int .u8 0) := (blk_cell u0 1).trans rfl
  have p2 : W2.cell? ⟨w.heap.size, 2, none⟩ = some (.int .u8 0) := (blk_cell u0 2).trans rfl
  have p3 : W2.cell? ⟨w.heap.size, 3, none⟩ = some (.int .u16 0) := (blk_cell u0 3).trans rfl
  have p4 : W2.cell? ⟨w.heap.size, 4, none⟩ = some (.bool false) := (blk_cell u0 4).trans rfl
  have p5 : W2.cell? ⟨w.heap.size, 5, none⟩ = some (.bool false) := (blk_cell u0 5).trans rfl
  have q0 : W2.cell? ⟨w.heap.size + 1, 0, none⟩ = some (.int .u8 0) := (blk_cell u1 0).trans rfl
  have q1 : W2.cell? ⟨w.heap.size + 1, 1, none⟩ = some (.int .u8 0) := (blk_cell u1 1).trans rfl
  have q2 : W2.cell? ⟨w.heap.size + 1, 2, none⟩ = some (.int .u8 0) := (blk_cell u1 2).trans rfl
  have q3 : W2.cell? ⟨w.heap.size + 1, 3, none⟩ = some (.int .u16 0) := (blk_cell u1 3).trans rfl
  have q4 : W2.cell? ⟨w.heap.size + 1, 4, none⟩ = some (.bool false) := (blk_cell u1 4).trans rfl
  have q5 : W2.cell? ⟨w.heap.size + 1, 5, none⟩ = some (.bool false) := (blk_cell u1 5).trans rfl
  have f0 := fun i => blk_frozen u0 i
  have f1 := fun i => blk_frozen u1 i
  go_region
  go_wp2
  have m1 : (((((((((((((W2.setCell ⟨w.heap.size, 0, none⟩ (.int .u8 x0)).setCell ⟨w.heap.size, 1, none⟩ (.int .u8 x1)).setCell ⟨w.heap.size, 2, none⟩ (.int .u8 x2)).setCell ⟨w.heap.size, 3, none⟩ (.int .u16 x3)).setCell ⟨w.heap.size, 4, none⟩ (.bool x4)).setCell ⟨w.heap.size, 5, none⟩ (.bool x5)).setCell ⟨w.heap.size + 1, 0, none⟩ (.int .u8 y0)).setCell ⟨w.heap.size + 1, 1, none⟩ (.int .u8 y1)).setCell ⟨w.heap.size + 1, 2, none⟩ (.int .u8 y2)).setCell ⟨w.heap.size + 1, 3, none⟩ (.int .u16 y3)).setCell ⟨w.heap.size + 1, 4, none⟩ (.bool y4)).setCell ⟨w.heap.size + 1, 5, none⟩ (.bool y5)).drew).heap[w.heap.size]? = some (.cells #[.int .u8 x0, .int .u8 x1, .int .u8 x2, .int .u16 x3, .bool x4, .bool x5] 24 (0, 0)) := (blk_drew (blk_far (blk_far (blk_far (blk_far (blk_far (blk_far (blk_put (blk_put (blk_put (blk_put (blk_put (blk_put u0 0 _ rfl) 1 _ rfl) 2 _ rfl) 3 _ rfl) 4 _ rfl) 5 _ rfl) (by simp) _) (by simp) _) (by simp) _) (by simp) _) (by simp) _) (by simp) _))
  have m2 : (((((((((((((W2.setCell ⟨w.heap.size, 0, none⟩ (.int .u8 x0)).setCell ⟨w.heap.size, 1, none⟩ (.int .u8 x1)).setCell ⟨w.heap.size, 2, none⟩ (.int .u8 x2)).setCell ⟨w.heap.size, 3, none⟩ (.int .u16 x3)).setCell ⟨w.heap.size, 4, none⟩ (.bool x4)).setCell ⟨w.heap.size, 5, none⟩ (.bool x5)).setCell ⟨w.heap.size + 1, 0, none⟩ (.int .u8 y0)).setCell ⟨w.heap.size + 1, 1, none⟩ (.int .u8 y1)).setCell ⟨w.heap.size + 1, 2, none⟩ (.int .u8 y2)).setCell ⟨w.heap.size + 1, 3, none⟩ (.int .u16 y3)).setCell ⟨w.heap.size + 1, 4, none⟩ (.bool y4)).setCell ⟨w.heap.size + 1, 5, none⟩ (.bool y5)).drew).heap[w.heap.size + 1]? = some (.cells #[.int .u8 y0, .int .u8 y1, .int .u8 y2, .int .u16 y3, .bool y4, .bool y5] 24 (0, 0)) := (blk_drew (blk_put (blk_put (blk_put (blk_put (blk_put (blk_put (blk_far (blk_far (blk_far (blk_far (blk_far (blk_far u1 (by simp) _) (by simp) _) (by simp) _) (by simp) _) (by simp) _) (by simp) _) 0 _ rfl) 1 _ rfl) 2 _ rfl) 3 _ rfl) 4 _ rfl) 5 _ rfl))
  have m3 : Below w.heap.size w (((((((((((((W2.setCell ⟨w.heap.size, 0, none⟩ (.int .u8 x0)).setCell ⟨w.heap.size, 1, none⟩ (.int .u8 x1)).setCell ⟨w.heap.size, 2, none⟩ (.int .u8 x2)).setCell ⟨w.heap.size, 3, none⟩ (.int .u16 x3)).setCell ⟨w.heap.size, 4, none⟩ (.bool x4)).setCell ⟨w.heap.size, 5, none⟩ (.bool x5)).setCell ⟨w.heap.size + 1, 0, none⟩ (.int .u8 y0)).setCell ⟨w.heap.size + 1, 1, none⟩ (.int .u8 y1)).setCell ⟨w.heap.size + 1, 2, none⟩ (.int .u8 y2)).setCell ⟨w.heap.size + 1, 3, none⟩ (.int .u16 y3)).setCell ⟨w.heap.size + 1, 4, none⟩ (.bool y4)).setCell ⟨w.heap.size + 1, 5, none⟩ (.bool y5)).drew) := (below_drew1 (below_set (below_set (below_set (below_set (below_set (below_set (below_set (below_set (below_set (below_set (below_set (below_set u2 (Nat.le_refl _)) (Nat.le_refl _)) (Nat.le_refl _)) (Nat.le_refl _)) (Nat.le_refl _)) (Nat.le_refl _)) (Nat.le_succ _)) (Nat.le_succ _)) (Nat.le_succ _)) (Nat.le_succ _)) (Nat.le_succ _)) (Nat.le_succ _)))
  generalize (((((((((((((W2.setCell ⟨w.heap.size, 0, none⟩ (.int .u8 x0)).setCell ⟨w.heap.size, 1, none⟩ (.int .u8 x1)).setCell ⟨w.heap.size, 2, none⟩ (.int .u8 x2)).setCell ⟨w.heap.size, 3, none⟩ (.int .u16 x3)).setCell ⟨w.heap.size, 4, none⟩ (.bool x4)).setCell ⟨w.heap.size, 5, none⟩ (.bool x5)).setCell ⟨w.heap.size + 1, 0, none⟩ (.int .u8 y0)).setCell ⟨w.heap.size + 1, 1, none⟩ (.int .u8 y1)).setCell ⟨w.heap.size + 1, 2, none⟩ (.int .u8 y2)).setCell ⟨w.heap.size + 1, 3, none⟩ (.int .u16 y3)).setCell ⟨w.heap.size + 1, 4, none⟩ (.bool y4)).setCell ⟨w.heap.size + 1, 5, none⟩ (.bool y5)).drew) = YY at m1 m2 m3 ⊢
  have U0 : YY.cell? ⟨w.heap.size, 0, none⟩ = some (.int .u8 x0) := (blk_cell m1 0).trans rfl
  have T0 : YY.cell? ⟨w.heap.size + 1, 0, none⟩ = some (.int .u8 y0) := (blk_cell m2 0).trans rfl
  have U1 : YY.cell? ⟨w.heap.size, 1, none⟩ = some (.int .u8 x1) := (blk_cell m1 1).trans rfl
  have T1 : YY.cell? ⟨w.heap.size + 1, 1, none⟩ = some (.int .u8 y1) := (blk_cell m2 1).trans rfl
  have U2 : YY.cell? ⟨w.heap.size, 2, none⟩ = some (.int .u8 x2) := (blk_cell m1 2).trans rfl
  have T2 : YY.cell? ⟨w.heap.size + 1, 2, none⟩ = some (.int .u8 y2) := (blk_cell m2 2).trans rfl
  have U3 : YY.cell? ⟨w.heap.size, 3, none⟩ = some (.int .u16 x3) := (blk_cell m1 3).trans rfl
  have T3 : YY.cell? ⟨w.heap.size + 1, 3, none⟩ = some (.int .u16 y3) := (blk_cell m2 3).trans rfl
  have U4 : YY.cell? ⟨w.heap.size, 4, none⟩ = some (.bool x4) := (blk_cell m1 4).trans rfl
  have T4 : YY.cell? ⟨w.heap.size + 1, 4, none⟩ = some (.bool y4) := (blk_cell m2 4).trans rfl
  have U5 : YY.cell? ⟨w.heap.size, 5, none⟩ = some (.bool x5) := (blk_cell m1 5).trans rfl
  have T5 : YY.cell? ⟨w.heap.size + 1, 5, none⟩ = some (.bool y5) := (blk_cell m2 5).trans rfl
  exact bodyPost_ret (v := .tuple #[.agg #[.int .u8 x0, .int .u8 x1, .int .u8 x2, .int .u16 x3, .bool x4, .bool x5], .agg #[.int .u8 y0, .int .u8 y1, .int .u8 y2, .int .u16 y3, .bool y4, .bool y5], .int .i64 0]) (by simp [results, Try.results26, go_sem, U0, T0, U1, T1, U2, T2, U3, T3, U4, T4, U5, T5]) rfl ⟨rfl, m3⟩
set_option maxRecDepth 100000 in
set_option maxHeartbeats 4000000 in
theorem rof_two (A : Option Addr) (c : Nat) (l : List Int) (hl : l.length = 10) (x0 x1 x2 x3 : Int) (x4 x5 : Bool) (y0 y1 y2 y3 : Int) (y4 y5 : Bool) (h0 : whirligigref09_one.f (l.take 5) = some (x0, x1, x2, x3, x4, x5, true)) (h1 : whirligigref09_one.f (l.drop 5) = some (y0, y1, y2, y3, y4, y5, false)) (w : World) (hr : Kd.C (Kd.int .u8) w A l.length l) (hc : l.length ≤ c) :
    Calls Try.prog 26 #[.slice A l.length c] w fun e' w' => e' = .returned (.tuple #[.agg #[.int .u8 0, .int .u8 0, .int .u8 0, .int .u16 0, .bool false, .bool false], .agg #[.int .u8 0, .int .u8 0, .int .u8 0, .int .u16 0, .bool false, .bool false], .int .i64 6]) ∧ Below w.heap.size w w' := by
  have H0 := Aside0.mk h0
  have H1 := Aside0.mk h1
  clear h0 h1
  have HT := Aside0.mk (Kd.C_take (m := 5) hr (by omega))
  have HD := Aside0.mk (Kd.C_drop (m := 5) hr (by omega) hc)
  rw [hl] at hr hc ⊢
  obtain ⟨ad, rfl, _⟩ := Kd.at_int hr 0 (by omega) (by omega)
  clear hr
  have hc5 : (5 : Int) ≤ c := by omega
  go_enter Try.func26, Try.ntmps26
  go_wp2_with fail
  have z0 := blk_alloc (blk_new w (.cells #[.int .u8 0, .int .u8 0, .int .u8 0, .int .u16 0, .bool false, .bool false] 24)) (.cells #[.int .u8 0, .int .u8 0, .int .u8 0, .int .u16 0, .bool false, .bool false] 24)
  have z1 := heap_alloc_new (w.alloc (.cells #[.int .u8 0, .int .u8 0, .int .u8 0, .int .u16 0, .bool false, .bool false] 24)) (.cells #[.int .u8 0, .int .u8 0, .int .u8 0, .int .u16 0, .bool false, .bool false] 24)
  rw [show (w.alloc (.cells #[.int .u8 0, .int .u8 0, .int .u8 0, .int .u16 0, .bool false, .bool false] 24)).heap.size = w.heap.size + 1 by simp] at z1
  have z2 := below_alloc (below_alloc (Below.refl w.heap.size w) (.cells #[.int .u8 0, .int .u8 0, .int .u8 0, .int .u16 0, .bool false, .bool false] 24)) (.cells #[.int .u8 0, .int .u8 0, .int .u8 0, .int .u16 0, .bool false, .bool false] 24)
  generalize (w.alloc (.cells #[.int .u8 0, .int .u8 0, .int .u8 0, .int .u16 0, .bool false, .bool false] 24)).alloc (.cells #[.int .u8 0, .int .u8 0, .int .u8 0, .int .u16 0, .bool false, .bool false] 24) = W0 at z0 z1 z2 ⊢
  have q := (whirligigref09_one.calls (some ad) c (l.take 5) _ _ _ _ _ _ _ W0 (Kd.C_below HT.out z2) (by simp [hl]; omega) H0.out)
  rw [show (l.take 5).length = 5 by simp [hl]] at q
  refine q.mono ?_
  clear q
  rintro e' w1 ⟨rfl, hb⟩
  have B0 := Aside0.mk (blk_below z0 hb)
  have B1 := Aside0.mk (blk_below z1 hb)
  have B2 := Aside0.mk (Below.trans z2 (hb.mono z2.size))
  clear z0 z1 z2 hb
  go_wp2_with fail
  have v0 := blk_alloc B0.out (.cells #[.int .u8 x0, .int .u8 x1, .int .u8 x2, .int .u16 x3, .bool x4, .bool x5] 24)
  have v1 := blk_alloc B1.out (.cells #[.int .u8 x0, .int .u8 x1, .int .u8 x2, .int .u16 x3, .bool x4, .bool x5] 24)
  have v2 := below_alloc B2.out (.cells #[.int .u8 x0, .int .u8 x1, .int .u8 x2, .int .u16 x3, .bool x4, .bool x5] 24)
  have v3 := heap_alloc_new w1 (.cells #[.int .u8 x0, .int .u8 x1, .int .u8 x2, .int .u16 x3, .bool x4, .bool x5] 24)
  have g1 : w.heap.size + 1 < w1.heap.size := blk_lt B1.out
  generalize w1.alloc (.cells #[.int .u8 x0, .int .u8 x1, .int .u8 x2, .int .u16 x3, .bool x4, .bool x5] 24) = W1 at v0 v1 v2 v3 ⊢
  have HD2 := HD.out
  rw [if_neg (show ¬ c = 5 by omega)] at HD2
  have q := (whirligigref09_one.calls (some ⟨ad.block, ad.off + 5, none⟩) (c - 5) (l.drop 5) _ _ _ _ _ _ _ W1 (Kd.C_below HD2 v2) (by simp [hl]; omega) H1.out)
  rw [show (l.drop 5).length = 5 by simp [hl]] at q
  refine q.mono ?_
  clear q HD2
  rintro e' w2 ⟨rfl, hb⟩
  have C0 := Aside0.mk (blk_below v0 hb)
  have C1 := Aside0.mk (blk_below v1 hb)
  have C3 := Aside0.mk (blk_below v3 hb)
  have C2 := Aside0.mk (Below.trans v2 (hb.mono v2.size))
  clear v0 v1 v2 v3 hb
  have u0 := blk_alloc C0.out (.cells #[.int .u8 y0, .int .u8 y1, .int .u8 y2, .int .u16 y3, .bool y4, .bool y5] 24)
  have u1 := blk_alloc C1.out (.cells #[.int .u8 y0, .int .u8 y1, .int .u8 y2, .int .u16 y3, .bool y4, .bool y5] 24)
  have u2 := below_alloc C2.out (.cells #[.int .u8 y0, .int .u8 y1, .int .u8 y2, .int .u16 y3, .bool y4, .bool y5] 24)
  have u3 := blk_alloc C3.out (.cells #[.int .u8 y0, .int .u8 y1, .int .u8 y2, .int .u16 y3, .bool y4, .bool y5] 24)
  have u4 := heap_alloc_new w2 (.cells #[.int .u8 y0, .int .u8 y1, .int .u8 y2, .int .u16 y3, .bool y4, .bool y5] 24)
  have g2 : w1.heap.size < w2.heap.size := blk_lt C3.out
  have p0 : (w2.alloc (.cells #[.int .u8 y0, .int .u8 y1, .int .u8 y2, .int .u16 y3, .bool y4, .bool y5] 24)).cell? ⟨w.heap.size, 0, none⟩ = some (.int .u8 0) := (blk_cell u0 0).trans rfl
  have p1 : (w2.alloc (.cells #[.int .u8 y0, .int .u8 y1, .int .u8 y2, .int .u16 y3, .bool y4, .bool y5] 24)).cell? ⟨w.heap.size, 1, none⟩ = some (.int .u8 0) := (blk_cell u0 1).trans rfl
  have p2 : (w2.alloc (.cells #[.int .u8 y0, .int .u8 y1, .int .u8 y2, .int .u16 y3, .bool y4, .bool y5] 24)).cell? ⟨w.heap.size, 2, none⟩ = some (.int .u8 0) := (blk_cell u0 2).trans rfl
  have p3 : (w2.alloc (.cells #[.int .u8 y0, .int .u8 y1, .int .u8 y2, .int .u16 y3, .bool y4, .bool y5] 24)).cell? ⟨w.heap.size, 3, none⟩ = some (.int .u16 0) := (blk_cell u0 3).trans rfl
  have p4 : (w2.alloc (.cells #[.int .u8 y0, .int .u8 y1, .int .u8 y2, .int .u16 y3, .bool y4, .bool y5] 24)).cell? ⟨w.heap.size, 4, none⟩ = some (.bool false) := (blk_cell u0 4).trans rfl
  have p5 : (w2.alloc (.cells #[.int .u8 y0, .int .u8 y1, .int .u8 y2, .int .u16 y3, .bool y4, .bool y5] 24)).cell? ⟨w.heap.size, 5, none⟩ = some (.bool false) := (blk_cell u0 5).trans rfl
  have q0 : (w2.alloc (.cells #[.int .u8 y0, .int .u8 y1, .int .u8 y2, .int .u16 y3, .bool y4, .bool y5] 24)).cell? ⟨w.heap.size + 1, 0, none⟩ = some (.int .u8 0) := (blk_cell u1 0).trans rfl
  have q1 : (w2.alloc (.cells #[.int .u8 y0, .int .u8 y1, .int .u8 y2, .int .u16 y3, .bool y4, .bool y5] 24)).cell? ⟨w.heap.size + 1, 1, none⟩ = some (.int .u8 0) := (blk_cell u1 1).trans rfl
  have q2 : (w2.alloc (.cells #[.int .u8 y0, .int .u8 y1, .int .u8 y2, .int .u16 y3, .bool y4, .bool y5] 24)).cell? ⟨w.heap.size + 1, 2, none⟩ = some (.int .u8 0) := (blk_cell u1 2).trans rfl
  have q3 : (w2.alloc (.cells #[.int .u8 y0, .int .u8 y1, .int .u8 y2, .int .u16 y3, .bool y4, .bool y5] 24)).cell? ⟨w.heap.size + 1, 3, none⟩ = some (.int .u16 0) := (blk_cell u1 3).trans rfl
  have q4 : (w2.alloc (.cells #[.int .u8 y0, .int .u8 y1, .int .u8 y2, .int .u16 y3, .bool y4, .bool y5] 24)).cell? ⟨w.heap.size + 1, 4, none⟩ = some (.bool false) := (blk_cell u1 4).trans rfl
  have q5 : (w2.alloc (.cells #[.int .u8 y0, .int .u8 y1, .int .u8 y2, .int .u16 y3, .bool y4, .bool y5] 24)).cell? ⟨w.heap.size + 1, 5, none⟩ = some (.bool false) := (blk_cell u1 5).trans rfl
  have f0 := fun i => blk_frozen u0 i
  have f1 := fun i => blk_frozen u1 i
  clear u3 u4
  go_wp2
  have m1 : (((((((((((((w2.alloc (.cells #[.int .u8 y0, .int .u8 y1, .int .u8 y2, .int .u16 y3, .bool y4, .bool y5] 24)).setCell ⟨w.heap.size, 0, none⟩ (.int .u8 0)).setCell ⟨w.heap.size, 1, none⟩ (.int .u8 0)).setCell ⟨w.heap.size, 2, none⟩ (.int .u8 0)).setCell ⟨w.heap.size, 3, none⟩ (.int .u16 0)).setCell ⟨w.heap.size, 4, none⟩ (.bool false)).setCell ⟨w.heap.size, 5, none⟩ (.bool false)).setCell ⟨w.heap.size + 1, 0, none⟩ (.int .u8 0)).setCell ⟨w.heap.size + 1, 1, none⟩ (.int .u8 0)).setCell ⟨w.heap.size + 1, 2, none⟩ (.int .u8 0)).setCell ⟨w.heap.size + 1, 3, none⟩ (.int .u16 0)).setCell ⟨w.heap.size + 1, 4, none⟩ (.bool false)).setCell ⟨w.heap.size + 1, 5, none⟩ (.bool false)).heap[w.heap.size]? = some (.cells #[.int .u8 0, .int .u8 0, .int .u8 0, .int .u16 0, .bool false, .bool false] 24 (0, 0)) := (id (blk_far (blk_far (blk_far (blk_far (blk_far (blk_far (blk_put (blk_put (blk_put (blk_put (blk_put (blk_put u0 0 _ rfl) 1 _ rfl) 2 _ rfl) 3 _ rfl) 4 _ rfl) 5 _ rfl) (by simp) _) (by simp) _) (by simp) _) (by simp) _) (by simp) _) (by simp) _))
  have m2 : (((((((((((((w2.alloc (.cells #[.int .u8 y0, .int .u8 y1, .int .u8 y2, .int .u16 y3, .bool y4, .bool y5] 24)).setCell ⟨w.heap.size, 0, none⟩ (.int .u8 0)).setCell ⟨w.heap.size, 1, none⟩ (.int .u8 0)).setCell ⟨w.heap.size, 2, none⟩ (.int .u8 0)).setCell ⟨w.heap.size, 3, none⟩ (.int .u16 0)).setCell ⟨w.heap.size, 4, none⟩ (.bool false)).setCell ⟨w.heap.size, 5, none⟩ (.bool false)).setCell ⟨w.heap.size + 1, 0, none⟩ (.int .u8 0)).setCell ⟨w.heap.size + 1, 1, none⟩ (.int .u8 0)).setCell ⟨w.heap.size + 1, 2, none⟩ (.int .u8 0)).setCell ⟨w.heap.size + 1, 3, none⟩ (.int .u16 0)).setCell ⟨w.heap.size + 1, 4, none⟩ (.bool false)).setCell ⟨w.heap.size + 1, 5, none⟩ (.bool false)).heap[w.heap.size + 1]? = some (.cells #[.int .u8 0, .int .u8 0, .int .u8 0, .int .u16 0, .bool false, .bool false] 24 (0, 0)) := (id (blk_put (blk_put (blk_put (blk_put (blk_put (blk_put (blk_far (blk_far (blk_far (blk_far (blk_far (blk_far u1 (by simp) _) (by simp) _) (by simp) _) (by simp) _) (by simp) _) (by simp) _) 0 _ rfl) 1 _ rfl) 2 _ rfl) 3 _ rfl) 4 _ rfl) 5 _ rfl))
  have m3 : Below w.heap.size w (((((((((((((w2.alloc (.cells #[.int .u8 y0, .int .u8 y1, .int .u8 y2, .int .u16 y3, .bool y4, .bool y5] 24)).setCell ⟨w.heap.size, 0, none⟩ (.int .u8 0)).setCell ⟨w.heap.size, 1, none⟩ (.int .u8 0)).setCell ⟨w.heap.size, 2, none⟩ (.int .u8 0)).setCell ⟨w.heap.size, 3, none⟩ (.int .u16 0)).setCell ⟨w.heap.size, 4, none⟩ (.bool false)).setCell ⟨w.heap.size, 5, none⟩ (.bool false)).setCell ⟨w.heap.size + 1, 0, none⟩ (.int .u8 0)).setCell ⟨w.heap.size + 1, 1, none⟩ (.int .u8 0)).setCell ⟨w.heap.size + 1, 2, none⟩ (.int .u8 0)).setCell ⟨w.heap.size + 1, 3, none⟩ (.int .u16 0)).setCell ⟨w.heap.size + 1, 4, none⟩ (.bool false)).setCell ⟨w.heap.size + 1, 5, none⟩ (.bool false)) := (id (below_set (below_set (below_set (below_set (below_set (below_set (below_set (below_set (below_set (below_set (below_set (below_set u2 (Nat.le_refl _)) (Nat.le_refl _)) (Nat.le_refl _)) (Nat.le_refl _)) (Nat.le_refl _)) (Nat.le_refl _)) (Nat.le_succ _)) (Nat.le_succ _)) (Nat.le_succ _)) (Nat.le_succ _)) (Nat.le_succ _)) (Nat.le_succ _)))
  generalize (((((((((((((w2.alloc (.cells #[.int .u8 y0, .int .u8 y1, .int .u8 y2, .int .u16 y3, .bool y4, .bool y5] 24)).setCell ⟨w.heap.size, 0, none⟩ (.int .u8 0)).setCell ⟨w.heap.size, 1, none⟩ (.int .u8 0)).setCell ⟨w.heap.size, 2, none⟩ (.int .u8 0)).setCell ⟨w.heap.size, 3, none⟩ (.int .u16 0)).setCell ⟨w.heap.size, 4, none⟩ (.bool false)).setCell ⟨w.heap.size, 5, none⟩ (.bool false)).setCell ⟨w.heap.size + 1, 0, none⟩ (.int .u8 0)).setCell ⟨w.heap.size + 1, 1, none⟩ (.int .u8 0)).setCell ⟨w.heap.size + 1, 2, none⟩ (.int .u8 0)).setCell ⟨w.heap.size + 1, 3, none⟩ (.int .u16 0)).setCell ⟨w.heap.size + 1, 4, none⟩ (.bool false)).setCell ⟨w.heap.size + 1, 5, none⟩ (.bool false)) = YY at m1 m2 m3 ⊢
  have U0 : YY.cell? ⟨w.heap.size, 0, none⟩ = some (.int .u8 0) := (blk_cell m1 0).trans rfl
  have T0 : YY.cell? ⟨w.heap.size + 1, 0, none⟩ = some (.int .u8 0) := (blk_cell m2 0).trans rfl
  have U1 : YY.cell? ⟨w.heap.size, 1, none⟩ = some (.int .u8 0) := (blk_cell m1 1).trans rfl
  have T1 : YY.cell? ⟨w.heap.size + 1, 1, none⟩ = some (.int .u8 0) := (blk_cell m2 1).trans rfl
  have U2 : YY.cell? ⟨w.heap.size, 2, none⟩ = some (.int .u8 0) := (blk_cell m1 2).trans rfl
  have T2 : YY.cell? ⟨w.heap.size + 1, 2, none⟩ = some (.int .u8 0) := (blk_cell m2 2).trans rfl
  have U3 : YY.cell? ⟨w.heap.size, 3, none⟩ = some (.int .u16 0) := (blk_cell m1 3).trans rfl
  have T3 : YY.cell? ⟨w.heap.size + 1, 3, none⟩ = some (.int .u16 0) := (blk_cell m2 3).trans rfl
  have U4 : YY.cell? ⟨w.heap.size, 4, none⟩ = some (.bool false) := (blk_cell m1 4).trans rfl
  have T4 : YY.cell? ⟨w.heap.size + 1, 4, none⟩ = some (.bool false) := (blk_cell m2 4).trans rfl
  have U5 : YY.cell? ⟨w.heap.size, 5, none⟩ = some (.bool false) := (blk_cell m1 5).trans rfl
  have T5 : YY.cell? ⟨w.heap.size + 1, 5, none⟩ = some (.bool false) := (blk_cell m2 5).trans rfl
  exact bodyPost_ret (v := .tuple #[.agg #[.int .u8 0, .int .u8 0, .int .u8 0, .int .u16 0, .bool false, .bool false], .agg #[.int .u8 0, .int .u8 0, .int .u8 0, .int .u16 0, .bool false, .bool false], .int .i64 6]) (by simp [results, Try.results26, go_sem, U0, T0, U1, T1, U2, T2, U3, T3, U4, T4, U5, T5]) rfl ⟨rfl, m3⟩
set_option maxRecDepth 100000 in
set_option maxHeartbeats 4000000 in
theorem rof_one (A : Option Addr) (c : Nat) (l : List Int) (hl : l.length = 10) (x0 x1 x2 x3 : Int) (x4 x5 : Bool) (y0 y1 y2 y3 : Int) (y4 y5 : Bool) (b : Bool) (h0 : whirligigref09_one.f (l.take 5) = some (x0, x1, x2, x3, x4, x5, false)) (h1 : whirligigref09_one.f (l.drop 5) = some (y0, y1, y2, y3, y4, y5, b)) (w : World) (hr : Kd.C (Kd.int .u8) w A l.length l) (hc : l.length ≤ c) :
    Calls Try.prog 26 #[.slice A l.length c] w fun e' w' => e' = .returned (.tuple #[.agg #[.int .u8 0, .int .u8 0, .int .u8 0, .int .u16 0, .bool false, .bool false], .agg #[.int .u8 0, .int .u8 0, .int .u8 0, .int .u16 0, .bool false, .bool false], .int .i64 6]) ∧ Below w.heap.size w w' := by
  have H0 := Aside0.mk h0
  have H1 := Aside0.mk h1
  clear h0 h1
  have HT := Aside0.mk (Kd.C_take (m := 5) hr (by omega))
  have HD := Aside0.mk (Kd.C_drop (m := 5) hr (by omega) hc)
  rw [hl] at hr hc ⊢
  obtain ⟨ad, rfl, _⟩ := Kd.at_int hr 0 (by omega) (by omega)
  clear hr
  have hc5 : (5 : Int) ≤ c := by omega
  go_enter Try.func26, Try.ntmps26
  go_wp2_with fail
  have z0 := blk_alloc (blk_new w (.cells #[.int .u8 0, .int .u8 0, .int .u8 0, .int .u16 0, .bool false, .bool false] 24)) (.cells #[.int .u8 0, .int .u8 0, .int .u8 0, .int .u16 0, .bool false, .bool false] 24)
  have z1 := heap_alloc_new (w.alloc (.cells #[.int .u8 0, .int .u8 0, .int .u8 0, .int .u16 0, .bool false, .bool false] 24)) (.cells #[.int .u8 0, .int .u8 0, .int .u8 0, .int .u16 0, .bool false, .bool false] 24)
  rw [show (w.alloc (.cells #[.int .u8 0, .int .u8 0, .int .u8 0, .int .u16 0, .bool false, .bool false] 24)).heap.size = w.heap.size + 1 by simp] at z1
  have z2 := below_alloc (below_alloc (Below.refl w.heap.size w) (.cells #[.int .u8 0, .int .u8 0, .int .u8 0, .int .u16 0, .bool false, .bool false] 24)) (.cells #[.int .u8 0, .int .u8 0, .int .u8 0, .int .u16 0, .bool false, .bool false] 24)
  generalize (w.alloc (.cells #[.int .u8 0, .int .u8 0, .int .u8 0, .int .u16 0, .bool false, .bool false] 24)).alloc (.cells #[.int .u8 0, .int .u8 0, .int .u8 0, .int .u16 0, .bool false, .bool false] 24) = W0 at z0 z1 z2 ⊢
  have q := (whirligigref09_one.calls (some ad) c (l.take 5) _ _ _ _ _ _ _ W0 (Kd.C_below HT.out z2) (by simp [hl]; omega) H0.out)
  rw [show (l.take 5).length = 5 by simp [hl]] at q
  refine q.mono ?_
  clear q
  rintro e' w1 ⟨rfl, hb⟩
  have B0 := Aside0.mk (blk_below z0 hb)
  have B1 := Aside0.mk (blk_below z1 hb)
  have B2 := Aside0.mk (Below.trans z2 (hb.mono z2.size))
  clear z0 z1 z2 hb
  go_wp2_with fail
  have v0 := blk_alloc B0.out (.cells #[.int .u8 x0, .int .u8 x1, .int .u8 x2, .int .u16 x3, .bool x4, .bool x5] 24)
  have v1 := blk_alloc B1.out (.cells #[.int .u8 x0, .int .u8 x1, .int .u8 x2, .int .u16 x3, .bool x4, .bool x5] 24)
  have v2 := below_alloc B2.out (.cells #[.int .u8 x0, .int .u8 x1, .int .u8 x2, .int .u16 x3, .bool x4, .bool x5] 24)
  have v3 := heap_alloc_new w1 (.cells #[.int .u8 x0, .int .u8 x1, .int .u8 x2, .int .u16 x3, .bool x4, .bool x5] 24)
  have g1 : w.heap.size + 1 < w1.heap.size := blk_lt B1.out
  generalize w1.alloc (.cells #[.int .u8 x0, .int .u8 x1, .int .u8 x2, .int .u16 x3, .bool x4, .bool x5] 24) = W1 at v0 v1 v2 v3 ⊢
  have HD2 := HD.out
  rw [if_neg (show ¬ c = 5 by omega)] at HD2
  have q := (whirligigref09_one.calls (some ⟨ad.block, ad.off + 5, none⟩) (c - 5) (l.drop 5) _ _ _ _ _ _ _ W1 (Kd.C_below HD2 v2) (by simp [hl]; omega) H1.out)
  rw [show (l.drop 5).length = 5 by simp [hl]] at q
  refine q.mono ?_
  clear q HD2
  rintro e' w2 ⟨rfl, hb⟩
  have C0 := Aside0.mk (blk_below v0 hb)
  have C1 := Aside0.mk (blk_below v1 hb)
  have C3 := Aside0.mk (blk_below v3 hb)
  have C2 := Aside0.mk (Below.trans v2 (hb.mono v2.size))
  clear v0 v1 v2 v3 hb
  have u0 := blk_alloc C0.out (.cells #[.int .u8 y0, .int .u8 y1, .int .u8 y2, .int .u16 y3, .bool y4, .bool y5] 24)
  have u1 := blk_alloc C1.out (.cells #[.int .u8 y0, .int .u8 y1, .int .u8 y2, .int .u16 y3, .bool y4, .bool y5] 24)
  have u2 := below_alloc C2.out (.cells #[.int .u8 y0, .int .u8 y1, .int .u8 y2, .int .u16 y3, .bool y4, .bool y5] 24)
  have u3 := blk_alloc C3.out (.cells #[.int .u8 y0, .int .u8 y1, .int .u8 y2, .int .u16 y3, .bool y4, .bool y5] 24)
  have u4 := heap_alloc_new w2 (.cells #[.int .u8 y0, .int .u8 y1, .int .u8 y2, .int .u16 y3, .bool y4, .bool y5] 24)
  have g2 : w1.heap.size < w2.heap.size := blk_lt C3.out
  have p0 : (w2.alloc (.cells #[.int .u8 y0, .int .u8 y1, .int .u8 y2, .int .u16 y3, .bool y4, .bool y5] 24)).cell? ⟨w.heap.size, 0, none⟩ = some (.int .u8 0) := (blk_cell u0 0).trans rfl
  have p1 : (w2.alloc (.cells #[.int .u8 y0, .int .u8 y1, .int .u8 y2, .int .u16 y3, .bool y4, .bool y5] 24)).cell? ⟨w.heap.size, 1, none⟩ = some (.int .u8 0) := (blk_cell u0 1).trans rfl
  have p2 : (w2.alloc (.cells #[.int .u8 y0, .int .u8 y1, .int .u8 y2, .int .u16 y3, .bool y4, .bool y5] 24)).cell? ⟨w.heap.size, 2, none⟩ = some (.int .u8 0) := (blk_cell u0 2).trans rfl
  have p3 : (w2.alloc (.cells #[.int .u8 y0, .int .u8 y1, .int .u8 y2, .int .u16 y3, .bool y4, .bool y5] 24)).cell? ⟨w.heap.size, 3, none⟩ = some (.int .u16 0) := (blk_cell u0 3).trans rfl
  have p4 : (w2.alloc (.cells #[.int .u8 y0, .int .u8 y1, .int .u8 y2, .int .u16 y3, .bool y4, .bool y5] 24)).cell? ⟨w.heap.size, 4, none⟩ = some (.bool false) := (blk_cell u0 4).trans rfl
  have p5 : (w2.alloc (.cells #[.int .u8 y0, .int .u8 y1, .int .u8 y2, .int .u16 y3, .bool y4, .bool y5] 24)).cell? ⟨w.heap.size, 5, none⟩ = some (.bool false) := (blk_cell u0 5).trans rfl
  have q0 : (w2.alloc (.cells #[.int .u8 y0, .int .u8 y1, .int .u8 y2, .int .u16 y3, .bool y4, .bool y5] 24)).cell? ⟨w.heap.size + 1, 0, none⟩ = some (.int .u8 0) := (blk_cell u1 0).trans rfl
  have q1 : (w2.alloc (.cells #[.int .u8 y0, .int .u8 y1, .int .u8 y2, .int .u16 y3, .bool y4, .bool y5] 24)).cell? ⟨w.heap.size + 1, 1, none⟩ = some (.int .u8 0) := (blk_cell u1 1).trans rfl
  have q2 : (w2.alloc (.cells #[.int .u8 y0, .int .u8 y1, .int .u8 y2, .int .u16 y3, .bool y4, .bool y5] 24)).cell? ⟨w.heap.size + 1, 2, none⟩ = some (.int .u8 0) := (blk_cell u1 2).trans rfl
  have q3 : (w2.alloc (.cells #[.int .u8 y0, .int .u8 y1, .int .u8 y2, .int .u16 y3, .bool y4, .bool y5] 24)).cell? ⟨w.heap.size + 1, 3, none⟩ = some (.int .u16 0) := (blk_cell u1 3).trans rfl
  have q4 : (w2.alloc (.cells #[.int .u8 y0, .int .u8 y1, .int .u8 y2, .int .u16 y3, .bool y4, .bool y5] 24)).cell? ⟨w.heap.size + 1, 4, none⟩ = some (.bool false) := (blk_cell u1 4).trans rfl
  have q5 : (w2.alloc (.cells #[.int .u8 y0, .int .u8 y1, .int .u8 y2, .int .u16 y3, .bool y4, .bool y5] 24)).cell? ⟨w.heap.size + 1, 5, none⟩ = some (.bool false) := (blk_cell u1 5).trans rfl
  have f0 := fun i => blk_frozen u0 i
  have f1 := fun i => blk_frozen u1 i
  clear u3 u4
  go_wp2
  have m1 : (((((((((((((w2.alloc (.cells #[.int .u8 y0, .int .u8 y1, .int .u8 y2, .int .u16 y3, .bool y4, .bool y5] 24)).setCell ⟨w.heap.size, 0, none⟩ (.int .u8 0)).setCell ⟨w.heap.size, 1, none⟩ (.int .u8 0)).setCell ⟨w.heap.size, 2, none⟩ (.int .u8 0)).setCell ⟨w.heap.size, 3, none⟩ (.int .u16 0)).setCell ⟨w.heap.size, 4, none⟩ (.bool false)).setCell ⟨w.heap.size, 5, none⟩ (.bool false)).setCell ⟨w.heap.size + 1, 0, none⟩ (.int .u8 0)).setCell ⟨w.heap.size + 1, 1, none⟩ (.int .u8 0)).setCell ⟨w.heap.size + 1, 2, none⟩ (.int .u8 0)).setCell ⟨w.heap.size + 1, 3, none⟩ (.int .u16 0)).setCell ⟨w.heap.size + 1, 4, none⟩ (.bool false)).setCell ⟨w.heap.size + 1, 5, none⟩ (.bool false)).heap[w.heap.size]? = some (.cells #[.int .u8 0, .int .u8 0, .int .u8 0, .int .u16 0, .bool false, .bool false] 24 (0, 0)) := (id (blk_far (blk_far (blk_far (blk_far (blk_far (blk_far (blk_put (blk_put (blk_put (blk_put (blk_put (blk_put u0 0 _ rfl) 1 _ rfl) 2 _ rfl) 3 _ rfl) 4 _ rfl) 5 _ rfl) (by simp) _) (by simp) _) (by simp) _) (by simp) _) (by simp) _) (by simp) _))
  have m2 : (((((((((((((w2.alloc (.cells #[.int .u8 y0, .int .u8 y1, .int .u8 y2, .int .u16 y3, .bool y4, .bool y5] 24)).setCell ⟨w.heap.size, 0, none⟩ (.int .u8 0)).setCell ⟨w.heap.size, 1, none⟩ (.int .u8 0)).setCell ⟨w.heap.size, 2, none⟩ (.int .u8 0)).setCell ⟨w.heap.size, 3, none⟩ (.int .u16 0)).setCell ⟨w.heap.size, 4, none⟩ (.bool false)).setCell ⟨w.heap.size, 5, none⟩ (.bool false)).setCell ⟨w.heap.size + 1, 0, none⟩ (.int .u8 0)).setCell ⟨w.heap.size + 1, 1, none⟩ (.int .u8 0)).setCell ⟨w.heap.size + 1, 2, none⟩ (.int .u8 0)).setCell ⟨w.heap.size + 1, 3, none⟩ (.int .u16 0)).setCell ⟨w.heap.size + 1, 4, none⟩ (.bool false)).setCell ⟨w.heap.size + 1, 5, none⟩ (.bool false)).heap[w.heap.size + 1]? = some (.cells #[.int .u8 0, .int .u8 0, .int .u8 0, .int .u16 0, .bool false, .bool false] 24 (0, 0)) := (id (blk_put (blk_put (blk_put (blk_put (blk_put (blk_put (blk_far (blk_far (blk_far (blk_far (blk_far (blk_far u1 (by simp) _) (by simp) _) (by simp) _) (by simp) _) (by simp) _) (by simp) _) 0 _ rfl) 1 _ rfl) 2 _ rfl) 3 _ rfl) 4 _ rfl) 5 _ rfl))
  have m3 : Below w.heap.size w (((((((((((((w2.alloc (.cells #[.int .u8 y0, .int .u8 y1, .int .u8 y2, .int .u16 y3, .bool y4, .bool y5] 24)).setCell ⟨w.heap.size, 0, none⟩ (.int .u8 0)).setCell ⟨w.heap.size, 1, none⟩ (.int .u8 0)).setCell ⟨w.heap.size, 2, none⟩ (.int .u8 0)).setCell ⟨w.heap.size, 3, none⟩ (.int .u16 0)).setCell ⟨w.heap.size, 4, none⟩ (.bool false)).setCell ⟨w.heap.size, 5, none⟩ (.bool false)).setCell ⟨w.heap.size + 1, 0, none⟩ (.int .u8 0)).setCell ⟨w.heap.size + 1, 1, none⟩ (.int .u8 0)).setCell ⟨w.heap.size + 1, 2, none⟩ (.int .u8 0)).setCell ⟨w.heap.size + 1, 3, none⟩ (.int .u16 0)).setCell ⟨w.heap.size + 1, 4, none⟩ (.bool false)).setCell ⟨w.heap.size + 1, 5, none⟩ (.bool false)) := (id (below_set (below_set (below_set (below_set (below_set (below_set (below_set (below_set (below_set (below_set (below_set (below_set u2 (Nat.le_refl _)) (Nat.le_refl _)) (Nat.le_refl _)) (Nat.le_refl _)) (Nat.le_refl _)) (Nat.le_refl _)) (Nat.le_succ _)) (Nat.le_succ _)) (Nat.le_succ _)) (Nat.le_succ _)) (Nat.le_succ _)) (Nat.le_succ _)))
  generalize (((((((((((((w2.alloc (.cells #[.int .u8 y0, .int .u8 y1, .int .u8 y2, .int .u16 y3, .bool y4, .bool y5] 24)).setCell ⟨w.heap.size, 0, none⟩ (.int .u8 0)).setCell ⟨w.heap.size, 1, none⟩ (.int .u8 0)).setCell ⟨w.heap.size, 2, none⟩ (.int .u8 0)).setCell ⟨w.heap.size, 3, none⟩ (.int .u16 0)).setCell ⟨w.heap.size, 4, none⟩ (.bool false)).setCell ⟨w.heap.size, 5, none⟩ (.bool false)).setCell ⟨w.heap.size + 1, 0, none⟩ (.int .u8 0)).setCell ⟨w.heap.size + 1, 1, none⟩ (.int .u8 0)).setCell ⟨w.heap.size + 1, 2, none⟩ (.int .u8 0)).setCell ⟨w.heap.size + 1, 3, none⟩ (.int .u16 0)).setCell ⟨w.heap.size + 1, 4, none⟩ (.bool false)).setCell ⟨w.heap.size + 1, 5, none⟩ (.bool false)) = YY at m1 m2 m3 ⊢
  have U0 : YY.cell? ⟨w.heap.size, 0, none⟩ = some (.int .u8 0) := (blk_cell m1 0).trans rfl
  have T0 : YY.cell? ⟨w.heap.size + 1, 0, none⟩ = some (.int .u8 0) := (blk_cell m2 0).trans rfl
  have U1 : YY.cell? ⟨w.heap.size, 1, none⟩ = some (.int .u8 0) := (blk_cell m1 1).trans rfl
  have T1 : YY.cell? ⟨w.heap.size + 1, 1, none⟩ = some (.int .u8 0) := (blk_cell m2 1).trans rfl
  have U2 : YY.cell? ⟨w.heap.size, 2, none⟩ = some (.int .u8 0) := (blk_cell m1 2).trans rfl
  have T2 : YY.cell? ⟨w.heap.size + 1, 2, none⟩ = some (.int .u8 0) := (blk_cell m2 2).trans rfl
  have U3 : YY.cell? ⟨w.heap.size, 3, none⟩ = some (.int .u16 0) := (blk_cell m1 3).trans rfl
  have T3 : YY.cell? ⟨w.heap.size + 1, 3, none⟩ = some (.int .u16 0) := (blk_cell m2 3).trans rfl
  have U4 : YY.cell? ⟨w.heap.size, 4, none⟩ = some (.bool false) := (blk_cell m1 4).trans rfl
  have T4 : YY.cell? ⟨w.heap.size + 1, 4, none⟩ = some (.bool false) := (blk_cell m2 4).trans rfl
  have U5 : YY.cell? ⟨w.heap.size, 5, none⟩ = some (.bool false) := (blk_cell m1 5).trans rfl
  have T5 : YY.cell? ⟨w.heap.size + 1, 5, none⟩ = some (.bool false) := (blk_cell m2 5).trans rfl
  exact bodyPost_ret (v := .tuple #[.agg #[.int .u8 0, .int .u8 0, .int .u8 0, .int .u16 0, .bool false, .bool false], .agg #[.int .u8 0, .int .u8 0, .int .u8 0, .int .u16 0, .bool false, .bool false], .int .i64 6]) (by simp [results, Try.results26, go_sem, U0, T0, U1, T1, U2, T2, U3, T3, U4, T4, U5, T5]) rfl ⟨rfl, m3⟩
set_option maxRecDepth 100000 in
set_option maxHeartbeats 4000000 in
theorem rof_len (A : Option Addr) (c : Nat) (l : List Int) (hl : ¬ (l.length : Int) = 10) (w : World) :
    Calls Try.prog 26 #[.slice A l.length c] w fun e' w' => e' = .returned (.tuple #[.agg #[.int .u8 0, .int .u8 0, .int .u8 0, .int .u16 0, .bool false, .bool false], .agg #[.int .u8 0, .int .u8 0, .int .u8 0, .int .u16 0, .bool false, .bool false], .int .i64 5]) ∧ Below w.heap.size w w' := by
  go_enter Try.func26, Try.ntmps26
  go_wp2
  refine bodyPost_ret (v := .tuple #[.agg #[.int .u8 0, .int .u8 0, .int .u8 0, .int .u16 0, .bool false, .bool false], .agg #[.int .u8 0, .int .u8 0, .int .u8 0, .int .u16 0, .bool false, .bool false], .int .i64 5]) (by simp [results, Try.results26, go_sem]) rfl ⟨rfl, by go_grown⟩
def whirligigref09_Of.f (l0 : List Int) : Option (Int × Int × Int × Int × Bool × Bool × Int × Int × Int × Int × Bool × Bool × Int) :=
  if (l0.length : Int) = 10 then (whirligigref09_one.f (l0.take 5)).bind fun p => (whirligigref09_one.f (l0.drop 5)).bind fun q =>
    if p.2.2.2.2.2.2 = true then (if q.2.2.2.2.2.2 = true then some (p.1, p.2.1, p.2.2.1, p.2.2.2.1, p.2.2.2.2.1, p.2.2.2.2.2.1, q.1, q.2.1, q.2.2.1, q.2.2.2.1, q.2.2.2.2.1, q.2.2.2.2.2.1, 0) else some (0, 0, 0, 0, false, false, 0, 0, 0, 0, false, false, 6)) else some (0, 0, 0, 0, false, false, 0, 0, 0, 0, false, false, 6)
  else some (0, 0, 0, 0, false, false, 0, 0, 0, 0, false, false, 5)
theorem whirligigref09_Of.calls (A0 : Option Addr) (c0 : Nat) (l0 : List Int) (r1 : Int) (r2 : Int) (r3 : Int) (r4 : Int) (r5 : Bool) (r6 : Bool) (r7 : Int) (r8 : Int) (r9 : Int) (r10 : Int) (r11 : Bool) (r12 : Bool) (r13 : Int) (w : World) (hr0 : Kd.C (Kd.int .u8) w A0 l0.length l0) (hc0 : l0.length ≤ c0) (h : whirligigref09_Of.f l0 = some (r1, r2, r3, r4, r5, r6, r7, r8, r9, r10, r11, r12, r13)) :
    Calls Try.prog 26 #[.slice A0 l0.length c0] w fun e w' => e = .returned (.tuple #[.agg #[.int .u8 r1, .int .u8 r2, .int .u8 r3, .int .u16 r4, .bool r5, .bool r6], .agg #[.int .u8 r7, .int .u8 r8, .int .u8 r9, .int .u16 r10, .bool r11, .bool r12], .int .i64 r13]) ∧ Below w.heap.size w w' := by
  unfold whirligigref09_Of.f at h
  by_cases hl : (l0.length : Int) = 10
  case neg =>
    rw [if_neg hl] at h
    cases h
    exact rof_len A0 c0 l0 hl w
  rw [if_pos hl] at h
  obtain ⟨⟨x1, x2, x3, x4, x5, x6, a⟩, h0, h⟩ := Option.bind_eq_some_iff.mp h
  obtain ⟨⟨y1, y2, y3, y4, y5, y6, b⟩, h1, h⟩ := Option.bind_eq_some_iff.mp h
  cases a with
  | false =>
    rw [if_neg (by simp)] at h
    cases h
    exact rof_one A0 c0 l0 (by omega) _ _ _ _ _ _ _ _ _ _ _ _ b h0 h1 w hr0 hc0
  | true =>
    cases b with
    | false =>
      rw [if_pos rfl, if_neg (by simp)] at h
      cases h
      exact rof_two A0 c0 l0 (by omega) _ _ _ _ _ _ _ _ _ _ _ _ h0 h1 w hr0 hc0
    | true =>
      rw [if_pos rfl, if_pos rfl] at h
      cases h
      exact rof_ok A0 c0 l0 (by omega) _ _ _ _ _ _ _ _ _ _ _ _ h0 h1 w hr0 hc0
end Go.Proofs.Ytkfjofkocccefaa.Hand
