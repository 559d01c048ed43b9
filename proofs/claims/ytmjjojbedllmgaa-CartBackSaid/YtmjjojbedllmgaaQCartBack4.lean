/- What the proof of the statement CartBack stands on, part 4. (Packed by pack.py out of this session's texts.) -/
import Derived.Deep.MidRow
import Derived.Deep.RegionHeld2
import Derived.Deep.RegionHeld3
import Derived.Deep.RegionWith
import Derived.BigRegion
import Derived.Handy
import Derived.Laws.CopyRow
import Derived.Laws.CopyOwn
import Derived.Deep.RegionLaw
import Derived.StillTailTactics
import Derived.Deep.Slices
import Derived.Lib.BufferWrite
import Derived.Laws.AppendOwn
import Derived.Laws.OwnMore
import Derived.Test.YtmjjojbedllmgaaQCartBack0
import Derived.Test.YtmjjojbedllmgaaQCartBack1
import Derived.Test.YtmjjojbedllmgaaQCartBack2
import Derived.Test.YtmjjojbedllmgaaQCartBack3
section
namespace Go.Proofs.Ytmjjojbedllmgaa.Hand
open Go.RowKit
open Go.Proofs.Ytmjjojbedllmgaa.G
open Go.Proofs.YtmjjojbedllmgaaW.PrintWords Go.Proofs.YtmjjojbedllmgaaW.PrintLast Go.Proofs.YtmjjojbedllmgaaW.PrintMore
set_option linter.unusedVariables false
set_option linter.unusedSimpArgs false
set_option maxRecDepth 100000 in
set_option maxHeartbeats 20000000 in
theorem of_no (A : Option Addr) (c : Nat) (l : List Int) (hl : l.length = 10) (X Y : Nat → C6) (e0 e1 e2 e3 e4 e5 e6 e7 e8 e9 : Int) (hX0 : X 0 = (0, 0, 0, 0, false, false)) (hY0 : Y 0 = (0, 0, 0, 0, false, false)) (h0 : clock_Write.f (X 0).1 (X 0).2.1 (X 0).2.2.1 (X 0).2.2.2.1 (X 0).2.2.2.2.1 (X 0).2.2.2.2.2 8 (rd l 0) = some ((X 1).1, (X 1).2.1, (X 1).2.2.1, (X 1).2.2.2.1, (X 1).2.2.2.2.1, (X 1).2.2.2.2.2, e0)) (h1 : clock_Write.f (X 1).1 (X 1).2.1 (X 1).2.2.1 (X 1).2.2.2.1 (X 1).2.2.2.2.1 (X 1).2.2.2.2.2 9 (rd l 1) = some ((X 2).1, (X 2).2.1, (X 2).2.2.1, (X 2).2.2.2.1, (X 2).2.2.2.2.1, (X 2).2.2.2.2.2, e1)) (h2 : clock_Write.f (X 2).1 (X 2).2.1 (X 2).2.2.1 (X 2).2.2.2.1 (X 2).2.2.2.2.1 (X 2).2.2.2.2.2 10 (rd l 2) = some ((X 3).1, (X 3).2.1, (X 3).2.2.1, (X 3).2.2.2.1, (X 3).2.2.2.2.1, (X 3).2.2.2.2.2, e2)) (h3 : clock_Write.f (X 3).1 (X 3).2.1 (X 3).2.2.1 (X 3).2.2.2.1 (X 3).2.2.2.2.1 (X 3).2.2.2.2.2 11 (rd l 3) = some ((X 4).1, (X 4).2.1, (X 4).2.2.1, (X 4).2.2.2.1, (X 4).2.2.2.2.1, (X 4).2.2.2.2.2, e3)) (h4 : clock_Write.f (X 4).1 (X 4).2.1 (X 4).2.2.1 (X 4).2.2.2.1 (X 4).2.2.2.2.1 (X 4).2.2.2.2.2 12 (rd l 4) = some ((X 5).1, (X 5).2.1, (X 5).2.2.1, (X 5).2.2.2.1, (X 5).2.2.2.2.1, (X 5).2.2.2.2.2, e4)) (h5 : clock_Write.f (Y 0).1 (Y 0).2.1 (Y 0).2.2.1 (Y 0).2.2.2.1 (Y 0).2.2.2.2.1 (Y 0).2.2.2.2.2 8 (rd l 5) = some ((Y 1).1, (Y 1).2.1, (Y 1).2.2.1, (Y 1).2.2.2.1, (Y 1).2.2.2.2.1, (Y 1).2.2.2.2.2, e5)) (h6 : clock_Write.f (Y 1).1 (Y 1).2.1 (Y 1).2.2.1 (Y 1).2.2.2.1 (Y 1).2.2.2.2.1 (Y 1).2.2.2.2.2 9 (rd l 6) = some ((Y 2).1, (Y 2).2.1, (Y 2).2.2.1, (Y 2).2.2.2.1, (Y 2).2.2.2.2.1, (Y 2).2.2.2.2.2, e6)) (h7 : clock_Write.f (Y 2).1 (Y 2).2.1 (Y 2).2.2.1 (Y 2).2.2.2.1 (Y 2).2.2.2.2.1 (Y 2).2.2.2.2.2 10 (rd l 7) = some ((Y 3).1, (Y 3).2.1, (Y 3).2.2.1, (Y 3).2.2.2.1, (Y 3).2.2.2.2.1, (Y 3).2.2.2.2.2, e7)) (h8 : clock_Write.f (Y 3).1 (Y 3).2.1 (Y 3).2.2.1 (Y 3).2.2.2.1 (Y 3).2.2.2.2.1 (Y 3).2.2.2.2.2 11 (rd l 8) = some ((Y 4).1, (Y 4).2.1, (Y 4).2.2.1, (Y 4).2.2.2.1, (Y 4).2.2.2.2.1, (Y 4).2.2.2.2.2, e8)) (h9 : clock_Write.f (Y 4).1 (Y 4).2.1 (Y 4).2.2.1 (Y 4).2.2.2.1 (Y 4).2.2.2.2.1 (Y 4).2.2.2.2.2 12 (rd l 9) = some ((Y 5).1, (Y 5).2.1, (Y 5).2.2.1, (Y 5).2.2.2.1, (Y 5).2.2.2.2.1, (Y 5).2.2.2.2.2, e9)) (r : List Int) (hB : clock_Bytes.f (X 5).1 (X 5).2.1 (X 5).2.2.1 (X 5).2.2.2.1 (X 5).2.2.2.2.1 (X 5).2.2.2.2.2 (Y 5).1 (Y 5).2.1 (Y 5).2.2.1 (Y 5).2.2.2.1 (Y 5).2.2.2.2.1 (Y 5).2.2.2.2.2 = some r) (w : World) (hr : Kd.C (Kd.int .u8) w A l.length l) (hc : l.length ≤ c) (hcmp : ((strOfNums r).toList == (strOfNums l).toList) = false) :
    Calls Try.prog 50 #[.slice A l.length c] w fun e' w' => e' = .returned (.tuple #[.agg #[.int .u8 0, .int .u8 0, .int .u8 0, .int .u16 0, .bool false, .bool false], .agg #[.int .u8 0, .int .u8 0, .int .u8 0, .int .u16 0, .bool false, .bool false], .int .i64 6]) ∧ Below w.heap.size w w' := by
  have HY := Aside0.mk hB
  clear hB
  rw [hl] at hr ⊢
  obtain ⟨ad, rfl, _⟩ := Kd.at_int hr 0 (by omega) (by omega)
  have H0 := Aside0.mk h0
  have H1 := Aside0.mk h1
  have H2 := Aside0.mk h2
  have H3 := Aside0.mk h3
  have H4 := Aside0.mk h4
  have H5 := Aside0.mk h5
  have H6 := Aside0.mk h6
  have H7 := Aside0.mk h7
  have H8 := Aside0.mk h8
  have H9 := Aside0.mk h9
  clear h0 h1 h2 h3 h4 h5 h6 h7 h8 h9
  have HR := Aside0.mk hr
  clear hr
  go_enter Try.func50, Try.ntmps50
  go_wp2_with fail
  have s1 : (w.alloc (.cells #[.int .u8 0, .int .u8 0, .int .u8 0, .int .u16 0, .bool false, .bool false] 34)).heap.size = w.heap.size + 1 := by simp
  have s2 : ((w.alloc (.cells #[.int .u8 0, .int .u8 0, .int .u8 0, .int .u16 0, .bool false, .bool false] 34)).alloc (.cells #[.int .u8 0, .int .u8 0, .int .u8 0, .int .u16 0, .bool false, .bool false] 34)).heap.size = w.heap.size + 1 + 1 := by simp
  have q1 := blk_alloc (blk_alloc (blk_new w (.cells #[.int .u8 0, .int .u8 0, .int .u8 0, .int .u16 0, .bool false, .bool false] 34)) (.cells #[.int .u8 0, .int .u8 0, .int .u8 0, .int .u16 0, .bool false, .bool false] 34)) (.cells #[.int .u8 0, .int .u8 0, .int .u8 0, .int .u16 0, .bool false, .bool false, .int .u8 0, .int .u8 0, .int .u8 0, .int .u16 0, .bool false, .bool false] 120)
  have q2 := heap_alloc_new (w.alloc (.cells #[.int .u8 0, .int .u8 0, .int .u8 0, .int .u16 0, .bool false, .bool false] 34)) (.cells #[.int .u8 0, .int .u8 0, .int .u8 0, .int .u16 0, .bool false, .bool false] 34)
  rw [s1] at q2
  have q2 := blk_alloc q2 (.cells #[.int .u8 0, .int .u8 0, .int .u8 0, .int .u16 0, .bool false, .bool false, .int .u8 0, .int .u8 0, .int .u8 0, .int .u16 0, .bool false, .bool false] 120)
  have q3 := heap_alloc_new ((w.alloc (.cells #[.int .u8 0, .int .u8 0, .int .u8 0, .int .u16 0, .bool false, .bool false] 34)).alloc (.cells #[.int .u8 0, .int .u8 0, .int .u8 0, .int .u16 0, .bool false, .bool false] 34)) (.cells #[.int .u8 0, .int .u8 0, .int .u8 0, .int .u16 0, .bool false, .bool false, .int .u8 0, .int .u8 0, .int .u8 0, .int .u16 0, .bool false, .bool false] 120)
  rw [s2] at q3
  have q4 := below_alloc (below_alloc (below_alloc (Below.refl w.heap.size w) (.cells #[.int .u8 0, .int .u8 0, .int .u8 0, .int .u16 0, .bool false, .bool false] 34)) (.cells #[.int .u8 0, .int .u8 0, .int .u8 0, .int .u16 0, .bool false, .bool false] 34)) (.cells #[.int .u8 0, .int .u8 0, .int .u8 0, .int .u16 0, .bool false, .bool false, .int .u8 0, .int .u8 0, .int .u8 0, .int .u16 0, .bool false, .bool false] 120)
  have q5 : (.cells #[.int .u8 0, .int .u8 0, .int .u8 0, .int .u16 0, .bool false, .bool false, .int .u8 0, .int .u8 0, .int .u8 0, .int .u16 0, .bool false, .bool false] 120 : Obj) = .cells (stOf X Y 0) 120 := by show Obj.cells _ _ = Obj.cells (csOf (X 0) (Y 0)) _; unfold csOf; rw [hX0, hY0]
  rw [q5] at q3
  go_loopw [15] (fun i w' => ∃ (j : Nat), i = .int .i64 j ∧ Aside0 (j ≤ 10 ∧ w'.heap[w.heap.size]? = some (.cells #[.int .u8 0, .int .u8 0, .int .u8 0, .int .u16 0, .bool false, .bool false] 34 (0, 0)) ∧ w'.heap[w.heap.size + 1]? = some (.cells #[.int .u8 0, .int .u8 0, .int .u8 0, .int .u16 0, .bool false, .bool false] 34 (0, 0)) ∧ w'.heap[(w.heap.size + 1 + 1)]? = some (.cells (stOf X Y j) 120 (0, 0)) ∧ Below w.heap.size w w')) (fun i _ => 20 - (intOf i).toNat)
  case atStart => exact ⟨0, rfl, Aside0.mk ⟨by omega, q1, q2, by rw [q5]; exact q3, q4⟩⟩
  case round =>
    obtain ⟨j, rfl, HA⟩ := hrel
    obtain ⟨hj, b1, b2, b3, hb⟩ := HA.out
    clear HA
    have B1 := Aside0.mk b1
    have B2 := Aside0.mk b2
    have B3 := Aside0.mk b3
    have HB := Aside0.mk hb
    have CB := Aside0.mk (Kd.C_below HR.out hb)
    clear hX0 hY0 b1 b2 b3 hb s1 s2 q1 q2 q3 q4 q5
    have hsz : (w.heap.size + 1 + 1) < wr.heap.size := blk_lt B3.out
    have hj6 : j = 0 ∨ j = 1 ∨ j = 2 ∨ j = 3 ∨ j = 4 ∨ j = 5 ∨ j = 6 ∨ j = 7 ∨ j = 8 ∨ j = 9 ∨ j = 10 := by omega
    clear hj
    rcases hj6 with rfl | rfl | rfl | rfl | rfl | rfl | rfl | rfl | rfl | rfl | rfl
    · obtain ⟨ad', ea, cb⟩ := Kd.at_int CB.out 0 (by omega) (by omega)
      obtain rfl := Option.some.inj ea
      clear ea
      have cb : wr.cell? ad = some (.int .u8 (rd l 0)) := by simpa [Addr.add] using cb
      have c0 : wr.cell? ⟨(w.heap.size + 1 + 1), 0, none⟩ = some (.int .u8 (X 0).1) := (blk_cell B3.out 0).trans rfl
      have c1 : wr.cell? ⟨(w.heap.size + 1 + 1), 1, none⟩ = some (.int .u8 (X 0).2.1) := (blk_cell B3.out 1).trans rfl
      have c2 : wr.cell? ⟨(w.heap.size + 1 + 1), 2, none⟩ = some (.int .u8 (X 0).2.2.1) := (blk_cell B3.out 2).trans rfl
      have c3 : wr.cell? ⟨(w.heap.size + 1 + 1), 3, none⟩ = some (.int .u16 (X 0).2.2.2.1) := (blk_cell B3.out 3).trans rfl
      have c4 : wr.cell? ⟨(w.heap.size + 1 + 1), 4, none⟩ = some (.bool (X 0).2.2.2.2.1) := (blk_cell B3.out 4).trans rfl
      have c5 : wr.cell? ⟨(w.heap.size + 1 + 1), 5, none⟩ = some (.bool (X 0).2.2.2.2.2) := (blk_cell B3.out 5).trans rfl
      have c6 : wr.cell? ⟨(w.heap.size + 1 + 1), 6, none⟩ = some (.int .u8 (Y 0).1) := (blk_cell B3.out 6).trans rfl
      have c7 : wr.cell? ⟨(w.heap.size + 1 + 1), 7, none⟩ = some (.int .u8 (Y 0).2.1) := (blk_cell B3.out 7).trans rfl
      have c8 : wr.cell? ⟨(w.heap.size + 1 + 1), 8, none⟩ = some (.int .u8 (Y 0).2.2.1) := (blk_cell B3.out 8).trans rfl
      have c9 : wr.cell? ⟨(w.heap.size + 1 + 1), 9, none⟩ = some (.int .u16 (Y 0).2.2.2.1) := (blk_cell B3.out 9).trans rfl
      have c10 : wr.cell? ⟨(w.heap.size + 1 + 1), 10, none⟩ = some (.bool (Y 0).2.2.2.2.1) := (blk_cell B3.out 10).trans rfl
      have c11 : wr.cell? ⟨(w.heap.size + 1 + 1), 11, none⟩ = some (.bool (Y 0).2.2.2.2.2) := (blk_cell B3.out 11).trans rfl
      go_wp2_with (first | (go_at_call 43; ((with_reducible refine (clock_Write.calls (X 0).1 (X 0).2.1 (X 0).2.2.1 (X 0).2.2.2.1 (X 0).2.2.2.2.1 (X 0).2.2.2.2.2 8 (rd l 0) (X 1).1 (X 1).2.1 (X 1).2.2.1 (X 1).2.2.2.1 (X 1).2.2.2.2.1 (X 1).2.2.2.2.2 e0 _ H0.out).mono ?_)); rintro e' w2 ⟨rfl, hb⟩; have n1 := Aside0.mk (blk_below B1.out hb); have n2 := Aside0.mk (blk_below B2.out hb); have n3 := Aside0.mk (blk_below B3.out hb); have n4 := Aside0.mk (below_step HB.out hb); clear hb; have d0 : w2.cell? ⟨(w.heap.size + 1 + 1), 0, none⟩ = some (.int .u8 (X 0).1) := (blk_cell n3.out 0).trans rfl; have d1 : w2.cell? ⟨(w.heap.size + 1 + 1), 1, none⟩ = some (.int .u8 (X 0).2.1) := (blk_cell n3.out 1).trans rfl; have d2 : w2.cell? ⟨(w.heap.size + 1 + 1), 2, none⟩ = some (.int .u8 (X 0).2.2.1) := (blk_cell n3.out 2).trans rfl; have d3 : w2.cell? ⟨(w.heap.size + 1 + 1), 3, none⟩ = some (.int .u16 (X 0).2.2.2.1) := (blk_cell n3.out 3).trans rfl; have d4 : w2.cell? ⟨(w.heap.size + 1 + 1), 4, none⟩ = some (.bool (X 0).2.2.2.2.1) := (blk_cell n3.out 4).trans rfl; have d5 : w2.cell? ⟨(w.heap.size + 1 + 1), 5, none⟩ = some (.bool (X 0).2.2.2.2.2) := (blk_cell n3.out 5).trans rfl; have d6 : w2.cell? ⟨(w.heap.size + 1 + 1), 6, none⟩ = some (.int .u8 (Y 0).1) := (blk_cell n3.out 6).trans rfl; have d7 : w2.cell? ⟨(w.heap.size + 1 + 1), 7, none⟩ = some (.int .u8 (Y 0).2.1) := (blk_cell n3.out 7).trans rfl; have d8 : w2.cell? ⟨(w.heap.size + 1 + 1), 8, none⟩ = some (.int .u8 (Y 0).2.2.1) := (blk_cell n3.out 8).trans rfl; have d9 : w2.cell? ⟨(w.heap.size + 1 + 1), 9, none⟩ = some (.int .u16 (Y 0).2.2.2.1) := (blk_cell n3.out 9).trans rfl; have d10 : w2.cell? ⟨(w.heap.size + 1 + 1), 10, none⟩ = some (.bool (Y 0).2.2.2.2.1) := (blk_cell n3.out 10).trans rfl; have d11 : w2.cell? ⟨(w.heap.size + 1 + 1), 11, none⟩ = some (.bool (Y 0).2.2.2.2.2) := (blk_cell n3.out 11).trans rfl; have fz := fun i => blk_frozen n3.out i))
      refine ⟨⟨1, rfl, Aside0.mk ⟨by omega, ?_, ?_, ?_, ?_⟩⟩, by simp [intOf]⟩
      · exact (blk_far (blk_far (blk_far (blk_far (blk_far (blk_far n1.out (by simp; omega) _) (by simp; omega) _) (by simp; omega) _) (by simp; omega) _) (by simp; omega) _) (by simp; omega) _)
      · exact (blk_far (blk_far (blk_far (blk_far (blk_far (blk_far n2.out (by simp) _) (by simp) _) (by simp) _) (by simp) _) (by simp) _) (by simp) _)
      · exact (blk_put (blk_put (blk_put (blk_put (blk_put (blk_put n3.out 0 _ rfl) 1 _ rfl) 2 _ rfl) 3 _ rfl) 4 _ rfl) 5 _ rfl)
      · exact (below_set (below_set (below_set (below_set (below_set (below_set n4.out (by omega)) (by omega)) (by omega)) (by omega)) (by omega)) (by omega))
    · obtain ⟨ad', ea, cb⟩ := Kd.at_int CB.out 1 (by omega) (by omega)
      obtain rfl := Option.some.inj ea
      clear ea
      have cb' : wr.cell? ⟨ad.block, ad.off + 1, none⟩ = some (.int .u8 (rd l 1)) := by simpa [Addr.add] using cb
      have c0 : wr.cell? ⟨(w.heap.size + 1 + 1), 0, none⟩ = some (.int .u8 (X 1).1) := (blk_cell B3.out 0).trans rfl
      have c1 : wr.cell? ⟨(w.heap.size + 1 + 1), 1, none⟩ = some (.int .u8 (X 1).2.1) := (blk_cell B3.out 1).trans rfl
      have c2 : wr.cell? ⟨(w.heap.size + 1 + 1), 2, none⟩ = some (.int .u8 (X 1).2.2.1) := (blk_cell B3.out 2).trans rfl
      have c3 : wr.cell? ⟨(w.heap.size + 1 + 1), 3, none⟩ = some (.int .u16 (X 1).2.2.2.1) := (blk_cell B3.out 3).trans rfl
      have c4 : wr.cell? ⟨(w.heap.size + 1 + 1), 4, none⟩ = some (.bool (X 1).2.2.2.2.1) := (blk_cell B3.out 4).trans rfl
      have c5 : wr.cell? ⟨(w.heap.size + 1 + 1), 5, none⟩ = some (.bool (X 1).2.2.2.2.2) := (blk_cell B3.out 5).trans rfl
      have c6 : wr.cell? ⟨(w.heap.size + 1 + 1), 6, none⟩ = some (.int .u8 (Y 0).1) := (blk_cell B3.out 6).trans rfl
      have c7 : wr.cell? ⟨(w.heap.size + 1 + 1), 7, none⟩ = some (.int .u8 (Y 0).2.1) := (blk_cell B3.out 7).trans rfl
      have c8 : wr.cell? ⟨(w.heap.size + 1 + 1), 8, none⟩ = some (.int .u8 (Y 0).2.2.1) := (blk_cell B3.out 8).trans rfl
      have c9 : wr.cell? ⟨(w.heap.size + 1 + 1), 9, none⟩ = some (.int .u16 (Y 0).2.2.2.1) := (blk_cell B3.out 9).trans rfl
      have c10 : wr.cell? ⟨(w.heap.size + 1 + 1), 10, none⟩ = some (.bool (Y 0).2.2.2.2.1) := (blk_cell B3.out 10).trans rfl
      have c11 : wr.cell? ⟨(w.heap.size + 1 + 1), 11, none⟩ = some (.bool (Y 0).2.2.2.2.2) := (blk_cell B3.out 11).trans rfl
      go_wp2_with (first | (go_at_call 43; ((with_reducible refine (clock_Write.calls (X 1).1 (X 1).2.1 (X 1).2.2.1 (X 1).2.2.2.1 (X 1).2.2.2.2.1 (X 1).2.2.2.2.2 9 (rd l 1) (X 2).1 (X 2).2.1 (X 2).2.2.1 (X 2).2.2.2.1 (X 2).2.2.2.2.1 (X 2).2.2.2.2.2 e1 _ H1.out).mono ?_)); rintro e' w2 ⟨rfl, hb⟩; have n1 := Aside0.mk (blk_below B1.out hb); have n2 := Aside0.mk (blk_below B2.out hb); have n3 := Aside0.mk (blk_below B3.out hb); have n4 := Aside0.mk (below_step HB.out hb); clear hb; have d0 : w2.cell? ⟨(w.heap.size + 1 + 1), 0, none⟩ = some (.int .u8 (X 1).1) := (blk_cell n3.out 0).trans rfl; have d1 : w2.cell? ⟨(w.heap.size + 1 + 1), 1, none⟩ = some (.int .u8 (X 1).2.1) := (blk_cell n3.out 1).trans rfl; have d2 : w2.cell? ⟨(w.heap.size + 1 + 1), 2, none⟩ = some (.int .u8 (X 1).2.2.1) := (blk_cell n3.out 2).trans rfl; have d3 : w2.cell? ⟨(w.heap.size + 1 + 1), 3, none⟩ = some (.int .u16 (X 1).2.2.2.1) := (blk_cell n3.out 3).trans rfl; have d4 : w2.cell? ⟨(w.heap.size + 1 + 1), 4, none⟩ = some (.bool (X 1).2.2.2.2.1) := (blk_cell n3.out 4).trans rfl; have d5 : w2.cell? ⟨(w.heap.size + 1 + 1), 5, none⟩ = some (.bool (X 1).2.2.2.2.2) := (blk_cell n3.out 5).trans rfl; have d6 : w2.cell? ⟨(w.heap.size + 1 + 1), 6, none⟩ = some (.int .u8 (Y 0).1) := (blk_cell n3.out 6).trans rfl; have d7 : w2.cell? ⟨(w.heap.size + 1 + 1), 7, none⟩ = some (.int .u8 (Y 0).2.1) := (blk_cell n3.out 7).trans rfl; have d8 : w2.cell? ⟨(w.heap.size + 1 + 1), 8, none⟩ = some (.int .u8 (Y 0).2.2.1) := (blk_cell n3.out 8).trans rfl; have d9 : w2.cell? ⟨(w.heap.size + 1 + 1), 9, none⟩ = some (.int .u16 (Y 0).2.2.2.1) := (blk_cell n3.out 9).trans rfl; have d10 : w2.cell? ⟨(w.heap.size + 1 + 1), 10, none⟩ = some (.bool (Y 0).2.2.2.2.1) := (blk_cell n3.out 10).trans rfl; have d11 : w2.cell? ⟨(w.heap.size + 1 + 1), 11, none⟩ = some (.bool (Y 0).2.2.2.2.2) := (blk_cell n3.out 11).trans rfl; have fz := fun i => blk_frozen n3.out i))
      refine ⟨⟨2, rfl, Aside0.mk ⟨by omega, ?_, ?_, ?_, ?_⟩⟩, by simp [intOf]⟩
      · exact (blk_far (blk_far (blk_far (blk_far (blk_far (blk_far n1.out (by simp; omega) _) (by simp; omega) _) (by simp; omega) _) (by simp; omega) _) (by simp; omega) _) (by simp; omega) _)
      · exact (blk_far (blk_far (blk_far (blk_far (blk_far (blk_far n2.out (by simp) _) (by simp) _) (by simp) _) (by simp) _) (by simp) _) (by simp) _)
      · exact (blk_put (blk_put (blk_put (blk_put (blk_put (blk_put n3.out 0 _ rfl) 1 _ rfl) 2 _ rfl) 3 _ rfl) 4 _ rfl) 5 _ rfl)
      · exact (below_set (below_set (below_set (below_set (below_set (below_set n4.out (by omega)) (by omega)) (by omega)) (by omega)) (by omega)) (by omega))
    · obtain ⟨ad', ea, cb⟩ := Kd.at_int CB.out 2 (by omega) (by omega)
      obtain rfl := Option.some.inj ea
      clear ea
      have cb' : wr.cell? ⟨ad.block, ad.off + 2, none⟩ = some (.int .u8 (rd l 2)) := by simpa [Addr.add] using cb
      have c0 : wr.cell? ⟨(w.heap.size + 1 + 1), 0, none⟩ = some (.int .u8 (X 2).1) := (blk_cell B3.out 0).trans rfl
      have c1 : wr.cell? ⟨(w.heap.size + 1 + 1), 1, none⟩ = some (.int .u8 (X 2).2.1) := (blk_cell B3.out 1).trans rfl
      have c2 : wr.cell? ⟨(w.heap.size + 1 + 1), 2, none⟩ = some (.int .u8 (X 2).2.2.1) := (blk_cell B3.out 2).trans rfl
      have c3 : wr.cell? ⟨(w.heap.size + 1 + 1), 3, none⟩ = some (.int .u16 (X 2).2.2.2.1) := (blk_cell B3.out 3).trans rfl
      have c4 : wr.cell? ⟨(w.heap.size + 1 + 1), 4, none⟩ = some (.bool (X 2).2.2.2.2.1) := (blk_cell B3.out 4).trans rfl
      have c5 : wr.cell? ⟨(w.heap.size + 1 + 1), 5, none⟩ = some (.bool (X 2).2.2.2.2.2) := (blk_cell B3.out 5).trans rfl
      have c6 : wr.cell? ⟨(w.heap.size + 1 + 1), 6, none⟩ = some (.int .u8 (Y 0).1) := (blk_cell B3.out 6).trans rfl
      have c7 : wr.cell? ⟨(w.heap.size + 1 + 1), 7, none⟩ = some (.int .u8 (Y 0).2.1) := (blk_cell B3.out 7).trans rfl
      have c8 : wr.cell? ⟨(w.heap.size + 1 + 1), 8, none⟩ = some (.int .u8 (Y 0).2.2.1) := (blk_cell B3.out 8).trans rfl
      have c9 : wr.cell? ⟨(w.heap.size + 1 + 1), 9, none⟩ = some (.int .u16 (Y 0).2.2.2.1) := (blk_cell B3.out 9).trans rfl
      have c10 : wr.cell? ⟨(w.heap.size + 1 + 1), 10, none⟩ = some (.bool (Y 0).2.2.2.2.1) := (blk_cell B3.out 10).trans rfl
      have c11 : wr.cell? ⟨(w.heap.size + 1 + 1), 11, none⟩ = some (.bool (Y 0).2.2.2.2.2) := (blk_cell B3.out 11).trans rfl
      go_wp2_with (first | (go_at_call 43; ((with_reducible refine (clock_Write.calls (X 2).1 (X 2).2.1 (X 2).2.2.1 (X 2).2.2.2.1 (X 2).2.2.2.2.1 (X 2).2.2.2.2.2 10 (rd l 2) (X 3).1 (X 3).2.1 (X 3).2.2.1 (X 3).2.2.2.1 (X 3).2.2.2.2.1 (X 3).2.2.2.2.2 e2 _ H2.out).mono ?_)); rintro e' w2 ⟨rfl, hb⟩; have n1 := Aside0.mk (blk_below B1.out hb); have n2 := Aside0.mk (blk_below B2.out hb); have n3 := Aside0.mk (blk_below B3.out hb); have n4 := Aside0.mk (below_step HB.out hb); clear hb; have d0 : w2.cell? ⟨(w.heap.size + 1 + 1), 0, none⟩ = some (.int .u8 (X 2).1) := (blk_cell n3.out 0).trans rfl; have d1 : w2.cell? ⟨(w.heap.size + 1 + 1), 1, none⟩ = some (.int .u8 (X 2).2.1) := (blk_cell n3.out 1).trans rfl; have d2 : w2.cell? ⟨(w.heap.size + 1 + 1), 2, none⟩ = some (.int .u8 (X 2).2.2.1) := (blk_cell n3.out 2).trans rfl; have d3 : w2.cell? ⟨(w.heap.size + 1 + 1), 3, none⟩ = some (.int .u16 (X 2).2.2.2.1) := (blk_cell n3.out 3).trans rfl; have d4 : w2.cell? ⟨(w.heap.size + 1 + 1), 4, none⟩ = some (.bool (X 2).2.2.2.2.1) := (blk_cell n3.out 4).trans rfl; have d5 : w2.cell? ⟨(w.heap.size + 1 + 1), 5, none⟩ = some (.bool (X 2).2.2.2.2.2) := (blk_cell n3.out 5).trans rfl; have d6 : w2.cell? ⟨(w.heap.size + 1 + 1), 6, none⟩ = some (.int .u8 (Y 0).1) := (blk_cell n3.out 6).trans rfl; have d7 : w2.cell? ⟨(w.heap.size + 1 + 1), 7, none⟩ = some (.int .u8 (Y 0).2.1) := (blk_cell n3.out 7).trans rfl; have d8 : w2.cell? ⟨(w.heap.size + 1 + 1), 8, none⟩ = some (.int .u8 (Y 0).2.2.1) := (blk_cell n3.out 8).trans rfl; have d9 : w2.cell? ⟨(w.heap.size + 1 + 1), 9, none⟩ = some (.int .u16 (Y 0).2.2.2.1) := (blk_cell n3.out 9).trans rfl; have d10 : w2.cell? ⟨(w.heap.size + 1 + 1), 10, none⟩ = some (.bool (Y 0).2.2.2.2.1) := (blk_cell n3.out 10).trans rfl; have d11 : w2.cell? ⟨(w.heap.size + 1 + 1), 11, none⟩ = some (.bool (Y 0).2.2.2.2.2) := (blk_cell n3.out 11).trans rfl; have fz := fun i => blk_frozen n3.out i))
      refine ⟨⟨3, rfl, Aside0.mk ⟨by omega, ?_, ?_, ?_, ?_⟩⟩, by simp [intOf]⟩
      · exact (blk_far (blk_far (blk_far (blk_far (blk_far (blk_far n1.out (by simp; omega) _) (by simp; omega) _) (by simp; omega) _) (by simp; omega) _) (by simp; omega) _) (by simp; omega) _)
      · exact (blk_far (blk_far (blk_far (blk_far (blk_far (blk_far n2.out (by simp) _) (by simp) _) (by simp) _) (by simp) _) (by simp) _) (by simp) _)
      · exact (blk_put (blk_put (blk_put (blk_put (blk_put (blk_put n3.out 0 _ rfl) 1 _ rfl) 2 _ rfl) 3 _ rfl) 4 _ rfl) 5 _ rfl)
      · exact (below_set (below_set (below_set (below_set (below_set (below_set n4.out (by omega)) (by omega)) (by omega)) (by omega)) (by omega)) (by omega))
    · obtain ⟨ad', ea, cb⟩ := Kd.at_int CB.out 3 (by omega) (by omega)
      obtain rfl := Option.some.inj ea
      clear ea
      have cb' : wr.cell? ⟨ad.block, ad.off + 3, none⟩ = some (.int .u8 (rd l 3)) := by simpa [Addr.add] using cb
      have c0 : wr.cell? ⟨(w.heap.size + 1 + 1), 0, none⟩ = some (.int .u8 (X 3).1) := (blk_cell B3.out 0).trans rfl
      have c1 : wr.cell? ⟨(w.heap.size + 1 + 1), 1, none⟩ = some (.int .u8 (X 3).2.1) := (blk_cell B3.out 1).trans rfl
      have c2 : wr.cell? ⟨(w.heap.size + 1 + 1), 2, none⟩ = some (.int .u8 (X 3).2.2.1) := (blk_cell B3.out 2).trans rfl
      have c3 : wr.cell? ⟨(w.heap.size + 1 + 1), 3, none⟩ = some (.int .u16 (X 3).2.2.2.1) := (blk_cell B3.out 3).trans rfl
      have c4 : wr.cell? ⟨(w.heap.size + 1 + 1), 4, none⟩ = some (.bool (X 3).2.2.2.2.1) := (blk_cell B3.out 4).trans rfl
      have c5 : wr.cell? ⟨(w.heap.size + 1 + 1), 5, none⟩ = some (.bool (X 3).2.2.2.2.2) := (blk_cell B3.out 5).trans rfl
      have c6 : wr.cell? ⟨(w.heap.size + 1 + 1), 6, none⟩ = some (.int .u8 (Y 0).1) := (blk_cell B3.out 6).trans rfl
      have c7 : wr.cell? ⟨(w.heap.size + 1 + 1), 7, none⟩ = some (.int .u8 (Y 0).2.1) := (blk_cell B3.out 7).trans rfl
      have c8 : wr.cell? ⟨(w.heap.size + 1 + 1), 8, none⟩ = some (.int .u8 (Y 0).2.2.1) := (blk_cell B3.out 8).trans rfl
      have c9 : wr.cell? ⟨(w.heap.size + 1 + 1), 9, none⟩ = some (.int .u16 (Y 0).2.2.2.1) := (blk_cell B3.out 9).trans rfl
      have c10 : wr.cell? ⟨(w.heap.size + 1 + 1), 10, none⟩ = some (.bool (Y 0).2.2.2.2.1) := (blk_cell B3.out 10).trans rfl
      have c11 : wr.cell? ⟨(w.heap.size + 1 + 1), 11, none⟩ = some (.bool (Y 0).2.2.2.2.2) := (blk_cell B3.out 11).trans rfl
      go_wp2_with (first | (go_at_call 43; ((with_reducible refine (clock_Write.calls (X 3).1 (X 3).2.1 (X 3).2.2.1 (X 3).2.2.2.1 (X 3).2.2.2.2.1 (X 3).2.2.2.2.2 11 (rd l 3) (X 4).1 (X 4).2.1 (X 4).2.2.1 (X 4).2.2.2.1 (X 4).2.2.2.2.1 (X 4).2.2.2.2.2 e3 _ H3.out).mono ?_)); rintro e' w2 ⟨rfl, hb⟩; have n1 := Aside0.mk (blk_below B1.out hb); have n2 := Aside0.mk (blk_below B2.out hb); have n3 := Aside0.mk (blk_below B3.out hb); have n4 := Aside0.mk (below_step HB.out hb); clear hb; have d0 : w2.cell? ⟨(w.heap.size + 1 + 1), 0, none⟩ = some (.int .u8 (X 3).1) := (blk_cell n3.out 0).trans rfl; have d1 : w2.cell? ⟨(w.heap.size + 1 + 1), 1, none⟩ = some (.int .u8 (X 3).2.1) := (blk_cell n3.out 1).trans rfl; have d2 : w2.cell? ⟨(w.heap.size + 1 + 1), 2, none⟩ = some (.int .u8 (X 3).2.2.1) := (blk_cell n3.out 2).trans rfl; have d3 : w2.cell? ⟨(w.heap.size + 1 + 1), 3, none⟩ = some (.int .u16 (X 3).2.2.2.1) := (blk_cell n3.out 3).trans rfl; have d4 : w2.cell? ⟨(w.heap.size + 1 + 1), 4, none⟩ = some (.bool (X 3).2.2.2.2.1) := (blk_cell n3.out 4).trans rfl; have d5 : w2.cell? ⟨(w.heap.size + 1 + 1), 5, none⟩ = some (.bool (X 3).2.2.2.2.2) := (blk_cell n3.out 5).trans rfl; have d6 : w2.cell? ⟨(w.heap.size + 1 + 1), 6, none⟩ = some (.int .u8 (Y 0).1) := (blk_cell n3.out 6).trans rfl; have d7 : w2.cell? ⟨(w.heap.size + 1 + 1), 7, none⟩ = some (.int .u8 (Y 0).2.1) := (blk_cell n3.out 7).trans rfl; have d8 : w2.cell? ⟨(w.heap.size + 1 + 1), 8, none⟩ = some (.int .u8 (Y 0).2.2.1) := (blk_cell n3.out 8).trans rfl; have d9 : w2.cell? ⟨(w.heap.size + 1 + 1), 9, none⟩ = some (.int .u16 (Y 0).2.2.2.1) := (blk_cell n3.out 9).trans rfl; have d10 : w2.cell? ⟨(w.heap.size + 1 + 1), 10, none⟩ = some (.bool (Y 0).2.2.2.2.1) := (blk_cell n3.out 10).trans rfl; have d11 : w2.cell? ⟨(w.heap.size + 1 + 1), 11, none⟩ = some (.bool (Y 0).2.2.2.2.2) := (blk_cell n3.out 11).trans rfl; have fz := fun i => blk_frozen n3.out i))
      refine ⟨⟨4, rfl, Aside0.mk ⟨by omega, ?_, ?_, ?_, ?_⟩⟩, by simp [intOf]⟩
      · exact (blk_far (blk_far (blk_far (blk_far (blk_far (blk_far n1.out (by simp; omega) _) (by simp; omega) _) (by simp; omega) _) (by simp; omega) _) (by simp; omega) _) (by simp; omega) _)
      · exact (blk_far (blk_far (blk_far (blk_far (blk_far (blk_far n2.out (by simp) _) (by simp) _) (by simp) _) (by simp) _) (by simp) _) (by simp) _)
      · exact (blk_put (blk_put (blk_put (blk_put (blk_put (blk_put n3.out 0 _ rfl) 1 _ rfl) 2 _ rfl) 3 _ rfl) 4 _ rfl) 5 _ rfl)
      · exact (below_set (below_set (below_set (below_set (below_set (below_set n4.out (by omega)) (by omega)) (by omega)) (by omega)) (by omega)) (by omega))
    · obtain ⟨ad', ea, cb⟩ := Kd.at_int CB.out 4 (by omega) (by omega)
      obtain rfl := Option.some.inj ea
      clear ea
      have cb' : wr.cell? ⟨ad.block, ad.off + 4, none⟩ = some (.int .u8 (rd l 4)) := by simpa [Addr.add] using cb
      have c0 : wr.cell? ⟨(w.heap.size + 1 + 1), 0, none⟩ = some (.int .u8 (X 4).1) := (blk_cell B3.out 0).trans rfl
      have c1 : wr.cell? ⟨(w.heap.size + 1 + 1), 1, none⟩ = some (.int .u8 (X 4).2.1) := (blk_cell B3.out 1).trans rfl
      have c2 : wr.cell? ⟨(w.heap.size + 1 + 1), 2, none⟩ = some (.int .u8 (X 4).2.2.1) := (blk_cell B3.out 2).trans rfl
      have c3 : wr.cell? ⟨(w.heap.size + 1 + 1), 3, none⟩ = some (.int .u16 (X 4).2.2.2.1) := (blk_cell B3.out 3).trans rfl
      have c4 : wr.cell? ⟨(w.heap.size + 1 + 1), 4, none⟩ = some (.bool (X 4).2.2.2.2.1) := (blk_cell B3.out 4).trans rfl
      have c5 : wr.cell? ⟨(w.heap.size + 1 + 1), 5, none⟩ = some (.bool (X 4).2.2.2.2.2) := (blk_cell B3.out 5).trans rfl
      have c6 : wr.cell? ⟨(w.heap.size + 1 + 1), 6, none⟩ = some (.int .u8 (Y 0).1) := (blk_cell B3.out 6).trans rfl
      have c7 : wr.cell? ⟨(w.heap.size + 1 + 1), 7, none⟩ = some (.int .u8 (Y 0).2.1) := (blk_cell B3.out 7).trans rfl
      have c8 : wr.cell? ⟨(w.heap.size + 1 + 1), 8, none⟩ = some (.int .u8 (Y 0).2.2.1) := (blk_cell B3.out 8).trans rfl
      have c9 : wr.cell? ⟨(w.heap.size + 1 + 1), 9, none⟩ = some (.int .u16 (Y 0).2.2.2.1) := (blk_cell B3.out 9).trans rfl
      have c10 : wr.cell? ⟨(w.heap.size + 1 + 1), 10, none⟩ = some (.bool (Y 0).2.2.2.2.1) := (blk_cell B3.out 10).trans rfl
      have c11 : wr.cell? ⟨(w.heap.size + 1 + 1), 11, none⟩ = some (.bool (Y 0).2.2.2.2.2) := (blk_cell B3.out 11).trans rfl
      go_wp2_with (first | (go_at_call 43; ((with_reducible refine (clock_Write.calls (X 4).1 (X 4).2.1 (X 4).2.2.1 (X 4).2.2.2.1 (X 4).2.2.2.2.1 (X 4).2.2.2.2.2 12 (rd l 4) (X 5).1 (X 5).2.1 (X 5).2.2.1 (X 5).2.2.2.1 (X 5).2.2.2.2.1 (X 5).2.2.2.2.2 e4 _ H4.out).mono ?_)); rintro e' w2 ⟨rfl, hb⟩; have n1 := Aside0.mk (blk_below B1.out hb); have n2 := Aside0.mk (blk_below B2.out hb); have n3 := Aside0.mk (blk_below B3.out hb); have n4 := Aside0.mk (below_step HB.out hb); clear hb; have d0 : w2.cell? ⟨(w.heap.size + 1 + 1), 0, none⟩ = some (.int .u8 (X 4).1) := (blk_cell n3.out 0).trans rfl; have d1 : w2.cell? ⟨(w.heap.size + 1 + 1), 1, none⟩ = some (.int .u8 (X 4).2.1) := (blk_cell n3.out 1).trans rfl; have d2 : w2.cell? ⟨(w.heap.size + 1 + 1), 2, none⟩ = some (.int .u8 (X 4).2.2.1) := (blk_cell n3.out 2).trans rfl; have d3 : w2.cell? ⟨(w.heap.size + 1 + 1), 3, none⟩ = some (.int .u16 (X 4).2.2.2.1) := (blk_cell n3.out 3).trans rfl; have d4 : w2.cell? ⟨(w.heap.size + 1 + 1), 4, none⟩ = some (.bool (X 4).2.2.2.2.1) := (blk_cell n3.out 4).trans rfl; have d5 : w2.cell? ⟨(w.heap.size + 1 + 1), 5, none⟩ = some (.bool (X 4).2.2.2.2.2) := (blk_cell n3.out 5).trans rfl; have d6 : w2.cell? ⟨(w.heap.size + 1 + 1), 6, none⟩ = some (.int .u8 (Y 0).1) := (blk_cell n3.out 6).trans rfl; have d7 : w2.cell? ⟨(w.heap.size + 1 + 1), 7, none⟩ = some (.int .u8 (Y 0).2.1) := (blk_cell n3.out 7).trans rfl; have d8 : w2.cell? ⟨(w.heap.size + 1 + 1), 8, none⟩ = some (.int .u8 (Y 0).2.2.1) := (blk_cell n3.out 8).trans rfl; have d9 : w2.cell? ⟨(w.heap.size + 1 + 1), 9, none⟩ = some (.int .u16 (Y 0).2.2.2.1) := (blk_cell n3.out 9).trans rfl; have d10 : w2.cell? ⟨(w.heap.size + 1 + 1), 10, none⟩ = some (.bool (Y 0).2.2.2.2.1) := (blk_cell n3.out 10).trans rfl; have d11 : w2.cell? ⟨(w.heap.size + 1 + 1), 11, none⟩ = some (.bool (Y 0).2.2.2.2.2) := (blk_cell n3.out 11).trans rfl; have fz := fun i => blk_frozen n3.out i))
      refine ⟨⟨5, rfl, Aside0.mk ⟨by omega, ?_, ?_, ?_, ?_⟩⟩, by simp [intOf]⟩
      · exact (blk_far (blk_far (blk_far (blk_far (blk_far (blk_far n1.out (by simp; omega) _) (by simp; omega) _) (by simp; omega) _) (by simp; omega) _) (by simp; omega) _) (by simp; omega) _)
      · exact (blk_far (blk_far (blk_far (blk_far (blk_far (blk_far n2.out (by simp) _) (by simp) _) (by simp) _) (by simp) _) (by simp) _) (by simp) _)
      · exact (blk_put (blk_put (blk_put (blk_put (blk_put (blk_put n3.out 0 _ rfl) 1 _ rfl) 2 _ rfl) 3 _ rfl) 4 _ rfl) 5 _ rfl)
      · exact (below_set (below_set (below_set (below_set (below_set (below_set n4.out (by omega)) (by omega)) (by omega)) (by omega)) (by omega)) (by omega))
    · obtain ⟨ad', ea, cb⟩ := Kd.at_int CB.out 5 (by omega) (by omega)
      obtain rfl := Option.some.inj ea
      clear ea
      have cb' : wr.cell? ⟨ad.block, ad.off + 5, none⟩ = some (.int .u8 (rd l 5)) := by simpa [Addr.add] using cb
      have c0 : wr.cell? ⟨(w.heap.size + 1 + 1), 0, none⟩ = some (.int .u8 (X 5).1) := (blk_cell B3.out 0).trans rfl
      have c1 : wr.cell? ⟨(w.heap.size + 1 + 1), 1, none⟩ = some (.int .u8 (X 5).2.1) := (blk_cell B3.out 1).trans rfl
      have c2 : wr.cell? ⟨(w.heap.size + 1 + 1), 2, none⟩ = some (.int .u8 (X 5).2.2.1) := (blk_cell B3.out 2).trans rfl
      have c3 : wr.cell? ⟨(w.heap.size + 1 + 1), 3, none⟩ = some (.int .u16 (X 5).2.2.2.1) := (blk_cell B3.out 3).trans rfl
      have c4 : wr.cell? ⟨(w.heap.size + 1 + 1), 4, none⟩ = some (.bool (X 5).2.2.2.2.1) := (blk_cell B3.out 4).trans rfl
      have c5 : wr.cell? ⟨(w.heap.size + 1 + 1), 5, none⟩ = some (.bool (X 5).2.2.2.2.2) := (blk_cell B3.out 5).trans rfl
      have c6 : wr.cell? ⟨(w.heap.size + 1 + 1), 6, none⟩ = some (.int .u8 (Y 0).1) := (blk_cell B3.out 6).trans rfl
      have c7 : wr.cell? ⟨(w.heap.size + 1 + 1), 7, none⟩ = some (.int .u8 (Y 0).2.1) := (blk_cell B3.out 7).trans rfl
      have c8 : wr.cell? ⟨(w.heap.size + 1 + 1), 8, none⟩ = some (.int .u8 (Y 0).2.2.1) := (blk_cell B3.out 8).trans rfl
      have c9 : wr.cell? ⟨(w.heap.size + 1 + 1), 9, none⟩ = some (.int .u16 (Y 0).2.2.2.1) := (blk_cell B3.out 9).trans rfl
      have c10 : wr.cell? ⟨(w.heap.size + 1 + 1), 10, none⟩ = some (.bool (Y 0).2.2.2.2.1) := (blk_cell B3.out 10).trans rfl
      have c11 : wr.cell? ⟨(w.heap.size + 1 + 1), 11, none⟩ = some (.bool (Y 0).2.2.2.2.2) := (blk_cell B3.out 11).trans rfl
      go_wp2_with (first | (go_at_call 43; ((with_reducible refine (clock_Write.calls (Y 0).1 (Y 0).2.1 (Y 0).2.2.1 (Y 0).2.2.2.1 (Y 0).2.2.2.2.1 (Y 0).2.2.2.2.2 8 (rd l 5) (Y 1).1 (Y 1).2.1 (Y 1).2.2.1 (Y 1).2.2.2.1 (Y 1).2.2.2.2.1 (Y 1).2.2.2.2.2 e5 _ H5.out).mono ?_)); rintro e' w2 ⟨rfl, hb⟩; have n1 := Aside0.mk (blk_below B1.out hb); have n2 := Aside0.mk (blk_below B2.out hb); have n3 := Aside0.mk (blk_below B3.out hb); have n4 := Aside0.mk (below_step HB.out hb); clear hb; have d0 : w2.cell? ⟨(w.heap.size + 1 + 1), 0, none⟩ = some (.int .u8 (X 5).1) := (blk_cell n3.out 0).trans rfl; have d1 : w2.cell? ⟨(w.heap.size + 1 + 1), 1, none⟩ = some (.int .u8 (X 5).2.1) := (blk_cell n3.out 1).trans rfl; have d2 : w2.cell? ⟨(w.heap.size + 1 + 1), 2, none⟩ = some (.int .u8 (X 5).2.2.1) := (blk_cell n3.out 2).trans rfl; have d3 : w2.cell? ⟨(w.heap.size + 1 + 1), 3, none⟩ = some (.int .u16 (X 5).2.2.2.1) := (blk_cell n3.out 3).trans rfl; have d4 : w2.cell? ⟨(w.heap.size + 1 + 1), 4, none⟩ = some (.bool (X 5).2.2.2.2.1) := (blk_cell n3.out 4).trans rfl; have d5 : w2.cell? ⟨(w.heap.size + 1 + 1), 5, none⟩ = some (.bool (X 5).2.2.2.2.2) := (blk_cell n3.out 5).trans rfl; have d6 : w2.cell? ⟨(w.heap.size + 1 + 1), 6, none⟩ = some (.int .u8 (Y 0).1) := (blk_cell n3.out 6).trans rfl; have d7 : w2.cell? ⟨(w.heap.size + 1 + 1), 7, none⟩ = some (.int .u8 (Y 0).2.1) := (blk_cell n3.out 7).trans rfl; have d8 : w2.cell? ⟨(w.heap.size + 1 + 1), 8, none⟩ = some (.int .u8 (Y 0).2.2.1) := (blk_cell n3.out 8).trans rfl; have d9 : w2.cell? ⟨(w.heap.size + 1 + 1), 9, none⟩ = some (.int .u16 (Y 0).2.2.2.1) := (blk_cell n3.out 9).trans rfl; have d10 : w2.cell? ⟨(w.heap.size + 1 + 1), 10, none⟩ = some (.bool (Y 0).2.2.2.2.1) := (blk_cell n3.out 10).trans rfl; have d11 : w2.cell? ⟨(w.heap.size + 1 + 1), 11, none⟩ = some (.bool (Y 0).2.2.2.2.2) := (blk_cell n3.out 11).trans rfl; have fz := fun i => blk_frozen n3.out i))
      refine ⟨⟨6, rfl, Aside0.mk ⟨by omega, ?_, ?_, ?_, ?_⟩⟩, by simp [intOf]⟩
      · exact (blk_far (blk_far (blk_far (blk_far (blk_far (blk_far n1.out (by simp; omega) _) (by simp; omega) _) (by simp; omega) _) (by simp; omega) _) (by simp; omega) _) (by simp; omega) _)
      · exact (blk_far (blk_far (blk_far (blk_far (blk_far (blk_far n2.out (by simp) _) (by simp) _) (by simp) _) (by simp) _) (by simp) _) (by simp) _)
      · exact (blk_put (blk_put (blk_put (blk_put (blk_put (blk_put n3.out 6 _ rfl) 7 _ rfl) 8 _ rfl) 9 _ rfl) 10 _ rfl) 11 _ rfl)
      · exact (below_set (below_set (below_set (below_set (below_set (below_set n4.out (by omega)) (by omega)) (by omega)) (by omega)) (by omega)) (by omega))
    · obtain ⟨ad', ea, cb⟩ := Kd.at_int CB.out 6 (by omega) (by omega)
      obtain rfl := Option.some.inj ea
      clear ea
      have cb' : wr.cell? ⟨ad.block, ad.off + 6, none⟩ = some (.int .u8 (rd l 6)) := by simpa [Addr.add] using cb
      have c0 : wr.cell? ⟨(w.heap.size + 1 + 1), 0, none⟩ = some (.int .u8 (X 5).1) := (blk_cell B3.out 0).trans rfl
      have c1 : wr.cell? ⟨(w.heap.size + 1 + 1), 1, none⟩ = some (.int .u8 (X 5).2.1) := (blk_cell B3.out 1).trans rfl
      have c2 : wr.cell? ⟨(w.heap.size + 1 + 1), 2, none⟩ = some (.int .u8 (X 5).2.2.1) := (blk_cell B3.out 2).trans rfl
      have c3 : wr.cell? ⟨(w.heap.size + 1 + 1), 3, none⟩ = some (.int .u16 (X 5).2.2.2.1) := (blk_cell B3.out 3).trans rfl
      have c4 : wr.cell? ⟨(w.heap.size + 1 + 1), 4, none⟩ = some (.bool (X 5).2.2.2.2.1) := (blk_cell B3.out 4).trans rfl
      have c5 : wr.cell? ⟨(w.heap.size + 1 + 1), 5, none⟩ = some (.bool (X 5).2.2.2.2.2) := (blk_cell B3.out 5).trans rfl
      have c6 : wr.cell? ⟨(w.heap.size + 1 + 1), 6, none⟩ = some (.int .u8 (Y 1).1) := (blk_cell B3.out 6).trans rfl
      have c7 : wr.cell? ⟨(w.heap.size + 1 + 1), 7, none⟩ = some (.int .u8 (Y 1).2.1) := (blk_cell B3.out 7).trans rfl
      have c8 : wr.cell? ⟨(w.heap.size + 1 + 1), 8, none⟩ = some (.int .u8 (Y 1).2.2.1) := (blk_cell B3.out 8).trans rfl
      have c9 : wr.cell? ⟨(w.heap.size + 1 + 1), 9, none⟩ = some (.int .u16 (Y 1).2.2.2.1) := (blk_cell B3.out 9).trans rfl
      have c10 : wr.cell? ⟨(w.heap.size + 1 + 1), 10, none⟩ = some (.bool (Y 1).2.2.2.2.1) := (blk_cell B3.out 10).trans rfl
      have c11 : wr.cell? ⟨(w.heap.size + 1 + 1), 11, none⟩ = some (.bool (Y 1).2.2.2.2.2) := (blk_cell B3.out 11).trans rfl
      go_wp2_with (first | (go_at_call 43; ((with_reducible refine (clock_Write.calls (Y 1).1 (Y 1).2.1 (Y 1).2.2.1 (Y 1).2.2.2.1 (Y 1).2.2.2.2.1 (Y 1).2.2.2.2.2 9 (rd l 6) (Y 2).1 (Y 2).2.1 (Y 2).2.2.1 (Y 2).2.2.2.1 (Y 2).2.2.2.2.1 (Y 2).2.2.2.2.2 e6 _ H6.out).mono ?_)); rintro e' w2 ⟨rfl, hb⟩; have n1 := Aside0.mk (blk_below B1.out hb); have n2 := Aside0.mk (blk_below B2.out hb); have n3 := Aside0.mk (blk_below B3.out hb); have n4 := Aside0.mk (below_step HB.out hb); clear hb; have d0 : w2.cell? ⟨(w.heap.size + 1 + 1), 0, none⟩ = some (.int .u8 (X 5).1) := (blk_cell n3.out 0).trans rfl; have d1 : w2.cell? ⟨(w.heap.size + 1 + 1), 1, none⟩ = some (.int .u8 (X 5).2.1) := (blk_cell n3.out 1).trans rfl; have d2 : w2.cell? ⟨(w.heap.size + 1 + 1), 2, none⟩ = some (.int .u8 (X 5).2.2.1) := (blk_cell n3.out 2).trans rfl; have d3 : w2.cell? ⟨(w.heap.size + 1 + 1), 3, none⟩ = some (.int .u16 (X 5).2.2.2.1) := (blk_cell n3.out 3).trans rfl; have d4 : w2.cell? ⟨(w.heap.size + 1 + 1), 4, none⟩ = some (.bool (X 5).2.2.2.2.1) := (blk_cell n3.out 4).trans rfl; have d5 : w2.cell? ⟨(w.heap.size + 1 + 1), 5, none⟩ = some (.bool (X 5).2.2.2.2.2) := (blk_cell n3.out 5).trans rfl; have d6 : w2.cell? ⟨(w.heap.size + 1 + 1), 6, none⟩ = some (.int .u8 (Y 1).1) := (blk_cell n3.out 6).trans rfl; have d7 : w2.cell? ⟨(w.heap.size + 1 + 1), 7, none⟩ = some (.int .u8 (Y 1).2.1) := (blk_cell n3.out 7).trans rfl; have d8 : w2.cell? ⟨(w.heap.size + 1 + 1), 8, none⟩ = some (.int .u8 (Y 1).2.2.1) := (blk_cell n3.out 8).trans rfl; have d9 : w2.cell? ⟨(w.heap.size + 1 + 1), 9, none⟩ = some (.int .u16 (Y 1).2.2.2.1) := (blk_cell n3.out 9).trans rfl; have d10 : w2.cell? ⟨(w.heap.size + 1 + 1), 10, none⟩ = some (.bool (Y 1).2.2.2.2.1) := (blk_cell n3.out 10).trans rfl; have d11 : w2.cell? ⟨(w.heap.size + 1 + 1), 11, none⟩ = some (.bool (Y 1).2.2.2.2.2) := (blk_cell n3.out 11).trans rfl; have fz := fun i => blk_frozen n3.out i))
      refine ⟨⟨7, rfl, Aside0.mk ⟨by omega, ?_, ?_, ?_, ?_⟩⟩, by simp [intOf]⟩
      · exact (blk_far (blk_far (blk_far (blk_far (blk_far (blk_far n1.out (by simp; omega) _) (by simp; omega) _) (by simp; omega) _) (by simp; omega) _) (by simp; omega) _) (by simp; omega) _)
      · exact (blk_far (blk_far (blk_far (blk_far (blk_far (blk_far n2.out (by simp) _) (by simp) _) (by simp) _) (by simp) _) (by simp) _) (by simp) _)
      · exact (blk_put (blk_put (blk_put (blk_put (blk_put (blk_put n3.out 6 _ rfl) 7 _ rfl) 8 _ rfl) 9 _ rfl) 10 _ rfl) 11 _ rfl)
      · exact (below_set (below_set (below_set (below_set (below_set (below_set n4.out (by omega)) (by omega)) (by omega)) (by omega)) (by omega)) (by omega))
    · obtain ⟨ad', ea, cb⟩ := Kd.at_int CB.out 7 (by omega) (by omega)
      obtain rfl := Option.some.inj ea
      clear ea
      have cb' : wr.cell? ⟨ad.block, ad.off + 7, none⟩ = some (.int .u8 (rd l 7)) := by simpa [Addr.add] using cb
      have c0 : wr.cell? ⟨(w.heap.size + 1 + 1), 0, none⟩ = some (.int .u8 (X 5).1) := (blk_cell B3.out 0).trans rfl
      have c1 : wr.cell? ⟨(w.heap.size + 1 + 1), 1, none⟩ = some (.int .u8 (X 5).2.1) := (blk_cell B3.out 1).trans rfl
      have c2 : wr.cell? ⟨(w.heap.size + 1 + 1), 2, none⟩ = some (.int .u8 (X 5).2.2.1) := (blk_cell B3.out 2).trans rfl
      have c3 : wr.cell? ⟨(w.heap.size + 1 + 1), 3, none⟩ = some (.int .u16 (X 5).2.2.2.1) := (blk_cell B3.out 3).trans rfl
      have c4 : wr.cell? ⟨(w.heap.size + 1 + 1), 4, none⟩ = some (.bool (X 5).2.2.2.2.1) := (blk_cell B3.out 4).trans rfl
      have c5 : wr.cell? ⟨(w.heap.size + 1 + 1), 5, none⟩ = some (.bool (X 5).2.2.2.2.2) := (blk_cell B3.out 5).trans rfl
      have c6 : wr.cell? ⟨(w.heap.size + 1 + 1), 6, none⟩ = some (.int .u8 (Y 2).1) := (blk_cell B3.out 6).trans rfl
      have c7 : wr.cell? ⟨(w.heap.size + 1 + 1), 7, none⟩ = some (.int .u8 (Y 2).2.1) := (blk_cell B3.out 7).trans rfl
      have c8 : wr.cell? ⟨(w.heap.size + 1 + 1), 8, none⟩ = some (.int .u8 (Y 2).2.2.1) := (blk_cell B3.out 8).trans rfl
      have c9 : wr.cell? ⟨(w.heap.size + 1 + 1), 9, none⟩ = some (.int .u16 (Y 2).2.2.2.1) := (blk_cell B3.out 9).trans rfl
      have c10 : wr.cell? ⟨(w.heap.size + 1 + 1), 10, none⟩ = some (.bool (Y 2).2.2.2.2.1) := (blk_cell B3.out 10).trans rfl
      have c11 : wr.cell? ⟨(w.heap.size + 1 + 1), 11, none⟩ = some (.bool (Y 2).2.2.2.2.2) := (blk_cell B3.out 11).trans rfl
      go_wp2_with (first | (go_at_call 43; ((with_reducible refine (clock_Write.calls (Y 2).1 (Y 2).2.1 (Y 2).2.2.1 (Y 2).2.2.2.1 (Y 2).2.2.2.2.1 (Y 2).2.2.2.2.2 10 (rd l 7) (Y 3).1 (Y 3).2.1 (Y 3).2.2.1 (Y 3).2.2.2.1 (Y 3).2.2.2.2.1 (Y 3).2.2.2.2.2 e7 _ H7.out).mono ?_)); rintro e' w2 ⟨rfl, hb⟩; have n1 := Aside0.mk (blk_below B1.out hb); have n2 := Aside0.mk (blk_below B2.out hb); have n3 := Aside0.mk (blk_below B3.out hb); have n4 := Aside0.mk (below_step HB.out hb); clear hb; have d0 : w2.cell? ⟨(w.heap.size + 1 + 1), 0, none⟩ = some (.int .u8 (X 5).1) := (blk_cell n3.out 0).trans rfl; have d1 : w2.cell? ⟨(w.heap.size + 1 + 1), 1, none⟩ = some (.int .u8 (X 5).2.1) := (blk_cell n3.out 1).trans rfl; have d2 : w2.cell? ⟨(w.heap.size + 1 + 1), 2, none⟩ = some (.int .u8 (X 5).2.2.1) := (blk_cell n3.out 2).trans rfl; have d3 : w2.cell? ⟨(w.heap.size + 1 + 1), 3, none⟩ = some (.int .u16 (X 5).2.2.2.1) := (blk_cell n3.out 3).trans rfl; have d4 : w2.cell? ⟨(w.heap.size + 1 + 1), 4, none⟩ = some (.bool (X 5).2.2.2.2.1) := (blk_cell n3.out 4).trans rfl; have d5 : w2.cell? ⟨(w.heap.size + 1 + 1), 5, none⟩ = some (.bool (X 5).2.2.2.2.2) := (blk_cell n3.out 5).trans rfl; have d6 : w2.cell? ⟨(w.heap.size + 1 + 1), 6, none⟩ = some (.int .u8 (Y 2).1) := (blk_cell n3.out 6).trans rfl; have d7 : w2.cell? ⟨(w.heap.size + 1 + 1), 7, none⟩ = some (.int .u8 (Y 2).2.1) := (blk_cell n3.out 7).trans rfl; have d8 : w2.cell? ⟨(w.heap.size + 1 + 1), 8, none⟩ = some (.int .u8 (Y 2).2.2.1) := (blk_cell n3.out 8).trans rfl; have d9 : w2.cell? ⟨(w.heap.size + 1 + 1), 9, none⟩ = some (.int .u16 (Y 2).2.2.2.1) := (blk_cell n3.out 9).trans rfl; have d10 : w2.cell? ⟨(w.heap.size + 1 + 1), 10, none⟩ = some (.bool (Y 2).2.2.2.2.1) := (blk_cell n3.out 10).trans rfl; have d11 : w2.cell? ⟨(w.heap.size + 1 + 1), 11, none⟩ = some (.bool (Y 2).2.2.2.2.2) := (blk_cell n3.out 11).trans rfl; have fz := fun i => blk_frozen n3.out i))
      refine ⟨⟨8, rfl, Aside0.mk ⟨by omega, ?_, ?_, ?_, ?_⟩⟩, by simp [intOf]⟩
      · exact (blk_far (blk_far (blk_far (blk_far (blk_far (blk_far n1.out (by simp; omega) _) (by simp; omega) _) (by simp; omega) _) (by simp; omega) _) (by simp; omega) _) (by simp; omega) _)
      · exact (blk_far (blk_far (blk_far (blk_far (blk_far (blk_far n2.out (by simp) _) (by simp) _) (by simp) _) (by simp) _) (by simp) _) (by simp) _)
      · exact (blk_put (blk_put (blk_put (blk_put (blk_put (blk_put n3.out 6 _ rfl) 7 _ rfl) 8 _ rfl) 9 _ rfl) 10 _ rfl) 11 _ rfl)
      · exact (below_set (below_set (below_set (below_set (below_set (below_set n4.out (by omega)) (by omega)) (by omega)) (by omega)) (by omega)) (by omega))
    · obtain ⟨ad', ea, cb⟩ := Kd.at_int CB.out 8 (by omega) (by omega)
      obtain rfl := Option.some.inj ea
      clear ea
      have cb' : wr.cell? ⟨ad.block, ad.off + 8, none⟩ = some (.int .u8 (rd l 8)) := by simpa [Addr.add] using cb
      have c0 : wr.cell? ⟨(w.heap.size + 1 + 1), 0, none⟩ = some (.int .u8 (X 5).1) := (blk_cell B3.out 0).trans rfl
      have c1 : wr.cell? ⟨(w.heap.size + 1 + 1), 1, none⟩ = some (.int .u8 (X 5).2.1) := (blk_cell B3.out 1).trans rfl
      have c2 : wr.cell? ⟨(w.heap.size + 1 + 1), 2, none⟩ = some (.int .u8 (X 5).2.2.1) := (blk_cell B3.out 2).trans rfl
      have c3 : wr.cell? ⟨(w.heap.size + 1 + 1), 3, none⟩ = some (.int .u16 (X 5).2.2.2.1) := (blk_cell B3.out 3).trans rfl
      have c4 : wr.cell? ⟨(w.heap.size + 1 + 1), 4, none⟩ = some (.bool (X 5).2.2.2.2.1) := (blk_cell B3.out 4).trans rfl
      have c5 : wr.cell? ⟨(w.heap.size + 1 + 1), 5, none⟩ = some (.bool (X 5).2.2.2.2.2) := (blk_cell B3.out 5).trans rfl
      have c6 : wr.cell? ⟨(w.heap.size + 1 + 1), 6, none⟩ = some (.int .u8 (Y 3).1) := (blk_cell B3.out 6).trans rfl
      have c7 : wr.cell? ⟨(w.heap.size + 1 + 1), 7, none⟩ = some (.int .u8 (Y 3).2.1) := (blk_cell B3.out 7).trans rfl
      have c8 : wr.cell? ⟨(w.heap.size + 1 + 1), 8, none⟩ = some (.int .u8 (Y 3).2.2.1) := (blk_cell B3.out 8).trans rfl
      have c9 : wr.cell? ⟨(w.heap.size + 1 + 1), 9, none⟩ = some (.int .u16 (Y 3).2.2.2.1) := (blk_cell B3.out 9).trans rfl
      have c10 : wr.cell? ⟨(w.heap.size + 1 + 1), 10, none⟩ = some (.bool (Y 3).2.2.2.2.1) := (blk_cell B3.out 10).trans rfl
      have c11 : wr.cell? ⟨(w.heap.size + 1 + 1), 11, none⟩ = some (.bool (Y 3).2.2.2.2.2) := (blk_cell B3.out 11).trans rfl
      go_wp2_with (first | (go_at_call 43; ((with_reducible refine (clock_Write.calls (Y 3).1 (Y 3).2.1 (Y 3).2.2.1 (Y 3).2.2.2.1 (Y 3).2.2.2.2.1 (Y 3).2.2.2.2.2 11 (rd l 8) (Y 4).1 (Y 4).2.1 (Y 4).2.2.1 (Y 4).2.2.2.1 (Y 4).2.2.2.2.1 (Y 4).2.2.2.2.2 e8 _ H8.out).mono ?_)); rintro e' w2 ⟨rfl, hb⟩; have n1 := Aside0.mk (blk_below B1.out hb); have n2 := Aside0.mk (blk_below B2.out hb); have n3 := Aside0.mk (blk_below B3.out hb); have n4 := Aside0.mk (below_step HB.out hb); clear hb; have d0 : w2.cell? ⟨(w.heap.size + 1 + 1), 0, none⟩ = some (.int .u8 (X 5).1) := (blk_cell n3.out 0).trans rfl; have d1 : w2.cell? ⟨(w.heap.size + 1 + 1), 1, none⟩ = some (.int .u8 (X 5).2.1) := (blk_cell n3.out 1).trans rfl; have d2 : w2.cell? ⟨(w.heap.size + 1 + 1), 2, none⟩ = some (.int .u8 (X 5).2.2.1) := (blk_cell n3.out 2).trans rfl; have d3 : w2.cell? ⟨(w.heap.size + 1 + 1), 3, none⟩ = some (.int .u16 (X 5).2.2.2.1) := (blk_cell n3.out 3).trans rfl; have d4 : w2.cell? ⟨(w.heap.size + 1 + 1), 4, none⟩ = some (.bool (X 5).2.2.2.2.1) := (blk_cell n3.out 4).trans rfl; have d5 : w2.cell? ⟨(w.heap.size + 1 + 1), 5, none⟩ = some (.bool (X 5).2.2.2.2.2) := (blk_cell n3.out 5).trans rfl; have d6 : w2.cell? ⟨(w.heap.size + 1 + 1), 6, none⟩ = some (.int .u8 (Y 3).1) := (blk_cell n3.out 6).trans rfl; have d7 : w2.cell? ⟨(w.heap.size + 1 + 1), 7, none⟩ = some (.int .u8 (Y 3).2.1) := (blk_cell n3.out 7).trans rfl; have d8 : w2.cell? ⟨(w.heap.size + 1 + 1), 8, none⟩ = some (.int .u8 (Y 3).2.2.1) := (blk_cell n3.out 8).trans rfl; have d9 : w2.cell? ⟨(w.heap.size + 1 + 1), 9, none⟩ = some (.int .u16 (Y 3).2.2.2.1) := (blk_cell n3.out 9).trans rfl; have d10 : w2.cell? ⟨(w.heap.size + 1 + 1), 10, none⟩ = some (.bool (Y 3).2.2.2.2.1) := (blk_cell n3.out 10).trans rfl; have d11 : w2.cell? ⟨(w.heap.size + 1 + 1), 11, none⟩ = some (.bool (Y 3).2.2.2.2.2) := (blk_cell n3.out 11).trans rfl; have fz := fun i => blk_frozen n3.out i))
      refine ⟨⟨9, rfl, Aside0.mk ⟨by omega, ?_, ?_, ?_, ?_⟩⟩, by simp [intOf]⟩
      · exact (blk_far (blk_far (blk_far (blk_far (blk_far (blk_far n1.out (by simp; omega) _) (by simp; omega) _) (by simp; omega) _) (by simp; omega) _) (by simp; omega) _) (by simp; omega) _)
      · exact (blk_far (blk_far (blk_far (blk_far (blk_far (blk_far n2.out (by simp) _) (by simp) _) (by simp) _) (by simp) _) (by simp) _) (by simp) _)
      · exact (blk_put (blk_put (blk_put (blk_put (blk_put (blk_put n3.out 6 _ rfl) 7 _ rfl) 8 _ rfl) 9 _ rfl) 10 _ rfl) 11 _ rfl)
      · exact (below_set (below_set (below_set (below_set (below_set (below_set n4.out (by omega)) (by omega)) (by omega)) (by omega)) (by omega)) (by omega))
    · obtain ⟨ad', ea, cb⟩ := Kd.at_int CB.out 9 (by omega) (by omega)
      obtain rfl := Option.some.inj ea
      clear ea
      have cb' : wr.cell? ⟨ad.block, ad.off + 9, none⟩ = some (.int .u8 (rd l 9)) := by simpa [Addr.add] using cb
      have c0 : wr.cell? ⟨(w.heap.size + 1 + 1), 0, none⟩ = some (.int .u8 (X 5).1) := (blk_cell B3.out 0).trans rfl
      have c1 : wr.cell? ⟨(w.heap.size + 1 + 1), 1, none⟩ = some (.int .u8 (X 5).2.1) := (blk_cell B3.out 1).trans rfl
      have c2 : wr.cell? ⟨(w.heap.size + 1 + 1), 2, none⟩ = some (.int .u8 (X 5).2.2.1) := (blk_cell B3.out 2).trans rfl
      have c3 : wr.cell? ⟨(w.heap.size + 1 + 1), 3, none⟩ = some (.int .u16 (X 5).2.2.2.1) := (blk_cell B3.out 3).trans rfl
      have c4 : wr.cell? ⟨(w.heap.size + 1 + 1), 4, none⟩ = some (.bool (X 5).2.2.2.2.1) := (blk_cell B3.out 4).trans rfl
      have c5 : wr.cell? ⟨(w.heap.size + 1 + 1), 5, none⟩ = some (.bool (X 5).2.2.2.2.2) := (blk_cell B3.out 5).trans rfl
      have c6 : wr.cell? ⟨(w.heap.size + 1 + 1), 6, none⟩ = some (.int .u8 (Y 4).1) := (blk_cell B3.out 6).trans rfl
      have c7 : wr.cell? ⟨(w.heap.size + 1 + 1), 7, none⟩ = some (.int .u8 (Y 4).2.1) := (blk_cell B3.out 7).trans rfl
      have c8 : wr.cell? ⟨(w.heap.size + 1 + 1), 8, none⟩ = some (.int .u8 (Y 4).2.2.1) := (blk_cell B3.out 8).trans rfl
      have c9 : wr.cell? ⟨(w.heap.size + 1 + 1), 9, none⟩ = some (.int .u16 (Y 4).2.2.2.1) := (blk_cell B3.out 9).trans rfl
      have c10 : wr.cell? ⟨(w.heap.size + 1 + 1), 10, none⟩ = some (.bool (Y 4).2.2.2.2.1) := (blk_cell B3.out 10).trans rfl
      have c11 : wr.cell? ⟨(w.heap.size + 1 + 1), 11, none⟩ = some (.bool (Y 4).2.2.2.2.2) := (blk_cell B3.out 11).trans rfl
      go_wp2_with (first | (go_at_call 43; ((with_reducible refine (clock_Write.calls (Y 4).1 (Y 4).2.1 (Y 4).2.2.1 (Y 4).2.2.2.1 (Y 4).2.2.2.2.1 (Y 4).2.2.2.2.2 12 (rd l 9) (Y 5).1 (Y 5).2.1 (Y 5).2.2.1 (Y 5).2.2.2.1 (Y 5).2.2.2.2.1 (Y 5).2.2.2.2.2 e9 _ H9.out).mono ?_)); rintro e' w2 ⟨rfl, hb⟩; have n1 := Aside0.mk (blk_below B1.out hb); have n2 := Aside0.mk (blk_below B2.out hb); have n3 := Aside0.mk (blk_below B3.out hb); have n4 := Aside0.mk (below_step HB.out hb); clear hb; have d0 : w2.cell? ⟨(w.heap.size + 1 + 1), 0, none⟩ = some (.int .u8 (X 5).1) := (blk_cell n3.out 0).trans rfl; have d1 : w2.cell? ⟨(w.heap.size + 1 + 1), 1, none⟩ = some (.int .u8 (X 5).2.1) := (blk_cell n3.out 1).trans rfl; have d2 : w2.cell? ⟨(w.heap.size + 1 + 1), 2, none⟩ = some (.int .u8 (X 5).2.2.1) := (blk_cell n3.out 2).trans rfl; have d3 : w2.cell? ⟨(w.heap.size + 1 + 1), 3, none⟩ = some (.int .u16 (X 5).2.2.2.1) := (blk_cell n3.out 3).trans rfl; have d4 : w2.cell? ⟨(w.heap.size + 1 + 1), 4, none⟩ = some (.bool (X 5).2.2.2.2.1) := (blk_cell n3.out 4).trans rfl; have d5 : w2.cell? ⟨(w.heap.size + 1 + 1), 5, none⟩ = some (.bool (X 5).2.2.2.2.2) := (blk_cell n3.out 5).trans rfl; have d6 : w2.cell? ⟨(w.heap.size + 1 + 1), 6, none⟩ = some (.int .u8 (Y 4).1) := (blk_cell n3.out 6).trans rfl; have d7 : w2.cell? ⟨(w.heap.size + 1 + 1), 7, none⟩ = some (.int .u8 (Y 4).2.1) := (blk_cell n3.out 7).trans rfl; have d8 : w2.cell? ⟨(w.heap.size + 1 + 1), 8, none⟩ = some (.int .u8 (Y 4).2.2.1) := (blk_cell n3.out 8).trans rfl; have d9 : w2.cell? ⟨(w.heap.size + 1 + 1), 9, none⟩ = some (.int .u16 (Y 4).2.2.2.1) := (blk_cell n3.out 9).trans rfl; have d10 : w2.cell? ⟨(w.heap.size + 1 + 1), 10, none⟩ = some (.bool (Y 4).2.2.2.2.1) := (blk_cell n3.out 10).trans rfl; have d11 : w2.cell? ⟨(w.heap.size + 1 + 1), 11, none⟩ = some (.bool (Y 4).2.2.2.2.2) := (blk_cell n3.out 11).trans rfl; have fz := fun i => blk_frozen n3.out i))
      refine ⟨⟨10, rfl, Aside0.mk ⟨by omega, ?_, ?_, ?_, ?_⟩⟩, by simp [intOf]⟩
      · exact (blk_far (blk_far (blk_far (blk_far (blk_far (blk_far n1.out (by simp; omega) _) (by simp; omega) _) (by simp; omega) _) (by simp; omega) _) (by simp; omega) _) (by simp; omega) _)
      · exact (blk_far (blk_far (blk_far (blk_far (blk_far (blk_far n2.out (by simp) _) (by simp) _) (by simp) _) (by simp) _) (by simp) _) (by simp) _)
      · exact (blk_put (blk_put (blk_put (blk_put (blk_put (blk_put n3.out 6 _ rfl) 7 _ rfl) 8 _ rfl) 9 _ rfl) 10 _ rfl) 11 _ rfl)
      · exact (below_set (below_set (below_set (below_set (below_set (below_set n4.out (by omega)) (by omega)) (by omega)) (by omega)) (by omega)) (by omega))
    · have HC := Aside0.mk hcmp
      clear hcmp
      go_wp2_with fail
      have c0 : wr.cell? ⟨(w.heap.size + 1 + 1), 0, none⟩ = some (.int .u8 (X 5).1) := (blk_cell B3.out 0).trans rfl
      have c1 : wr.cell? ⟨(w.heap.size + 1 + 1), 1, none⟩ = some (.int .u8 (X 5).2.1) := (blk_cell B3.out 1).trans rfl
      have c2 : wr.cell? ⟨(w.heap.size + 1 + 1), 2, none⟩ = some (.int .u8 (X 5).2.2.1) := (blk_cell B3.out 2).trans rfl
      have c3 : wr.cell? ⟨(w.heap.size + 1 + 1), 3, none⟩ = some (.int .u16 (X 5).2.2.2.1) := (blk_cell B3.out 3).trans rfl
      have c4 : wr.cell? ⟨(w.heap.size + 1 + 1), 4, none⟩ = some (.bool (X 5).2.2.2.2.1) := (blk_cell B3.out 4).trans rfl
      have c5 : wr.cell? ⟨(w.heap.size + 1 + 1), 5, none⟩ = some (.bool (X 5).2.2.2.2.2) := (blk_cell B3.out 5).trans rfl
      have c6 : wr.cell? ⟨(w.heap.size + 1 + 1), 6, none⟩ = some (.int .u8 (Y 5).1) := (blk_cell B3.out 6).trans rfl
      have c7 : wr.cell? ⟨(w.heap.size + 1 + 1), 7, none⟩ = some (.int .u8 (Y 5).2.1) := (blk_cell B3.out 7).trans rfl
      have c8 : wr.cell? ⟨(w.heap.size + 1 + 1), 8, none⟩ = some (.int .u8 (Y 5).2.2.1) := (blk_cell B3.out 8).trans rfl
      have c9 : wr.cell? ⟨(w.heap.size + 1 + 1), 9, none⟩ = some (.int .u16 (Y 5).2.2.2.1) := (blk_cell B3.out 9).trans rfl
      have c10 : wr.cell? ⟨(w.heap.size + 1 + 1), 10, none⟩ = some (.bool (Y 5).2.2.2.2.1) := (blk_cell B3.out 10).trans rfl
      have c11 : wr.cell? ⟨(w.heap.size + 1 + 1), 11, none⟩ = some (.bool (Y 5).2.2.2.2.2) := (blk_cell B3.out 11).trans rfl
      have hkwr : (convert 22 9 (.slice (some ad) 10 c)).run Try.prog wr = .ok (.string (strOfNums l)) wr := Kd.C_string Try.underlying22 Try.underlying5 Try.underlying9 CB.out
      have hdwr : (convert 22 9 (.slice (some ad) 10 c)).run Try.prog wr.drew = .ok (.string (strOfNums l)) wr.drew := Kd.C_string Try.underlying22 Try.underlying5 Try.underlying9 (Kd.C_drew CB.out)
      go_cut [44] from 36 to 44 (fun v w9 => v = .bool true ∧ Aside0 (w9.heap[w.heap.size]? = some (.cells #[.int .u8 0, .int .u8 0, .int .u8 0, .int .u16 0, .bool false, .bool false] 34 (0, 0))) ∧ Aside0 (w9.heap[w.heap.size + 1]? = some (.cells #[.int .u8 0, .int .u8 0, .int .u8 0, .int .u16 0, .bool false, .bool false] 34 (0, 0))) ∧ Aside0 (w9.heap[w.heap.size + 1 + 1]? = some (.cells (stOf X Y 10) 120 (0, 0))) ∧ Aside0 (Below w.heap.size w w9))
      case first =>
        go_region_with (first | (go_at_call 48; ((with_reducible refine (clock_Bytes.calls (X 5).1 (X 5).2.1 (X 5).2.2.1 (X 5).2.2.2.1 (X 5).2.2.2.2.1 (X 5).2.2.2.2.2 (Y 5).1 (Y 5).2.1 (Y 5).2.2.1 (Y 5).2.2.2.1 (Y 5).2.2.2.2.1 (Y 5).2.2.2.2.2 r _ HY.out).mono ?_)); rintro e' w9 ⟨v0, rfl, hO, hb⟩; have n1 := Aside0.mk ((hb.block _ (blk_lt B1.out)).trans B1.out); have n2 := Aside0.mk ((hb.block _ (blk_lt B2.out)).trans B2.out); have n3 := Aside0.mk ((hb.block _ (blk_lt B3.out)).trans B3.out); have n4 := Aside0.mk (by first | exact below_step (below_drew1 HB.out) hb | exact below_step HB.out hb); clear hb; have CB9 := Aside0.mk (Kd.C_below HR.out n4.out); have hkw9 : (convert 22 9 (.slice (some ad) 10 c)).run Try.prog w9 = .ok (.string (strOfNums l)) w9 := Kd.C_string Try.underlying22 Try.underlying5 Try.underlying9 CB9.out; have hdw9 : (convert 22 9 (.slice (some ad) 10 c)).run Try.prog w9.drew = .ok (.string (strOfNums l)) w9.drew := Kd.C_string Try.underlying22 Try.underlying5 Try.underlying9 (Kd.C_drew CB9.out); have hv9 := own_string (P := Try.prog) Try.underlying22 Try.underlying5 Try.underlying9 (Kd.own_of_R hO); have hv9d : (convert 22 9 v0).run Try.prog w9.drew = .ok (.string (strOfNums r)) w9.drew := own_string (P := Try.prog) Try.underlying22 Try.underlying5 Try.underlying9 (Kd.own_of_R (Kd.R_drew hO)); clear hO; have d0 : w9.cell? ⟨(w.heap.size + 1 + 1), 0, none⟩ = some (.int .u8 (X 5).1) := (blk_cell n3.out 0).trans rfl; have d1 : w9.cell? ⟨(w.heap.size + 1 + 1), 1, none⟩ = some (.int .u8 (X 5).2.1) := (blk_cell n3.out 1).trans rfl; have d2 : w9.cell? ⟨(w.heap.size + 1 + 1), 2, none⟩ = some (.int .u8 (X 5).2.2.1) := (blk_cell n3.out 2).trans rfl; have d3 : w9.cell? ⟨(w.heap.size + 1 + 1), 3, none⟩ = some (.int .u16 (X 5).2.2.2.1) := (blk_cell n3.out 3).trans rfl; have d4 : w9.cell? ⟨(w.heap.size + 1 + 1), 4, none⟩ = some (.bool (X 5).2.2.2.2.1) := (blk_cell n3.out 4).trans rfl; have d5 : w9.cell? ⟨(w.heap.size + 1 + 1), 5, none⟩ = some (.bool (X 5).2.2.2.2.2) := (blk_cell n3.out 5).trans rfl; have d6 : w9.cell? ⟨(w.heap.size + 1 + 1), 6, none⟩ = some (.int .u8 (Y 5).1) := (blk_cell n3.out 6).trans rfl; have d7 : w9.cell? ⟨(w.heap.size + 1 + 1), 7, none⟩ = some (.int .u8 (Y 5).2.1) := (blk_cell n3.out 7).trans rfl; have d8 : w9.cell? ⟨(w.heap.size + 1 + 1), 8, none⟩ = some (.int .u8 (Y 5).2.2.1) := (blk_cell n3.out 8).trans rfl; have d9 : w9.cell? ⟨(w.heap.size + 1 + 1), 9, none⟩ = some (.int .u16 (Y 5).2.2.2.1) := (blk_cell n3.out 9).trans rfl; have d10 : w9.cell? ⟨(w.heap.size + 1 + 1), 10, none⟩ = some (.bool (Y 5).2.2.2.2.1) := (blk_cell n3.out 10).trans rfl; have d11 : w9.cell? ⟨(w.heap.size + 1 + 1), 11, none⟩ = some (.bool (Y 5).2.2.2.2.2) := (blk_cell n3.out 11).trans rfl))
        all_goals (
        have hcmp := HC.out
        rw [hcmp]
        simp only [Bool.not_true, Bool.not_false]
        go_wp2_with fail
        go_meet
        case rel => exact ⟨rfl, ⟨by first | exact n1.out | exact blk_drew n1.out⟩, ⟨by first | exact n2.out | exact blk_drew n2.out⟩, ⟨by first | exact n3.out | exact blk_drew n3.out⟩, ⟨by first | exact n4.out | exact below_drew1 n4.out⟩⟩)
      case rest =>
        obtain ⟨rfl, n1, n2, n3, n4⟩ := hcut
        have x0 : wc.cell? ⟨w.heap.size, 0, none⟩ = some (.int .u8 0) := (blk_cell n1.out 0).trans rfl
        have x1 : wc.cell? ⟨w.heap.size, 1, none⟩ = some (.int .u8 0) := (blk_cell n1.out 1).trans rfl
        have x2 : wc.cell? ⟨w.heap.size, 2, none⟩ = some (.int .u8 0) := (blk_cell n1.out 2).trans rfl
        have x3 : wc.cell? ⟨w.heap.size, 3, none⟩ = some (.int .u16 0) := (blk_cell n1.out 3).trans rfl
        have x4 : wc.cell? ⟨w.heap.size, 4, none⟩ = some (.bool false) := (blk_cell n1.out 4).trans rfl
        have x5 : wc.cell? ⟨w.heap.size, 5, none⟩ = some (.bool false) := (blk_cell n1.out 5).trans rfl
        have y0 : wc.cell? ⟨w.heap.size + 1, 0, none⟩ = some (.int .u8 0) := (blk_cell n2.out 0).trans rfl
        have y1 : wc.cell? ⟨w.heap.size + 1, 1, none⟩ = some (.int .u8 0) := (blk_cell n2.out 1).trans rfl
        have y2 : wc.cell? ⟨w.heap.size + 1, 2, none⟩ = some (.int .u8 0) := (blk_cell n2.out 2).trans rfl
        have y3 : wc.cell? ⟨w.heap.size + 1, 3, none⟩ = some (.int .u16 0) := (blk_cell n2.out 3).trans rfl
        have y4 : wc.cell? ⟨w.heap.size + 1, 4, none⟩ = some (.bool false) := (blk_cell n2.out 4).trans rfl
        have y5 : wc.cell? ⟨w.heap.size + 1, 5, none⟩ = some (.bool false) := (blk_cell n2.out 5).trans rfl
        have f1 := fun i => blk_frozen n1.out i
        have f2 := fun i => blk_frozen n2.out i
        go_wp2
        have m1 : ((((((((((((wc.setCell ⟨w.heap.size, 0, none⟩ (.int .u8 0)).setCell ⟨w.heap.size, 1, none⟩ (.int .u8 0)).setCell ⟨w.heap.size, 2, none⟩ (.int .u8 0)).setCell ⟨w.heap.size, 3, none⟩ (.int .u16 0)).setCell ⟨w.heap.size, 4, none⟩ (.bool false)).setCell ⟨w.heap.size, 5, none⟩ (.bool false)).setCell ⟨w.heap.size + 1, 0, none⟩ (.int .u8 0)).setCell ⟨w.heap.size + 1, 1, none⟩ (.int .u8 0)).setCell ⟨w.heap.size + 1, 2, none⟩ (.int .u8 0)).setCell ⟨w.heap.size + 1, 3, none⟩ (.int .u16 0)).setCell ⟨w.heap.size + 1, 4, none⟩ (.bool false)).setCell ⟨w.heap.size + 1, 5, none⟩ (.bool false)).heap[w.heap.size]? = some (.cells #[.int .u8 0, .int .u8 0, .int .u8 0, .int .u16 0, .bool false, .bool false] 34 (0, 0)) := (blk_far (blk_far (blk_far (blk_far (blk_far (blk_far (blk_put (blk_put (blk_put (blk_put (blk_put (blk_put n1.out 0 _ rfl) 1 _ rfl) 2 _ rfl) 3 _ rfl) 4 _ rfl) 5 _ rfl) (by simp) _) (by simp) _) (by simp) _) (by simp) _) (by simp) _) (by simp) _)
        have m2 : ((((((((((((wc.setCell ⟨w.heap.size, 0, none⟩ (.int .u8 0)).setCell ⟨w.heap.size, 1, none⟩ (.int .u8 0)).setCell ⟨w.heap.size, 2, none⟩ (.int .u8 0)).setCell ⟨w.heap.size, 3, none⟩ (.int .u16 0)).setCell ⟨w.heap.size, 4, none⟩ (.bool false)).setCell ⟨w.heap.size, 5, none⟩ (.bool false)).setCell ⟨w.heap.size + 1, 0, none⟩ (.int .u8 0)).setCell ⟨w.heap.size + 1, 1, none⟩ (.int .u8 0)).setCell ⟨w.heap.size + 1, 2, none⟩ (.int .u8 0)).setCell ⟨w.heap.size + 1, 3, none⟩ (.int .u16 0)).setCell ⟨w.heap.size + 1, 4, none⟩ (.bool false)).setCell ⟨w.heap.size + 1, 5, none⟩ (.bool false)).heap[w.heap.size + 1]? = some (.cells #[.int .u8 0, .int .u8 0, .int .u8 0, .int .u16 0, .bool false, .bool false] 34 (0, 0)) := (blk_put (blk_put (blk_put (blk_put (blk_put (blk_put (blk_far (blk_far (blk_far (blk_far (blk_far (blk_far n2.out (by simp) _) (by simp) _) (by simp) _) (by simp) _) (by simp) _) (by simp) _) 0 _ rfl) 1 _ rfl) 2 _ rfl) 3 _ rfl) 4 _ rfl) 5 _ rfl)
        have m3 : Below w.heap.size w ((((((((((((wc.setCell ⟨w.heap.size, 0, none⟩ (.int .u8 0)).setCell ⟨w.heap.size, 1, none⟩ (.int .u8 0)).setCell ⟨w.heap.size, 2, none⟩ (.int .u8 0)).setCell ⟨w.heap.size, 3, none⟩ (.int .u16 0)).setCell ⟨w.heap.size, 4, none⟩ (.bool false)).setCell ⟨w.heap.size, 5, none⟩ (.bool false)).setCell ⟨w.heap.size + 1, 0, none⟩ (.int .u8 0)).setCell ⟨w.heap.size + 1, 1, none⟩ (.int .u8 0)).setCell ⟨w.heap.size + 1, 2, none⟩ (.int .u8 0)).setCell ⟨w.heap.size + 1, 3, none⟩ (.int .u16 0)).setCell ⟨w.heap.size + 1, 4, none⟩ (.bool false)).setCell ⟨w.heap.size + 1, 5, none⟩ (.bool false)) := (below_set (below_set (below_set (below_set (below_set (below_set (below_set (below_set (below_set (below_set (below_set (below_set n4.out (Nat.le_refl _)) (Nat.le_refl _)) (Nat.le_refl _)) (Nat.le_refl _)) (Nat.le_refl _)) (Nat.le_refl _)) (Nat.le_succ _)) (Nat.le_succ _)) (Nat.le_succ _)) (Nat.le_succ _)) (Nat.le_succ _)) (Nat.le_succ _))
        generalize ((((((((((((wc.setCell ⟨w.heap.size, 0, none⟩ (.int .u8 0)).setCell ⟨w.heap.size, 1, none⟩ (.int .u8 0)).setCell ⟨w.heap.size, 2, none⟩ (.int .u8 0)).setCell ⟨w.heap.size, 3, none⟩ (.int .u16 0)).setCell ⟨w.heap.size, 4, none⟩ (.bool false)).setCell ⟨w.heap.size, 5, none⟩ (.bool false)).setCell ⟨w.heap.size + 1, 0, none⟩ (.int .u8 0)).setCell ⟨w.heap.size + 1, 1, none⟩ (.int .u8 0)).setCell ⟨w.heap.size + 1, 2, none⟩ (.int .u8 0)).setCell ⟨w.heap.size + 1, 3, none⟩ (.int .u16 0)).setCell ⟨w.heap.size + 1, 4, none⟩ (.bool false)).setCell ⟨w.heap.size + 1, 5, none⟩ (.bool false)) = YY at m1 m2 m3 ⊢
        have u0 : YY.cell? ⟨w.heap.size, 0, none⟩ = some (.int .u8 0) := (blk_cell m1 0).trans rfl
        have t0 : YY.cell? ⟨w.heap.size + 1, 0, none⟩ = some (.int .u8 0) := (blk_cell m2 0).trans rfl
        have u1 : YY.cell? ⟨w.heap.size, 1, none⟩ = some (.int .u8 0) := (blk_cell m1 1).trans rfl
        have t1 : YY.cell? ⟨w.heap.size + 1, 1, none⟩ = some (.int .u8 0) := (blk_cell m2 1).trans rfl
        have u2 : YY.cell? ⟨w.heap.size, 2, none⟩ = some (.int .u8 0) := (blk_cell m1 2).trans rfl
        have t2 : YY.cell? ⟨w.heap.size + 1, 2, none⟩ = some (.int .u8 0) := (blk_cell m2 2).trans rfl
        have u3 : YY.cell? ⟨w.heap.size, 3, none⟩ = some (.int .u16 0) := (blk_cell m1 3).trans rfl
        have t3 : YY.cell? ⟨w.heap.size + 1, 3, none⟩ = some (.int .u16 0) := (blk_cell m2 3).trans rfl
        have u4 : YY.cell? ⟨w.heap.size, 4, none⟩ = some (.bool false) := (blk_cell m1 4).trans rfl
        have t4 : YY.cell? ⟨w.heap.size + 1, 4, none⟩ = some (.bool false) := (blk_cell m2 4).trans rfl
        have u5 : YY.cell? ⟨w.heap.size, 5, none⟩ = some (.bool false) := (blk_cell m1 5).trans rfl
        have t5 : YY.cell? ⟨w.heap.size + 1, 5, none⟩ = some (.bool false) := (blk_cell m2 5).trans rfl
        exact bodyPost_ret (v := .tuple #[.agg #[.int .u8 0, .int .u8 0, .int .u8 0, .int .u16 0, .bool false, .bool false], .agg #[.int .u8 0, .int .u8 0, .int .u8 0, .int .u16 0, .bool false, .bool false], .int .i64 6]) (by simp [results, Try.results50, go_sem, u0, t0, u1, t1, u2, t2, u3, t3, u4, t4, u5, t5]) rfl ⟨rfl, m3⟩
end Go.Proofs.Ytmjjojbedllmgaa.Hand
end
section
namespace Go.Proofs.Ytmjjojbedllmgaa.Hand
open Go.RowKit
open Go.Proofs.Ytmjjojbedllmgaa.G
open Go.Proofs.YtmjjojbedllmgaaW.PrintWords Go.Proofs.YtmjjojbedllmgaaW.PrintLast Go.Proofs.YtmjjojbedllmgaaW.PrintMore
set_option linter.unusedVariables false
set_option linter.unusedSimpArgs false
set_option maxRecDepth 100000 in
set_option maxHeartbeats 4000000 in
theorem of_len (A : Option Addr) (c : Nat) (l : List Int) (hl : ¬ (l.length : Int) = 10) (w : World) :
    Calls Try.prog 50 #[.slice A l.length c] w fun e' w' => e' = .returned (.tuple #[.agg #[.int .u8 0, .int .u8 0, .int .u8 0, .int .u16 0, .bool false, .bool false], .agg #[.int .u8 0, .int .u8 0, .int .u8 0, .int .u16 0, .bool false, .bool false], .int .i64 5]) ∧ Below w.heap.size w w' := by
  go_enter Try.func50, Try.ntmps50
  go_wp2
  refine bodyPost_ret (v := .tuple #[.agg #[.int .u8 0, .int .u8 0, .int .u8 0, .int .u16 0, .bool false, .bool false], .agg #[.int .u8 0, .int .u8 0, .int .u8 0, .int .u16 0, .bool false, .bool false], .int .i64 5]) (by simp [results, Try.results50, go_sem]) rfl ⟨rfl, by go_grown⟩
def clock_Of.f (l : List Int) : Option (Int × Int × Int × Int × Bool × Bool × Int × Int × Int × Int × Bool × Bool × Int) :=
  if (l.length : Int) = 10 then ((clock_Write.f 0 0 0 0 false false 8 (rd l 0)).bind fun r0 => (clock_Write.f r0.1 r0.2.1 r0.2.2.1 r0.2.2.2.1 r0.2.2.2.2.1 r0.2.2.2.2.2.1 9 (rd l 1)).bind fun r1 => (clock_Write.f r1.1 r1.2.1 r1.2.2.1 r1.2.2.2.1 r1.2.2.2.2.1 r1.2.2.2.2.2.1 10 (rd l 2)).bind fun r2 => (clock_Write.f r2.1 r2.2.1 r2.2.2.1 r2.2.2.2.1 r2.2.2.2.2.1 r2.2.2.2.2.2.1 11 (rd l 3)).bind fun r3 => (clock_Write.f r3.1 r3.2.1 r3.2.2.1 r3.2.2.2.1 r3.2.2.2.2.1 r3.2.2.2.2.2.1 12 (rd l 4)).bind fun r4 => (clock_Write.f 0 0 0 0 false false 8 (rd l 5)).bind fun r5 => (clock_Write.f r5.1 r5.2.1 r5.2.2.1 r5.2.2.2.1 r5.2.2.2.2.1 r5.2.2.2.2.2.1 9 (rd l 6)).bind fun r6 => (clock_Write.f r6.1 r6.2.1 r6.2.2.1 r6.2.2.2.1 r6.2.2.2.2.1 r6.2.2.2.2.2.1 10 (rd l 7)).bind fun r7 => (clock_Write.f r7.1 r7.2.1 r7.2.2.1 r7.2.2.2.1 r7.2.2.2.2.1 r7.2.2.2.2.2.1 11 (rd l 8)).bind fun r8 => (clock_Write.f r8.1 r8.2.1 r8.2.2.1 r8.2.2.2.1 r8.2.2.2.2.1 r8.2.2.2.2.2.1 12 (rd l 9)).bind fun r9 => (clock_Bytes.f r4.1 r4.2.1 r4.2.2.1 r4.2.2.2.1 r4.2.2.2.2.1 r4.2.2.2.2.2.1 r9.1 r9.2.1 r9.2.2.1 r9.2.2.2.1 r9.2.2.2.2.1 r9.2.2.2.2.2.1).bind fun r => if ((strOfNums r).toList == (strOfNums l).toList) = true then some (r4.1, r4.2.1, r4.2.2.1, r4.2.2.2.1, r4.2.2.2.2.1, r4.2.2.2.2.2.1, r9.1, r9.2.1, r9.2.2.1, r9.2.2.2.1, r9.2.2.2.2.1, r9.2.2.2.2.2.1, 0) else some (0, 0, 0, 0, false, false, 0, 0, 0, 0, false, false, 6))
  else some (0, 0, 0, 0, false, false, 0, 0, 0, 0, false, false, 5)
theorem clock_Of.calls (A0 : Option Addr) (c0 : Nat) (l0 : List Int) (r1 : Int) (r2 : Int) (r3 : Int) (r4 : Int) (r5 : Bool) (r6 : Bool) (r7 : Int) (r8 : Int) (r9 : Int) (r10 : Int) (r11 : Bool) (r12 : Bool) (r13 : Int) (w : World) (hr0 : Kd.C (Kd.int .u8) w A0 l0.length l0) (hc0 : l0.length ≤ c0) (h : clock_Of.f l0 = some (r1, r2, r3, r4, r5, r6, r7, r8, r9, r10, r11, r12, r13)) :
    Calls Try.prog 50 #[.slice A0 l0.length c0] w fun e w' => e = .returned (.tuple #[.agg #[.int .u8 r1, .int .u8 r2, .int .u8 r3, .int .u16 r4, .bool r5, .bool r6], .agg #[.int .u8 r7, .int .u8 r8, .int .u8 r9, .int .u16 r10, .bool r11, .bool r12], .int .i64 r13]) ∧ Below w.heap.size w w' := by
  unfold clock_Of.f at h
  by_cases hl : (l0.length : Int) = 10
  case neg =>
    rw [if_neg hl] at h
    cases h
    exact of_len A0 c0 l0 hl w
  rw [if_pos hl] at h
  obtain ⟨⟨x0_1, x0_2, x0_3, x0_4, x0_5, x0_6, e0⟩, h0, h⟩ := Option.bind_eq_some_iff.mp h
  obtain ⟨⟨x1_1, x1_2, x1_3, x1_4, x1_5, x1_6, e1⟩, h1, h⟩ := Option.bind_eq_some_iff.mp h
  obtain ⟨⟨x2_1, x2_2, x2_3, x2_4, x2_5, x2_6, e2⟩, h2, h⟩ := Option.bind_eq_some_iff.mp h
  obtain ⟨⟨x3_1, x3_2, x3_3, x3_4, x3_5, x3_6, e3⟩, h3, h⟩ := Option.bind_eq_some_iff.mp h
  obtain ⟨⟨x4_1, x4_2, x4_3, x4_4, x4_5, x4_6, e4⟩, h4, h⟩ := Option.bind_eq_some_iff.mp h
  obtain ⟨⟨x5_1, x5_2, x5_3, x5_4, x5_5, x5_6, e5⟩, h5, h⟩ := Option.bind_eq_some_iff.mp h
  obtain ⟨⟨x6_1, x6_2, x6_3, x6_4, x6_5, x6_6, e6⟩, h6, h⟩ := Option.bind_eq_some_iff.mp h
  obtain ⟨⟨x7_1, x7_2, x7_3, x7_4, x7_5, x7_6, e7⟩, h7, h⟩ := Option.bind_eq_some_iff.mp h
  obtain ⟨⟨x8_1, x8_2, x8_3, x8_4, x8_5, x8_6, e8⟩, h8, h⟩ := Option.bind_eq_some_iff.mp h
  obtain ⟨⟨x9_1, x9_2, x9_3, x9_4, x9_5, x9_6, e9⟩, h9, h⟩ := Option.bind_eq_some_iff.mp h
  obtain ⟨r, hB, h⟩ := Option.bind_eq_some_iff.mp h
  dsimp only at h h0 h1 h2 h3 h4 h5 h6 h7 h8 h9 hB
  let X : Nat → C6 := fun j => match j with | 0 => (0, 0, 0, 0, false, false) | 1 => (x0_1, x0_2, x0_3, x0_4, x0_5, x0_6) | 2 => (x1_1, x1_2, x1_3, x1_4, x1_5, x1_6) | 3 => (x2_1, x2_2, x2_3, x2_4, x2_5, x2_6) | 4 => (x3_1, x3_2, x3_3, x3_4, x3_5, x3_6) | _ => (x4_1, x4_2, x4_3, x4_4, x4_5, x4_6)
  let Y : Nat → C6 := fun j => match j with | 0 => (0, 0, 0, 0, false, false) | 1 => (x5_1, x5_2, x5_3, x5_4, x5_5, x5_6) | 2 => (x6_1, x6_2, x6_3, x6_4, x6_5, x6_6) | 3 => (x7_1, x7_2, x7_3, x7_4, x7_5, x7_6) | 4 => (x8_1, x8_2, x8_3, x8_4, x8_5, x8_6) | _ => (x9_1, x9_2, x9_3, x9_4, x9_5, x9_6)
  cases hcmp : ((strOfNums r).toList == (strOfNums l0).toList) with
  | true =>
    rw [hcmp, if_pos rfl] at h
    cases h
    exact of_ok A0 c0 l0 (by omega) X Y e0 e1 e2 e3 e4 e5 e6 e7 e8 e9 rfl rfl h0 h1 h2 h3 h4 h5 h6 h7 h8 h9 r hB w hr0 hc0 hcmp
  | false =>
    rw [hcmp, if_neg (by simp)] at h
    cases h
    exact of_no A0 c0 l0 (by omega) X Y e0 e1 e2 e3 e4 e5 e6 e7 e8 e9 rfl rfl h0 h1 h2 h3 h4 h5 h6 h7 h8 h9 r hB w hr0 hc0 hcmp
end Go.Proofs.Ytmjjojbedllmgaa.Hand
end
section
namespace Go.Proofs.Ytmjjojbedllmgaa.Hand
open Go.RowKit
open Go.Proofs.Ytmjjojbedllmgaa.G
open Go.Proofs.YtmjjojbedllmgaaW.PrintWords Go.Proofs.YtmjjojbedllmgaaW.PrintLast Go.Proofs.YtmjjojbedllmgaaW.PrintMore
set_option linter.unusedVariables false
set_option linter.unusedSimpArgs false
theorem RowL.copyRow {w : World} {g : Nat} {L : List Int} (h : RowL w g L) (A : Option Addr) (l : List Int) (hr : Kd.C (Kd.int .u8) w A l.length l) (hl : l.length = L.length) :
    ∃ w', (∀ (cap c : Nat) (ty : TypeId), (Builtin.copy_ #[22, 22] ty #[.slice (some ⟨g, 0, none⟩) L.length cap, .slice A l.length c]).run Try.prog w = .ok (.int .i64 L.length) w') ∧ RowL w' g l ∧ Upto (fun k => k = g) w w' := by
  rcases Nat.eq_zero_or_pos l.length with h0 | h0
  · have q := fun (cap c : Nat) (ty : TypeId) => run_copy_none (P := Try.prog) w 22 22 ty 5 (some ⟨g, 0, none⟩) A L.length cap l.length c Try.underlying22 (by kernel_rfl) (by rw [h0]; simp)
    refine ⟨w, fun cap c ty => (q cap c ty).trans ?_, ?_, Upto.refl _ _⟩
    · rw [← hl, h0]; rfl
    · have e1 : l = [] := List.eq_nil_of_length_eq_zero h0
      have e2 : L = [] := List.eq_nil_of_length_eq_zero (by omega)
      rw [e1]; rw [e2] at h; exact h
  · obtain ⟨ad, rfl, _⟩ := Kd.at_int hr 0 (by omega) (by omega)
    have hnews : ∀ (j : Nat) (u : Value), (l.map (Value.int .u8))[j]? = some u → w.cell? (ad.add j) = some u := by
      intro j u hj
      obtain ⟨hl', hp⟩ := List.getElem?_eq_some_iff.1 hj
      have hl' : j < l.length := by simpa using hl'
      obtain ⟨ad', e, hc⟩ := Kd.at_int hr (j : Int) (by omega) (by omega)
      cases e
      rw [Int.toNat_natCast] at hc
      rw [hc, ← hp]
      simp [rd, hl']
    have q := fun (cap c : Nat) (ty : TypeId) => run_copy_row (P := Try.prog) w 22 22 ty 5 g 0 L.length cap ad l.length c (L.map (Value.int .u8)).toArray 5 (l.map (Value.int .u8)) Try.underlying22 (by kernel_rfl) h (by simp [hl]) hnews (by simp; omega) (by intro u hu; simp at hu; obtain ⟨x, _, rfl⟩ := hu; rfl)
    have e0 : goInt ((l.map (Value.int .u8)).length : Nat) = Value.int .i64 (L.length : Nat) := by rw [List.length_map, hl]; rfl
    rw [e0] at q
    refine ⟨_, q, ?_, ?_⟩
    · refine (setRow_heap w g _ _ 5 (0, 0) h).trans ?_
      have e : (L.map (Value.int .u8)).drop (0 + (l.map (Value.int .u8)).length) = [] := by
        apply List.drop_eq_nil_of_le; simp; omega
      rw [e]
      simp
    · exact ⟨rfl, rfl, rfl, by simp [World.setRow], fun k _ hk => setRow_other w g k _ hk⟩
set_option maxRecDepth 100000 in
set_option maxHeartbeats 4000000 in
theorem load_no {w : World} {a : Ad} {s : Ct} (h : CartAt w a s) (A : Option Addr) (c : Nat) (l : List Int) (hr : Kd.C (Kd.int .u8) w A l.length l) (hc : l.length ≤ c) (hbt : s.hdr.bt = false) :
    Calls Try.prog 24 #[a.p, .slice A l.length c] w fun e w' => e = .returned (.int .i64 7) ∧ w' = w := by
  have HH := Aside0.mk h
  have HR := Aside0.mk hr
  have HC := Aside0.mk hc
  have c23 := h.c23
  rw [hbt] at c23
  clear h hr hc
  go_enter Try.func24, Try.ntmps24
  go_wp2_with fail
  refine (none_at HH.out).mono ?_
  rintro e' w1 ⟨rfl, hw⟩
  replace hw := hw.symm
  subst hw
  go_wp2
  go_ret
  exact ⟨rfl, rfl⟩
set_option maxRecDepth 100000 in
set_option maxHeartbeats 4000000 in
theorem load_nil (v : Value) (w : World) :
    Calls Try.prog 24 #[.pointer none, v] w fun e w' => e = .returned (.int .i64 7) ∧ w' = w := by
  go_enter Try.func24, Try.ntmps24
  go_wp2
  go_ret
  exact ⟨rfl, rfl⟩
set_option maxRecDepth 100000 in
set_option maxHeartbeats 4000000 in
theorem load_size1 {w : World} {a : Ad} {s : Ct} (h : CartAt w a s) (A : Option Addr) (c : Nat) (l : List Int) (hr : Kd.C (Kd.int .u8) w A l.length l) (hc : l.length ≤ c) (hbt : s.hdr.bt = true) (hck : s.hdr.ck = false) (hn : ¬ (l.length : Int) = (s.ram.length : Int)) :
    Calls Try.prog 24 #[a.p, .slice A l.length c] w fun e w' => e = .returned (.int .i64 5) ∧ w' = w := by
  have HH := Aside0.mk h
  have HR := Aside0.mk hr
  have HC := Aside0.mk hc
  have c23 := h.c23
  have c24 := h.c24
  have c30 := h.c30
  rw [hbt] at c23
  rw [hck] at c24
  clear h hr hc
  go_enter Try.func24, Try.ntmps24
  go_wp2_with fail
  refine (none_at HH.out).mono ?_
  rintro e' w1 ⟨rfl, hw⟩
  replace hw := hw.symm
  subst hw
  go_wp2
  go_ret
  exact ⟨rfl, rfl⟩
set_option maxRecDepth 100000 in
set_option maxHeartbeats 4000000 in
theorem load_ram {w : World} {a : Ad} {s : Ct} (h : CartAt w a s) (A : Option Addr) (c : Nat) (l : List Int) (hr : Kd.C (Kd.int .u8) w A l.length l) (hc : l.length ≤ c) (hbt : s.hdr.bt = true) (hck : s.hdr.ck = false) (hn : l.length = s.ram.length) :
    Calls Try.prog 24 #[a.p, .slice A l.length c] w fun e w' => e = .returned (.int .i64 0) ∧ CartAt w' a { s with ram := l } ∧ Upto a.S w w' := by
  have HH := Aside0.mk h
  have HR := Aside0.mk hr
  have HC := Aside0.mk hc
  obtain ⟨w2, hcopy, hrow, hup⟩ := h.row.copyRow A l hr hn
  have hcp := fun ty : TypeId => hcopy s.ram.length c ty
  have HROW := Aside0.mk hrow
  have HUP := Aside0.mk hup
  clear hcopy hrow hup
  have c23 := h.c23
  have c24 := h.c24
  have c30 := h.c30
  rw [hbt] at c23
  rw [hck] at c24
  clear h hr hc
  rw [hn] at hcp
  have HN := Aside0.mk hn
  have hnn : (l.length : Int) = (s.ram.length : Int) := by rw [hn]
  have hl2 : ∀ x y : Option Addr, ∀ p q : Nat, True := fun _ _ _ _ => trivial
  clear hl2
  rw [hn]
  clear hn hnn
  go_enter Try.func24, Try.ntmps24
  go_wp2_with fail
  refine (none_at HH.out).mono ?_
  rintro e' w1 ⟨rfl, hw⟩
  replace hw := hw.symm
  subst hw
  go_wp2
  go_ret
  refine ⟨rfl, ⟨?_, ?_, HROW.out, HH.out.n1, HH.out.n2, HH.out.n3⟩, HUP.out.mono fun k q => Or.inr q⟩
  · have p := HUP.out.blk HH.out.box HH.out.n1
    rw [show (Ct.cells { s with ram := l } a) = s.cells a by simp [Ct.cells, HN.out]]
    exact p
  · exact HH.out.image.of_block (HUP.out.block _ HH.out.lti HH.out.n2)
set_option maxRecDepth 100000 in
set_option maxHeartbeats 4000000 in
theorem load_size2 {w : World} {a : Ad} {s : Ct} (h : CartAt w a s) (A : Option Addr) (c : Nat) (l : List Int) (hr : Kd.C (Kd.int .u8) w A l.length l) (hc : l.length ≤ c) (hbt : s.hdr.bt = true) (hck : s.hdr.ck = true) (hl : s.ram.length ≤ 1048576) (hn : ¬ (l.length : Int) = (s.ram.length : Int) + 10) :
    Calls Try.prog 24 #[a.p, .slice A l.length c] w fun e w' => e = .returned (.int .i64 5) ∧ w' = w := by
  have HH := Aside0.mk h
  have HR := Aside0.mk hr
  have HC := Aside0.mk hc
  have c23 := h.c23
  have c24 := h.c24
  have c30 := h.c30
  rw [hbt] at c23
  rw [hck] at c24
  clear h hr hc
  go_enter Try.func24, Try.ntmps24
  go_wp2_with fail
  refine (none_at HH.out).mono ?_
  rintro e' w1 ⟨rfl, hw⟩
  replace hw := hw.symm
  subst hw
  go_wp2
  go_ret
  exact ⟨rfl, rfl⟩
theorem blk_at1' (w : World) (A B : Obj) : ((w.alloc A).alloc B).heap[w.heap.size + 1]? = some B := by
  have q := blk_new (w.alloc A) B
  simpa using q
def ownA (A : Option Addr) : List Nat := match A with | some ad => [ad.block] | none => []
set_option maxRecDepth 100000 in
set_option maxHeartbeats 4000000 in
theorem load_text {w : World} {a : Ad} {s : Ct} (h : CartAt w a s) (A : Option Addr) (c : Nat) (l : List Int) (hr : Kd.C (Kd.int .u8) w A l.length l) (hc : l.length ≤ c) (hbt : s.hdr.bt = true) (hck : s.hdr.ck = true) (hl : s.ram.length ≤ 1048576) (hn : l.length = s.ram.length + 10) (x y : Ck) (e : Int) (he : ¬ e = 0) (hx : clock_Of.f (l.drop s.ram.length) = some (x.s, x.m, x.h, x.d, x.ht, x.cy, y.s, y.m, y.h, y.d, y.ht, y.cy, e)) :
    Calls Try.prog 24 #[a.p, .slice A l.length c] w fun e' w' => e' = .returned (.int .i64 e) ∧ Below w.heap.size w w' := by
  have HH := Aside0.mk h
  have HR := Aside0.mk hr
  have HC := Aside0.mk hc
  have HL := Aside0.mk hl
  have HN := Aside0.mk hn
  have h1n : s.ram.length + 10 ≤ l.length := by omega
  have hn' : (l.length : Int) = (s.ram.length : Int) + 10 := by omega
  have hwr : wrap64 ((s.ram.length : Int) + 10) = (s.ram.length : Int) + 10 := IntWalk.wrap64_in _ (by omega)
  have hcn : ¬ c = s.ram.length := by omega
  have hcm : ¬ s.ram.length = c := by omega
  have HD := Aside0.mk (Kd.C_drop (m := s.ram.length) hr (by omega) hc)
  have HT := Aside0.mk (Kd.C_take (m := s.ram.length) hr (by omega))
  obtain ⟨ad, rfl, _⟩ := Kd.at_int hr 0 (by omega) (by omega)
  have hs0 : (0 : Int) ≤ (s.ram.length : Int) := by omega
  have hs1 : (s.ram.length : Int) ≤ (l.length : Int) := by omega
  have hs2 : (l.length : Int) ≤ (c : Int) := by omega
  have hs3 : (s.ram.length : Int) ≤ (c : Int) := by omega
  have HX := Aside0.mk hx
  clear hx hl hn h1n
  have c23 := h.c23
  have c24 := h.c24
  have c30 := h.c30
  rw [hbt] at c23
  rw [hck] at c24
  clear h hr hc
  go_enter Try.func24, Try.ntmps24
  go_wp2_with fail
  refine (none_at HH.out).mono ?_
  rintro e1 w1 ⟨rfl, hw⟩
  replace hw := hw.symm
  subst hw
  go_wp2_with fail
  have HD2 := HD.out
  rw [if_neg hcn] at HD2
  have e1 : s.ram.length * (Kd.int .u8).sz = s.ram.length := Nat.mul_one _
  rw [Option.map_some, e1] at HD2
  have HQ : Aside0 (Kd.C (Kd.int .u8) w (some (ad.add s.ram.length)) (l.drop s.ram.length).length (l.drop s.ram.length)) := Aside0.mk HD2
  clear e1
  have hlen : (l.drop s.ram.length).length = l.length - s.ram.length := by simp
  have q := clock_Of.calls _ (c - s.ram.length) _ _ _ _ _ _ _ _ _ _ _ _ _ _ w HQ.out (by have := HC.out; omega) HX.out
  rw [hlen] at q
  refine q.mono ?_
  clear q hlen HD2
  rintro e1 w1 ⟨rfl, hb⟩
  have HB := Aside0.mk hb
  clear hb
  go_wp2_with fail
  go_ret
  exact ⟨rfl, below_alloc (below_alloc HB.out _) _⟩
set_option maxRecDepth 100000 in
set_option maxHeartbeats 4000000 in
theorem load_all {w : World} {a : Ad} {s : Ct} (h : CartAt w a s) (A : Option Addr) (c : Nat) (l : List Int) (hr : Kd.C (Kd.int .u8) w A l.length l) (hc : l.length ≤ c) (hbt : s.hdr.bt = true) (hck : s.hdr.ck = true) (hl : s.ram.length ≤ 1048576) (hn : l.length = s.ram.length + 10) (x y : Ck) (hd : a.b ∉ ownA A) (hx : clock_Of.f (l.drop s.ram.length) = some (x.s, x.m, x.h, x.d, x.ht, x.cy, y.s, y.m, y.h, y.d, y.ht, y.cy, 0)) :
    Calls Try.prog 24 #[a.p, .slice A l.length c] w fun e' w' => e' = .returned (.int .i64 0) ∧ CartAt w' a { s with lv := x, hd := y, ram := l.take s.ram.length } ∧ Upto a.S w w' := by
  have HH := Aside0.mk h
  have HR := Aside0.mk hr
  have HC := Aside0.mk hc
  have HL := Aside0.mk hl
  have HN := Aside0.mk hn
  have h1n : s.ram.length + 10 ≤ l.length := by omega
  have hn' : (l.length : Int) = (s.ram.length : Int) + 10 := by omega
  have hwr : wrap64 ((s.ram.length : Int) + 10) = (s.ram.length : Int) + 10 := IntWalk.wrap64_in _ (by omega)
  have hcn : ¬ c = s.ram.length := by omega
  have hcm : ¬ s.ram.length = c := by omega
  have HD := Aside0.mk (Kd.C_drop (m := s.ram.length) hr (by omega) hc)
  have HT := Aside0.mk (Kd.C_take (m := s.ram.length) hr (by omega))
  obtain ⟨ad, rfl, _⟩ := Kd.at_int hr 0 (by omega) (by omega)
  have hs0 : (0 : Int) ≤ (s.ram.length : Int) := by omega
  have hs1 : (s.ram.length : Int) ≤ (l.length : Int) := by omega
  have hs2 : (l.length : Int) ≤ (c : Int) := by omega
  have hs3 : (s.ram.length : Int) ≤ (c : Int) := by omega
  have HX := Aside0.mk hx
  clear hx hl hn h1n
  have c23 := h.c23
  have c24 := h.c24
  have c30 := h.c30
  rw [hbt] at c23
  rw [hck] at c24
  clear h hr hc
  go_enter Try.func24, Try.ntmps24
  go_wp2_with fail
  refine (none_at HH.out).mono ?_
  rintro e1 w1 ⟨rfl, hw⟩
  replace hw := hw.symm
  subst hw
  go_wp2_with fail
  have HD2 := HD.out
  rw [if_neg hcn] at HD2
  have e1 : s.ram.length * (Kd.int .u8).sz = s.ram.length := Nat.mul_one _
  rw [Option.map_some, e1] at HD2
  have HQ : Aside0 (Kd.C (Kd.int .u8) w (some (ad.add s.ram.length)) (l.drop s.ram.length).length (l.drop s.ram.length)) := Aside0.mk HD2
  clear e1
  have hlen : (l.drop s.ram.length).length = l.length - s.ram.length := by simp
  have q := clock_Of.calls _ (c - s.ram.length) _ _ _ _ _ _ _ _ _ _ _ _ _ _ w HQ.out (by have := HC.out; omega) HX.out
  rw [hlen] at q
  refine q.mono ?_
  clear q hlen HD2
  rintro e1 w1 ⟨rfl, hb⟩
  have HB := Aside0.mk hb
  clear hb
  go_wp2_with fail
  have b0 := blk_alloc (blk_new w1 (.cells #[.int .u8 x.s, .int .u8 x.m, .int .u8 x.h, .int .u16 x.d, .bool x.ht, .bool x.cy] 34)) (.cells #[.int .u8 y.s, .int .u8 y.m, .int .u8 y.h, .int .u16 y.d, .bool y.ht, .bool y.cy] 34)
  have b1 := blk_at1' w1 (.cells #[.int .u8 x.s, .int .u8 x.m, .int .u8 x.h, .int .u16 x.d, .bool x.ht, .bool x.cy] 34) (.cells #[.int .u8 y.s, .int .u8 y.m, .int .u8 y.h, .int .u16 y.d, .bool y.ht, .bool y.cy] 34)
  have hB := below_alloc (below_alloc HB.out (.cells #[.int .u8 x.s, .int .u8 x.m, .int .u8 x.h, .int .u16 x.d, .bool x.ht, .bool x.cy] 34)) (.cells #[.int .u8 y.s, .int .u8 y.m, .int .u8 y.h, .int .u16 y.d, .bool y.ht, .bool y.cy] 34)
  have hz : ((w1.alloc (.cells #[.int .u8 x.s, .int .u8 x.m, .int .u8 x.h, .int .u16 x.d, .bool x.ht, .bool x.cy] 34)).alloc (.cells #[.int .u8 y.s, .int .u8 y.m, .int .u8 y.h, .int .u16 y.d, .bool y.ht, .bool y.cy] 34)).heap.size = w1.heap.size + 2 := by simp
  generalize (w1.alloc (.cells #[.int .u8 x.s, .int .u8 x.m, .int .u8 x.h, .int .u16 x.d, .bool x.ht, .bool x.cy] 34)).alloc (.cells #[.int .u8 y.s, .int .u8 y.m, .int .u8 y.h, .int .u16 y.d, .bool y.ht, .bool y.cy] 34) = W2 at b0 b1 hB hz ⊢
  have h2 := HH.out.below hB
  have hlt := HH.out.ltb
  have hw1 := below_size HB.out
  have n0 : ¬ a.b = w1.heap.size := by omega
  have n1 : ¬ a.b = w1.heap.size + 1 := by omega
  have fz := h2.frozen
  have g6 := h2.c6
  have g7 := h2.c7
  have g8 := h2.c8
  have g9 := h2.c9
  have g10 := h2.c10
  have g11 := h2.c11
  have g12 := h2.c12
  have g13 := h2.c13
  have g14 := h2.c14
  have g15 := h2.c15
  have g16 := h2.c16
  have g17 := h2.c17
  have b00 : W2.cell? ⟨w1.heap.size, 0, none⟩ = some (.int .u8 x.s) := (blk_cell b0 0).trans rfl
  have b01 : W2.cell? ⟨w1.heap.size, 1, none⟩ = some (.int .u8 x.m) := (blk_cell b0 1).trans rfl
  have b02 : W2.cell? ⟨w1.heap.size, 2, none⟩ = some (.int .u8 x.h) := (blk_cell b0 2).trans rfl
  have b03 : W2.cell? ⟨w1.heap.size, 3, none⟩ = some (.int .u16 x.d) := (blk_cell b0 3).trans rfl
  have b04 : W2.cell? ⟨w1.heap.size, 4, none⟩ = some (.bool x.ht) := (blk_cell b0 4).trans rfl
  have b05 : W2.cell? ⟨w1.heap.size, 5, none⟩ = some (.bool x.cy) := (blk_cell b0 5).trans rfl
  have b10 : W2.cell? ⟨w1.heap.size + 1, 0, none⟩ = some (.int .u8 y.s) := (blk_cell b1 0).trans rfl
  have b11 : W2.cell? ⟨w1.heap.size + 1, 1, none⟩ = some (.int .u8 y.m) := (blk_cell b1 1).trans rfl
  have b12 : W2.cell? ⟨w1.heap.size + 1, 2, none⟩ = some (.int .u8 y.h) := (blk_cell b1 2).trans rfl
  have b13 : W2.cell? ⟨w1.heap.size + 1, 3, none⟩ = some (.int .u16 y.d) := (blk_cell b1 3).trans rfl
  have b14 : W2.cell? ⟨w1.heap.size + 1, 4, none⟩ = some (.bool y.ht) := (blk_cell b1 4).trans rfl
  have b15 : W2.cell? ⟨w1.heap.size + 1, 5, none⟩ = some (.bool y.cy) := (blk_cell b1 5).trans rfl
  have H2 := Aside0.mk h2
  have HB2 := Aside0.mk hB
  clear b0 b1 hB hz h2 hlt hw1
  go_region
  have p := blk_drew (blk_setL (blk_setL (blk_setL (blk_setL (blk_setL (blk_setL (blk_setL (blk_setL (blk_setL (blk_setL (blk_setL (blk_setL H2.out.box 6 (.int .u8 x.s)) 7 (.int .u8 x.m)) 8 (.int .u8 x.h)) 9 (.int .u16 x.d)) 10 (.bool x.ht)) 11 (.bool x.cy)) 12 (.int .u8 y.s)) 13 (.int .u8 y.m)) 14 (.int .u8 y.h)) 15 (.int .u16 y.d)) 16 (.bool y.ht)) 17 (.bool y.cy))
  have u : Upto (fun k => k = a.b) w ((((((((((((W2.setCell ⟨a.b, 6, none⟩ (.int .u8 x.s)).setCell ⟨a.b, 7, none⟩ (.int .u8 x.m)).setCell ⟨a.b, 8, none⟩ (.int .u8 x.h)).setCell ⟨a.b, 9, none⟩ (.int .u16 x.d)).setCell ⟨a.b, 10, none⟩ (.bool x.ht)).setCell ⟨a.b, 11, none⟩ (.bool x.cy)).setCell ⟨a.b, 12, none⟩ (.int .u8 y.s)).setCell ⟨a.b, 13, none⟩ (.int .u8 y.m)).setCell ⟨a.b, 14, none⟩ (.int .u8 y.h)).setCell ⟨a.b, 15, none⟩ (.int .u16 y.d)).setCell ⟨a.b, 16, none⟩ (.bool y.ht)).setCell ⟨a.b, 17, none⟩ (.bool y.cy)).drew := by
    refine Upto.drew ?_
    with_reducible (refine Upto.setB ?_ _ _; refine Upto.setB ?_ _ _; refine Upto.setB ?_ _ _; refine Upto.setB ?_ _ _; refine Upto.setB ?_ _ _; refine Upto.setB ?_ _ _; refine Upto.setB ?_ _ _; refine Upto.setB ?_ _ _; refine Upto.setB ?_ _ _; refine Upto.setB ?_ _ _; refine Upto.setB ?_ _ _; refine Upto.setB ?_ _ _; exact Upto.of_below HB2.out)
  generalize ((((((((((((W2.setCell ⟨a.b, 6, none⟩ (.int .u8 x.s)).setCell ⟨a.b, 7, none⟩ (.int .u8 x.m)).setCell ⟨a.b, 8, none⟩ (.int .u8 x.h)).setCell ⟨a.b, 9, none⟩ (.int .u16 x.d)).setCell ⟨a.b, 10, none⟩ (.bool x.ht)).setCell ⟨a.b, 11, none⟩ (.bool x.cy)).setCell ⟨a.b, 12, none⟩ (.int .u8 y.s)).setCell ⟨a.b, 13, none⟩ (.int .u8 y.m)).setCell ⟨a.b, 14, none⟩ (.int .u8 y.h)).setCell ⟨a.b, 15, none⟩ (.int .u16 y.d)).setCell ⟨a.b, 16, none⟩ (.bool y.ht)).setCell ⟨a.b, 17, none⟩ (.bool y.cy)).drew = W3 at p u ⊢
  rw [cells_lv s a x] at p
  rw [cells_hd _ a y] at p
  have H3 := HH.out.stored (s' := { s with lv := x, hd := y }) p u rfl rfl
  have P3 := Aside0.mk H3.1
  have U3 := Aside0.mk u
  clear p u H3 fz n0 n1
  clear g6 g7 g8 g9 g10 g11 g12 g13 g14 g15 g16 g17 b00 b01 b02 b03 b04 b05 b10 b11 b12 b13 b14 b15
  have k30 := P3.out.c30
  go_wp2_with fail
  go_still_tail 7, (by kernel_rfl)
  change wpList _ _ _ _ _ W3.drew
  have P4 : Aside0 (CartAt W3.drew a { s with lv := x, hd := y }) := Aside0.mk (P3.out.below (below_drew1 (Below.refl _ _)))
  have U4 : Aside0 (Upto (fun k => k = a.b) w W3.drew) := Aside0.mk (Upto.drew U3.out)
  clear P3 U3 k30
  generalize W3.drew = W4 at P4 U4 ⊢
  have hT : Kd.C (Kd.int .u8) W4 (some ad) (l.take s.ram.length).length (l.take s.ram.length) := Kd.C_keep 0 HT.out ⟨U4.out.size, fun i hi hne _ => U4.out.block i hi hne⟩ (fun ad' e _ => by cases e; exact fun q => hd (by simp [ownA, q]))
  have htl : (l.take s.ram.length).length = s.ram.length := by have := HN.out; simp; omega
  obtain ⟨W5, hcopy, hrow, hup⟩ := P4.out.row.copyRow (some ad) (l.take s.ram.length) hT htl
  have hcp := fun ty : TypeId => hcopy s.ram.length c ty
  rw [htl] at hcp
  have hcp2 : ∀ ty : TypeId, (Builtin.copy_ #[22, 22] ty #[.slice (some ⟨a.gr, 0, none⟩) s.ram.length s.ram.length, .slice (some ad) s.ram.length c]).run Try.prog W4 = .ok (.int .i64 s.ram.length) W5 := hcp
  have HROW := Aside0.mk hrow
  have HUP := Aside0.mk hup
  have HTL := Aside0.mk htl
  clear hcopy hrow hup hT htl hcp hd
  go_wp2
  go_ret
  refine ⟨rfl, ⟨?_, ?_, HROW.out, HH.out.n1, HH.out.n2, HH.out.n3⟩, Upto.trans (U4.out.mono fun k q => Or.inl q) (HUP.out.mono fun k q => Or.inr q)⟩
  · have p := HUP.out.blk P4.out.box HH.out.n1
    rw [show (Ct.cells { s with lv := x, hd := y, ram := l.take s.ram.length } a) = Ct.cells { s with lv := x, hd := y } a by simp [Ct.cells]; have := HN.out; omega]
    exact p
  · exact P4.out.image.of_block (HUP.out.block _ P4.out.lti HH.out.n2)
end Go.Proofs.Ytmjjojbedllmgaa.Hand
end
section
namespace Go.Proofs.Ytmjjojbedllmgaa.Hand
open Go.RowKit
open Go.Proofs.Ytmjjojbedllmgaa.G
open Go.Proofs.YtmjjojbedllmgaaW.PrintWords Go.Proofs.YtmjjojbedllmgaaW.PrintLast Go.Proofs.YtmjjojbedllmgaaW.PrintMore
set_option linter.unusedVariables false
set_option linter.unusedSimpArgs false
set_option maxRecDepth 100000 in
set_option maxHeartbeats 4000000 in
theorem tick_nil (w : World) :
    Calls Try.prog 20 #[.pointer none] w fun e w' => e = .returned (.tuple #[]) ∧ Below w.heap.size w w' := by
  go_enter Try.func20, Try.ntmps20
  go_wp2
  go_returns
  exact ⟨rfl, by go_grown⟩
set_option maxRecDepth 100000 in
set_option maxHeartbeats 4000000 in
theorem tick_no {w : World} {a : Ad} {s : Ct} (h : CartAt w a s) (hck : s.hdr.ck = false) :
    Calls Try.prog 20 #[a.p] w fun e w' => e = .returned (.tuple #[]) ∧ Below w.heap.size w w' := by
  have c31 := h.c31
  have c24 := h.c24
  rw [hck] at c24
  clear h
  go_enter Try.func20, Try.ntmps20
  go_wp2
  go_returns
  exact ⟨rfl, by go_grown⟩
end Go.Proofs.Ytmjjojbedllmgaa.Hand
end
section
namespace Go.Proofs.Ytmjjojbedllmgaa.Hand
open Go.RowKit
open Go.Proofs.Ytmjjojbedllmgaa.G
open Go.Proofs.YtmjjojbedllmgaaW.PrintWords Go.Proofs.YtmjjojbedllmgaaW.PrintLast Go.Proofs.YtmjjojbedllmgaaW.PrintMore
set_option linter.unusedVariables false
set_option linter.unusedSimpArgs false
set_option maxRecDepth 100000
structure Mp.Ok (m : Mp) : Prop where
  l0 : 0 ≤ m.l
  l1 : m.l ≤ 255
  h0 : 0 ≤ m.h
  h1 : m.h ≤ 255
  r0 : 0 ≤ m.r
  r1 : m.r ≤ 255
structure Ct.Ok (s : Ct) : Prop where
  i0 : 0 < s.img.length
  i1 : s.img.length ≤ 16777216
  r1 : s.ram.length ≤ 1048576
  m : s.mp.Ok
def Ct.romN (s : Ct) (ad : Int) : Int := (s.rom ad).getD (-1)
def Ct.regN (s : Ct) (ad : Int) : Int := (s.reg ad).getD 0
def Ck.read (c : Ck) (n : Int) : Int := ((clock_Read.f c.s c.m c.h c.d c.ht c.cy n).getD (0, 0)).1
theorem clock_read_some (a b c d : Int) (e f : Bool) (n : Int) : ∃ v x, clock_Read.f a b c d e f n = some (v, x) := by
  unfold clock_Read.f clock_Norm.f clock_bit.f
  simp only [Option.bind_some]
  repeat' (first | exact ⟨_, _, rfl⟩ | split)
  all_goals (simp only [Option.bind_some]; repeat' (first | exact ⟨_, _, rfl⟩ | split))
  all_goals (simp only [Option.bind_some]; repeat' (first | exact ⟨_, _, rfl⟩ | split))
theorem rom_lo {s : Ct} (ok : s.Ok) (ad : Int) (ha : 0 ≤ ad ∧ ad ≤ 65535) (hlo : ad < 32768) : s.rom ad = some (s.romN ad) ∧ 0 ≤ s.romN ad ∧ s.romN ad < s.img.length := by
  have q := Pure.rom_is s.mp.k s.mp.o s.mp.l s.mp.h s.mp.r s.mp.md ad s.img.length ⟨ok.m.l0, ok.m.l1⟩ ⟨ok.m.h0, ok.m.h1⟩ ha
  have hi := ok.i0
  rw [if_neg (by omega), if_neg (by omega)] at q
  have e : s.rom ad = some ((bankF s.mp.k s.mp.l s.mp.h s.mp.md (ad / 16384) * 16384 + ad % 16384) % s.img.length) := q
  have e2 : s.romN ad = (bankF s.mp.k s.mp.l s.mp.h s.mp.md (ad / 16384) * 16384 + ad % 16384) % s.img.length := by rw [Ct.romN, e]; rfl
  rw [e2]
  exact ⟨e, Int.emod_nonneg _ (by omega), Int.emod_lt_of_pos _ (by omega)⟩
theorem rom_hi {s : Ct} (ok : s.Ok) (ad : Int) (ha : 0 ≤ ad ∧ ad ≤ 65535) (hlo : ¬ ad < 32768) : s.rom ad = some (-1) := by
  have q := Pure.rom_is s.mp.k s.mp.o s.mp.l s.mp.h s.mp.r s.mp.md ad s.img.length ⟨ok.m.l0, ok.m.l1⟩ ⟨ok.m.h0, ok.m.h1⟩ ha
  have hi := ok.i0
  rw [if_neg (by omega), if_pos (by omega)] at q
  exact q
theorem reg_of {s : Ct} (ok : s.Ok) (ad : Int) : s.reg ad = some (s.regN ad) := by
  have h : ∃ z, s.reg ad = some z := by
    unfold Ct.reg
    split
    · obtain ⟨z, hz, _⟩ := Pure.reg_bd s.mp.k s.mp.o s.mp.l s.mp.h s.mp.r s.mp.md ad ⟨ok.m.r0, ok.m.r1⟩
      exact ⟨z, hz⟩
    · exact ⟨0, rfl⟩
  obtain ⟨z, hz⟩ := h
  rw [Ct.regN, hz]; rfl
theorem at_lt {s : Ct} (ok : s.Ok) (ad : Int) (ha : 0 ≤ ad ∧ ad ≤ 65535) (h0 : s.at ad ≥ 0) : s.at ad < s.ram.length := by
  obtain ⟨x, hx, _, h2⟩ := Pure.ram_bd s.mp.k s.mp.o s.mp.l s.mp.h s.mp.r s.mp.md ad s.ram.length ⟨ok.m.h0, ok.m.h1⟩ ⟨ok.m.r0, ok.m.r1⟩ ha
  rw [at_eq] at hx
  cases hx
  exact (h2 h0).1
def Ct.read (s : Ct) (ad : Int) : Int :=
  if ad < 32768 then rd s.img (s.romN ad)
  else if s.regN ad > 0 then s.hd.read (s.regN ad)
  else if s.at ad ≥ 0 then rd s.ram (s.at ad) else 255
theorem read_at {w : World} {a : Ad} {s : Ct} (h : CartAt w a s) (ok : s.Ok) (ad : Int) (ha : 0 ≤ ad ∧ ad ≤ 65535) :
    Calls Try.prog 13 #[a.p, .int .u16 ad] w fun e w' => e = .returned (.int .u8 (s.read ad)) ∧ Below w.heap.size w w' := by
  unfold Ct.read
  by_cases hlo : ad < 32768
  · rw [if_pos hlo]
    obtain ⟨h1, h2, h3⟩ := rom_lo ok ad ha hlo
    exact read_rom h ad _ h1 h2 h3
  rw [if_neg hlo]
  have hr := rom_hi ok ad ha hlo
  have hg := reg_of ok ad
  by_cases hm : s.regN ad > 0
  · rw [if_pos hm]
    obtain ⟨v, x, hv⟩ := clock_read_some s.hd.s s.hd.m s.hd.h s.hd.d s.hd.ht s.hd.cy (s.regN ad)
    have q := read_reg h ad _ v x hr hg hm hv
    have e : s.hd.read (s.regN ad) = v := by rw [Ck.read, hv]; rfl
    rw [e]
    exact q
  rw [if_neg hm]
  by_cases h0 : s.at ad ≥ 0
  · rw [if_pos h0]
    exact read_ram h ad _ _ hr hg hm rfl h0 (at_lt ok ad ha h0)
  · rw [if_neg h0]
    exact read_no h ad _ _ hr hg hm rfl h0
theorem write_at {w : World} {a : Ad} {s : Ct} (h : CartAt w a s) (ok : s.Ok) (ad v : Int) (ha : 0 ≤ ad ∧ ad ≤ 65535) :
    Calls Try.prog 18 #[a.p, .int .u16 ad, .int .u8 v] w fun e w' => e = .returned (.tuple #[]) ∧ CartAt w' a (s.write ad v) ∧ Upto a.S w w' := by
  unfold Ct.write
  by_cases hlo : ad < 32768
  · rw [if_pos hlo]
    cases hck : s.hdr.ck with
    | false =>
      rw [if_neg (fun q => by simp at q)]
      exact write_lo h ad v hlo hck
    | true =>
      by_cases hb : ad ≥ 24576
      · rw [if_pos ⟨rfl, hb⟩]
        exact write_latch h ad v hlo hck hb
      · rw [if_neg (fun q => hb q.2)]
        exact write_lo2 h ad v hlo hck hb
  rw [if_neg hlo]
  have hg := reg_of ok ad
  by_cases hm : (s.reg ad).getD 0 > 0
  · rw [if_pos hm]
    exact write_reg h ad v _ hlo hg hm
  rw [if_neg hm]
  by_cases h0 : s.at ad ≥ 0
  · rw [if_pos h0]
    exact write_ram h ad v _ hlo hg hm _ rfl h0 (at_lt ok ad ha h0)
  · rw [if_neg h0]
    exact write_no h ad v _ hlo hg hm _ rfl h0
def Ct.tick (s : Ct) : Ct := if s.hdr.ck = true then { s with lv := s.lv.tick } else s
theorem tick_all {w : World} {a : Ad} {s : Ct} (h : CartAt w a s) :
    Calls Try.prog 20 #[a.p] w fun e w' => e = .returned (.tuple #[]) ∧ CartAt w' a s.tick ∧ Upto a.S w w' := by
  unfold Ct.tick
  cases hck : s.hdr.ck with
  | true =>
    rw [if_pos rfl]
    exact tick_at h hck
  | false =>
    rw [if_neg (by simp)]
    exact (tick_no h hck).mono fun e w' ⟨he, hb⟩ => ⟨he, h.below hb, Upto.of_below hb⟩
theorem bytes_some (c d : Ck) : ∃ l, clock_Bytes.f c.s c.m c.h c.d c.ht c.cy d.s d.m d.h d.d d.ht d.cy = some l ∧ l.length = 10 := by
  unfold clock_Bytes.f
  obtain ⟨v0, x0, h0⟩ := clock_read_some c.s c.m c.h c.d c.ht c.cy 8
  obtain ⟨v1, x1, h1⟩ := clock_read_some c.s c.m c.h c.d c.ht c.cy 9
  obtain ⟨v2, x2, h2⟩ := clock_read_some c.s c.m c.h c.d c.ht c.cy 10
  obtain ⟨v3, x3, h3⟩ := clock_read_some c.s c.m c.h c.d c.ht c.cy 11
  obtain ⟨v4, x4, h4⟩ := clock_read_some c.s c.m c.h c.d c.ht c.cy 12
  obtain ⟨v5, x5, h5⟩ := clock_read_some d.s d.m d.h d.d d.ht d.cy 8
  obtain ⟨v6, x6, h6⟩ := clock_read_some d.s d.m d.h d.d d.ht d.cy 9
  obtain ⟨v7, x7, h7⟩ := clock_read_some d.s d.m d.h d.d d.ht d.cy 10
  obtain ⟨v8, x8, h8⟩ := clock_read_some d.s d.m d.h d.d d.ht d.cy 11
  obtain ⟨v9, x9, h9⟩ := clock_read_some d.s d.m d.h d.d d.ht d.cy 12
  rw [h0, h1, h2, h3, h4, h5, h6, h7, h8, h9]
  exact ⟨_, rfl, rfl⟩
def Ct.bytesL (s : Ct) : List Int := s.bytes.getD []
theorem bytesL_is (s : Ct) : s.bytes = some s.bytesL ∧ s.bytesL.length = 10 := by
  obtain ⟨l, h1, h2⟩ := bytes_some s.lv s.hd
  have e : s.bytes = some l := h1
  have e2 : s.bytesL = l := by rw [Ct.bytesL, e]; rfl
  rw [e2]
  exact ⟨e, h2⟩
def Ct.saveL (s : Ct) : List Int := if s.hdr.bt = true then (if s.hdr.ck = true then s.ram ++ s.bytesL else s.ram) else []
theorem save_at {w : World} {a : Ad} {s : Ct} (h : CartAt w a s) (ok : s.Ok) :
    Calls Try.prog 22 #[a.p] w fun e w' => ∃ v0 : Value, e = .returned v0 ∧ Kd.R (Kd.int .u8) 5 w' w.heap.size (fun _ => True) v0 s.saveL ∧ Below w.heap.size w w' := by
  unfold Ct.saveL
  cases hbt : s.hdr.bt with
  | false =>
    rw [if_neg (by simp)]
    refine (save_no h hbt).mono ?_
    rintro e w' ⟨rfl, hb⟩
    exact ⟨_, rfl, Kd.R_of_own ⟨by simp [encs], Or.inl ⟨rfl, rfl⟩⟩ (fun _ _ => trivial), hb⟩
  | true =>
    rw [if_pos rfl]
    cases hck : s.hdr.ck with
    | false =>
      rw [if_neg (by simp)]
      exact save_ram h ok.r1 hbt hck
    | true =>
      rw [if_pos rfl]
      obtain ⟨h1, h2⟩ := bytesL_is s
      exact save_all h ok.r1 hbt hck _ h1 (by omega)
theorem clock_of_some (l : List Int) : ∃ (x y : Ck) (e : Int), clock_Of.f l = some (x.s, x.m, x.h, x.d, x.ht, x.cy, y.s, y.m, y.h, y.d, y.ht, y.cy, e) := by
  have h : ∃ r, clock_Of.f l = some r := by
    unfold clock_Of.f
    split
    · obtain ⟨r0, h0⟩ := clock_write_some 0 0 0 0 false false 8 (rd l 0)
      rw [h0, Option.bind_some]
      obtain ⟨r1, h1⟩ := clock_write_some r0.1 r0.2.1 r0.2.2.1 r0.2.2.2.1 r0.2.2.2.2.1 r0.2.2.2.2.2.1 9 (rd l 1)
      rw [h1, Option.bind_some]
      obtain ⟨r2, h2⟩ := clock_write_some r1.1 r1.2.1 r1.2.2.1 r1.2.2.2.1 r1.2.2.2.2.1 r1.2.2.2.2.2.1 10 (rd l 2)
      rw [h2, Option.bind_some]
      obtain ⟨r3, h3⟩ := clock_write_some r2.1 r2.2.1 r2.2.2.1 r2.2.2.2.1 r2.2.2.2.2.1 r2.2.2.2.2.2.1 11 (rd l 3)
      rw [h3, Option.bind_some]
      obtain ⟨r4, h4⟩ := clock_write_some r3.1 r3.2.1 r3.2.2.1 r3.2.2.2.1 r3.2.2.2.2.1 r3.2.2.2.2.2.1 12 (rd l 4)
      rw [h4, Option.bind_some]
      obtain ⟨r5, h5⟩ := clock_write_some 0 0 0 0 false false 8 (rd l 5)
      rw [h5, Option.bind_some]
      obtain ⟨r6, h6⟩ := clock_write_some r5.1 r5.2.1 r5.2.2.1 r5.2.2.2.1 r5.2.2.2.2.1 r5.2.2.2.2.2.1 9 (rd l 6)
      rw [h6, Option.bind_some]
      obtain ⟨r7, h7⟩ := clock_write_some r6.1 r6.2.1 r6.2.2.1 r6.2.2.2.1 r6.2.2.2.2.1 r6.2.2.2.2.2.1 10 (rd l 7)
      rw [h7, Option.bind_some]
      obtain ⟨r8, h8⟩ := clock_write_some r7.1 r7.2.1 r7.2.2.1 r7.2.2.2.1 r7.2.2.2.2.1 r7.2.2.2.2.2.1 11 (rd l 8)
      rw [h8, Option.bind_some]
      obtain ⟨r9, h9⟩ := clock_write_some r8.1 r8.2.1 r8.2.2.1 r8.2.2.2.1 r8.2.2.2.2.1 r8.2.2.2.2.2.1 12 (rd l 9)
      rw [h9, Option.bind_some]
      obtain ⟨r, h⟩ := bytes_some ⟨r4.1, r4.2.1, r4.2.2.1, r4.2.2.2.1, r4.2.2.2.2.1, r4.2.2.2.2.2.1⟩ ⟨r9.1, r9.2.1, r9.2.2.1, r9.2.2.2.1, r9.2.2.2.2.1, r9.2.2.2.2.2.1⟩
      have h' := h.1
      dsimp only at h'
      rw [h', Option.bind_some]
      split <;> exact ⟨_, rfl⟩
    · exact ⟨_, rfl⟩
  obtain ⟨⟨a1, a2, a3, a4, a5, a6, b1, b2, b3, b4, b5, b6, e⟩, h⟩ := h
  exact ⟨⟨a1, a2, a3, a4, a5, a6⟩, ⟨b1, b2, b3, b4, b5, b6⟩, e, h⟩
def ofX (l : List Int) : Ck := match (clock_Of.f l).getD (0, 0, 0, 0, false, false, 0, 0, 0, 0, false, false, 0) with | (s, m, h, d, ht, cy, _) => ⟨s, m, h, d, ht, cy⟩
def ofY (l : List Int) : Ck := match (clock_Of.f l).getD (0, 0, 0, 0, false, false, 0, 0, 0, 0, false, false, 0) with | (_, _, _, _, _, _, s, m, h, d, ht, cy, _) => ⟨s, m, h, d, ht, cy⟩
def ofE (l : List Int) : Int := match (clock_Of.f l).getD (0, 0, 0, 0, false, false, 0, 0, 0, 0, false, false, 0) with | (_, _, _, _, _, _, _, _, _, _, _, _, e) => e
theorem clock_of_is (l : List Int) : clock_Of.f l = some ((ofX l).s, (ofX l).m, (ofX l).h, (ofX l).d, (ofX l).ht, (ofX l).cy, (ofY l).s, (ofY l).m, (ofY l).h, (ofY l).d, (ofY l).ht, (ofY l).cy, ofE l) := by
  obtain ⟨x, y, e, h⟩ := clock_of_some l
  have e1 : ofX l = x := by rw [ofX, h]; rfl
  have e2 : ofY l = y := by rw [ofY, h]; rfl
  have e3 : ofE l = e := by rw [ofE, h]; rfl
  rw [e1, e2, e3]
  exact h
def Ct.loadE (s : Ct) (l : List Int) : Int :=
  if s.hdr.bt = true then
    if s.hdr.ck = true then (if l.length = s.ram.length + 10 then ofE (l.drop s.ram.length) else 5)
    else (if l.length = s.ram.length then 0 else 5)
  else 7
def Ct.loadS (s : Ct) (l : List Int) : Ct :=
  if s.loadE l = 0 then
    (if s.hdr.ck = true then { s with lv := ofX (l.drop s.ram.length), hd := ofY (l.drop s.ram.length), ram := l.take s.ram.length } else { s with ram := l })
  else s
theorem load_at {w : World} {a : Ad} {s : Ct} (h : CartAt w a s) (ok : s.Ok) (A : Option Addr) (c : Nat) (l : List Int) (hr : Kd.C (Kd.int .u8) w A l.length l) (hc : l.length ≤ c) (hd : 0 < l.length → a.b ∉ ownA A) :
    Calls Try.prog 24 #[a.p, .slice A l.length c] w fun e w' => e = .returned (.int .i64 (s.loadE l)) ∧ CartAt w' a (s.loadS l) ∧ Upto a.S w w' := by
  unfold Ct.loadS Ct.loadE
  cases hbt : s.hdr.bt with
  | false =>
    rw [if_neg (by simp), if_neg (by decide)]
    refine (load_no h A c l hr hc hbt).mono ?_
    rintro e w' ⟨rfl, rfl⟩
    exact ⟨rfl, h, Upto.refl _ _⟩
  | true =>
    rw [if_pos rfl]
    cases hck : s.hdr.ck with
    | false =>
      rw [if_neg (by simp)]
      by_cases hn : l.length = s.ram.length
      · rw [if_pos hn, if_pos rfl, if_neg (by simp)]
        exact load_ram h A c l hr hc hbt hck hn
      · rw [if_neg hn, if_neg (by decide)]
        refine (load_size1 h A c l hr hc hbt hck (by omega)).mono ?_
        rintro e w' ⟨rfl, rfl⟩
        exact ⟨rfl, h, Upto.refl _ _⟩
    | true =>
      rw [if_pos rfl]
      by_cases hn : l.length = s.ram.length + 10
      · rw [if_pos hn]
        have hx := clock_of_is (l.drop s.ram.length)
        by_cases he : ofE (l.drop s.ram.length) = 0
        · rw [if_pos he, if_pos rfl, he]
          rw [he] at hx
          exact load_all h A c l hr hc hbt hck ok.r1 hn _ _ (hd (by omega)) hx
        · rw [if_neg he]
          refine (load_text h A c l hr hc hbt hck ok.r1 hn _ _ _ he hx).mono ?_
          rintro e w' ⟨rfl, hb⟩
          exact ⟨rfl, h.below hb, Upto.of_below hb⟩
      · rw [if_neg hn, if_neg (by decide)]
        refine (load_size2 h A c l hr hc hbt hck ok.r1 (by omega)).mono ?_
        rintro e w' ⟨rfl, rfl⟩
        exact ⟨rfl, h, Upto.refl _ _⟩
end Go.Proofs.Ytmjjojbedllmgaa.Hand
end
section
namespace Go.Proofs.Ytmjjojbedllmgaa.Hand
open Go.RowKit
open Go.Proofs.Ytmjjojbedllmgaa.G
open Go.Proofs.YtmjjojbedllmgaaW.PrintWords Go.Proofs.YtmjjojbedllmgaaW.PrintLast Go.Proofs.YtmjjojbedllmgaaW.PrintMore
set_option linter.unusedVariables false
set_option linter.unusedSimpArgs false
set_option maxRecDepth 100000
def Bytes (l : List Int) : Prop := ∀ x ∈ l, 0 ≤ x ∧ x ≤ 255
theorem Bytes.bd {l : List Int} (h : Bytes l) (i : Int) : 0 ≤ rd l i ∧ rd l i ≤ 255 := by
  unfold rd
  rw [List.getD_eq_getElem?_getD]
  cases e : l[i.toNat]? with
  | none => simp
  | some x => exact h x (List.mem_of_getElem? e)
theorem ware_all : ∀ v : Fin 256, (wareT (v.val : Int)).1 = 0 ∨ (wareT (v.val : Int)).1 = 1 ∨ (wareT (v.val : Int)).1 = 3 ∨ (wareT (v.val : Int)).1 = 5 := by decide +kernel
theorem most_all10 : ∀ v : Fin 9, shl .i64 32768 (v.val : Int) ≤ 8388608 := by decide +kernel
def nilH : Hd := ⟨⟨#[]⟩, 0, 0, false, false, false, 0, 0, 0, 0⟩
def headOf (l : List Int) : Hd := match header_Parse.f l with | some (t, kd, mp, rm, bt, ck, bk, sz, sm, wh, _) => ⟨t, kd, mp, rm, bt, ck, bk, sz, sm, wh⟩ | none => nilH
def headE (l : List Int) : Int := match header_Parse.f l with | some (_, _, _, _, _, _, _, _, _, _, e) => e | none => 1
theorem head_is {l : List Int} (hb : Bytes l) : header_Parse.f l = some ((headOf l).t, (headOf l).kd, (headOf l).mp, (headOf l).rm, (headOf l).bt, (headOf l).ck, (headOf l).bk, (headOf l).sz, (headOf l).sm, (headOf l).wh, headE l) := by
  have h : ∃ r, header_Parse.f l = some r := by
    have b1 := hb.bd 327
    have b2 := hb.bd 328
    have b3 := hb.bd 329
    unfold header_Parse.f
    split
    · rw [if_pos ⟨b1.1, b1.2, b2.1, b3.1⟩]
      repeat' (first | exact ⟨_, rfl⟩ | split)
    · exact ⟨_, rfl⟩
  obtain ⟨⟨t, kd, mp, rm, bt, ck, bk, sz, sm, wh, e⟩, h⟩ := h
  unfold headOf headE
  rw [h]
theorem head_ok {l : List Int} (hb : Bytes l) (he : headE l = 0) :
    336 ≤ l.length ∧ l.length ≤ 8388608 ∧ mapper_New.f (headOf l).mp = some ((headOf l).mp, false, 0, 0, 0, false, 0) ∧ 0 ≤ (headOf l).sz ∧ (headOf l).sz ≤ 131072 := by
  have h := head_is hb
  rw [he] at h
  have b1 := hb.bd 327
  have b2 := hb.bd 328
  have b3 := hb.bd 329
  generalize headOf l = H at h ⊢
  unfold header_Parse.f at h
  split at h
  case isFalse => simp at h
  rename_i h336
  rw [if_pos ⟨b1.1, b1.2, b2.1, b3.1⟩] at h
  split at h
  case isFalse => simp at h
  split at h
  case isFalse => simp at h
  rename_i hsz
  split at h
  case isFalse => simp at h
  simp only [Option.some.injEq, Prod.mk.injEq] at h
  obtain ⟨-, -, hmp, -, -, -, -, hz, -, -, -⟩ := h
  have hw : H.mp = 0 ∨ H.mp = 1 ∨ H.mp = 3 ∨ H.mp = 5 := by
    obtain ⟨v, hv⟩ : ∃ v : Fin 256, rd l 327 = (v.val : Int) := ⟨⟨(rd l 327).toNat, by omega⟩, by show rd l 327 = ((rd l 327).toNat : Int); omega⟩
    have q := ware_all v
    rw [← hv, hmp] at q
    exact q
  have hm : shl .i64 32768 (rd l 328) ≤ 8388608 := by
    obtain ⟨v, hv⟩ : ∃ v : Fin 9, rd l 328 = (v.val : Int) := ⟨⟨(rd l 328).toNat, by omega⟩, by show rd l 328 = ((rd l 328).toNat : Int); omega⟩
    rw [hv]
    exact most_all10 v
  have hs : 0 ≤ H.sz ∧ H.sz ≤ 131072 := by
    rw [← hz]
    unfold ramT sizeT
    repeat' (first | omega | split)
  refine ⟨by omega, by omega, ?_, hs.1, hs.2⟩
  unfold mapper_New.f
  rcases hw with e | e | e | e <;> (rw [e]; rfl)
def newC (l : List Int) : Ct := Ct.new (headOf l) l
theorem newC_ok {l : List Int} (hb : Bytes l) (he : headE l = 0) : (newC l).Ok := by
  obtain ⟨h1, h2, h3, h4, h5⟩ := head_ok hb he
  refine ⟨?_, ?_, ?_, ⟨?_, ?_, ?_, ?_, ?_, ?_⟩⟩ <;> simp only [newC, Ct.new, List.length_replicate] <;> omega
theorem new_at (A : Option Addr) (c : Nat) (l : List Int) (w : World) (hr : Kd.C (Kd.int .u8) w A l.length l) (hc : l.length ≤ c) (hb : Bytes l) (he : headE l = 0) :
    Calls Try.prog 10 #[.slice A l.length c] w fun e' w' => ∃ a : Ad, e' = .returned (.tuple #[.pointer (some ⟨a.b, 0, none⟩), .int .i64 0]) ∧ CartAt w' a (newC l) ∧ w.heap.size ≤ a.b ∧ w.heap.size ≤ a.gi ∧ w.heap.size ≤ a.gr ∧ Below w.heap.size w w' := by
  have hp := head_is hb
  rw [he] at hp
  obtain ⟨h1, h2, h3, h4, h5⟩ := head_ok hb he
  exact new_ok A c l (headOf l) w hr hc hp h3 h4 (by omega) (by omega) (by omega)
theorem new_no (A : Option Addr) (c : Nat) (l : List Int) (w : World) (hr : Kd.C (Kd.int .u8) w A l.length l) (hc : l.length ≤ c) (hb : Bytes l) (he : ¬ headE l = 0) :
    Calls Try.prog 10 #[.slice A l.length c] w fun e' w' => e' = .returned (.tuple #[.pointer none, .int .i64 (headE l)]) ∧ Below w.heap.size w w' :=
  new_bad A c l _ _ _ _ _ _ _ _ _ _ _ w hr hc (head_is hb) he
theorem bits10 : ∀ v : Fin 256, (0 ≤ Go.bits .and .u8 (v.val : Int) 31 ∧ Go.bits .and .u8 (v.val : Int) 31 ≤ 255) ∧ (0 ≤ Go.bits .and .u8 (v.val : Int) 3 ∧ Go.bits .and .u8 (v.val : Int) 3 ≤ 255) ∧ (0 ≤ Go.bits .and .u8 (v.val : Int) 127 ∧ Go.bits .and .u8 (v.val : Int) 127 ≤ 255) ∧ (0 ≤ Go.bits .and .u8 (v.val : Int) 15 ∧ Go.bits .and .u8 (v.val : Int) 15 ≤ 255) ∧ (0 ≤ Go.bits .and .u8 (v.val : Int) 1 ∧ Go.bits .and .u8 (v.val : Int) 1 ≤ 255) := by decide +kernel
theorem writeF_bd (k : Int) (o : Bool) (l h r : Int) (md : Bool) (ad v : Int) (hl : 0 ≤ l ∧ l ≤ 255) (hh : 0 ≤ h ∧ h ≤ 255) (hr : 0 ≤ r ∧ r ≤ 255) (hv : 0 ≤ v ∧ v ≤ 255) :
    (0 ≤ (writeF k o l h r md ad v).2.2.1 ∧ (writeF k o l h r md ad v).2.2.1 ≤ 255) ∧ (0 ≤ (writeF k o l h r md ad v).2.2.2.1 ∧ (writeF k o l h r md ad v).2.2.2.1 ≤ 255) ∧ (0 ≤ (writeF k o l h r md ad v).2.2.2.2.1 ∧ (writeF k o l h r md ad v).2.2.2.2.1 ≤ 255) := by
  obtain ⟨u, rfl⟩ : ∃ u : Fin 256, v = (u.val : Int) := ⟨⟨v.toNat, by omega⟩, by show v = (v.toNat : Int); omega⟩
  obtain ⟨b1, b2, b3, b4, b5⟩ := bits10 u
  unfold writeF
  repeat' split
  all_goals (refine ⟨?_, ?_, ?_⟩ <;> first | exact hl | exact hh | exact hr | exact b1 | exact b2 | exact b3 | exact b4 | exact b5 | exact hv)
theorem Mp.Ok.write {m : Mp} (h : m.Ok) (ad v : Int) (hv : 0 ≤ v ∧ v ≤ 255) : (m.write ad v).Ok := by
  obtain ⟨⟨a1, a2⟩, ⟨b1, b2⟩, ⟨c1, c2⟩⟩ := writeF_bd m.k m.o m.l m.h m.r m.md ad v ⟨h.l0, h.l1⟩ ⟨h.h0, h.h1⟩ ⟨h.r0, h.r1⟩ hv
  exact ⟨a1, a2, b1, b2, c1, c2⟩
theorem latch_keeps (s : Ct) (v : Int) : (s.latch v).img = s.img ∧ (s.latch v).ram = s.ram ∧ (s.latch v).mp = s.mp ∧ (s.latch v).hdr = s.hdr := by
  unfold Ct.latch
  split <;> exact ⟨rfl, rfl, rfl, rfl⟩
theorem write_keeps (s : Ct) (ad v : Int) : (s.write ad v).img = s.img ∧ (s.write ad v).ram.length = s.ram.length ∧ (s.write ad v).hdr = s.hdr ∧ ((s.write ad v).mp = s.mp ∨ (s.write ad v).mp = s.mp.write ad v) := by
  unfold Ct.write
  split
  · split
    · obtain ⟨h1, h2, h3, h4⟩ := latch_keeps { s with mp := s.mp.write ad v } v
      exact ⟨h1, by rw [h2], h4, Or.inr h3⟩
    · exact ⟨rfl, rfl, rfl, Or.inr rfl⟩
  · split
    · exact ⟨rfl, rfl, rfl, Or.inl rfl⟩
    · split
      · exact ⟨rfl, by simp, rfl, Or.inl rfl⟩
      · exact ⟨rfl, rfl, rfl, Or.inl rfl⟩
theorem Ct.Ok.write {s : Ct} (h : s.Ok) (ad v : Int) (hv : 0 ≤ v ∧ v ≤ 255) : (s.write ad v).Ok := by
  obtain ⟨h1, h2, h3, h4⟩ := write_keeps s ad v
  refine ⟨by rw [h1]; exact h.i0, by rw [h1]; exact h.i1, by rw [h2]; exact h.r1, ?_⟩
  rcases h4 with e | e <;> rw [e]
  · exact h.m
  · exact h.m.write ad v hv
theorem tick_keeps (s : Ct) : s.tick.img = s.img ∧ s.tick.ram = s.ram ∧ s.tick.hdr = s.hdr ∧ s.tick.mp = s.mp ∧ s.tick.hd = s.hd := by
  unfold Ct.tick
  split <;> exact ⟨rfl, rfl, rfl, rfl, rfl⟩
theorem Ct.Ok.tick {s : Ct} (h : s.Ok) : s.tick.Ok := by
  obtain ⟨h1, h2, h3, h4, _⟩ := tick_keeps s
  exact ⟨by rw [h1]; exact h.i0, by rw [h1]; exact h.i1, by rw [h2]; exact h.r1, by rw [h4]; exact h.m⟩
theorem load_keeps (s : Ct) (l : List Int) : (s.loadS l).img = s.img ∧ (s.loadS l).ram.length = s.ram.length ∧ (s.loadS l).hdr = s.hdr ∧ (s.loadS l).mp = s.mp := by
  unfold Ct.loadS Ct.loadE
  cases hbt : s.hdr.bt with
  | false => simp
  | true =>
    cases hck : s.hdr.ck with
    | false =>
      by_cases hn : l.length = s.ram.length <;> simp [hn]
    | true =>
      by_cases hn : l.length = s.ram.length + 10
      · by_cases he : ofE (l.drop s.ram.length) = 0 <;> simp [hn, he]
      · simp [hn]
theorem Ct.Ok.load {s : Ct} (h : s.Ok) (l : List Int) : (s.loadS l).Ok := by
  obtain ⟨h1, h2, h3, h4⟩ := load_keeps s l
  exact ⟨by rw [h1]; exact h.i0, by rw [h1]; exact h.i1, by rw [h2]; exact h.r1, by rw [h4]; exact h.m⟩
theorem CartAt.other {w w' : World} {a d : Ad} {s : Ct} (h : CartAt w d s) (u : Upto a.S w w') (B : Nat) (h1 : a.b < B) (h2 : a.gr < B) (h3 : B ≤ d.b) (h4 : B ≤ d.gi) (h5 : B ≤ d.gr) : CartAt w' d s :=
  h.kept u (by rintro (q | q) <;> omega) (by rintro (q | q) <;> omega) (by rintro (q | q) <;> omega)
theorem CartAt.first {w w' : World} {a d : Ad} {s : Ct} (h : CartAt w a s) (u : Upto d.S w w') (B : Nat) (h1 : a.b < B) (h2 : a.gi < B) (h3 : a.gr < B) (h4 : B ≤ d.b) (h5 : B ≤ d.gr) : CartAt w' a s :=
  h.kept u (by rintro (q | q) <;> omega) (by rintro (q | q) <;> omega) (by rintro (q | q) <;> omega)
theorem upto_step {B : Nat} {w0 w w' : World} {a : Ad} (hb : Below B w0 w) (hB : B ≤ w0.heap.size) (u : Upto a.S w w') (h1 : B ≤ a.b) (h2 : B ≤ a.gr) : Below B w0 w' :=
  u.below hb (Nat.le_trans hB hb.size) (by rintro k (q | q) <;> omega)
end Go.Proofs.Ytmjjojbedllmgaa.Hand
end
section
namespace Go.Proofs.Ytmjjojbedllmgaa.Hand
open Go.RowKit
open Go.Proofs.Ytmjjojbedllmgaa.G
open Go.Proofs.YtmjjojbedllmgaaW.PrintWords Go.Proofs.YtmjjojbedllmgaaW.PrintLast Go.Proofs.YtmjjojbedllmgaaW.PrintMore
set_option linter.unusedVariables false
set_option linter.unusedSimpArgs false
set_option maxRecDepth 100000
structure Act1 where
  k : Int
  ad : Int
  v : Int
  b : List Int
  A : Option Addr
  c : Nat
structure ActAt (w : World) (a : Addr) (j : Nat) (x : Act1) : Prop where
  c0 : w.cell? (a.add (j * 4)) = some (.int .i64 x.k)
  c1 : w.cell? ⟨(a.add (j * 4)).block, (a.add (j * 4)).off + 1, none⟩ = some (.int .u16 x.ad)
  c2 : w.cell? ⟨(a.add (j * 4)).block, (a.add (j * 4)).off + 2, none⟩ = some (.int .u8 x.v)
  c3 : w.cell? ⟨(a.add (j * 4)).block, (a.add (j * 4)).off + 3, none⟩ = some (.slice x.A x.b.length x.c)
  hb : Kd.C (Kd.int .u8) w x.A x.b.length x.b
  hc : x.b.length ≤ x.c
structure Act1.Ok (x : Act1) : Prop where
  a0 : 0 ≤ x.ad
  a1 : x.ad ≤ 65535
  v0 : 0 ≤ x.v
  v1 : x.v ≤ 255
  b : Bytes x.b
def ActsAt (w : World) (A : Option Addr) (l : List Act1) : Prop := l.length ≤ 9223372036854775807 ∧ ∀ j x, l[j]? = some x → x.Ok ∧ ∃ a, A = some a ∧ ActAt w a j x
theorem ActAt.below {w w' : World} {a : Addr} {j : Nat} {x : Act1} (h : ActAt w a j x) (hb : Below w.heap.size w w') : ActAt w' a j x :=
  ⟨pw_cell_below hb h.c0, pw_cell_below hb h.c1, pw_cell_below hb h.c2, pw_cell_below hb h.c3, Kd.C_below h.hb hb, h.hc⟩
theorem bytes_old {w : World} {A : Option Addr} {l : List Int} (h : Kd.C (Kd.int .u8) w A l.length l) (hl : 0 < l.length) (b : Nat) (hb : w.heap.size ≤ b) : b ∉ ownA A := by
  obtain ⟨ad, rfl, hc⟩ := Kd.at_int h 0 (by omega) (by omega)
  have q := World.block_lt_of_cell? w _ hc
  have e : (ad.add ((0 : Int).toNat)).block = ad.block := by
    unfold Addr.add
    split <;> rfl
  rw [e] at q
  simp only [ownA, List.mem_singleton]
  omega
def step1 (s : Ct) (x : Act1) : Ct := if x.k = 2 then s.write x.ad x.v else if x.k = 3 then s.tick else if x.k = 5 then s.loadS x.b else s
def doesS (s : Ct) (l : List Act1) : Ct := l.foldl step1 s
theorem doesS_snoc (s : Ct) (l : List Act1) (x : Act1) : doesS s (l ++ [x]) = step1 (doesS s l) x := by simp [doesS]
theorem Ct.Ok.step1 {s : Ct} (h : s.Ok) {x : Act1} (hx : x.Ok) : (step1 s x).Ok := by
  unfold Hand.step1
  split
  · exact h.write _ _ ⟨hx.v0, hx.v1⟩
  · split
    · exact h.tick
    · split
      · exact h.load _
      · exact h
theorem Ct.Ok.does {s : Ct} (h : s.Ok) : ∀ (l : List Act1), (∀ x ∈ l, x.Ok) → (doesS s l).Ok
  | [], _ => h
  | x :: r, hl => (h.step1 (hl x (by simp))).does r (fun y hy => hl y (by simp [hy]))
theorem ActsAt.oks {w : World} {A : Option Addr} {l : List Act1} (h : ActsAt w A l) : ∀ x ∈ l, x.Ok := by
  intro x hx
  obtain ⟨j, hj⟩ := List.getElem?_of_mem hx
  exact (h.2 j x hj).1
theorem CartAt.drew {w : World} {a : Ad} {s : Ct} (h : CartAt w a s) : CartAt w.drew a s := ⟨h.box, h.image, h.row, h.n1, h.n2, h.n3⟩
theorem load_old {w0 w : World} {a : Ad} {s : Ct} (h : CartAt w a s) (ok : s.Ok) (A : Option Addr) (c : Nat) (l : List Int) (hr : Kd.C (Kd.int .u8) w0 A l.length l) (hc : l.length ≤ c) (hb : Below w0.heap.size w0 w) (h0 : w0.heap.size ≤ a.b) :
    Calls Try.prog 24 #[a.p, .slice A l.length c] w fun e w' => e = .returned (.int .i64 (s.loadE l)) ∧ CartAt w' a (s.loadS l) ∧ Upto a.S w w' :=
  load_at h ok A c l (Kd.C_below hr hb) hc (fun h1 => bytes_old hr h1 _ h0)
end Go.Proofs.Ytmjjojbedllmgaa.Hand
end
section
namespace Go.Proofs.Ytmjjojbedllmgaa.ActsRow
open Go.RowKit Go.Proofs.Ytmjjojbedllmgaa.G Go.Proofs.Ytmjjojbedllmgaa.Hand
open Go.Proofs.YtmjjojbedllmgaaW.PrintWords Go.Proofs.YtmjjojbedllmgaaW.PrintLast Go.Proofs.YtmjjojbedllmgaaW.PrintMore
set_option linter.unusedVariables false
set_option maxRecDepth 100000
theorem open_wrote {H : Type} {enc : TypeId × Value → H} {w : World} {base : Nat} {spare : Nat → Bool} {held : Bool} {v : Value} {d : DataW H} {p : List MemPlace}
    (hv : ∃ a len cap, v = .slice a len cap) (h : DataW.Trod enc Try.prog w base spare held 44 v d p) :
    ∃ (A : Option Addr) (l : List Act1) (c : Nat), v = .slice A l.length c ∧ ActsAt w A l ∧ l.length ≤ c ∧ l.length ≤ 9223372036854775807 ∧ True := by
  obtain ⟨a, len, cap, rfl⟩ := hv
  obtain ⟨fuel, hf⟩ := h
  have hf' : DataW.trod enc Try.prog w base spare held fuel 44 [.slice a len cap] = some (d, p) := hf
  rcases Go.Deep.open_slice Try.underlying44 hf' with ⟨e, _⟩ | ⟨a', len', cap', m, n, D, Pl, e, hb, hl, hm, hmm, _, hx⟩
  · simp only [List.cons.injEq, Value.slice.injEq, and_true] at e
    obtain ⟨rfl, rfl, rfl⟩ := e
    exact ⟨none, [], 0, rfl, ⟨by simp, fun j x hx => absurd hx (by simp)⟩, by simp, by simp, trivial⟩
  · simp only [List.cons.injEq, Value.slice.injEq, and_true] at e
    obtain ⟨rfl, rfl, rfl⟩ := e
    have hlm : len ≤ m := by rw [hmm]; split <;> omega
    have hmax : len ≤ 9223372036854775807 := by
      have : maxLen = 9223372036854775807 := rfl
      omega
    have ce : Try.prog.cellsOf 51 = 4 := by kernel_rfl
    have each : ∀ i, i < len → ∃ x : Act1, x.Ok ∧ ActAt w a' i x := by
      intro i hi
      obtain ⟨cs', h1, h2⟩ := hx i (by omega)
      rw [ce] at h1
      obtain ⟨_, hlen, hcell⟩ := World.cells?_some h1
      obtain ⟨xs, k, hk, hxy, _, hxl, hf⟩ := DataW.trod_struct Try.underlying51 h2
      match xs, hxl, cs', hlen with
      | [y0, y1, y2, y3], _, [v0, v1, v2, v3], _ =>
        have g0 := hf 0 _ rfl
        have g1 := hf 1 _ rfl
        have g2 := hf 2 _ rfl
        have g3 := hf 3 _ rfl
        have s0 : Try.prog.cellsOf 3 = 1 := by kernel_rfl
        have s1 : Try.prog.cellsOf 23 = 1 := by kernel_rfl
        have s2 : Try.prog.cellsOf 5 = 1 := by kernel_rfl
        have s3 : Try.prog.cellsOf 22 = 1 := by kernel_rfl
        simp [s0, s1, s2, s3] at g0 g1 g2 g3
        have e0 := hcell 0 (by omega)
        have e1 := hcell 1 (by omega)
        have e2 := hcell 2 (by omega)
        have e3 := hcell 3 (by omega)
        rw [add_add] at e0 e1 e2 e3
        obtain ⟨n0, rfl, w0⟩ := Frame.cell_int (k := .i64) (by kernel_rfl) ⟨_, _, g0⟩
        obtain ⟨n1, rfl, w1⟩ := Frame.cell_int (k := .u16) (by kernel_rfl) ⟨_, _, g1⟩
        obtain ⟨n2, rfl, w2⟩ := Frame.cell_int (k := .u8) (by kernel_rfl) ⟨_, _, g2⟩
        obtain ⟨A, b, c, rfl, hC, hc, hbl, hby⟩ := Wish.cell_bytes ⟨_, _, g3⟩
        have b1 : 0 ≤ n1 ∧ n1 ≤ 65535 := by
          have hmin : IntKind.u16.min = 0 := rfl
          have hmax : IntKind.u16.max = 65535 := rfl
          simp only [Lit.wf, Bool.and_eq_true, decide_eq_true_eq] at w1
          omega
        have b2 : 0 ≤ n2 ∧ n2 ≤ 255 := by
          have hmin : IntKind.u8.min = 0 := rfl
          have hmax : IntKind.u8.max = 255 := rfl
          simp only [Lit.wf, Bool.and_eq_true, decide_eq_true_eq] at w2
          omega
        refine ⟨⟨n0, n1, n2, b, A, c⟩, ⟨b1.1, b1.2, b2.1, b2.2, hby⟩, ⟨by simpa using e0, ?_, ?_, ?_, hC, hc⟩⟩
        · rw [← add_field _ _ 1 (by omega)]; simpa using e1
        · rw [← add_field _ _ 2 (by omega)]; simpa using e2
        · rw [← add_field _ _ 3 (by omega)]; simpa using e3
    obtain ⟨f, hf2⟩ : ∃ f : Nat → Act1, ∀ i, i < len → (f i).Ok ∧ ActAt w a' i (f i) := by
      refine ⟨fun i => if h : i < len then Classical.choose (each i h) else ⟨0, 0, 0, [], none, 0⟩, fun i hi => ?_⟩
      simp only [hi, dif_pos]
      exact Classical.choose_spec (each i hi)
    refine ⟨some a', (List.range len).map f, cap, by simp, ⟨by simpa using hmax, fun j x hx => ?_⟩, by simpa using hl, by simpa using hmax, trivial⟩
    have hj : j < len := by
      have := (List.getElem?_eq_some_iff.1 hx).1
      simpa using this
    have ex : x = f j := by
      rw [List.getElem?_map, List.getElem?_range hj] at hx
      simpa using hx.symm
    subst ex
    exact ⟨(hf2 j hj).1, a', rfl, (hf2 j hj).2⟩
end Go.Proofs.Ytmjjojbedllmgaa.ActsRow
end
section
namespace Go.Proofs.Ytmjjojbedllmgaa.Hand
open Go.RowKit
open Go.Proofs.Ytmjjojbedllmgaa.G
open Go.Proofs.YtmjjojbedllmgaaW.PrintWords Go.Proofs.YtmjjojbedllmgaaW.PrintLast Go.Proofs.YtmjjojbedllmgaaW.PrintMore
set_option linter.unusedVariables false
set_option linter.unusedSimpArgs false
theorem bytes_cells (s : ByteArray) : Lib.byteCells s.data.toList = (bytesOf s).map (Value.int .u8) := by
  simp [Lib.byteCells, bytesOf]
theorem wpList_append_run {P : Program} {w w' : World} {ops : Array Oper} {rest : List Oper} {o : Oper} {a : Act} {Q : Exit → Act → World → Prop} (hgd : o.guard = none) (s x : Operand) (t : TypeId)
    (ho : o.op = .call { callee := .builtin .append, args := #[s, x], argTypes := #[t, t] }) (sv xv r : Value) (hs : a.eval s = sv) (hx : a.eval x = xv)
    (hrun : ∀ ty : TypeId, (Builtin.append_ #[t, t] ty #[sv, xv]).run P w = .ok r w') (h : wpList P ops Q rest (a.put o.dst r) w') : wpList P ops Q (o :: rest) a w := by
  refine wpList_plain hgd fun K hK => ?_
  have q := hrun o.type
  unfold Oper.wp
  simp [execOp, ho, resolve, invoke, builtin, hs, hx, q, Result.andThen]
  exact hK _ _ h
theorem makeRow (w : World) (n : Nat) (hn : (n : Int) ≤ 8388272) :
    ∃ w', (Instr.makeSlice 22 (.int .i64 336) (.int .i64 (336 + (n : Int)))).run Try.prog w = .ok (.slice (some ⟨w.heap.size, 0, none⟩) 336 (336 + n)) w' ∧ RowL w' w.heap.size (List.replicate (336 + n) 0) ∧ (∀ (k : Nat) (cs : Array Value) (t : TypeId), w.heap[k]? = some (.cells cs t (0, 0)) → w'.heap[k]? = some (.cells cs t (0, 0))) ∧ (∀ w0 : World, Below w0.heap.size w0 w → Below w0.heap.size w0 w') := by
  obtain ⟨i, hi, hz0, hz1, hz2⟩ := info_parts info5
  have q := run_make (P := Try.prog) w 22 5 i (.int .u8 0) Try.underlying22 hi hz0 .i64 .i64 336 (336 + (n : Int)) (by omega) (by omega) (by rw [hz2]; omega) (by omega)
  rw [show ((336 : Int)).toNat = 336 from rfl, show (336 + (n : Int)).toNat = 336 + n by omega, hz1, Nat.mul_one] at q
  refine ⟨_, q, ?_, fun k cs t hk => blk_alloc hk _, fun w0 hb => below_alloc hb _⟩
  · have e : madeCells (Value.int .u8 0).cells (336 + n) = ((List.replicate (336 + n) (0 : Int)).map (Value.int .u8)).toArray := by
      apply Array.toList_inj.mp
      rw [show (Value.int .u8 0).cells = #[Value.int .u8 0] from rfl, toList_madeCells_one]
      simp
    rw [e]
    exact heap_alloc_new w _
theorem RowL.copyStr {w : World} {g : Nat} {L : List Int} (h : RowL w g L) (o n : Nat) (s : ByteArray) (hle : s.size ≤ n) (hfit : o + s.size ≤ L.length) :
    ∃ w', (∀ (cap : Nat) (ty : TypeId), (Builtin.copy_ #[22, 9] ty #[.slice (some ⟨g, o, none⟩) n cap, .string s]).run Try.prog w = .ok (.int .i64 s.size) w') ∧ RowL w' g (splice L o (bytesOf s)) ∧ (∀ k : Nat, k ≠ g → w'.heap[k]? = w.heap[k]?) ∧ (∀ (B : Nat) (w0 : World), B ≤ g → Below B w0 w → Below B w0 w') := by
  have q := fun (cap : Nat) (ty : TypeId) => Lib.run_copy_row_string (P := Try.prog) w 22 9 ty 5 g o n cap s (L.map (Value.int .u8)).toArray 5 Try.underlying22 (by kernel_rfl) h hle (by simpa using hfit)
  refine ⟨_, q, ?_, fun k hk => setRow_other w g k _ hk, fun B w0 hB hb => below_setRow hb hB _⟩
  refine (setRow_heap w g _ _ 5 (0, 0) h).trans ?_
  rw [bytes_cells]
  simp [splice, bytesOf_length, List.map_take, List.map_drop]
theorem RowL.append {w : World} {g : Nat} {L : List Int} (h : RowL w g L) (n cap : Nat) (A : Option Addr) (c : Nat) (l : List Int) (hr : Kd.C (Kd.int .u8) w A l.length l) (hcap : n + l.length ≤ cap) (hfit : n + l.length ≤ L.length) :
    ∃ w', (∀ ty : TypeId, (Builtin.append_ #[22, 22] ty #[.slice (some ⟨g, 0, none⟩) n cap, .slice A l.length c]).run Try.prog w = .ok (.slice (some ⟨g, 0, none⟩) (n + l.length) cap) w') ∧ RowL w' g (splice L n l) ∧ (∀ k : Nat, k ≠ g → w'.heap[k]? = w.heap[k]?) ∧ (∀ (B : Nat) (w0 : World), B ≤ g → Below B w0 w → Below B w0 w') := by
  have hi := info5
  obtain ⟨i, hi, hz0, hz1, hz2⟩ := info_parts hi
  by_cases h0 : l.length = 0
  · have e : l = [] := List.eq_nil_of_length_eq_zero h0
    subst e
    refine ⟨w, fun ty => ?_, by simpa [splice] using h, fun _ _ => rfl, fun _ _ _ hb => hb⟩
    have hn : n ≤ cap := by simpa using hcap
    cases A <;> simp [Builtin.append_, run_underlying Try.underlying22, sizeOf, typeInfo, hi, Builtin.lenOf, Builtin.firstCells, hn, storeCells, loadCells, loadCellsFrom]
  · obtain ⟨ad, rfl, _⟩ := Kd.at_int hr 0 (by omega) (by omega)
    have hnews : ∀ j u, (l.map (Value.int .u8))[j]? = some u → w.cell? (ad.add j) = some u := by
      intro j u hj
      obtain ⟨hl, hp⟩ := List.getElem?_eq_some_iff.1 hj
      have hl' : j < l.length := by simpa using hl
      obtain ⟨ad', e, hc⟩ := Kd.at_int hr (j : Int) (by omega) (by omega)
      cases e
      rw [Int.toNat_natCast] at hc
      rw [hc, ← hp]
      simp [rd, hl']
    have q := fun ty : TypeId => run_append_room (P := Try.prog) w 22 ty 5 i Try.underlying22 hi g n cap (L.map (Value.int .u8)).toArray h ad l.length c (l.map (Value.int .u8)) (by rw [hz1]; simp) hnews (by intro u hu; simp at hu; obtain ⟨x, _, rfl⟩ := hu; rfl) hcap (by rw [hz1]; simpa using hfit)
    refine ⟨_, q, ?_, fun k hk => setRow_other w g k _ hk, fun B w0 hB hb => below_setRow hb hB _⟩
    refine (setRow_heap w g _ _ 5 (0, 0) h).trans ?_
    rw [hz1]
    simp [splice, List.map_take, List.map_drop]
end Go.Proofs.Ytmjjojbedllmgaa.Hand
end
section
namespace Go.Proofs.Ytmjjojbedllmgaa.G
open Go.RowKit Go.Proofs.YtmjjojbedllmgaaW.PrintWords Go.Proofs.YtmjjojbedllmgaaW.PrintLast Go.Proofs.YtmjjojbedllmgaaW.PrintMore
set_option linter.unusedVariables false
set_option linter.unusedSimpArgs false
def header_Whole.l0 : Nat → Int → List Int → Int → Int → Option (Int)
  | 0, _, _, _, _ => none
  | k + 1, x3, x6, x7, x8 => if x8 < x7 then (if 0 ≤ x8 then (if x8 < (x6.length : Int) then (if x8 = 334 then (header_Whole.l0 k x3 x6 x7 (wrap64 (x8 + 1))) else (if x8 = 335 then (header_Whole.l0 k x3 x6 x7 (wrap64 (x8 + 1))) else (header_Whole.l0 k (IntKind.u16.wrap (x3 + (IntKind.u16.wrap (rd x6 x8)))) x6 x7 (wrap64 (x8 + 1))))) else (none)) else (none)) else (some x3)
def header_Whole.f (k : Nat) (l0 : List Int) : Option (Int) := header_Whole.l0 k 0 l0 (l0.length : Int) 0
set_option maxHeartbeats 8000000 in
set_option maxRecDepth 100000 in
theorem header_Whole.calls (k : Nat) (A0 : Option Addr) (c0 : Nat) (l0 : List Int) (r : Int) (w : World) (hr0 : Kd.C (Kd.int .u8) w A0 l0.length l0) (hc0 : l0.length ≤ c0) (h : header_Whole.f k l0 = some r) :
    Calls Try.prog 78 #[.slice A0 l0.length c0] w fun e w' => e = .returned (.int .u16 r) ∧ Drawn0 w w' := by
  have HR0 := Aside0.mk hr0
  have HC0 := Aside0.mk hc0
  clear hr0 hc0
  have H : (header_Whole.l0 k 0 l0 (l0.length : Int) 0) = some r := h
  clear h
  have H' := Aside0.mk H
  clear H
  go_enter Try.func78, Try.ntmps78
  go_wp2
  go_loopg [3, 8] k (fun kq v3 v8 w' => ∃ (x3_1 : Int) (x8_1 : Int), v3 = .int .u16 x3_1 ∧ v8 = .int .i64 x8_1 ∧ Aside0 (header_Whole.l0 kq x3_1 l0 (l0.length : Int) x8_1 = some r) ∧ Aside0 (kq ≤ k) ∧ Drawn0 w w')
  case atStart => exact ⟨(0), (0), (by first | rfl | (simp; done) | (simp [*]; done)), (by first | rfl | (simp; done) | (simp [*]; done)), H', ⟨Nat.le_refl _⟩, by repeat (first | exact Drawn0.refl _ | apply Drawn0.step)⟩
  case round =>
    clear H'
    obtain ⟨x3_1, x8_1, rfl, rfl, HA, HK1, ⟨m1, rfl⟩⟩ := hrel
    cases gk with
    | zero => exact absurd HA.out (by simp [header_Whole.l0])
    | succ k1 =>
      have H := HA.out
      clear HA
      simp only [header_Whole.l0] at H
      by_cases c2 : x8_1 < (l0.length : Int)
      · rw [if_pos c2] at H
        have c2b0 : decide (x8_1 < (l0.length : Int)) = true := decide_eq_true c2
        clear c2
        by_cases c3 : 0 ≤ x8_1
        · rw [if_pos c3] at H
          have c3b0 : decide (0 ≤ x8_1) = true := decide_eq_true c3
          clear c3
          by_cases c4 : x8_1 < (l0.length : Int)
          · rw [if_pos c4] at H
            have c4b0 : decide (x8_1 < (l0.length : Int)) = true := decide_eq_true c4
            clear c4
            by_cases c5 : x8_1 = 334
            · rw [if_pos c5] at H
              have c5b0 : (x8_1 == 334) = true := beq_iff_eq.mpr c5
              have c5b1 : (x8_1 != 334) = false := bne_eq_false_iff_eq.mpr c5
              clear c5
              have H' := Aside0.mk H
              clear H
              have p120 : 0 ≤ (x8_1 : Int) := of_decide_eq_true (by first | (with_reducible assumption) | assumption)
              have q120 : x8_1 < (l0.length : Int) := of_decide_eq_true (by first | (with_reducible assumption) | assumption)
              obtain ⟨ad120, e120, hx120_0⟩ := Kd.at_int HR0.out x8_1 p120 q120
              cases e120
              replace p120 := eq_true p120
              replace q120 := eq_true q120
              go_wp2
              go_roundg k1
              case measure => have := HK1.out; omega
              case rel => exact ⟨(x3_1), (wrap64 (x8_1 + 1)), (by first | rfl | (simp; done) | (simp [*]; done)), (by first | rfl | (simp; done) | (simp [*]; done)), H', ⟨by have := HK1.out; omega⟩, by repeat (first | exact Drawn0.refl _ | apply Drawn0.step)⟩
            · rw [if_neg c5] at H
              have c5b0 : (x8_1 == 334) = false := beq_eq_false_iff_ne.mpr c5
              have c5b1 : (x8_1 != 334) = true := bne_iff_ne.mpr c5
              by_cases c6 : x8_1 = 335
              · rw [if_pos c6] at H
                have c6b0 : (x8_1 == 335) = true := beq_iff_eq.mpr c6
                have c6b1 : (x8_1 != 335) = false := bne_eq_false_iff_eq.mpr c6
                clear c6
                have H' := Aside0.mk H
                clear H
                have p120 : 0 ≤ (x8_1 : Int) := of_decide_eq_true (by first | (with_reducible assumption) | assumption)
                have q120 : x8_1 < (l0.length : Int) := of_decide_eq_true (by first | (with_reducible assumption) | assumption)
                obtain ⟨ad120, e120, hx120_0⟩ := Kd.at_int HR0.out x8_1 p120 q120
                cases e120
                replace p120 := eq_true p120
                replace q120 := eq_true q120
                go_wp2
                go_roundg k1
                case measure => have := HK1.out; omega
                case rel => exact ⟨(x3_1), (wrap64 (x8_1 + 1)), (by first | rfl | (simp; done) | (simp [*]; done)), (by first | rfl | (simp; done) | (simp [*]; done)), H', ⟨by have := HK1.out; omega⟩, by repeat (first | exact Drawn0.refl _ | apply Drawn0.step)⟩
              · rw [if_neg c6] at H
                have c6b0 : (x8_1 == 335) = false := beq_eq_false_iff_ne.mpr c6
                have c6b1 : (x8_1 != 335) = true := bne_iff_ne.mpr c6
                have H' := Aside0.mk H
                clear H
                have p120 : 0 ≤ (x8_1 : Int) := of_decide_eq_true (by first | (with_reducible assumption) | assumption)
                have q120 : x8_1 < (l0.length : Int) := of_decide_eq_true (by first | (with_reducible assumption) | assumption)
                obtain ⟨ad120, e120, hx120_0⟩ := Kd.at_int HR0.out x8_1 p120 q120
                cases e120
                replace p120 := eq_true p120
                replace q120 := eq_true q120
                go_wp2
                go_roundg k1
                case measure => have := HK1.out; omega
                case rel => exact ⟨(IntKind.u16.wrap (x3_1 + (IntKind.u16.wrap (rd l0 x8_1)))), (wrap64 (x8_1 + 1)), (by first | rfl | (simp; done) | (simp [*]; done)), (by first | rfl | (simp; done) | (simp [*]; done)), H', ⟨by have := HK1.out; omega⟩, by repeat (first | exact Drawn0.refl _ | apply Drawn0.step)⟩
          · rw [if_neg c4] at H
            exact absurd H (by simp)
        · rw [if_neg c3] at H
          exact absurd H (by simp)
      · rw [if_neg c2] at H
        have c2b0 : decide (x8_1 < (l0.length : Int)) = false := decide_eq_false c2
        clear c2
        obtain rfl := Option.some.inj H
        go_wp2
        go_ret
        exact ⟨by first | rfl | (simp; done) | (simp [*]; done), by repeat (first | exact Drawn0.refl _ | apply Drawn0.step)⟩
end Go.Proofs.Ytmjjojbedllmgaa.G
end
section
namespace Go.Proofs.Ytmjjojbedllmgaa.Hand
open Go.RowKit
open Go.Proofs.Ytmjjojbedllmgaa.G
open Go.Proofs.YtmjjojbedllmgaaW.PrintWords Go.Proofs.YtmjjojbedllmgaaW.PrintLast Go.Proofs.YtmjjojbedllmgaaW.PrintMore
set_option linter.unusedVariables false
set_option linter.unusedSimpArgs false
set_option maxRecDepth 100000 in
set_option maxHeartbeats 4000000 in
theorem hmake_long (s : ByteArray) (kd rom ram : Int) (A : Option Addr) (c : Nat) (l : List Int) (w : World) (hr : Kd.C (Kd.int .u8) w A l.length l) (hc : l.length ≤ c) (hs : ¬ (s.size : Int) ≤ 16) :
    Calls Try.prog 52 #[.string s, .int .u8 kd, .int .u8 rom, .int .u8 ram, .slice A l.length c] w fun e' w' => e' = .returned (.tuple #[.slice none 0 0, .int .i64 1]) ∧ Below w.heap.size w w' := by
  have hmf : ∀ (fn : Fn) (first cap : Array Value) (w : World), (Instr.makeFunc fn first cap).run Try.prog w = .ok (.func fn first cap) w := fun _ _ _ _ => rfl
  have HR := Aside0.mk hr
  clear hr
  go_enter_defers Try.func52, Try.ntmps52
  go_wp2_with fail
  have z1 := heap_alloc_new w (.cells #[.int .i64 0] 26)
  have z2 := below_alloc (Below.refl w.heap.size w) (.cells #[.int .i64 0] 26)
  generalize w.alloc (.cells #[.int .i64 0] 26) = W0 at z1 z2 ⊢
  refine (need_no 1 _).mono ?_
  rintro e' w' ⟨rfl, hw⟩
  replace hw := hw.symm
  subst hw
  refine leaves_cons (f := 77) (args := #[.pointer (some ⟨w.heap.size, 0, none⟩)]) (by simp) (by simp [go_sem]) ?_
  refine (make_panicking ⟨w.heap.size, 0, none⟩ 0 1 [] _ ((blk_cell (z1) 0).trans rfl) (blk_frozen (z1) 0)).mono ?_
  rintro e u' w'' ⟨rfl, rfl, rfl⟩
  have m1 : ((W0).setCell ⟨w.heap.size, 0, none⟩ (.int .i64 1)).heap[w.heap.size]? = some (.cells #[.int .i64 1] 26 (0, 0)) := blk_put (z1) 0 _ rfl
  have m2 : Below w.heap.size w ((W0).setCell ⟨w.heap.size, 0, none⟩ (.int .i64 1)) := below_set (z2) (Nat.le_refl _)
  generalize ((W0).setCell ⟨w.heap.size, 0, none⟩ (.int .i64 1)) = Y at m1 m2 ⊢
  have v0 : Y.cell? ⟨w.heap.size, 0, none⟩ = some (.int .i64 1) := (blk_cell m1 0).trans rfl
  simp [Leaves, settle, results, Try.results52, go_sem, v0, m2]
set_option maxRecDepth 100000 in
set_option maxHeartbeats 4000000 in
theorem hmake_sign (s : ByteArray) (kd rom ram : Int) (A : Option Addr) (c : Nat) (l : List Int) (w : World) (hr : Kd.C (Kd.int .u8) w A l.length l) (hc : l.length ≤ c) (hs : (s.size : Int) ≤ 16) (j0 : Nat) (hj0 : (j0 : Int) < s.size) (hpr : ∀ i : Nat, i < j0 → prb (bt s (i : Int)) = true) (hno : prb (bt s (j0 : Int)) = false) :
    Calls Try.prog 52 #[.string s, .int .u8 kd, .int .u8 rom, .int .u8 ram, .slice A l.length c] w fun e' w' => e' = .returned (.tuple #[.slice none 0 0, .int .i64 1]) ∧ Below w.heap.size w w' := by
  have hmf : ∀ (fn : Fn) (first cap : Array Value) (w : World), (Instr.makeFunc fn first cap).run Try.prog w = .ok (.func fn first cap) w := fun _ _ _ _ => rfl
  have HR := Aside0.mk hr
  clear hr
  go_enter_defers Try.func52, Try.ntmps52
  go_wp2_with fail
  have z1 := heap_alloc_new w (.cells #[.int .i64 0] 26)
  have z2 := below_alloc (Below.refl w.heap.size w) (.cells #[.int .i64 0] 26)
  generalize w.alloc (.cells #[.int .i64 0] 26) = W0 at z1 z2 ⊢
  refine (need_ok 1 _).mono ?_
  rintro e' w' ⟨rfl, hw⟩
  replace hw := hw.symm
  subst hw
  go_wp2_with fail
  go_loopw [24] (fun i w' => ∃ (j : Nat), i = .int .i64 j ∧ Aside0 (j ≤ j0 ∧ w'.heap[w.heap.size]? = some (.cells #[.int .i64 0] 26 (0, 0)) ∧ Below w.heap.size w w')) (fun i _ => 20 - (intOf i).toNat)
  case atStart => exact ⟨0, rfl, Aside0.mk ⟨by omega, z1, z2⟩⟩
  case round =>
    obtain ⟨j, rfl, HA⟩ := hrel
    obtain ⟨hj, z1, z2⟩ := HA.out
    clear HA
    by_cases hjJ : j = j0
    · have hpr' := hpr
      clear hpr
      have h16 : (j : Int) ≤ 16 := by omega
      subst hjJ
      have p9 : 0 ≤ (j : Int) := by omega
      have q9 : (j : Int) < (s.size : Int) := by omega
      replace p9 := eq_true p9
      replace q9 := eq_true q9
      have hjs : j < s.size := by omega
      have hbt : bt s (j : Int) = ((s[j]'hjs).toNat : Int) := by simp [bt, hjs]
      rw [hbt] at hno
      go_wp2_with fail
      (with_reducible refine (header_printable.calls _ _ _ (prb_calls _)).mono ?_)
      rintro e' w' ⟨rfl, ⟨nd, rfl⟩⟩
      rw [hno]
      go_wp2_with fail
      refine (need_no 1 _).mono ?_
      rintro e' w' ⟨rfl, rfl⟩
      have D1 := blk_drewN z1 nd
      have D2 := pw_below_drewN z2 nd
      generalize wr.drewN nd = W1 at D1 D2 ⊢
      refine leaves_cons (f := 77) (args := #[.pointer (some ⟨w.heap.size, 0, none⟩)]) (by simp) (by simp [go_sem]) ?_
      refine (make_panicking ⟨w.heap.size, 0, none⟩ 0 1 [] _ ((blk_cell (D1) 0).trans rfl) (blk_frozen (D1) 0)).mono ?_
      rintro e u' w'' ⟨rfl, rfl, rfl⟩
      have m1 : ((W1).setCell ⟨w.heap.size, 0, none⟩ (.int .i64 1)).heap[w.heap.size]? = some (.cells #[.int .i64 1] 26 (0, 0)) := blk_put (D1) 0 _ rfl
      have m2 : Below w.heap.size w ((W1).setCell ⟨w.heap.size, 0, none⟩ (.int .i64 1)) := below_set (D2) (Nat.le_refl _)
      generalize ((W1).setCell ⟨w.heap.size, 0, none⟩ (.int .i64 1)) = Y at m1 m2 ⊢
      have v0 : Y.cell? ⟨w.heap.size, 0, none⟩ = some (.int .i64 1) := (blk_cell m1 0).trans rfl
      simp [Leaves, settle, results, Try.results52, go_sem, v0, m2]

    have hb := hpr j (by omega)
    have p9 : 0 ≤ (j : Int) := by omega
    have q9 : (j : Int) < (s.size : Int) := by omega
    have hx9 := bt_at s (j : Int)
    have q9' := q9
    replace p9 := eq_true p9
    replace q9 := eq_true q9
    have hjs : j < s.size := by omega
    have hbt : bt s (j : Int) = ((s[j]'hjs).toNat : Int) := by simp [bt, hjs]
    rw [hbt] at hb
    clear hx9
    go_wp2_with fail
    (with_reducible refine (header_printable.calls _ _ _ (prb_calls _)).mono ?_)
    rintro e' w' ⟨rfl, ⟨nd, rfl⟩⟩
    rw [hb]
    go_wp2_with fail
    refine (need_ok 1 _).mono ?_
    rintro e' w' ⟨rfl, rfl⟩
    go_wp2_with fail
    exact ⟨⟨j + 1, by simp, Aside0.mk ⟨by omega, blk_drewN z1 nd, pw_below_drewN z2 nd⟩⟩, by simp [intOf]; omega⟩
set_option maxRecDepth 100000 in
set_option maxHeartbeats 4000000 in
theorem hmake_kind (s : ByteArray) (kd rom ram : Int) (A : Option Addr) (c : Nat) (l : List Int) (w : World) (hr : Kd.C (Kd.int .u8) w A l.length l) (hc : l.length ≤ c) (hs : (s.size : Int) ≤ 16) (hpr : ∀ i : Nat, i < s.size → prb (bt s (i : Int)) = true) (hk : 0 ≤ kd ∧ kd ≤ 255) (hok : (wareT kd).2.2.2.2 = false) :
    Calls Try.prog 52 #[.string s, .int .u8 kd, .int .u8 rom, .int .u8 ram, .slice A l.length c] w fun e' w' => e' = .returned (.tuple #[.slice none 0 0, .int .i64 4]) ∧ Below w.heap.size w w' := by
  have hmf : ∀ (fn : Fn) (first cap : Array Value) (w : World), (Instr.makeFunc fn first cap).run Try.prog w = .ok (.func fn first cap) w := fun _ _ _ _ => rfl
  have HR := Aside0.mk hr
  clear hr
  go_enter_defers Try.func52, Try.ntmps52
  go_wp2_with fail
  have z1 := heap_alloc_new w (.cells #[.int .i64 0] 26)
  have z2 := below_alloc (Below.refl w.heap.size w) (.cells #[.int .i64 0] 26)
  generalize w.alloc (.cells #[.int .i64 0] 26) = W0 at z1 z2 ⊢
  refine (need_ok 1 _).mono ?_
  rintro e' w' ⟨rfl, hw⟩
  replace hw := hw.symm
  subst hw
  go_wp2_with fail
  go_loopw [24] (fun i w' => ∃ (j : Nat), i = .int .i64 j ∧ Aside0 (j ≤ s.size ∧ w'.heap[w.heap.size]? = some (.cells #[.int .i64 0] 26 (0, 0)) ∧ Below w.heap.size w w')) (fun i _ => 20 - (intOf i).toNat)
  case atStart => exact ⟨0, rfl, Aside0.mk ⟨by omega, z1, z2⟩⟩
  case round =>
    obtain ⟨j, rfl, HA⟩ := hrel
    obtain ⟨hj, z1, z2⟩ := HA.out
    clear HA
    by_cases hjJ : j = s.size
    · have hpr' := hpr
      clear hpr
      have h16 : (j : Int) ≤ 16 := by omega
      have hge : ¬ (j : Int) < (s.size : Int) := by omega
      go_wp2_with fail
      refine (header_ware.calls kd hk _).mono ?_
      rintro e' w1 ⟨rfl, hb⟩
      have B1 := blk_below z1 hb
      have B2 := Below.trans z2 (hb.mono z2.size)
      rw [hok]
      go_wp2_with fail
      refine (need_no 4 _).mono ?_
      rintro e' w' ⟨rfl, rfl⟩
      have D1 := blk_alloc B1 (.cells #[.string ⟨#[]⟩, .int .u8 0, .int .i64 (wareT kd).1, .bool (wareT kd).2.1, .bool (wareT kd).2.2.1, .bool (wareT kd).2.2.2.1, .int .i64 0, .int .i64 0, .int .u8 0, .int .u16 0] 30)
      have D2 := below_alloc B2 (.cells #[.string ⟨#[]⟩, .int .u8 0, .int .i64 (wareT kd).1, .bool (wareT kd).2.1, .bool (wareT kd).2.2.1, .bool (wareT kd).2.2.2.1, .int .i64 0, .int .i64 0, .int .u8 0, .int .u16 0] 30)
      generalize w1.alloc (.cells #[.string ⟨#[]⟩, .int .u8 0, .int .i64 (wareT kd).1, .bool (wareT kd).2.1, .bool (wareT kd).2.2.1, .bool (wareT kd).2.2.2.1, .int .i64 0, .int .i64 0, .int .u8 0, .int .u16 0] 30) = W1 at D1 D2 ⊢
      clear z1 z2 B1 B2 hb
      refine leaves_cons (f := 77) (args := #[.pointer (some ⟨w.heap.size, 0, none⟩)]) (by simp) (by simp [go_sem]) ?_
      refine (make_panicking ⟨w.heap.size, 0, none⟩ 0 4 [] _ ((blk_cell (D1) 0).trans rfl) (blk_frozen (D1) 0)).mono ?_
      rintro e u' w'' ⟨rfl, rfl, rfl⟩
      have m1 : ((W1).setCell ⟨w.heap.size, 0, none⟩ (.int .i64 4)).heap[w.heap.size]? = some (.cells #[.int .i64 4] 26 (0, 0)) := blk_put (D1) 0 _ rfl
      have m2 : Below w.heap.size w ((W1).setCell ⟨w.heap.size, 0, none⟩ (.int .i64 4)) := below_set (D2) (Nat.le_refl _)
      generalize ((W1).setCell ⟨w.heap.size, 0, none⟩ (.int .i64 4)) = Y at m1 m2 ⊢
      have v0 : Y.cell? ⟨w.heap.size, 0, none⟩ = some (.int .i64 4) := (blk_cell m1 0).trans rfl
      simp [Leaves, settle, results, Try.results52, go_sem, v0, m2]

    have hb := hpr j (by omega)
    have p9 : 0 ≤ (j : Int) := by omega
    have q9 : (j : Int) < (s.size : Int) := by omega
    have hx9 := bt_at s (j : Int)
    have q9' := q9
    replace p9 := eq_true p9
    replace q9 := eq_true q9
    have hjs : j < s.size := by omega
    have hbt : bt s (j : Int) = ((s[j]'hjs).toNat : Int) := by simp [bt, hjs]
    rw [hbt] at hb
    clear hx9
    go_wp2_with fail
    (with_reducible refine (header_printable.calls _ _ _ (prb_calls _)).mono ?_)
    rintro e' w' ⟨rfl, ⟨nd, rfl⟩⟩
    rw [hb]
    go_wp2_with fail
    refine (need_ok 1 _).mono ?_
    rintro e' w' ⟨rfl, rfl⟩
    go_wp2_with fail
    exact ⟨⟨j + 1, by simp, Aside0.mk ⟨by omega, blk_drewN z1 nd, pw_below_drewN z2 nd⟩⟩, by simp [intOf]; omega⟩
set_option maxRecDepth 100000 in
set_option maxHeartbeats 4000000 in
theorem hmake_size_a (s : ByteArray) (kd rom ram : Int) (A : Option Addr) (c : Nat) (l : List Int) (w : World) (hr : Kd.C (Kd.int .u8) w A l.length l) (hc : l.length ≤ c) (hs : (s.size : Int) ≤ 16) (hpr : ∀ i : Nat, i < s.size → prb (bt s (i : Int)) = true) (hk : 0 ≤ kd ∧ kd ≤ 255) (hok : (wareT kd).2.2.2.2 = true) (h8 : decide (rom ≤ 8) = false) :
    Calls Try.prog 52 #[.string s, .int .u8 kd, .int .u8 rom, .int .u8 ram, .slice A l.length c] w fun e' w' => e' = .returned (.tuple #[.slice none 0 0, .int .i64 5]) ∧ Below w.heap.size w w' := by
  have hmf : ∀ (fn : Fn) (first cap : Array Value) (w : World), (Instr.makeFunc fn first cap).run Try.prog w = .ok (.func fn first cap) w := fun _ _ _ _ => rfl
  have HR := Aside0.mk hr
  clear hr
  go_enter_defers Try.func52, Try.ntmps52
  go_wp2_with fail
  have z1 := heap_alloc_new w (.cells #[.int .i64 0] 26)
  have z2 := below_alloc (Below.refl w.heap.size w) (.cells #[.int .i64 0] 26)
  generalize w.alloc (.cells #[.int .i64 0] 26) = W0 at z1 z2 ⊢
  refine (need_ok 1 _).mono ?_
  rintro e' w' ⟨rfl, hw⟩
  replace hw := hw.symm
  subst hw
  go_wp2_with fail
  go_loopw [24] (fun i w' => ∃ (j : Nat), i = .int .i64 j ∧ Aside0 (j ≤ s.size ∧ w'.heap[w.heap.size]? = some (.cells #[.int .i64 0] 26 (0, 0)) ∧ Below w.heap.size w w')) (fun i _ => 20 - (intOf i).toNat)
  case atStart => exact ⟨0, rfl, Aside0.mk ⟨by omega, z1, z2⟩⟩
  case round =>
    obtain ⟨j, rfl, HA⟩ := hrel
    obtain ⟨hj, z1, z2⟩ := HA.out
    clear HA
    by_cases hjJ : j = s.size
    · have hpr' := hpr
      clear hpr
      have h16 : (j : Int) ≤ 16 := by omega
      have hge : ¬ (j : Int) < (s.size : Int) := by omega
      go_wp2_with fail
      refine (header_ware.calls kd hk _).mono ?_
      rintro e' w1 ⟨rfl, hb⟩
      have B1 := blk_below z1 hb
      have B2 := Below.trans z2 (hb.mono z2.size)
      rw [hok]
      go_wp2_with fail
      refine (need_ok 4 _).mono ?_
      rintro e' w' ⟨rfl, rfl⟩
      have D1 := blk_alloc B1 (.cells #[.string ⟨#[]⟩, .int .u8 kd, .int .i64 (wareT kd).1, .bool (wareT kd).2.1, .bool (wareT kd).2.2.1, .bool (wareT kd).2.2.2.1, .int .i64 0, .int .i64 0, .int .u8 0, .int .u16 0] 30)
      have D2 := below_alloc B2 (.cells #[.string ⟨#[]⟩, .int .u8 kd, .int .i64 (wareT kd).1, .bool (wareT kd).2.1, .bool (wareT kd).2.2.1, .bool (wareT kd).2.2.2.1, .int .i64 0, .int .i64 0, .int .u8 0, .int .u16 0] 30)
      generalize w1.alloc (.cells #[.string ⟨#[]⟩, .int .u8 kd, .int .i64 (wareT kd).1, .bool (wareT kd).2.1, .bool (wareT kd).2.2.1, .bool (wareT kd).2.2.2.1, .int .i64 0, .int .i64 0, .int .u8 0, .int .u16 0] 30) = W1 at D1 D2 ⊢
      clear z1 z2 B1 B2 hb
      go_wp2_with fail
      refine (need_no 5 _).mono ?_
      rintro e' w' ⟨rfl, hw⟩
      replace hw := hw.symm
      subst hw
      refine leaves_cons (f := 77) (args := #[.pointer (some ⟨w.heap.size, 0, none⟩)]) (by simp) (by simp [go_sem]) ?_
      refine (make_panicking ⟨w.heap.size, 0, none⟩ 0 5 [] _ ((blk_cell (D1) 0).trans rfl) (blk_frozen (D1) 0)).mono ?_
      rintro e u' w'' ⟨rfl, rfl, rfl⟩
      have m1 : ((W1).setCell ⟨w.heap.size, 0, none⟩ (.int .i64 5)).heap[w.heap.size]? = some (.cells #[.int .i64 5] 26 (0, 0)) := blk_put (D1) 0 _ rfl
      have m2 : Below w.heap.size w ((W1).setCell ⟨w.heap.size, 0, none⟩ (.int .i64 5)) := below_set (D2) (Nat.le_refl _)
      generalize ((W1).setCell ⟨w.heap.size, 0, none⟩ (.int .i64 5)) = Y at m1 m2 ⊢
      have v0 : Y.cell? ⟨w.heap.size, 0, none⟩ = some (.int .i64 5) := (blk_cell m1 0).trans rfl
      simp [Leaves, settle, results, Try.results52, go_sem, v0, m2]

    have hb := hpr j (by omega)
    have p9 : 0 ≤ (j : Int) := by omega
    have q9 : (j : Int) < (s.size : Int) := by omega
    have hx9 := bt_at s (j : Int)
    have q9' := q9
    replace p9 := eq_true p9
    replace q9 := eq_true q9
    have hjs : j < s.size := by omega
    have hbt : bt s (j : Int) = ((s[j]'hjs).toNat : Int) := by simp [bt, hjs]
    rw [hbt] at hb
    clear hx9
    go_wp2_with fail
    (with_reducible refine (header_printable.calls _ _ _ (prb_calls _)).mono ?_)
    rintro e' w' ⟨rfl, ⟨nd, rfl⟩⟩
    rw [hb]
    go_wp2_with fail
    refine (need_ok 1 _).mono ?_
    rintro e' w' ⟨rfl, rfl⟩
    go_wp2_with fail
    exact ⟨⟨j + 1, by simp, Aside0.mk ⟨by omega, blk_drewN z1 nd, pw_below_drewN z2 nd⟩⟩, by simp [intOf]; omega⟩
set_option maxRecDepth 100000 in
set_option maxHeartbeats 4000000 in
theorem hmake_size_b (s : ByteArray) (kd rom ram : Int) (A : Option Addr) (c : Nat) (l : List Int) (w : World) (hr : Kd.C (Kd.int .u8) w A l.length l) (hc : l.length ≤ c) (hs : (s.size : Int) ≤ 16) (hpr : ∀ i : Nat, i < s.size → prb (bt s (i : Int)) = true) (hk : 0 ≤ kd ∧ kd ≤ 255) (hok : (wareT kd).2.2.2.2 = true) (h8 : decide (rom ≤ 8) = true) (h5 : decide (ram ≤ 5) = false) :
    Calls Try.prog 52 #[.string s, .int .u8 kd, .int .u8 rom, .int .u8 ram, .slice A l.length c] w fun e' w' => e' = .returned (.tuple #[.slice none 0 0, .int .i64 5]) ∧ Below w.heap.size w w' := by
  have hmf : ∀ (fn : Fn) (first cap : Array Value) (w : World), (Instr.makeFunc fn first cap).run Try.prog w = .ok (.func fn first cap) w := fun _ _ _ _ => rfl
  have HR := Aside0.mk hr
  clear hr
  go_enter_defers Try.func52, Try.ntmps52
  go_wp2_with fail
  have z1 := heap_alloc_new w (.cells #[.int .i64 0] 26)
  have z2 := below_alloc (Below.refl w.heap.size w) (.cells #[.int .i64 0] 26)
  generalize w.alloc (.cells #[.int .i64 0] 26) = W0 at z1 z2 ⊢
  refine (need_ok 1 _).mono ?_
  rintro e' w' ⟨rfl, hw⟩
  replace hw := hw.symm
  subst hw
  go_wp2_with fail
  go_loopw [24] (fun i w' => ∃ (j : Nat), i = .int .i64 j ∧ Aside0 (j ≤ s.size ∧ w'.heap[w.heap.size]? = some (.cells #[.int .i64 0] 26 (0, 0)) ∧ Below w.heap.size w w')) (fun i _ => 20 - (intOf i).toNat)
  case atStart => exact ⟨0, rfl, Aside0.mk ⟨by omega, z1, z2⟩⟩
  case round =>
    obtain ⟨j, rfl, HA⟩ := hrel
    obtain ⟨hj, z1, z2⟩ := HA.out
    clear HA
    by_cases hjJ : j = s.size
    · have hpr' := hpr
      clear hpr
      have h16 : (j : Int) ≤ 16 := by omega
      have hge : ¬ (j : Int) < (s.size : Int) := by omega
      go_wp2_with fail
      refine (header_ware.calls kd hk _).mono ?_
      rintro e' w1 ⟨rfl, hb⟩
      have B1 := blk_below z1 hb
      have B2 := Below.trans z2 (hb.mono z2.size)
      rw [hok]
      go_wp2_with fail
      refine (need_ok 4 _).mono ?_
      rintro e' w' ⟨rfl, rfl⟩
      have D1 := blk_alloc B1 (.cells #[.string ⟨#[]⟩, .int .u8 kd, .int .i64 (wareT kd).1, .bool (wareT kd).2.1, .bool (wareT kd).2.2.1, .bool (wareT kd).2.2.2.1, .int .i64 0, .int .i64 0, .int .u8 0, .int .u16 0] 30)
      have D2 := below_alloc B2 (.cells #[.string ⟨#[]⟩, .int .u8 kd, .int .i64 (wareT kd).1, .bool (wareT kd).2.1, .bool (wareT kd).2.2.1, .bool (wareT kd).2.2.2.1, .int .i64 0, .int .i64 0, .int .u8 0, .int .u16 0] 30)
      generalize w1.alloc (.cells #[.string ⟨#[]⟩, .int .u8 kd, .int .i64 (wareT kd).1, .bool (wareT kd).2.1, .bool (wareT kd).2.2.1, .bool (wareT kd).2.2.2.1, .int .i64 0, .int .i64 0, .int .u8 0, .int .u16 0] 30) = W1 at D1 D2 ⊢
      clear z1 z2 B1 B2 hb
      go_wp2_with fail
      refine (need_no 5 _).mono ?_
      rintro e' w' ⟨rfl, hw⟩
      replace hw := hw.symm
      subst hw
      refine leaves_cons (f := 77) (args := #[.pointer (some ⟨w.heap.size, 0, none⟩)]) (by simp) (by simp [go_sem]) ?_
      refine (make_panicking ⟨w.heap.size, 0, none⟩ 0 5 [] _ ((blk_cell (D1) 0).trans rfl) (blk_frozen (D1) 0)).mono ?_
      rintro e u' w'' ⟨rfl, rfl, rfl⟩
      have m1 : ((W1).setCell ⟨w.heap.size, 0, none⟩ (.int .i64 5)).heap[w.heap.size]? = some (.cells #[.int .i64 5] 26 (0, 0)) := blk_put (D1) 0 _ rfl
      have m2 : Below w.heap.size w ((W1).setCell ⟨w.heap.size, 0, none⟩ (.int .i64 5)) := below_set (D2) (Nat.le_refl _)
      generalize ((W1).setCell ⟨w.heap.size, 0, none⟩ (.int .i64 5)) = Y at m1 m2 ⊢
      have v0 : Y.cell? ⟨w.heap.size, 0, none⟩ = some (.int .i64 5) := (blk_cell m1 0).trans rfl
      simp [Leaves, settle, results, Try.results52, go_sem, v0, m2]

    have hb := hpr j (by omega)
    have p9 : 0 ≤ (j : Int) := by omega
    have q9 : (j : Int) < (s.size : Int) := by omega
    have hx9 := bt_at s (j : Int)
    have q9' := q9
    replace p9 := eq_true p9
    replace q9 := eq_true q9
    have hjs : j < s.size := by omega
    have hbt : bt s (j : Int) = ((s[j]'hjs).toNat : Int) := by simp [bt, hjs]
    rw [hbt] at hb
    clear hx9
    go_wp2_with fail
    (with_reducible refine (header_printable.calls _ _ _ (prb_calls _)).mono ?_)
    rintro e' w' ⟨rfl, ⟨nd, rfl⟩⟩
    rw [hb]
    go_wp2_with fail
    refine (need_ok 1 _).mono ?_
    rintro e' w' ⟨rfl, rfl⟩
    go_wp2_with fail
    exact ⟨⟨j + 1, by simp, Aside0.mk ⟨by omega, blk_drewN z1 nd, pw_below_drewN z2 nd⟩⟩, by simp [intOf]; omega⟩
set_option maxRecDepth 100000 in
set_option maxHeartbeats 4000000 in
theorem hmake_size_c (s : ByteArray) (kd rom ram : Int) (A : Option Addr) (c : Nat) (l : List Int) (w : World) (hr : Kd.C (Kd.int .u8) w A l.length l) (hc : l.length ≤ c) (hs : (s.size : Int) ≤ 16) (hpr : ∀ i : Nat, i < s.size → prb (bt s (i : Int)) = true) (hk : 0 ≤ kd ∧ kd ≤ 255) (hok : (wareT kd).2.2.2.2 = true) (h80 : 0 ≤ rom) (h8 : decide (rom ≤ 8) = true) (h5 : decide (ram ≤ 5) = true) (hm : decide ((l.length : Int) ≤ wrap64 (shl .i64 32768 rom - 336)) = false) :
    Calls Try.prog 52 #[.string s, .int .u8 kd, .int .u8 rom, .int .u8 ram, .slice A l.length c] w fun e' w' => e' = .returned (.tuple #[.slice none 0 0, .int .i64 5]) ∧ Below w.heap.size w w' := by
  have hmf : ∀ (fn : Fn) (first cap : Array Value) (w : World), (Instr.makeFunc fn first cap).run Try.prog w = .ok (.func fn first cap) w := fun _ _ _ _ => rfl
  have HR := Aside0.mk hr
  clear hr
  go_enter_defers Try.func52, Try.ntmps52
  go_wp2_with fail
  have z1 := heap_alloc_new w (.cells #[.int .i64 0] 26)
  have z2 := below_alloc (Below.refl w.heap.size w) (.cells #[.int .i64 0] 26)
  generalize w.alloc (.cells #[.int .i64 0] 26) = W0 at z1 z2 ⊢
  refine (need_ok 1 _).mono ?_
  rintro e' w' ⟨rfl, hw⟩
  replace hw := hw.symm
  subst hw
  go_wp2_with fail
  go_loopw [24] (fun i w' => ∃ (j : Nat), i = .int .i64 j ∧ Aside0 (j ≤ s.size ∧ w'.heap[w.heap.size]? = some (.cells #[.int .i64 0] 26 (0, 0)) ∧ Below w.heap.size w w')) (fun i _ => 20 - (intOf i).toNat)
  case atStart => exact ⟨0, rfl, Aside0.mk ⟨by omega, z1, z2⟩⟩
  case round =>
    obtain ⟨j, rfl, HA⟩ := hrel
    obtain ⟨hj, z1, z2⟩ := HA.out
    clear HA
    by_cases hjJ : j = s.size
    · have hpr' := hpr
      clear hpr
      have h16 : (j : Int) ≤ 16 := by omega
      have hge : ¬ (j : Int) < (s.size : Int) := by omega
      go_wp2_with fail
      refine (header_ware.calls kd hk _).mono ?_
      rintro e' w1 ⟨rfl, hb⟩
      have B1 := blk_below z1 hb
      have B2 := Below.trans z2 (hb.mono z2.size)
      rw [hok]
      go_wp2_with fail
      refine (need_ok 4 _).mono ?_
      rintro e' w' ⟨rfl, rfl⟩
      have D1 := blk_alloc B1 (.cells #[.string ⟨#[]⟩, .int .u8 kd, .int .i64 (wareT kd).1, .bool (wareT kd).2.1, .bool (wareT kd).2.2.1, .bool (wareT kd).2.2.2.1, .int .i64 0, .int .i64 0, .int .u8 0, .int .u16 0] 30)
      have D2 := below_alloc B2 (.cells #[.string ⟨#[]⟩, .int .u8 kd, .int .i64 (wareT kd).1, .bool (wareT kd).2.1, .bool (wareT kd).2.2.1, .bool (wareT kd).2.2.2.1, .int .i64 0, .int .i64 0, .int .u8 0, .int .u16 0] 30)
      generalize w1.alloc (.cells #[.string ⟨#[]⟩, .int .u8 kd, .int .i64 (wareT kd).1, .bool (wareT kd).2.1, .bool (wareT kd).2.2.1, .bool (wareT kd).2.2.2.1, .int .i64 0, .int .i64 0, .int .u8 0, .int .u16 0] 30) = W1 at D1 D2 ⊢
      clear z1 z2 B1 B2 hb
      go_wp2_with fail
      (with_reducible refine (header_most.calls rom _ _ (by unfold header_most.f; rw [if_pos h80])).mono ?_)
      rintro e' w' ⟨rfl, ⟨nd, rfl⟩⟩
      go_wp2_with fail
      refine (need_no 5 _).mono ?_
      rintro e' w' ⟨rfl, rfl⟩
      have E1 := blk_drewN D1 nd
      have E2 := pw_below_drewN D2 nd
      generalize W1.drewN nd = W2 at E1 E2 ⊢
      refine leaves_cons (f := 77) (args := #[.pointer (some ⟨w.heap.size, 0, none⟩)]) (by simp) (by simp [go_sem]) ?_
      refine (make_panicking ⟨w.heap.size, 0, none⟩ 0 5 [] _ ((blk_cell (E1) 0).trans rfl) (blk_frozen (E1) 0)).mono ?_
      rintro e u' w'' ⟨rfl, rfl, rfl⟩
      have m1 : ((W2).setCell ⟨w.heap.size, 0, none⟩ (.int .i64 5)).heap[w.heap.size]? = some (.cells #[.int .i64 5] 26 (0, 0)) := blk_put (E1) 0 _ rfl
      have m2 : Below w.heap.size w ((W2).setCell ⟨w.heap.size, 0, none⟩ (.int .i64 5)) := below_set (E2) (Nat.le_refl _)
      generalize ((W2).setCell ⟨w.heap.size, 0, none⟩ (.int .i64 5)) = Y at m1 m2 ⊢
      have v0 : Y.cell? ⟨w.heap.size, 0, none⟩ = some (.int .i64 5) := (blk_cell m1 0).trans rfl
      simp [Leaves, settle, results, Try.results52, go_sem, v0, m2]

    have hb := hpr j (by omega)
    have p9 : 0 ≤ (j : Int) := by omega
    have q9 : (j : Int) < (s.size : Int) := by omega
    have hx9 := bt_at s (j : Int)
    have q9' := q9
    replace p9 := eq_true p9
    replace q9 := eq_true q9
    have hjs : j < s.size := by omega
    have hbt : bt s (j : Int) = ((s[j]'hjs).toNat : Int) := by simp [bt, hjs]
    rw [hbt] at hb
    clear hx9
    go_wp2_with fail
    (with_reducible refine (header_printable.calls _ _ _ (prb_calls _)).mono ?_)
    rintro e' w' ⟨rfl, ⟨nd, rfl⟩⟩
    rw [hb]
    go_wp2_with fail
    refine (need_ok 1 _).mono ?_
    rintro e' w' ⟨rfl, rfl⟩
    go_wp2_with fail
    exact ⟨⟨j + 1, by simp, Aside0.mk ⟨by omega, blk_drewN z1 nd, pw_below_drewN z2 nd⟩⟩, by simp [intOf]; omega⟩
end Go.Proofs.Ytmjjojbedllmgaa.Hand
end
section
namespace Go.Proofs.Ytmjjojbedllmgaa.Hand
open Go.RowKit
open Go.Proofs.Ytmjjojbedllmgaa.G
open Go.Proofs.YtmjjojbedllmgaaW.PrintWords Go.Proofs.YtmjjojbedllmgaaW.PrintLast Go.Proofs.YtmjjojbedllmgaaW.PrintMore
set_option linter.unusedVariables false
set_option linter.unusedSimpArgs false
theorem most_le (rom : Int) (h0 : 0 ≤ rom) (h8 : rom ≤ 8) : wrap64 (shl .i64 32768 rom - 336) ≤ 8388272 := by
  have h : rom = 0 ∨ rom = 1 ∨ rom = 2 ∨ rom = 3 ∨ rom = 4 ∨ rom = 5 ∨ rom = 6 ∨ rom = 7 ∨ rom = 8 := by omega
  rcases h with rfl | rfl | rfl | rfl | rfl | rfl | rfl | rfl | rfl <;> decide +kernel
set_option maxRecDepth 100000 in
set_option maxHeartbeats 4000000 in
theorem hmake_ok (s : ByteArray) (kd rom ram : Int) (A : Option Addr) (c : Nat) (l : List Int) (w : World) (hr : Kd.C (Kd.int .u8) w A l.length l) (hc : l.length ≤ c) (hs : (s.size : Int) ≤ 16) (hpr : ∀ i : Nat, i < s.size → prb (bt s (i : Int)) = true) (hk : 0 ≤ kd ∧ kd ≤ 255) (hok : (wareT kd).2.2.2.2 = true) (h80 : 0 ≤ rom) (h8 : decide (rom ≤ 8) = true) (h5 : decide (ram ≤ 5) = true) (hm : decide ((l.length : Int) ≤ wrap64 (shl .i64 32768 rom - 336)) = true) (kW : Nat) (wv : Int) (hW : header_Whole.f kW (splice (((((splice (splice (List.replicate (336 + l.length) 0) 256 (bytesOf ⟨#[0, 195, 80, 1]⟩)) 308 (bytesOf s)).set 327 kd).set 328 rom).set 329 ram).set 333 (sumTo (((((splice (splice (List.replicate (336 + l.length) 0) 256 (bytesOf ⟨#[0, 195, 80, 1]⟩)) 308 (bytesOf s)).set 327 kd).set 328 rom).set 329 ram).take 336) 25)) 336 l) = some wv) :
    Calls Try.prog 52 #[.string s, .int .u8 kd, .int .u8 rom, .int .u8 ram, .slice A l.length c] w fun e' w' => ∃ v0_ : Value, e' = .returned (.tuple #[v0_, .int .i64 0]) ∧ Kd.R (Kd.int .u8) 5 w' w.heap.size (fun _ => True) v0_ (((splice (((((splice (splice (List.replicate (336 + l.length) 0) 256 (bytesOf ⟨#[0, 195, 80, 1]⟩)) 308 (bytesOf s)).set 327 kd).set 328 rom).set 329 ram).set 333 (sumTo (((((splice (splice (List.replicate (336 + l.length) 0) 256 (bytesOf ⟨#[0, 195, 80, 1]⟩)) 308 (bytesOf s)).set 327 kd).set 328 rom).set 329 ram).take 336) 25)) 336 l).set 334 (wv / 256 % 256)).set 335 (wv % 256)) ∧ Below w.heap.size w w' := by
  have hmf : ∀ (fn : Fn) (first cap : Array Value) (w : World), (Instr.makeFunc fn first cap).run Try.prog w = .ok (.func fn first cap) w := fun _ _ _ _ => rfl
  have HR := Aside0.mk hr
  clear hr
  go_enter_defers Try.func52, Try.ntmps52
  go_wp2_with fail
  have z1 := heap_alloc_new w (.cells #[.int .i64 0] 26)
  have z2 := below_alloc (Below.refl w.heap.size w) (.cells #[.int .i64 0] 26)
  generalize w.alloc (.cells #[.int .i64 0] 26) = W0 at z1 z2 ⊢
  refine (need_ok 1 _).mono ?_
  rintro e' w' ⟨rfl, hw⟩
  replace hw := hw.symm
  subst hw
  go_wp2_with fail
  go_loopw [24] (fun i w' => ∃ (j : Nat), i = .int .i64 j ∧ Aside0 (j ≤ s.size ∧ w'.heap[w.heap.size]? = some (.cells #[.int .i64 0] 26 (0, 0)) ∧ Below w.heap.size w w')) (fun i _ => 20 - (intOf i).toNat)
  case atStart => exact ⟨0, rfl, Aside0.mk ⟨by omega, z1, z2⟩⟩
  case round =>
    obtain ⟨j, rfl, HA⟩ := hrel
    obtain ⟨hj, z1, z2⟩ := HA.out
    clear HA
    by_cases hjJ : j = s.size
    · have hpr' := hpr
      clear hpr
      have h16 : (j : Int) ≤ 16 := by omega
      have hge : ¬ (j : Int) < (s.size : Int) := by omega
      go_wp2_with fail
      refine (header_ware.calls kd hk _).mono ?_
      rintro e' w1 ⟨rfl, hb⟩
      have B1 := blk_below z1 hb
      have B2 := Below.trans z2 (hb.mono z2.size)
      rw [hok]
      go_wp2_with fail
      refine (need_ok 4 _).mono ?_
      rintro e' w' ⟨rfl, rfl⟩
      have D1 := blk_alloc B1 (.cells #[.string ⟨#[]⟩, .int .u8 kd, .int .i64 (wareT kd).1, .bool (wareT kd).2.1, .bool (wareT kd).2.2.1, .bool (wareT kd).2.2.2.1, .int .i64 0, .int .i64 0, .int .u8 0, .int .u16 0] 30)
      have D2 := below_alloc B2 (.cells #[.string ⟨#[]⟩, .int .u8 kd, .int .i64 (wareT kd).1, .bool (wareT kd).2.1, .bool (wareT kd).2.2.1, .bool (wareT kd).2.2.2.1, .int .i64 0, .int .i64 0, .int .u8 0, .int .u16 0] 30)
      generalize w1.alloc (.cells #[.string ⟨#[]⟩, .int .u8 kd, .int .i64 (wareT kd).1, .bool (wareT kd).2.1, .bool (wareT kd).2.2.1, .bool (wareT kd).2.2.2.1, .int .i64 0, .int .i64 0, .int .u8 0, .int .u16 0] 30) = W1 at D1 D2 ⊢
      clear z1 z2 B1 B2 hb
      go_wp2_with fail
      (with_reducible refine (header_most.calls rom _ _ (by unfold header_most.f; rw [if_pos h80])).mono ?_)
      rintro e' w' ⟨rfl, ⟨nd, rfl⟩⟩
      go_wp2_with fail
      refine (need_ok 5 _).mono ?_
      rintro e' w' ⟨rfl, rfl⟩
      have E1 := blk_drewN D1 nd
      have E2 := pw_below_drewN D2 nd
      generalize W1.drewN nd = W2 at E1 E2 ⊢
      clear D1 D2
      have hn : (l.length : Int) ≤ 8388272 := Int.le_trans (of_decide_eq_true hm) (most_le rom h80 (of_decide_eq_true h8))
      have hw1 : wrap64 (336 + (l.length : Int)) = 336 + (l.length : Int) := by unfold wrap64; omega
      have hgt : w.heap.size < W2.heap.size := blk_lt E1
      obtain ⟨w3, hmk, R3, K3, B3⟩ := makeRow W2 l.length hn
      have E1 := K3 _ _ _ E1
      have E2 := B3 w E2
      generalize W2.heap.size = g at hgt hmk R3
      have hne : ¬ w.heap.size = g := by omega
      have hz1 : (List.replicate (336 + l.length) (0 : Int)).length = 336 + l.length := by simp
      obtain ⟨w4, hc4, R4, K4, B4⟩ := R3.copyStr 256 80 ⟨#[0, 195, 80, 1]⟩ (by decide) (by rw [hz1]; show 256 + 4 ≤ _; omega)
      have hz2 : (splice (List.replicate (336 + l.length) 0) 256 (bytesOf ⟨#[0, 195, 80, 1]⟩)).length = 336 + l.length := by rw [length_splice _ _ _ (by rw [hz1, bytesOf_length]; show 256 + 4 ≤ _; omega), hz1]
      obtain ⟨w5, hc5, R5, K5, B5⟩ := R4.copyStr 308 28 s (by omega) (by rw [hz2]; omega)
      have hz3 : (splice (splice (List.replicate (336 + l.length) 0) 256 (bytesOf ⟨#[0, 195, 80, 1]⟩)) 308 (bytesOf s)).length = 336 + l.length := by rw [length_splice _ _ _ (by rw [hz2, bytesOf_length]; omega), hz2]
      have E1 := (K5 _ hne).trans ((K4 _ hne).trans E1)
      have E2 := B5 _ _ (by omega) (B4 _ _ (by omega) E2)
      have x327 := R5.cell 327 (by rw [hz3]; omega)
      have x328 := R5.cell 328 (by rw [hz3]; omega)
      have x329 := R5.cell 329 (by rw [hz3]; omega)
      have fz := fun i => R5.frozen i
      go_wp2_with fail
      have R6 := ((R5.put 327 kd).put 328 rom).put 329 ram
      have E1 : (((w5.setCell ⟨g, 327, none⟩ (.int .u8 kd)).setCell ⟨g, 328, none⟩ (.int .u8 rom)).setCell ⟨g, 329, none⟩ (.int .u8 ram)).heap[w.heap.size]? = some (.cells #[.int .i64 0] 26 (0, 0)) := blk_far (blk_far (blk_far E1 hne _) hne _) hne _
      have E2 : Below w.heap.size w (((w5.setCell ⟨g, 327, none⟩ (.int .u8 kd)).setCell ⟨g, 328, none⟩ (.int .u8 rom)).setCell ⟨g, 329, none⟩ (.int .u8 ram)) := below_set (below_set (below_set E2 (by omega)) (by omega)) (by omega)
      clear x327 x328 x329 fz hc4 hc5 hmk R3 R4 R5 K3 K4 K5 B3 B4 B5
      generalize (((w5.setCell ⟨g, 327, none⟩ (.int .u8 kd)).setCell ⟨g, 328, none⟩ (.int .u8 rom)).setCell ⟨g, 329, none⟩ (.int .u8 ram)) = w6 at R6 E1 E2 ⊢
      have hz4 : ((((splice (splice (List.replicate (336 + l.length) 0) 256 (bytesOf ⟨#[0, 195, 80, 1]⟩)) 308 (bytesOf s)).set 327 kd).set 328 rom).set 329 ram).length = 336 + l.length := by rw [List.length_set, List.length_set, List.length_set, hz3]
      have hl3 : (((((splice (splice (List.replicate (336 + l.length) 0) 256 (bytesOf ⟨#[0, 195, 80, 1]⟩)) 308 (bytesOf s)).set 327 kd).set 328 rom).set 329 ram).take 336).length = 336 := by rw [List.length_take, hz4]; omega
      have q := header_sum.calls (some ⟨g, 0, none⟩) (336 + l.length) (((((splice (splice (List.replicate (336 + l.length) 0) 256 (bytesOf ⟨#[0, 195, 80, 1]⟩)) 308 (bytesOf s)).set 327 kd).set 328 rom).set 329 ram).take 336) (sumTo (((((splice (splice (List.replicate (336 + l.length) 0) 256 (bytesOf ⟨#[0, 195, 80, 1]⟩)) 308 (bytesOf s)).set 327 kd).set 328 rom).set 329 ram).take 336) 25) w6 (by rw [hl3]; exact R6.reads 336 (by omega) (by omega)) (by rw [hl3]; omega) (by unfold header_sum.f; rw [if_pos (by rw [hl3]; omega)])
      rw [hl3] at q
      refine q.mono ?_
      clear q
      rintro e' w' ⟨rfl, hw⟩
      replace hw := hw.symm
      subst hw
      have x333 := R6.cell 333 (by rw [hz4]; omega)
      have fz := fun i => R6.frozen i
      have R7 := R6.put 333 (sumTo (((((splice (splice (List.replicate (336 + l.length) 0) 256 (bytesOf ⟨#[0, 195, 80, 1]⟩)) 308 (bytesOf s)).set 327 kd).set 328 rom).set 329 ram).take 336) 25)
      have E1 := blk_far (p := ⟨g, 333, none⟩) E1 hne (.int .u8 (sumTo (((((splice (splice (List.replicate (336 + l.length) 0) 256 (bytesOf ⟨#[0, 195, 80, 1]⟩)) 308 (bytesOf s)).set 327 kd).set 328 rom).set 329 ram).take 336) 25))
      have E2 := below_set (j := 333) (v := .int .u8 (sumTo (((((splice (splice (List.replicate (336 + l.length) 0) 256 (bytesOf ⟨#[0, 195, 80, 1]⟩)) 308 (bytesOf s)).set 327 kd).set 328 rom).set 329 ram).take 336) 25)) E2 (show w.heap.size ≤ g by omega)
      have hz7 : (((((splice (splice (List.replicate (336 + l.length) 0) 256 (bytesOf ⟨#[0, 195, 80, 1]⟩)) 308 (bytesOf s)).set 327 kd).set 328 rom).set 329 ram).set 333 (sumTo (((((splice (splice (List.replicate (336 + l.length) 0) 256 (bytesOf ⟨#[0, 195, 80, 1]⟩)) 308 (bytesOf s)).set 327 kd).set 328 rom).set 329 ram).take 336) 25)).length = 336 + l.length := by rw [List.length_set, hz4]
      obtain ⟨w8, ha, R8, K8, B8⟩ := R7.append 336 (336 + l.length) A c l (Kd.C_below HR.out E2) (Nat.le_refl _) (by rw [hz7]; omega)
      have E1 := (K8 _ hne).trans E1
      have E2 := B8 _ _ (by omega) E2
      have hz8 : (splice (((((splice (splice (List.replicate (336 + l.length) 0) 256 (bytesOf ⟨#[0, 195, 80, 1]⟩)) 308 (bytesOf s)).set 327 kd).set 328 rom).set 329 ram).set 333 (sumTo (((((splice (splice (List.replicate (336 + l.length) 0) 256 (bytesOf ⟨#[0, 195, 80, 1]⟩)) 308 (bytesOf s)).set 327 kd).set 328 rom).set 329 ram).take 336) 25)) 336 l).length = 336 + l.length := by rw [length_splice _ _ _ (by rw [hz7]; omega), hz7]
      go_wp2_with (at_builtin; refine wpList_append_run rfl _ _ 22 rfl _ _ _ rfl rfl ha ?_)
      have q := header_Whole.calls kW (some ⟨g, 0, none⟩) (336 + l.length) (splice (((((splice (splice (List.replicate (336 + l.length) 0) 256 (bytesOf ⟨#[0, 195, 80, 1]⟩)) 308 (bytesOf s)).set 327 kd).set 328 rom).set 329 ram).set 333 (sumTo (((((splice (splice (List.replicate (336 + l.length) 0) 256 (bytesOf ⟨#[0, 195, 80, 1]⟩)) 308 (bytesOf s)).set 327 kd).set 328 rom).set 329 ram).take 336) 25)) 336 l) wv w8 (by rw [hz8]; have z := R8.reads (336 + l.length) (by omega) (by omega); rwa [List.take_of_length_le (by omega)] at z) (by rw [hz8]; omega) hW
      rw [hz8] at q
      refine q.mono ?_
      clear q
      rintro e' w' ⟨rfl, ⟨nW, rfl⟩⟩
      have R9 : RowL (w8.drewN nW) g (splice (((((splice (splice (List.replicate (336 + l.length) 0) 256 (bytesOf ⟨#[0, 195, 80, 1]⟩)) 308 (bytesOf s)).set 327 kd).set 328 rom).set 329 ram).set 333 (sumTo (((((splice (splice (List.replicate (336 + l.length) 0) 256 (bytesOf ⟨#[0, 195, 80, 1]⟩)) 308 (bytesOf s)).set 327 kd).set 328 rom).set 329 ram).take 336) 25)) 336 l) := blk_drewN R8 nW
      have E1 := blk_drewN E1 nW
      have E2 := pw_below_drewN E2 nW
      clear ha R6 R7 R8 K8 B8 x333 fz
      generalize w8.drewN nW = w9 at R9 E1 E2 ⊢
      have x334 := R9.cell 334 (by rw [hz8]; omega)
      have x335 := R9.cell 335 (by rw [hz8]; omega)
      have fz := fun i => R9.frozen i
      have e0 : w9.cell? ⟨w.heap.size, 0, none⟩ = some (.int .i64 0) := (blk_cell E1 0).trans rfl
      have fe := fun i => blk_frozen E1 i
      have hne2 : ¬ g = w.heap.size := by omega
      have hwa : (334 : Int) < 336 + (l.length : Int) := by omega
      have hwb : (335 : Int) < 336 + (l.length : Int) := by omega
      go_wp2_with fail
      have R10 := ((R9.put 334 (wv / 256 % 256)).put 335 (wv % 256)).far hne2 0 (.int .i64 0)
      have m1 : (((w9.setCell ⟨g, 334, none⟩ (.int .u8 (wv / 256 % 256))).setCell ⟨g, 335, none⟩ (.int .u8 (wv % 256))).setCell ⟨w.heap.size, 0, none⟩ (.int .i64 0)).heap[w.heap.size]? = some (.cells #[.int .i64 0] 26 (0, 0)) := blk_put (blk_far (blk_far E1 hne _) hne _) 0 _ rfl
      have m2 : Below w.heap.size w (((w9.setCell ⟨g, 334, none⟩ (.int .u8 (wv / 256 % 256))).setCell ⟨g, 335, none⟩ (.int .u8 (wv % 256))).setCell ⟨w.heap.size, 0, none⟩ (.int .i64 0)) := below_set (below_set (below_set E2 (by omega)) (by omega)) (Nat.le_refl _)
      clear x334 x335 fz e0 fe hwa hwb E1 E2 R9
      generalize (((w9.setCell ⟨g, 334, none⟩ (.int .u8 (wv / 256 % 256))).setCell ⟨g, 335, none⟩ (.int .u8 (wv % 256))).setCell ⟨w.heap.size, 0, none⟩ (.int .i64 0)) = Y at R10 m1 m2 ⊢
      have v0 : Y.cell? ⟨w.heap.size, 0, none⟩ = some (.int .i64 0) := (blk_cell m1 0).trans rfl
      have hz10 : (((splice (((((splice (splice (List.replicate (336 + l.length) 0) 256 (bytesOf ⟨#[0, 195, 80, 1]⟩)) 308 (bytesOf s)).set 327 kd).set 328 rom).set 329 ram).set 333 (sumTo (((((splice (splice (List.replicate (336 + l.length) 0) 256 (bytesOf ⟨#[0, 195, 80, 1]⟩)) 308 (bytesOf s)).set 327 kd).set 328 rom).set 329 ram).take 336) 25)) 336 l).set 334 (wv / 256 % 256)).set 335 (wv % 256)).length = 336 + l.length := by rw [List.length_set, List.length_set, hz8]
      have hv := R10.row (base := w.heap.size) (by omega) (by rw [hz10]; simp only [maxLen]; omega)
      rw [hz10] at hv
      refine leaves_cons (f := 77) (args := #[.pointer (some ⟨w.heap.size, 0, none⟩)]) (by simp) (by simp [go_sem]) ?_
      refine (make_idle ⟨w.heap.size, 0, none⟩ _).mono ?_
      rintro e u' w'' ⟨rfl, rfl, rfl⟩
      simp [Leaves, settle, results, Try.results52, go_sem, v0]
      exact ⟨hv, m2⟩

    have hb := hpr j (by omega)
    have p9 : 0 ≤ (j : Int) := by omega
    have q9 : (j : Int) < (s.size : Int) := by omega
    have hx9 := bt_at s (j : Int)
    have q9' := q9
    replace p9 := eq_true p9
    replace q9 := eq_true q9
    have hjs : j < s.size := by omega
    have hbt : bt s (j : Int) = ((s[j]'hjs).toNat : Int) := by simp [bt, hjs]
    rw [hbt] at hb
    clear hx9
    go_wp2_with fail
    (with_reducible refine (header_printable.calls _ _ _ (prb_calls _)).mono ?_)
    rintro e' w' ⟨rfl, ⟨nd, rfl⟩⟩
    rw [hb]
    go_wp2_with fail
    refine (need_ok 1 _).mono ?_
    rintro e' w' ⟨rfl, rfl⟩
    go_wp2_with fail
    exact ⟨⟨j + 1, by simp, Aside0.mk ⟨by omega, blk_drewN z1 nd, pw_below_drewN z2 nd⟩⟩, by simp [intOf]; omega⟩
end Go.Proofs.Ytmjjojbedllmgaa.Hand
end
section
namespace Go.Proofs.Ytmjjojbedllmgaa.Hand
open Go.RowKit
open Go.Proofs.Ytmjjojbedllmgaa.G
open Go.Proofs.YtmjjojbedllmgaaW.PrintWords Go.Proofs.YtmjjojbedllmgaaW.PrintLast Go.Proofs.YtmjjojbedllmgaaW.PrintMore
set_option linter.unusedVariables false
set_option linter.unusedSimpArgs false
def titleOk (s : ByteArray) : Bool := (List.range s.size).all fun i => prb (bt s (i : Int))
theorem first_no (p : Nat → Bool) : ∀ n, (∃ i, i < n ∧ p i = false) → ∃ j, j < n ∧ (∀ i, i < j → p i = true) ∧ p j = false
  | 0, h => by obtain ⟨i, hi, _⟩ := h; omega
  | n + 1, h => by
    by_cases q : ∃ i, i < n ∧ p i = false
    · obtain ⟨j, hj, h1, h2⟩ := first_no p n q
      exact ⟨j, by omega, h1, h2⟩
    · obtain ⟨i, hi, hp⟩ := h
      have hin : i = n := by
        rcases Nat.lt_or_ge i n with z | z
        · exact absurd ⟨i, z, hp⟩ q
        · omega
      subst hin
      refine ⟨i, by omega, fun k hk => ?_, hp⟩
      cases e : p k with
      | true => rfl
      | false => exact absurd ⟨k, hk, e⟩ q
theorem titleOk_iff (s : ByteArray) : titleOk s = true ↔ ∀ i : Nat, i < s.size → prb (bt s (i : Int)) = true := by
  unfold titleOk
  rw [List.all_eq_true]
  constructor
  · intro h i hi; exact h i (List.mem_range.mpr hi)
  · intro h i hi; exact h i (List.mem_range.mp hi)
def makeL (s : ByteArray) (kd rom ram : Int) (l : List Int) : List Int := (splice (((((splice (splice (List.replicate (336 + l.length) 0) 256 (bytesOf ⟨#[0, 195, 80, 1]⟩)) 308 (bytesOf s)).set 327 kd).set 328 rom).set 329 ram).set 333 (sumTo (((((splice (splice (List.replicate (336 + l.length) 0) 256 (bytesOf ⟨#[0, 195, 80, 1]⟩)) 308 (bytesOf s)).set 327 kd).set 328 rom).set 329 ram).take 336) 25)) 336 l)
def header_Make.f (s : ByteArray) (kd rom ram : Int) (l : List Int) : Option (List Int × Int) :=
  if (s.size : Int) ≤ 16 then
    if titleOk s = true then
      if 0 ≤ kd ∧ kd ≤ 255 ∧ 0 ≤ rom then
        if (wareT kd).2.2.2.2 = true then
          if rom ≤ 8 ∧ ram ≤ 5 ∧ (l.length : Int) ≤ wrap64 (shl .i64 32768 rom - 336) then
            (header_Whole.f (337 + l.length) (makeL s kd rom ram l)).bind fun wv => some (((makeL s kd rom ram l).set 334 (wv / 256 % 256)).set 335 (wv % 256), 0)
          else some ([], 5)
        else some ([], 4)
      else none
    else some ([], 1)
  else some ([], 1)
theorem of_refused {f : FuncId} {args : Array Value} {w : World} {n : Int} (h : Calls Try.prog f args w fun e' w' => e' = .returned (.tuple #[.slice none 0 0, .int .i64 n]) ∧ Below w.heap.size w w') :
    Calls Try.prog f args w fun e w' => ∃ v0_ : Value, e = .returned (.tuple #[v0_, .int .i64 n]) ∧ Kd.R (Kd.int .u8) 5 w' w.heap.size (fun _ => True) v0_ [] ∧ Below w.heap.size w w' :=
  h.mono fun _ _ ⟨e, b⟩ => ⟨_, e, Kd.R_nil _ _ _ _ _, b⟩
theorem header_Make.calls (a0 : ByteArray) (a1 a2 a3 : Int) (A4 : Option Addr) (c4 : Nat) (l4 : List Int) (r1 : List Int) (r2 : Int) (w : World) (hr4 : Kd.C (Kd.int .u8) w A4 l4.length l4) (hc4 : l4.length ≤ c4) (h : header_Make.f a0 a1 a2 a3 l4 = some (r1, r2)) :
    Calls Try.prog 52 #[.string a0, .int .u8 a1, .int .u8 a2, .int .u8 a3, .slice A4 l4.length c4] w fun e w' => ∃ v0_ : Value, e = .returned (.tuple #[v0_, .int .i64 r2]) ∧ Kd.R (Kd.int .u8) 5 w' w.heap.size (fun _ => True) v0_ r1 ∧ Below w.heap.size w w' := by
  unfold header_Make.f at h
  by_cases hs : (a0.size : Int) ≤ 16
  case neg =>
    rw [if_neg hs] at h
    cases h
    exact of_refused (hmake_long a0 a1 a2 a3 A4 c4 l4 w hr4 hc4 hs)
  rw [if_pos hs] at h
  by_cases ht : titleOk a0 = true
  case neg =>
    rw [if_neg ht] at h
    cases h
    have hex : ∃ i, i < a0.size ∧ (fun i : Nat => prb (bt a0 (i : Int))) i = false := by
      refine Classical.byContradiction fun q => ht ((titleOk_iff a0).mpr fun i hi => ?_)
      cases e : prb (bt a0 (i : Int)) with
      | true => rfl
      | false => exact absurd ⟨i, hi, e⟩ q
    obtain ⟨j, hj, h1, h2⟩ := first_no _ _ hex
    exact of_refused (hmake_sign a0 a1 a2 a3 A4 c4 l4 w hr4 hc4 hs j (by omega) h1 h2)
  rw [if_pos ht] at h
  have hpr := (titleOk_iff a0).mp ht
  by_cases hk : 0 ≤ a1 ∧ a1 ≤ 255 ∧ 0 ≤ a2
  case neg => rw [if_neg hk] at h; cases h
  rw [if_pos hk] at h
  obtain ⟨k1, k2, k3⟩ := hk
  by_cases hok : (wareT a1).2.2.2.2 = true
  case neg =>
    rw [if_neg hok] at h
    cases h
    exact of_refused (hmake_kind a0 a1 a2 a3 A4 c4 l4 w hr4 hc4 hs hpr ⟨k1, k2⟩ (Bool.eq_false_iff.mpr hok))
  rw [if_pos hok] at h
  by_cases h8 : a2 ≤ 8
  case neg =>
    rw [if_neg (fun z => h8 z.1)] at h
    cases h
    exact of_refused (hmake_size_a a0 a1 a2 a3 A4 c4 l4 w hr4 hc4 hs hpr ⟨k1, k2⟩ hok (decide_eq_false h8))
  by_cases h5 : a3 ≤ 5
  case neg =>
    rw [if_neg (fun z => h5 z.2.1)] at h
    cases h
    exact of_refused (hmake_size_b a0 a1 a2 a3 A4 c4 l4 w hr4 hc4 hs hpr ⟨k1, k2⟩ hok (decide_eq_true h8) (decide_eq_false h5))
  by_cases hm : (l4.length : Int) ≤ wrap64 (shl .i64 32768 a2 - 336)
  case neg =>
    rw [if_neg (fun z => hm z.2.2)] at h
    cases h
    exact of_refused (hmake_size_c a0 a1 a2 a3 A4 c4 l4 w hr4 hc4 hs hpr ⟨k1, k2⟩ hok k3 (decide_eq_true h8) (decide_eq_true h5) (decide_eq_false hm))
  rw [if_pos ⟨h8, h5, hm⟩] at h
  obtain ⟨wv, hW, h⟩ := Option.bind_eq_some_iff.mp h
  cases h
  exact hmake_ok a0 a1 a2 a3 A4 c4 l4 w hr4 hc4 hs hpr ⟨k1, k2⟩ hok k3 (decide_eq_true h8) (decide_eq_true h5) (decide_eq_true hm) _ wv hW
end Go.Proofs.Ytmjjojbedllmgaa.Hand
end
section
namespace Go.Proofs.Ytmjjojbedllmgaa.G
open Go.RowKit Go.Proofs.YtmjjojbedllmgaaW.PrintWords Go.Proofs.YtmjjojbedllmgaaW.PrintLast Go.Proofs.YtmjjojbedllmgaaW.PrintMore
set_option linter.unusedVariables false
set_option linter.unusedSimpArgs false
open Go.Proofs.Ytmjjojbedllmgaa.Hand
def whirligiglaw10_made.f (a0 : Int) (a1 : Int) : Option (List Int) := (header_Make.f (⟨#[83, 72, 79, 87, 78]⟩ : ByteArray) a0 0 a1 (([1, 2, 3] : List Int))).bind fun bt124 => (some bt124.1)
set_option maxHeartbeats 8000000 in
set_option maxRecDepth 100000 in
theorem whirligiglaw10_made.calls (a0 : Int) (a1 : Int) (r : List Int) (w : World) (h : whirligiglaw10_made.f a0 a1 = some r) :
    Calls Try.prog 27 #[.int .u8 a0, .int .u8 a1] w fun e w' => ∃ v0_ : Value, e = .returned (v0_) ∧ Kd.R (Kd.int .u8) 5 w' w.heap.size (fun _ => True) v0_ r ∧ Below w.heap.size w w' := by
  have HB := Aside0.mk (Below.refl w.heap.size w)
  have H : ((header_Make.f (⟨#[83, 72, 79, 87, 78]⟩ : ByteArray) a0 0 a1 (([1, 2, 3] : List Int))).bind fun bt124 => (some bt124.1)) = some r := h
  clear h
  obtain ⟨y121, hy121⟩ : ∃ y_ : List Int, y_ = (([1, 2, 3] : List Int)) := ⟨_, rfl⟩
  replace H : ((header_Make.f (⟨#[83, 72, 79, 87, 78]⟩ : ByteArray) a0 0 a1 y121).bind fun bt124 => (some bt124.1)) = some r := by first | (rw [hy121]; with_reducible exact H) | (have H2_ := (Option.bind_some _ _).symm.trans H; rw [hy121]; with_reducible exact H2_) | (have H2_ := (Option.bind_some _ _).symm.trans H; with_reducible exact H2_) | with_reducible exact H | (rw [hy121]; exact H) | exact H
  have Ny121 := Aside0.mk hy121
  clear hy121
  replace H := Option.bind_eq_some_iff.mp H
  obtain ⟨⟨t124, t125⟩, A30, H⟩ := H
  replace H : (some t124) = some r := H
  have A3 := Aside0.mk A30
  clear A30
  obtain rfl := Option.some.inj H
  go_enter Try.func27, Try.ntmps27
  go_wp2_with (first | ((with_reducible refine gate_dst (N := 10) rfl ?_); refine Kd.R_lit (Kd.int .u8) _ 5 ?hg (N := 10) ?hd (xs := ([1, 2, 3] : List Int)) (inner := [.int .u8 1, .int .u8 2, .int .u8 3]) (ok := fun _ => True) (okp := fun _ => True) ?hr ?hp (fun _ hk => hk) trivial (Below.refl _ _) (Nat.le_refl _) (by simp) ?_; (case hd => rfl); (case hg => rfl); (case hr => first | (go_simp; done) | (go_simp; rfl)); (case hp => exact (Reps.one (show Kd.M (Kd.int .u8) _ _ _ 1 [.int .u8 1] from rfl) (Reps.one (show Kd.M (Kd.int .u8) _ _ _ 2 [.int .u8 2] from rfl) (Reps.one (show Kd.M (Kd.int .u8) _ _ _ 3 [.int .u8 3] from rfl) (Reps.none _ _))))); intro v122 w4 ho5 hb hg_ hnew_; clear hg_ hnew_; (first | rw [← Ny121.out] at ho5 | (simp only [Int.reduceToNat] at ho5; rw [← Ny121.out] at ho5)); have n0_ := Aside0.mk (Kd.R_lower ho5 (below_size (by repeat (first | (with_reducible first | exact HB.out | apply below_alloc | apply pw_below_drewN | apply below_drew1) | exact HB.out)))); have n1_ := Aside0.mk (below_step (by repeat (first | (with_reducible first | exact HB.out | apply below_alloc | apply pw_below_drewN | apply below_drew1) | exact HB.out)) hb); clear HB; have HO123 := n0_; have HB := n1_; clear n0_ n1_; clear hb ho5; obtain ⟨Ao6, co6, eo6⟩ := Kd.R_slice HO123.out; subst eo6) | ((with_reducible refine gate_callee (f := 52) rfl ?_); refine goesL_ (some 11) rfl rfl Try.func52 (by kernel_rfl) rfl #[.string (⟨#[83, 72, 79, 87, 78]⟩ : ByteArray), .int .u8 a0, .int .u8 0, .int .u8 a1, .slice Ao6 y121.length co6] rfl (by (try simp only [List.map_toArray, List.map_cons, List.map_nil]); first | done | rfl | (simp only [List.length_drop, List.length_take]; rfl)) ?_; (with_reducible refine (header_Make.calls (⟨#[83, 72, 79, 87, 78]⟩ : ByteArray) a0 0 a1 _ _ y121 t124 t125 _ ?side1 ?side2 A3.out).mono ?_); (case side1 => repeat (first | exact (Kd.R_reads' HO123.out).2.2 | (with_reducible refine Kd.C_alloc ?_ _) | (with_reducible refine Kd.C_drewN ?_ _) | (with_reducible refine Kd.C_drew ?_))); (case side2 => exact (Kd.R_reads' HO123.out).2.1); rintro e w7 ⟨v126, rfl, ho0, hb⟩; refine ⟨_, rfl, ?_⟩; have n0_ := Aside0.mk (Kd.R_elder' (by (with_reducible repeat (first | apply Kd.R_alloc | apply Kd.R_drewN | apply Kd.R_drew)); exact HO123.out) (Kd.R_base ho0) hb); have n1_ := Aside0.mk (Kd.R_lower (Kd.R_new' ho0 (Kd.R_lt (by (with_reducible repeat (first | apply Kd.R_alloc | apply Kd.R_drewN | apply Kd.R_drew)); exact HO123.out))) (below_size (by repeat (first | (with_reducible first | exact HB.out | apply below_alloc | apply pw_below_drewN | apply below_drew1) | exact HB.out)))); have n2_ := Aside0.mk (below_step (by repeat (first | (with_reducible first | exact HB.out | apply below_alloc | apply pw_below_drewN | apply below_drew1) | exact HB.out)) hb); clear HO123; clear HB; have HO123 := n0_; have HO127 := n1_; have HB := n2_; clear n0_ n1_ n2_; (try clear hb); (try clear hb2); (try clear hk); (try clear hi); (try clear ho0)))
  go_ret
  exact ⟨_, by first | rfl | (simp [errW_none, errW_some] <;> rfl) | (simp [*, errW_none, errW_some] <;> rfl), by (with_reducible repeat (first | apply Kd.R_alloc | apply Kd.R_drewN | apply Kd.R_drew)); exact Kd.R_mono HO127.out (fun _ hk => trivial), by repeat (first | (with_reducible first | exact HB.out | apply below_alloc | apply pw_below_drewN | apply below_drew1) | exact HB.out)⟩
end Go.Proofs.Ytmjjojbedllmgaa.G
end
section
namespace Go.Proofs.Ytmjjojbedllmgaa.Hand
open Go.RowKit
open Go.Proofs.Ytmjjojbedllmgaa.G
open Go.Proofs.YtmjjojbedllmgaaW.PrintWords Go.Proofs.YtmjjojbedllmgaaW.PrintLast Go.Proofs.YtmjjojbedllmgaaW.PrintMore
set_option linter.unusedVariables false
set_option linter.unusedSimpArgs false
set_option maxRecDepth 100000
def madeL (k : Int) : List Int := (whirligiglaw10_made.f k 2).getD []
theorem made_is2 : whirligiglaw10_made.f 2 2 = some (madeL 2) ∧ headE (madeL 2) = 0 ∧ ((madeL 2).all fun x => decide (0 ≤ x) && decide (x ≤ 255)) = true := by decide +kernel
theorem made_is16 : whirligiglaw10_made.f 16 2 = some (madeL 16) ∧ headE (madeL 16) = 0 ∧ ((madeL 16).all fun x => decide (0 ≤ x) && decide (x ≤ 255)) = true := by decide +kernel
theorem bytes_all {l : List Int} (h : (l.all fun x => decide (0 ≤ x) && decide (x ≤ 255)) = true) : Bytes l := by
  intro x hx
  have q := List.all_eq_true.mp h x hx
  simpa using q
def sc0 : Ct := (newC (madeL 2))
def sc1 : Ct := (sc0.write 40960 5)
def sc2 : Ct := (sc1.write 0 10)
def sc3 : Ct := (sc2.write 40960 5)
def sd0 : Ct := (newC (madeL 16))
def sd1 : Ct := (sd0.write 0 10)
def sd2 : Ct := (sd1.write 16384 8)
def sd3 : Ct := sd2.tick
def sd4 : Ct := (sd3.write 24576 0)
def sd5 : Ct := (sd4.write 24576 1)
theorem sc0_ok : sc0.Ok := newC_ok (bytes_all made_is2.2.2) made_is2.2.1
theorem sc1_ok : sc1.Ok := sc0_ok.write _ _ (by decide)
theorem sc2_ok : sc2.Ok := sc1_ok.write _ _ (by decide)
theorem sc3_ok : sc3.Ok := sc2_ok.write _ _ (by decide)
theorem sd0_ok : sd0.Ok := newC_ok (bytes_all made_is16.2.2) made_is16.2.1
theorem sd1_ok : sd1.Ok := sd0_ok.write _ _ (by decide)
theorem sd2_ok : sd2.Ok := sd1_ok.write _ _ (by decide)
theorem sd3_ok : sd3.Ok := sd2_ok.tick
theorem sd4_ok : sd4.Ok := sd3_ok.write _ _ (by decide)
theorem sd5_ok : sd5.Ok := sd4_ok.write _ _ (by decide)
theorem sc_reads : sc1.read 40960 = 255 ∧ sc3.read 40960 = 5 ∧ sc3.read 336 = 1 := by decide +kernel
theorem sd_reads : sd3.read 40960 = 0 ∧ sd5.read 40960 = 1 := by decide +kernel
set_option maxHeartbeats 4000000 in
theorem shown_at (w : World) : Calls Try.prog 9 #[] w fun e w' => e = .returned (.bool true) ∧ Below w.heap.size w w' := by
  go_enter Try.func9, Try.ntmps9
  go_wp2_with fail
  refine (whirligiglaw10_made.calls 2 2 (madeL 2) _ made_is2.1).mono ?_
  rintro e' w1 ⟨v0, rfl, hR, hb⟩
  obtain ⟨A, c, rfl⟩ := Kd.R_slice hR
  obtain ⟨-, hc, hC⟩ := Kd.R_reads' hR
  have HB := Aside0.mk hb
  have HN := Aside0.mk (new_at A c (madeL 2) w1 hC hc (bytes_all made_is2.2.2) made_is2.2.1)
  clear hb hR hC hc
  go_wp2_with fail
  refine HN.out.mono ?_
  rintro e' w2 ⟨a, rfl, hCa, ha1, ha2, ha3, hb⟩
  have CA := Aside0.mk (show CartAt w2 a sc0 from hCa)
  have HA := Aside0.mk (show w.heap.size ≤ a.b ∧ w.heap.size ≤ a.gr from ⟨Nat.le_trans HB.out.size ha1, Nat.le_trans HB.out.size ha3⟩)
  have HB2 := Aside0.mk (below_step HB.out hb)
  clear hCa ha1 ha2 ha3 hb HB HN
  go_wp2_with fail
  refine (whirligiglaw10_made.calls 16 2 (madeL 16) _ made_is16.1).mono ?_
  rintro e' w3 ⟨v0, rfl, hR, hb⟩
  obtain ⟨A, c, rfl⟩ := Kd.R_slice hR
  obtain ⟨-, hc, hC⟩ := Kd.R_reads' hR
  have CA2 := Aside0.mk (CA.out.below hb)
  have HB := Aside0.mk (below_step HB2.out hb)
  have HN := Aside0.mk (new_at _ c (madeL 16) w3 hC hc (bytes_all made_is16.2.2) made_is16.2.1)
  clear CA HB2 hb hR hC hc
  go_wp2_with fail
  refine HN.out.mono ?_
  rintro e' w4 ⟨d, rfl, hCd, hd1, hd2, hd3, hb⟩
  have CD := Aside0.mk (show CartAt w4 d sd0 from hCd)
  have HD := Aside0.mk (show w.heap.size ≤ d.b ∧ w.heap.size ≤ d.gr from ⟨Nat.le_trans HB.out.size hd1, Nat.le_trans HB.out.size hd3⟩)
  have HAD := Aside0.mk (show (a.b < w3.heap.size ∧ a.gi < w3.heap.size ∧ a.gr < w3.heap.size) ∧ w3.heap.size ≤ d.b ∧ w3.heap.size ≤ d.gi ∧ w3.heap.size ≤ d.gr from ⟨⟨CA2.out.ltb, CA2.out.lti, CA2.out.ltr⟩, hd1, hd2, hd3⟩)
  have CA := Aside0.mk (CA2.out.below hb)
  have HB2 := Aside0.mk (below_step HB.out hb)
  clear hCd hd1 hd2 hd3 hb HB HN CA2
  go_wp2_with fail
  refine (write_at CA.out sc0_ok 40960 5 (by decide)).mono ?_
  rintro e' w5 ⟨rfl, hC, hu⟩
  have X := Aside0.mk (show CartAt w5 a sc1 from hC)
  have Y := Aside0.mk (CD.out.other hu _ HAD.out.1.1 HAD.out.1.2.2 HAD.out.2.1 HAD.out.2.2.1 HAD.out.2.2.2)
  have HB := Aside0.mk (upto_step HB2.out (Nat.le_refl _) hu HA.out.1 HA.out.2)
  clear hC hu HB2 CA CD
  have CA := X
  have CD := Y
  clear X Y
  go_wp2_with fail
  refine (read_at CA.out sc1_ok 40960 (by decide)).mono ?_
  rintro e' w6 ⟨rfl, hb⟩
  rw [sc_reads.1]
  have X := Aside0.mk (CA.out.below hb)
  have Y := Aside0.mk (CD.out.below hb)
  have HB2 := Aside0.mk (below_step HB.out hb)
  clear hb HB CA CD
  have CA := X
  have CD := Y
  clear X Y
  go_wp2_with fail
  refine (write_at CA.out sc1_ok 0 10 (by decide)).mono ?_
  rintro e' w7 ⟨rfl, hC, hu⟩
  have X := Aside0.mk (show CartAt w7 a sc2 from hC)
  have Y := Aside0.mk (CD.out.other hu _ HAD.out.1.1 HAD.out.1.2.2 HAD.out.2.1 HAD.out.2.2.1 HAD.out.2.2.2)
  have HB := Aside0.mk (upto_step HB2.out (Nat.le_refl _) hu HA.out.1 HA.out.2)
  clear hC hu HB2 CA CD
  have CA := X
  have CD := Y
  clear X Y
  go_wp2_with fail
  refine (write_at CA.out sc2_ok 40960 5 (by decide)).mono ?_
  rintro e' w8 ⟨rfl, hC, hu⟩
  have X := Aside0.mk (show CartAt w8 a sc3 from hC)
  have Y := Aside0.mk (CD.out.other hu _ HAD.out.1.1 HAD.out.1.2.2 HAD.out.2.1 HAD.out.2.2.1 HAD.out.2.2.2)
  have HB2 := Aside0.mk (upto_step HB.out (Nat.le_refl _) hu HA.out.1 HA.out.2)
  clear hC hu HB CA CD
  have CA := X
  have CD := Y
  clear X Y
  go_wp2_with fail
  refine (write_at CD.out sd0_ok 0 10 (by decide)).mono ?_
  rintro e' w9 ⟨rfl, hC, hu⟩
  have X := Aside0.mk (show CartAt w9 d sd1 from hC)
  have Y := Aside0.mk (CA.out.first hu _ HAD.out.1.1 HAD.out.1.2.1 HAD.out.1.2.2 HAD.out.2.1 HAD.out.2.2.2)
  have HB := Aside0.mk (upto_step HB2.out (Nat.le_refl _) hu HD.out.1 HD.out.2)
  clear hC hu HB2 CA CD
  have CD := X
  have CA := Y
  clear X Y
  go_wp2_with fail
  refine (write_at CD.out sd1_ok 16384 8 (by decide)).mono ?_
  rintro e' w10 ⟨rfl, hC, hu⟩
  have X := Aside0.mk (show CartAt w10 d sd2 from hC)
  have Y := Aside0.mk (CA.out.first hu _ HAD.out.1.1 HAD.out.1.2.1 HAD.out.1.2.2 HAD.out.2.1 HAD.out.2.2.2)
  have HB2 := Aside0.mk (upto_step HB.out (Nat.le_refl _) hu HD.out.1 HD.out.2)
  clear hC hu HB CA CD
  have CD := X
  have CA := Y
  clear X Y
  go_wp2_with fail
  refine (tick_all CD.out).mono ?_
  rintro e' w11 ⟨rfl, hC, hu⟩
  have X := Aside0.mk (show CartAt w11 d sd3 from hC)
  have Y := Aside0.mk (CA.out.first hu _ HAD.out.1.1 HAD.out.1.2.1 HAD.out.1.2.2 HAD.out.2.1 HAD.out.2.2.2)
  have HB := Aside0.mk (upto_step HB2.out (Nat.le_refl _) hu HD.out.1 HD.out.2)
  clear hC hu HB2 CA CD
  have CD := X
  have CA := Y
  clear X Y
  go_wp2_with fail
  refine (read_at CD.out sd3_ok 40960 (by decide)).mono ?_
  rintro e' w12 ⟨rfl, hb⟩
  rw [sd_reads.1]
  have X := Aside0.mk (CA.out.below hb)
  have Y := Aside0.mk (CD.out.below hb)
  have HB2 := Aside0.mk (below_step HB.out hb)
  clear hb HB CA CD
  have CA := X
  have CD := Y
  clear X Y
  go_wp2_with fail
  refine (write_at CD.out sd3_ok 24576 0 (by decide)).mono ?_
  rintro e' w13 ⟨rfl, hC, hu⟩
  have X := Aside0.mk (show CartAt w13 d sd4 from hC)
  have Y := Aside0.mk (CA.out.first hu _ HAD.out.1.1 HAD.out.1.2.1 HAD.out.1.2.2 HAD.out.2.1 HAD.out.2.2.2)
  have HB := Aside0.mk (upto_step HB2.out (Nat.le_refl _) hu HD.out.1 HD.out.2)
  clear hC hu HB2 CA CD
  have CD := X
  have CA := Y
  clear X Y
  go_wp2_with fail
  refine (write_at CD.out sd4_ok 24576 1 (by decide)).mono ?_
  rintro e' w14 ⟨rfl, hC, hu⟩
  have X := Aside0.mk (show CartAt w14 d sd5 from hC)
  have Y := Aside0.mk (CA.out.first hu _ HAD.out.1.1 HAD.out.1.2.1 HAD.out.1.2.2 HAD.out.2.1 HAD.out.2.2.2)
  have HB2 := Aside0.mk (upto_step HB.out (Nat.le_refl _) hu HD.out.1 HD.out.2)
  clear hC hu HB CA CD
  have CD := X
  have CA := Y
  clear X Y
  go_wp2_with fail
  refine (read_at CA.out sc3_ok 40960 (by decide)).mono ?_
  rintro e' w15 ⟨rfl, hb⟩
  rw [sc_reads.2.1]
  have X := Aside0.mk (CA.out.below hb)
  have Y := Aside0.mk (CD.out.below hb)
  have HB := Aside0.mk (below_step HB2.out hb)
  clear hb HB2 CA CD
  have CA := X
  have CD := Y
  clear X Y
  go_wp2_with fail
  refine (read_at CA.out sc3_ok 336 (by decide)).mono ?_
  rintro e' w16 ⟨rfl, hb⟩
  rw [sc_reads.2.2]
  have X := Aside0.mk (CA.out.below hb)
  have Y := Aside0.mk (CD.out.below hb)
  have HB2 := Aside0.mk (below_step HB.out hb)
  clear hb HB CA CD
  have CA := X
  have CD := Y
  clear X Y
  go_wp2_with fail
  refine (read_at CD.out sd5_ok 40960 (by decide)).mono ?_
  rintro e' w17 ⟨rfl, hb⟩
  rw [sd_reads.2]
  have X := Aside0.mk (CA.out.below hb)
  have Y := Aside0.mk (CD.out.below hb)
  have HB := Aside0.mk (below_step HB2.out hb)
  clear hb HB2 CA CD
  have CA := X
  have CD := Y
  clear X Y
  go_wp2_with fail
  go_returns
  exact ⟨rfl, HB.out⟩
end Go.Proofs.Ytmjjojbedllmgaa.Hand
end
section
namespace Go.Proofs.Ytmjjojbedllmgaa.Hand
open Go.RowKit
open Go.Proofs.Ytmjjojbedllmgaa.G
open Go.Proofs.YtmjjojbedllmgaaW.PrintWords Go.Proofs.YtmjjojbedllmgaaW.PrintLast Go.Proofs.YtmjjojbedllmgaaW.PrintMore
set_option linter.unusedVariables false
set_option linter.unusedSimpArgs false
set_option maxRecDepth 100000
theorem take_snoc {α : Type} {l : List α} {j : Nat} {x : α} (h : l[j]? = some x) : l.take (j + 1) = l.take j ++ [x] := by
  obtain ⟨hl, hx⟩ := List.getElem?_eq_some_iff.1 h
  rw [List.take_succ_eq_append_getElem hl, hx]
set_option maxHeartbeats 4000000 in
theorem does_at {w0 w : World} {a : Ad} {s : Ct} (h : CartAt w a s) (ok : s.Ok) (A : Option Addr) (c : Nat) (l : List Act1) (hA : ActsAt w0 A l) (hc : l.length ≤ c) (hb : Below w0.heap.size w0 w) (h0 : w0.heap.size ≤ a.b) (h1 : w0.heap.size ≤ a.gr) :
    Calls Try.prog 16 #[a.p, .slice A l.length c] w fun e w' => e = .returned (.tuple #[]) ∧ CartAt w' a (doesS s (l.take 60)) ∧ Upto a.S w w' := by
  have HH := Aside0.mk h
  have HA := Aside0.mk hA
  have HB := Aside0.mk hb
  have HL := Aside0.mk hA.1
  have OK := Aside0.mk ok
  have H0 := Aside0.mk h0
  have H1 := Aside0.mk h1
  clear h hA hb ok h0 h1 hc
  go_enter Try.func16, Try.ntmps16
  go_wp2_with fail
  go_loopw [4] (fun i w' => ∃ (j : Nat), i = .int .i64 j ∧ Aside0 (j ≤ l.length ∧ j ≤ 60 ∧ CartAt w' a (doesS s (l.take j)) ∧ Upto a.S w w')) (fun i _ => 70 - (intOf i).toNat)
  case atStart => exact ⟨0, rfl, Aside0.mk ⟨by omega, by omega, HH.out, Upto.refl _ _⟩⟩
  case round =>
    obtain ⟨j, rfl, HX⟩ := hrel
    by_cases hj : (j : Int) < (l.length : Int)
    case neg =>
      go_wp2
      go_returns
      obtain ⟨q1, q2, q3, q4⟩ := HX.out
      refine ⟨rfl, ?_, q4⟩
      rw [List.take_of_length_le (by omega)]
      rw [List.take_of_length_le (by omega)] at q3
      exact q3
    by_cases hk : (j : Int) < 60
    case neg =>
      go_wp2
      go_returns
      obtain ⟨q1, q2, q3, q4⟩ := HX.out
      refine ⟨rfl, ?_, q4⟩
      rw [show j = 60 by omega] at q3
      exact q3
    obtain ⟨x, hx⟩ : ∃ x, l[j]? = some x := ⟨_, List.getElem?_eq_getElem (by omega)⟩
    obtain ⟨hxo, ad, rfl, hat0⟩ := HA.out.2 j x hx
    have HW := Aside0.mk (upto_step HB.out (Nat.le_refl _) HX.out.2.2.2 H0.out H1.out)
    have hat := hat0.below HW.out
    have c0 := hat.c0
    have HT := Aside0.mk hat
    have HO := Aside0.mk hat0
    have HXO := Aside0.mk hxo
    have HJ := Aside0.mk hx
    have HOK := Aside0.mk (OK.out.does (l.take j) (fun y hy => HA.out.oks y (List.mem_of_mem_take hy)))
    clear hat hat0 hxo hx
    have rel : ∀ w' : World, CartAt w' a (step1 (doesS s (l.take j)) x) → Upto a.S wr w' → ∃ (j' : Nat), (Value.int .i64 ((j : Int) + 1)) = .int .i64 j' ∧ Aside0 (j' ≤ l.length ∧ j' ≤ 60 ∧ CartAt w' a (doesS s (l.take j')) ∧ Upto a.S w w') := by
      intro w' r1 r2
      refine ⟨j + 1, by simp, Aside0.mk ⟨by omega, by omega, ?_, HX.out.2.2.2.trans r2⟩⟩
      rw [take_snoc HJ.out, doesS_snoc]
      exact r1
    by_cases k2 : x.k = 2
    case pos =>
      have hs : step1 (doesS s (l.take j)) x = (doesS s (l.take j)).write x.ad x.v := by rw [step1, if_pos k2]
      rw [hs] at rel
      rw [k2] at c0
      have c1 := HT.out.c1
      have c2 := HT.out.c2
      have HREL := Aside0.mk rel
      clear rel hs
      go_wp2_with fail
      go_still_tail 11, (by kernel_rfl)
      change wpList _ _ _ _ _ wr.drew
      have C2 := Aside0.mk (HX.out.2.2.1.drew)
      have U2 := Aside0.mk (Upto.drew (Upto.refl a.S wr))
      generalize wr.drew = W2 at C2 U2 ⊢
      go_wp2_with fail
      refine (write_at C2.out HOK.out x.ad x.v ⟨HXO.out.a0, HXO.out.a1⟩).mono ?_
      rintro e' w2 ⟨rfl, hC, hu⟩
      have q := HREL.out w2 hC (U2.out.trans hu)
      clear hC hu
      go_wp2
      exact ⟨q, by simp [intOf]; omega⟩
    case neg =>
    by_cases k3 : x.k = 3
    case pos =>
      have hs : step1 (doesS s (l.take j)) x = (doesS s (l.take j)).tick := by rw [step1, if_neg k2, if_pos k3]
      rw [hs] at rel
      rw [k3] at c0
      have HREL := Aside0.mk rel
      clear rel hs k2
      go_wp2_with fail
      refine (tick_all HX.out.2.2.1).mono ?_
      rintro e' w2 ⟨rfl, hC, hu⟩
      have q := HREL.out w2 hC hu
      clear hC hu
      go_wp2
      exact ⟨q, by simp [intOf]; omega⟩
    case neg =>
    by_cases k5 : x.k = 5
    case pos =>
      have hs : step1 (doesS s (l.take j)) x = (doesS s (l.take j)).loadS x.b := by rw [step1, if_neg k2, if_neg k3, if_pos k5]
      rw [hs] at rel
      rw [k5] at c0
      have c3 := HT.out.c3
      have HREL := Aside0.mk rel
      clear rel hs k2 k3
      go_wp2_with fail
      refine (load_old HX.out.2.2.1 HOK.out x.A x.c x.b HO.out.hb HO.out.hc HW.out H0.out).mono ?_
      rintro e' w2 ⟨rfl, hC, hu⟩
      have q := HREL.out w2 hC hu
      clear hC hu
      go_wp2
      exact ⟨q, by simp [intOf]; omega⟩
    case neg =>
      have hs : step1 (doesS s (l.take j)) x = doesS s (l.take j) := by rw [step1, if_neg k2, if_neg k3, if_neg k5]
      rw [hs] at rel
      have q := rel wr HX.out.2.2.1 (Upto.refl _ _)
      have b2 : (x.k == 2) = false := beq_eq_false_iff_ne.mpr k2
      have b3 : (x.k == 3) = false := beq_eq_false_iff_ne.mpr k3
      have b5 : (x.k == 5) = false := beq_eq_false_iff_ne.mpr k5
      have Q := Aside0.mk q
      clear rel hs k2 k3 k5 q
      go_wp2
      exact ⟨Q.out, by simp [intOf]; omega⟩
set_option maxHeartbeats 4000000 in
theorem does_nil {w0 w : World} (A : Option Addr) (c : Nat) (l : List Act1) (hA : ActsAt w0 A l) (hc : l.length ≤ c) (hb : Below w0.heap.size w0 w) :
    Calls Try.prog 16 #[.pointer none, .slice A l.length c] w fun e w' => e = .returned (.tuple #[]) ∧ Below w.heap.size w w' := by
  have HA := Aside0.mk hA
  have HB := Aside0.mk hb
  have HL := Aside0.mk hA.1
  clear hA hb hc
  go_enter Try.func16, Try.ntmps16
  go_wp2_with fail
  go_loopw [4] (fun i w' => ∃ (j : Nat), i = .int .i64 j ∧ Aside0 (j ≤ l.length ∧ j ≤ 60 ∧ Below w.heap.size w w')) (fun i _ => 70 - (intOf i).toNat)
  case atStart => exact ⟨0, rfl, Aside0.mk ⟨by omega, by omega, Below.refl _ _⟩⟩
  case round =>
    obtain ⟨j, rfl, HX⟩ := hrel
    by_cases hj : (j : Int) < (l.length : Int)
    case neg =>
      go_wp2
      go_returns
      exact ⟨rfl, HX.out.2.2⟩
    by_cases hk : (j : Int) < 60
    case neg =>
      go_wp2
      go_returns
      exact ⟨rfl, HX.out.2.2⟩
    obtain ⟨x, hx⟩ : ∃ x, l[j]? = some x := ⟨_, List.getElem?_eq_getElem (by omega)⟩
    obtain ⟨hxo, ad, rfl, hat0⟩ := HA.out.2 j x hx
    have HW := Aside0.mk (HB.out.trans (HX.out.2.2.mono HB.out.size))
    have hat := hat0.below HW.out
    have c0 := hat.c0
    have HT := Aside0.mk hat
    clear hat hat0 hxo hx
    have rel : ∀ w' : World, Below wr.heap.size wr w' → ∃ (j' : Nat), (Value.int .i64 ((j : Int) + 1)) = .int .i64 j' ∧ Aside0 (j' ≤ l.length ∧ j' ≤ 60 ∧ Below w.heap.size w w') := by
      intro w' r
      exact ⟨j + 1, by simp, Aside0.mk ⟨by omega, by omega, below_step HX.out.2.2 r⟩⟩
    have HREL := Aside0.mk rel
    clear rel
    by_cases k2 : x.k = 2
    case pos =>
      rw [k2] at c0
      have c1 := HT.out.c1
      have c2 := HT.out.c2
      go_wp2_with fail
      go_still_tail 11, (by kernel_rfl)
      change wpList _ _ _ _ _ wr.drew
      have U2 := Aside0.mk (below_drew1 (Below.refl wr.heap.size wr))
      generalize wr.drew = W2 at U2 ⊢
      go_wp2_with fail
      refine (write_nil x.ad x.v _).mono ?_
      rintro e' w2 ⟨rfl, hu⟩
      have q := HREL.out w2 (below_step U2.out hu)
      clear hu
      go_wp2
      exact ⟨q, by simp [intOf]; omega⟩
    case neg =>
    by_cases k3 : x.k = 3
    case pos =>
      rw [k3] at c0
      clear k2
      go_wp2_with fail
      refine (tick_nil _).mono ?_
      rintro e' w2 ⟨rfl, hu⟩
      have q := HREL.out w2 hu
      clear hu
      go_wp2
      exact ⟨q, by simp [intOf]; omega⟩
    case neg =>
    by_cases k5 : x.k = 5
    case pos =>
      rw [k5] at c0
      have c3 := HT.out.c3
      clear k2 k3
      go_wp2_with fail
      refine (load_nil _ _).mono ?_
      rintro e' w2 ⟨rfl, hu⟩
      have q := HREL.out w2 (by rw [hu]; exact Below.refl _ _)
      clear hu
      go_wp2
      exact ⟨q, by simp [intOf]; omega⟩
    case neg =>
      have q := HREL.out wr (Below.refl _ _)
      have b2 : (x.k == 2) = false := beq_eq_false_iff_ne.mpr k2
      have b3 : (x.k == 3) = false := beq_eq_false_iff_ne.mpr k3
      have b5 : (x.k == 5) = false := beq_eq_false_iff_ne.mpr k5
      have Q := Aside0.mk q
      clear k2 k3 k5 q
      go_wp2
      exact ⟨Q.out, by simp [intOf]; omega⟩
end Go.Proofs.Ytmjjojbedllmgaa.Hand
end
section
namespace Go.Proofs.Ytmjjojbedllmgaa.Pure
open Go.RowKit Go.Proofs.Ytmjjojbedllmgaa.G Go.Proofs.Ytmjjojbedllmgaa.Hand
open Go.Proofs.YtmjjojbedllmgaaW.PrintWords Go.Proofs.YtmjjojbedllmgaaW.PrintLast Go.Proofs.YtmjjojbedllmgaaW.PrintMore
set_option maxRecDepth 100000
set_option linter.unusedVariables false
set_option linter.unusedSimpArgs false
theorem u8_and63 (x : Int) (h : 0 ≤ x ∧ x ≤ 255) : Go.bits .and .u8 x 63 = x % 64 :=
  bits_mask .u8 8 (by decide) (fun n a b => by rw [IntKind.wrap_u8]; omega) 6 (by decide) x h.1 (by show x < 256; omega)
theorem u8_and31 (x : Int) (h : 0 ≤ x ∧ x ≤ 255) : Go.bits .and .u8 x 31 = x % 32 :=
  bits_mask .u8 8 (by decide) (fun n a b => by rw [IntKind.wrap_u8]; omega) 5 (by decide) x h.1 (by show x < 256; omega)
theorem u16_and511 (x : Int) (h : 0 ≤ x ∧ x ≤ 65535) : Go.bits .and .u16 x 511 = x % 512 :=
  bits_mask .u16 16 (by decide) (fun n a b => by rw [IntKind.wrap_u16]; omega) 9 (by decide) x h.1 (by show x < 65536; omega)
abbrev C := Int × Int × Int × Int × Bool × Bool
def wide (c : C) : Prop := (0 ≤ c.1 ∧ c.1 ≤ 255) ∧ (0 ≤ c.2.1 ∧ c.2.1 ≤ 255) ∧ (0 ≤ c.2.2.1 ∧ c.2.2.1 ≤ 255) ∧ (0 ≤ c.2.2.2.1 ∧ c.2.2.2.1 ≤ 65535)
def okC (c : C) : Prop := (0 ≤ c.1 ∧ c.1 ≤ 63) ∧ (0 ≤ c.2.1 ∧ c.2.1 ≤ 63) ∧ (0 ≤ c.2.2.1 ∧ c.2.2.1 ≤ 31) ∧ (0 ≤ c.2.2.2.1 ∧ c.2.2.2.1 ≤ 511)
theorem okC.wide {c : C} (h : okC c) : wide c := by
  obtain ⟨h1, h2, h3, h4⟩ := h
  exact ⟨by omega, by omega, by omega, by omega⟩
def nm (c : C) : C := (c.1 % 64, c.2.1 % 64, c.2.2.1 % 32, c.2.2.2.1 % 512, c.2.2.2.2.1, c.2.2.2.2.2)
def tk (c : C) : C :=
  if c.2.2.2.2.1 = true then c else
  if ¬ c.1 = 59 then ((c.1 + 1) % 64, c.2.1, c.2.2.1, c.2.2.2.1, false, c.2.2.2.2.2) else
  if ¬ c.2.1 = 59 then (0, (c.2.1 + 1) % 64, c.2.2.1, c.2.2.2.1, false, c.2.2.2.2.2) else
  if ¬ c.2.2.1 = 23 then (0, 0, (c.2.2.1 + 1) % 32, c.2.2.2.1, false, c.2.2.2.2.2) else
  (0, 0, 0, (c.2.2.2.1 + 1) % 512, false, if c.2.2.2.2.2 = true then true else c.2.2.2.1 == 511)
theorem nm_ok (c : C) : okC (nm c) := by
  unfold okC nm; dsimp only; omega
theorem nm_of {c : C} (h : okC c) : nm c = c := by
  obtain ⟨s, m, hh, d, ht, cy⟩ := c
  unfold okC at h; dsimp only at h
  unfold nm; dsimp only
  rw [show s % 64 = s by omega, show m % 64 = m by omega, show hh % 32 = hh by omega, show d % 512 = d by omega]
theorem tk_ok {c : C} (h : okC c) : okC (tk c) := by
  obtain ⟨s, m, hh, d, ht, cy⟩ := c
  unfold okC at h; dsimp only at h
  unfold okC tk; dsimp only
  split
  · dsimp only; omega
  split
  · dsimp only; omega
  split
  · dsimp only; omega
  split
  · dsimp only; omega
  · dsimp only; omega
theorem norm_prog (c : C) (h : wide c) : clock_Norm.f c.1 c.2.1 c.2.2.1 c.2.2.2.1 c.2.2.2.2.1 c.2.2.2.2.2 = some (nm c) := by
  obtain ⟨h1, h2, h3, h4⟩ := h
  unfold clock_Norm.f nm
  rw [u8_and63 _ h1, u8_and63 _ h2, u8_and31 _ h3, u16_and511 _ h4]
theorem tick_prog (c : C) (h : wide c) : clock_Tick.f c.1 c.2.1 c.2.2.1 c.2.2.2.1 c.2.2.2.2.1 c.2.2.2.2.2 = some (tk (nm c)) := by
  unfold clock_Tick.f
  rw [norm_prog c h]
  have hn := nm_ok c
  generalize nm c = e at hn
  obtain ⟨s, m, hh, d, ht, cy⟩ := e
  unfold okC at hn; dsimp only at hn
  simp only [Option.bind_some]
  unfold tickT tk
  dsimp only
  cases ht with
  | true => simp only [if_true]
  | false =>
    simp only [Bool.false_eq_true, if_false]
    have e : Go.bits .and .u16 (IntKind.u16.wrap (d + 1)) 511 = (d + 1) % 512 := by
      rw [u16_and511 _ (by rw [IntKind.wrap_u16]; omega), IntKind.wrap_u16]; omega
    rw [e]
def rdC (c : C) (r : Int) : Int × Int :=
  if r = 8 then (c.1, 0) else if r = 9 then (c.2.1, 0) else if r = 10 then (c.2.2.1, 0) else if r = 11 then (c.2.2.2.1 % 256, 0) else
  if r = 12 then (Go.bits .or .u8 (Go.bits .or .u8 ((c.2.2.2.1 / 256) % 256) (if c.2.2.2.2.1 = true then 64 else 0)) (if c.2.2.2.2.2 = true then 128 else 0), 0) else (0, 7)
theorem read_prog (c : C) (h : wide c) (r : Int) : clock_Read.f c.1 c.2.1 c.2.2.1 c.2.2.2.1 c.2.2.2.2.1 c.2.2.2.2.2 r = some (rdC (nm c) r) := by
  unfold clock_Read.f rdC
  rw [norm_prog c h]
  simp only [Option.bind_some]
  have hb : ∀ (x : Bool) (n : Int), clock_bit.f x n = some (if x = true then n else 0) := by intro x n; unfold clock_bit.f; cases x <;> rfl
  rw [hb, hb]
  simp only [Option.bind_some]
  split
  · rfl
  split
  · rfl
  split
  · rfl
  split
  · rfl
  split <;> rfl
def five (c : C) : List Int := [(rdC (nm c) 8).1, (rdC (nm c) 9).1, (rdC (nm c) 10).1, (rdC (nm c) 11).1, (rdC (nm c) 12).1]
theorem bytes_prog (c b : C) (hc : wide c) (hb : wide b) : clock_Bytes.f c.1 c.2.1 c.2.2.1 c.2.2.2.1 c.2.2.2.2.1 c.2.2.2.2.2 b.1 b.2.1 b.2.2.1 b.2.2.2.1 b.2.2.2.2.1 b.2.2.2.2.2 = some (five c ++ five b) := by
  unfold clock_Bytes.f
  rw [read_prog c hc 8]
  simp only [Option.bind_some]
  rw [read_prog c hc 9]
  simp only [Option.bind_some]
  rw [read_prog c hc 10]
  simp only [Option.bind_some]
  rw [read_prog c hc 11]
  simp only [Option.bind_some]
  rw [read_prog c hc 12]
  simp only [Option.bind_some]
  rw [read_prog b hb 8]
  simp only [Option.bind_some]
  rw [read_prog b hb 9]
  simp only [Option.bind_some]
  rw [read_prog b hb 10]
  simp only [Option.bind_some]
  rw [read_prog b hb 11]
  simp only [Option.bind_some]
  rw [read_prog b hb 12]
  simp only [Option.bind_some]
  rfl
def wrC (c : C) (r v : Int) : C × Int :=
  if r = 8 then ((v % 64, c.2.1, c.2.2.1, c.2.2.2.1, c.2.2.2.2.1, c.2.2.2.2.2), 0) else
  if r = 9 then ((c.1, v % 64, c.2.2.1, c.2.2.2.1, c.2.2.2.2.1, c.2.2.2.2.2), 0) else
  if r = 10 then ((c.1, c.2.1, v % 32, c.2.2.2.1, c.2.2.2.2.1, c.2.2.2.2.2), 0) else
  if r = 11 then ((c.1, c.2.1, c.2.2.1, c.2.2.2.1 / 256 * 256 + v, c.2.2.2.2.1, c.2.2.2.2.2), 0) else
  if r = 12 then ((c.1, c.2.1, c.2.2.1, c.2.2.2.1 % 256 + v % 2 * 256, v / 64 % 2 == 1, decide (128 ≤ v)), 0) else
  ((0, 0, 0, 0, false, false), 7)
def fl2 (x : C × Int) : Int × Int × Int × Int × Bool × Bool × Int := (x.1.1, x.1.2.1, x.1.2.2.1, x.1.2.2.2.1, x.1.2.2.2.2.1, x.1.2.2.2.2.2, x.2)
theorem v_all : ∀ v : Fin 256, Go.bits .and .u8 (v.val : Int) 1 = (v.val : Int) % 2 ∧ (Go.bits .and .u8 (v.val : Int) 64 != 0) = ((v.val : Int) / 64 % 2 == 1) ∧ (Go.bits .and .u8 (v.val : Int) 128 != 0) = decide (128 ≤ (v.val : Int)) := by decide +kernel
theorem d_all : ∀ (v : Fin 512), Go.bits .and .u16 (v.val : Int) 256 = (v.val : Int) / 256 * 256 ∧ Go.bits .or .u16 (Go.bits .and .u16 (v.val : Int) 255) 0 = (v.val : Int) % 256 ∧ Go.bits .or .u16 (Go.bits .and .u16 (v.val : Int) 255) 256 = (v.val : Int) % 256 + 256 := by decide +kernel
theorem d_fin {d : Int} (h : 0 ≤ d ∧ d ≤ 511) : ∃ v : Fin 512, d = (v.val : Int) := ⟨⟨d.toNat, by omega⟩, by show d = (d.toNat : Int); omega⟩
theorem w16 {x : Int} (h : 0 ≤ x ∧ x ≤ 65535) : IntKind.u16.wrap x = x := by rw [IntKind.wrap_u16]; omega
theorem wrC_ok {c : C} (h : okC c) {v : Int} (hv : 0 ≤ v ∧ v ≤ 255) (r : Int) : okC (wrC c r v).1 := by
  obtain ⟨s, m, hh, d, ht, cy⟩ := c
  unfold okC at h; dsimp only at h
  unfold wrC
  split
  · unfold okC; dsimp only; omega
  split
  · unfold okC; dsimp only; omega
  split
  · unfold okC; dsimp only; omega
  split
  · unfold okC; dsimp only; omega
  split
  · unfold okC; dsimp only; omega
  · unfold okC; dsimp only; omega
theorem write_prog (c : C) (h : wide c) (r v : Int) (hv : 0 ≤ v ∧ v ≤ 255) : clock_Write.f c.1 c.2.1 c.2.2.1 c.2.2.2.1 c.2.2.2.2.1 c.2.2.2.2.2 r v = some (fl2 (wrC (nm c) r v)) := by
  unfold clock_Write.f
  rw [norm_prog c h]
  have hn := nm_ok c
  generalize nm c = e at hn
  obtain ⟨s, m, hh, d, ht, cy⟩ := e
  have hk := hn
  unfold okC at hn; dsimp only at hn
  obtain ⟨b1, b2, b3, b4⟩ := hn
  simp only [Option.bind_some]
  unfold wrC
  obtain ⟨y1, y2, y3⟩ := v_all ⟨v.toNat, by omega⟩
  have ev : ((⟨v.toNat, by omega⟩ : Fin 256).val : Int) = v := by show (v.toNat : Int) = v; omega
  rw [ev] at y1 y2 y3
  have n := fun (c : C) (h : okC c) => norm_prog c h.wide
  by_cases c8 : r = 8
  · rw [if_pos c8, if_pos c8]
    have e1 := norm_prog (v, m, hh, d, ht, cy) ⟨hv, by dsimp only; omega, by dsimp only; omega, by dsimp only; omega⟩
    dsimp only at e1
    rw [e1]
    simp only [Option.bind_some, nm, fl2]
    rw [show m % 64 = m by omega, show hh % 32 = hh by omega, show d % 512 = d by omega]
  rw [if_neg c8, if_neg c8]
  by_cases c9 : r = 9
  · rw [if_pos c9, if_pos c9]
    have e1 := norm_prog (s, v, hh, d, ht, cy) ⟨by dsimp only; omega, hv, by dsimp only; omega, by dsimp only; omega⟩
    dsimp only at e1
    rw [e1]
    simp only [Option.bind_some, nm, fl2]
    rw [show s % 64 = s by omega, show hh % 32 = hh by omega, show d % 512 = d by omega]
  rw [if_neg c9, if_neg c9]
  by_cases c10 : r = 10
  · rw [if_pos c10, if_pos c10]
    have e1 := norm_prog (s, m, v, d, ht, cy) ⟨by dsimp only; omega, by dsimp only; omega, hv, by dsimp only; omega⟩
    dsimp only at e1
    rw [e1]
    simp only [Option.bind_some, nm, fl2]
    rw [show s % 64 = s by omega, show m % 64 = m by omega, show d % 512 = d by omega]
  rw [if_neg c10, if_neg c10]
  by_cases c11 : r = 11
  · rw [if_pos c11, if_pos c11]
    obtain ⟨dv, rfl⟩ := d_fin b4
    rw [(d_all dv).1, w16 (x := v) (by omega), u16_or256 _ _ (by omega) hv.1 (by omega) (by omega)]
    have e1 := norm_prog (s, m, hh, (dv.val : Int) / 256 * 256 + v, ht, cy) ⟨by dsimp only; omega, by dsimp only; omega, by dsimp only; omega, by dsimp only; omega⟩
    dsimp only at e1
    rw [e1]
    simp only [Option.bind_some, nm, fl2]
    rw [show s % 64 = s by omega, show m % 64 = m by omega, show hh % 32 = hh by omega, show ((dv.val : Int) / 256 * 256 + v) % 512 = (dv.val : Int) / 256 * 256 + v by omega]
  rw [if_neg c11, if_neg c11]
  by_cases c12 : r = 12
  · rw [if_pos c12, if_pos c12, y1, y2, y3]
    obtain ⟨dv, rfl⟩ := d_fin b4
    have ed : Go.bits .or .u16 (Go.bits .and .u16 (dv.val : Int) 255) (IntKind.u16.wrap (IntKind.u16.wrap (v % 2) * 256)) = (dv.val : Int) % 256 + v % 2 * 256 := by
      rw [w16 (x := v % 2) (by omega), w16 (x := v % 2 * 256) (by omega)]
      have hv2 : v % 2 = 0 ∨ v % 2 = 1 := by omega
      rcases hv2 with e | e
      · rw [e, show (0 : Int) * 256 = 0 from rfl, (d_all dv).2.1]; omega
      · rw [e, show (1 : Int) * 256 = 256 from rfl, (d_all dv).2.2]
    rw [ed]
    have e1 := norm_prog (s, m, hh, (dv.val : Int) % 256 + v % 2 * 256, v / 64 % 2 == 1, decide (128 ≤ v)) ⟨by dsimp only; omega, by dsimp only; omega, by dsimp only; omega, by dsimp only; omega⟩
    dsimp only at e1
    rw [e1]
    simp only [Option.bind_some, nm, fl2]
    rw [show s % 64 = s by omega, show m % 64 = m by omega, show hh % 32 = hh by omega, show ((dv.val : Int) % 256 + v % 2 * 256) % 512 = (dv.val : Int) % 256 + v % 2 * 256 by omega]
  rw [if_neg c12, if_neg c12]
  rfl
theorem write_ok (c : C) (h : okC c) (r v : Int) (hv : 0 ≤ v ∧ v ≤ 255) : clock_Write.f c.1 c.2.1 c.2.2.1 c.2.2.2.1 c.2.2.2.2.1 c.2.2.2.2.2 r v = some (fl2 (wrC c r v)) := by
  have := write_prog c h.wide r v hv
  rwa [nm_of h] at this
def of5 (a b c d e : Int) : C := (a % 64, b % 64, c % 32, d + e % 2 * 256, e / 64 % 2 == 1, decide (128 ≤ e))
theorem of5_ok (a b c d e : Int) (hd : 0 ≤ d ∧ d ≤ 255) : okC (of5 a b c d e) := by
  unfold okC of5; dsimp only; omega
theorem writes5 (a b c d e : Int) (ha : 0 ≤ a ∧ a ≤ 255) (hb : 0 ≤ b ∧ b ≤ 255) (hc : 0 ≤ c ∧ c ≤ 255) (hd : 0 ≤ d ∧ d ≤ 255) (he : 0 ≤ e ∧ e ≤ 255) :
    clock_Write.f 0 0 0 0 false false 8 a = some (a % 64, 0, 0, 0, false, false, 0) ∧
    clock_Write.f (a % 64) 0 0 0 false false 9 b = some (a % 64, b % 64, 0, 0, false, false, 0) ∧
    clock_Write.f (a % 64) (b % 64) 0 0 false false 10 c = some (a % 64, b % 64, c % 32, 0, false, false, 0) ∧
    clock_Write.f (a % 64) (b % 64) (c % 32) 0 false false 11 d = some (a % 64, b % 64, c % 32, d, false, false, 0) ∧
    clock_Write.f (a % 64) (b % 64) (c % 32) d false false 12 e = some (a % 64, b % 64, c % 32, d + e % 2 * 256, e / 64 % 2 == 1, decide (128 ≤ e), 0) := by
  refine ⟨?_, ?_, ?_, ?_, ?_⟩
  · have := write_ok (0, 0, 0, 0, false, false) (by unfold okC; dsimp only; omega) 8 a ha
    simpa [wrC, fl2] using this
  · have := write_ok (a % 64, 0, 0, 0, false, false) (by unfold okC; dsimp only; omega) 9 b hb
    simpa [wrC, fl2] using this
  · have := write_ok (a % 64, b % 64, 0, 0, false, false) (by unfold okC; dsimp only; omega) 10 c hc
    simpa [wrC, fl2] using this
  · have := write_ok (a % 64, b % 64, c % 32, 0, false, false) (by unfold okC; dsimp only; omega) 11 d hd
    simpa [wrC, fl2] using this
  · have := write_ok (a % 64, b % 64, c % 32, d, false, false) (by unfold okC; dsimp only; omega) 12 e he
    have ed : d % 256 = d := by omega
    simpa [wrC, fl2, ed] using this
theorem high5 : ∀ v : Fin 256, (Go.bits .or .u8 (Go.bits .or .u8 ((v.val : Int) % 2 % 256) (if ((v.val : Int) / 64 % 2 == 1) = true then 64 else 0)) (if decide (128 ≤ (v.val : Int)) = true then 128 else 0) = (v.val : Int)) ↔ (v.val : Int) % 64 ≤ 1 := by decide +kernel
theorem five_is (a b c d e : Int) (hd : 0 ≤ d ∧ d ≤ 255) : five (of5 a b c d e) = [a % 64, b % 64, c % 32, d, Go.bits .or .u8 (Go.bits .or .u8 (e % 2 % 256) (if (e / 64 % 2 == 1) = true then 64 else 0)) (if decide (128 ≤ e) = true then 128 else 0)] := by
  unfold five
  rw [nm_of (of5_ok a b c d e hd)]
  unfold rdC of5
  dsimp only
  simp only [if_true]
  rw [if_neg (by decide), if_neg (by decide), if_neg (by decide), if_neg (by decide), if_neg (by decide), if_neg (by decide), if_neg (by decide), if_neg (by decide), if_neg (by decide), if_neg (by decide)]
  simp only [if_true]
  rw [show (d + e % 2 * 256) % 256 = d by omega, show (d + e % 2 * 256) / 256 = e % 2 by omega]
theorem five_again (a b c d e : Int) (ha : 0 ≤ a ∧ a ≤ 255) (hb : 0 ≤ b ∧ b ≤ 255) (hc : 0 ≤ c ∧ c ≤ 255) (hd : 0 ≤ d ∧ d ≤ 255) (he : 0 ≤ e ∧ e ≤ 255) :
    five (of5 a b c d e) = [a, b, c, d, e] ↔ (a ≤ 63 ∧ b ≤ 63 ∧ c ≤ 31 ∧ e % 64 ≤ 1) := by
  rw [five_is a b c d e hd]
  obtain ⟨v, rfl⟩ := byte_fin he
  have hv := high5 v
  generalize Go.bits .or .u8 (Go.bits .or .u8 ((v.val : Int) % 2 % 256) (if ((v.val : Int) / 64 % 2 == 1) = true then 64 else 0)) (if decide (128 ≤ (v.val : Int)) = true then 128 else 0) = x at hv ⊢
  simp only [List.cons.injEq, and_true]
  constructor
  · rintro ⟨h1, h2, h3, _, h5⟩
    exact ⟨by omega, by omega, by omega, hv.mp h5⟩
  · rintro ⟨h1, h2, h3, h4⟩
    exact ⟨by omega, by omega, by omega, trivial, hv.mpr h4⟩
theorem str10 (a0 a1 a2 a3 a4 a5 a6 a7 a8 a9 : Int) : (strOfNums [a0, a1, a2, a3, a4, a5, a6, a7, a8, a9]).toList = [UInt8.ofNat a0.toNat, UInt8.ofNat a1.toNat, UInt8.ofNat a2.toNat, UInt8.ofNat a3.toNat, UInt8.ofNat a4.toNat, UInt8.ofNat a5.toNat, UInt8.ofNat a6.toNat, UInt8.ofNat a7.toNat, UInt8.ofNat a8.toNat, UInt8.ofNat a9.toNat] := by
  simp [strOfNums, ByteArray.toList, ByteArray.toList.loop, ByteArray.size, ByteArray.get!]
theorem u8_inj {x y : Int} (hx : 0 ≤ x ∧ x ≤ 255) (hy : 0 ≤ y ∧ y ≤ 255) (h : UInt8.ofNat x.toNat = UInt8.ofNat y.toNat) : x = y := by
  have h1 := congrArg UInt8.toNat h
  rw [UInt8.toNat_ofNat', UInt8.toNat_ofNat'] at h1
  omega
theorem str10_eq (a0 a1 a2 a3 a4 a5 a6 a7 a8 a9 b0 b1 b2 b3 b4 b5 b6 b7 b8 b9 : Int) (p0 : 0 ≤ a0 ∧ a0 ≤ 255) (p1 : 0 ≤ a1 ∧ a1 ≤ 255) (p2 : 0 ≤ a2 ∧ a2 ≤ 255) (p3 : 0 ≤ a3 ∧ a3 ≤ 255) (p4 : 0 ≤ a4 ∧ a4 ≤ 255) (p5 : 0 ≤ a5 ∧ a5 ≤ 255) (p6 : 0 ≤ a6 ∧ a6 ≤ 255) (p7 : 0 ≤ a7 ∧ a7 ≤ 255) (p8 : 0 ≤ a8 ∧ a8 ≤ 255) (p9 : 0 ≤ a9 ∧ a9 ≤ 255) (q0 : 0 ≤ b0 ∧ b0 ≤ 255) (q1 : 0 ≤ b1 ∧ b1 ≤ 255) (q2 : 0 ≤ b2 ∧ b2 ≤ 255) (q3 : 0 ≤ b3 ∧ b3 ≤ 255) (q4 : 0 ≤ b4 ∧ b4 ≤ 255) (q5 : 0 ≤ b5 ∧ b5 ≤ 255) (q6 : 0 ≤ b6 ∧ b6 ≤ 255) (q7 : 0 ≤ b7 ∧ b7 ≤ 255) (q8 : 0 ≤ b8 ∧ b8 ≤ 255) (q9 : 0 ≤ b9 ∧ b9 ≤ 255) : ((strOfNums [a0, a1, a2, a3, a4, a5, a6, a7, a8, a9]).toList == (strOfNums [b0, b1, b2, b3, b4, b5, b6, b7, b8, b9]).toList) = true ↔ [a0, a1, a2, a3, a4, a5, a6, a7, a8, a9] = [b0, b1, b2, b3, b4, b5, b6, b7, b8, b9] := by
  rw [str10, str10, beq_iff_eq]
  constructor
  · intro h
    simp only [List.cons.injEq, and_true] at h ⊢
    obtain ⟨h0, h1, h2, h3, h4, h5, h6, h7, h8, h9⟩ := h
    exact ⟨u8_inj p0 q0 h0, u8_inj p1 q1 h1, u8_inj p2 q2 h2, u8_inj p3 q3 h3, u8_inj p4 q4 h4, u8_inj p5 q5 h5, u8_inj p6 q6 h6, u8_inj p7 q7 h7, u8_inj p8 q8 h8, u8_inj p9 q9 h9⟩
  · intro h
    simp only [List.cons.injEq, and_true] at h
    obtain ⟨rfl, rfl, rfl, rfl, rfl, rfl, rfl, rfl, rfl, rfl⟩ := h
    rfl
theorem high_bd : ∀ v : Fin 256, 0 ≤ (Go.bits .or .u8 (Go.bits .or .u8 ((v.val : Int) % 2 % 256) (if ((v.val : Int) / 64 % 2 == 1) = true then 64 else 0)) (if decide (128 ≤ (v.val : Int)) = true then 128 else 0)) ∧ (Go.bits .or .u8 (Go.bits .or .u8 ((v.val : Int) % 2 % 256) (if ((v.val : Int) / 64 % 2 == 1) = true then 64 else 0)) (if decide (128 ≤ (v.val : Int)) = true then 128 else 0)) ≤ 255 := by decide +kernel
theorem high_bd' (e : Int) (he : 0 ≤ e ∧ e ≤ 255) : 0 ≤ (Go.bits .or .u8 (Go.bits .or .u8 (e % 2 % 256) (if (e / 64 % 2 == 1) = true then 64 else 0)) (if decide (128 ≤ e) = true then 128 else 0)) ∧ (Go.bits .or .u8 (Go.bits .or .u8 (e % 2 % 256) (if (e / 64 % 2 == 1) = true then 64 else 0)) (if decide (128 ≤ e) = true then 128 else 0)) ≤ 255 := by
  obtain ⟨v, rfl⟩ := byte_fin he
  exact high_bd v
theorem cond_iff (b0 b1 b2 b3 b4 b5 b6 b7 b8 b9 : Int) (p0 : 0 ≤ b0 ∧ b0 ≤ 255) (p1 : 0 ≤ b1 ∧ b1 ≤ 255) (p2 : 0 ≤ b2 ∧ b2 ≤ 255) (p3 : 0 ≤ b3 ∧ b3 ≤ 255) (p4 : 0 ≤ b4 ∧ b4 ≤ 255) (p5 : 0 ≤ b5 ∧ b5 ≤ 255) (p6 : 0 ≤ b6 ∧ b6 ≤ 255) (p7 : 0 ≤ b7 ∧ b7 ≤ 255) (p8 : 0 ≤ b8 ∧ b8 ≤ 255) (p9 : 0 ≤ b9 ∧ b9 ≤ 255) : (((strOfNums (five (of5 b0 b1 b2 b3 b4) ++ five (of5 b5 b6 b7 b8 b9))).toList == (strOfNums [b0, b1, b2, b3, b4, b5, b6, b7, b8, b9]).toList) = true) ↔ ((b0 ≤ 63 ∧ b1 ≤ 63 ∧ b2 ≤ 31 ∧ b4 % 64 ≤ 1) ∧ (b5 ≤ 63 ∧ b6 ≤ 63 ∧ b7 ≤ 31 ∧ b9 % 64 ≤ 1)) := by
  have f1 := five_again b0 b1 b2 b3 b4 p0 p1 p2 p3 p4
  have f2 := five_again b5 b6 b7 b8 b9 p5 p6 p7 p8 p9
  rw [← f1, ← f2, five_is b0 b1 b2 b3 b4 p3, five_is b5 b6 b7 b8 b9 p8]
  have h4 := high_bd' b4 p4
  have h9 := high_bd' b9 p9
  generalize (Go.bits .or .u8 (Go.bits .or .u8 (b4 % 2 % 256) (if (b4 / 64 % 2 == 1) = true then 64 else 0)) (if decide (128 ≤ b4) = true then 128 else 0)) = x4 at h4 ⊢
  generalize (Go.bits .or .u8 (Go.bits .or .u8 (b9 % 2 % 256) (if (b9 / 64 % 2 == 1) = true then 64 else 0)) (if decide (128 ≤ b9) = true then 128 else 0)) = x9 at h9 ⊢
  have e := str10_eq (b0 % 64) (b1 % 64) (b2 % 32) b3 x4 (b5 % 64) (b6 % 64) (b7 % 32) b8 x9 b0 b1 b2 b3 b4 b5 b6 b7 b8 b9 (by omega) (by omega) (by omega) p3 h4 (by omega) (by omega) (by omega) p8 h9 p0 p1 p2 p3 p4 p5 p6 p7 p8 p9
  refine e.trans ?_
  simp only [List.cons.injEq, and_true]
  constructor
  · rintro ⟨q0, q1, q2, q3, q4, q5, q6, q7, q8, q9⟩
    exact ⟨⟨q0, q1, q2, q3, q4⟩, ⟨q5, q6, q7, q8, q9⟩⟩
  · rintro ⟨⟨q0, q1, q2, q3, q4⟩, ⟨q5, q6, q7, q8, q9⟩⟩
    exact ⟨q0, q1, q2, q3, q4, q5, q6, q7, q8, q9⟩
theorem of_prog (b0 b1 b2 b3 b4 b5 b6 b7 b8 b9 : Int) (p0 : 0 ≤ b0 ∧ b0 ≤ 255) (p1 : 0 ≤ b1 ∧ b1 ≤ 255) (p2 : 0 ≤ b2 ∧ b2 ≤ 255) (p3 : 0 ≤ b3 ∧ b3 ≤ 255) (p4 : 0 ≤ b4 ∧ b4 ≤ 255) (p5 : 0 ≤ b5 ∧ b5 ≤ 255) (p6 : 0 ≤ b6 ∧ b6 ≤ 255) (p7 : 0 ≤ b7 ∧ b7 ≤ 255) (p8 : 0 ≤ b8 ∧ b8 ≤ 255) (p9 : 0 ≤ b9 ∧ b9 ≤ 255) : clock_Of.f [b0, b1, b2, b3, b4, b5, b6, b7, b8, b9] = if (b0 ≤ 63 ∧ b1 ≤ 63 ∧ b2 ≤ 31 ∧ b4 % 64 ≤ 1) ∧ (b5 ≤ 63 ∧ b6 ≤ 63 ∧ b7 ≤ 31 ∧ b9 % 64 ≤ 1) then some ((of5 b0 b1 b2 b3 b4).1, (of5 b0 b1 b2 b3 b4).2.1, (of5 b0 b1 b2 b3 b4).2.2.1, (of5 b0 b1 b2 b3 b4).2.2.2.1, (of5 b0 b1 b2 b3 b4).2.2.2.2.1, (of5 b0 b1 b2 b3 b4).2.2.2.2.2, (of5 b5 b6 b7 b8 b9).1, (of5 b5 b6 b7 b8 b9).2.1, (of5 b5 b6 b7 b8 b9).2.2.1, (of5 b5 b6 b7 b8 b9).2.2.2.1, (of5 b5 b6 b7 b8 b9).2.2.2.2.1, (of5 b5 b6 b7 b8 b9).2.2.2.2.2, 0) else some (0, 0, 0, 0, false, false, 0, 0, 0, 0, false, false, 6) := by
  obtain ⟨x0, x1, x2, x3, x4⟩ := writes5 b0 b1 b2 b3 b4 p0 p1 p2 p3 p4
  obtain ⟨y0, y1, y2, y3, y4⟩ := writes5 b5 b6 b7 b8 b9 p5 p6 p7 p8 p9
  have hB : clock_Bytes.f (b0 % 64) (b1 % 64) (b2 % 32) (b3 + b4 % 2 * 256) (b4 / 64 % 2 == 1) (decide (128 ≤ b4)) (b5 % 64) (b6 % 64) (b7 % 32) (b8 + b9 % 2 * 256) (b9 / 64 % 2 == 1) (decide (128 ≤ b9)) = some (five (of5 b0 b1 b2 b3 b4) ++ five (of5 b5 b6 b7 b8 b9)) := bytes_prog (of5 b0 b1 b2 b3 b4) (of5 b5 b6 b7 b8 b9) (of5_ok b0 b1 b2 b3 b4 p3).wide (of5_ok b5 b6 b7 b8 b9 p8).wide
  have hC := cond_iff b0 b1 b2 b3 b4 b5 b6 b7 b8 b9 p0 p1 p2 p3 p4 p5 p6 p7 p8 p9
  unfold clock_Of.f
  rw [if_pos (show (([b0, b1, b2, b3, b4, b5, b6, b7, b8, b9] : List Int).length : Int) = 10 from rfl), show rd [b0, b1, b2, b3, b4, b5, b6, b7, b8, b9] 0 = b0 from rfl, show rd [b0, b1, b2, b3, b4, b5, b6, b7, b8, b9] 1 = b1 from rfl, show rd [b0, b1, b2, b3, b4, b5, b6, b7, b8, b9] 2 = b2 from rfl, show rd [b0, b1, b2, b3, b4, b5, b6, b7, b8, b9] 3 = b3 from rfl, show rd [b0, b1, b2, b3, b4, b5, b6, b7, b8, b9] 4 = b4 from rfl, show rd [b0, b1, b2, b3, b4, b5, b6, b7, b8, b9] 5 = b5 from rfl, show rd [b0, b1, b2, b3, b4, b5, b6, b7, b8, b9] 6 = b6 from rfl, show rd [b0, b1, b2, b3, b4, b5, b6, b7, b8, b9] 7 = b7 from rfl, show rd [b0, b1, b2, b3, b4, b5, b6, b7, b8, b9] 8 = b8 from rfl, show rd [b0, b1, b2, b3, b4, b5, b6, b7, b8, b9] 9 = b9 from rfl]
  rw [x0]
  simp only [Option.bind_some]
  rw [x1]
  simp only [Option.bind_some]
  rw [x2]
  simp only [Option.bind_some]
  rw [x3]
  simp only [Option.bind_some]
  rw [x4]
  simp only [Option.bind_some]
  rw [y0]
  simp only [Option.bind_some]
  rw [y1]
  simp only [Option.bind_some]
  rw [y2]
  simp only [Option.bind_some]
  rw [y3]
  simp only [Option.bind_some]
  rw [y4]
  simp only [Option.bind_some]
  rw [hB]
  simp only [Option.bind_some]
  by_cases hk : (b0 ≤ 63 ∧ b1 ≤ 63 ∧ b2 ≤ 31 ∧ b4 % 64 ≤ 1) ∧ (b5 ≤ 63 ∧ b6 ≤ 63 ∧ b7 ≤ 31 ∧ b9 % 64 ≤ 1)
  · rw [if_pos (hC.mpr hk), if_pos hk]
    rfl
  · rw [if_neg (fun z => hk (hC.mp z)), if_neg hk]
def highOf (d : Int) (a b : Bool) : Int := Go.bits .or .u8 (Go.bits .or .u8 ((d / 256) % 256) (if a = true then 64 else 0)) (if b = true then 128 else 0)
theorem high_facts : ∀ (v : Fin 512) (a b : Bool), 0 ≤ highOf (v.val : Int) a b ∧ highOf (v.val : Int) a b ≤ 255 ∧ highOf (v.val : Int) a b % 64 ≤ 1 ∧ highOf (v.val : Int) a b % 2 = (v.val : Int) / 256 ∧ (highOf (v.val : Int) a b / 64 % 2 == 1) = a ∧ decide (128 ≤ highOf (v.val : Int) a b) = b := by decide +kernel
theorem nm_five (c : C) (h : okC c) : five c = [c.1, c.2.1, c.2.2.1, c.2.2.2.1 % 256, highOf c.2.2.2.1 c.2.2.2.2.1 c.2.2.2.2.2] := by
  unfold five
  rw [nm_of h]
  rfl
theorem of5_five (c : C) (h : okC c) : of5 c.1 c.2.1 c.2.2.1 (c.2.2.2.1 % 256) (highOf c.2.2.2.1 c.2.2.2.2.1 c.2.2.2.2.2) = c := by
  obtain ⟨s, m, hh, d, a, b⟩ := c
  unfold okC at h; dsimp only at h
  obtain ⟨b1, b2, b3, b4⟩ := h
  obtain ⟨v, rfl⟩ := d_fin b4
  obtain ⟨f0, f1, f2, f3, f4, f5⟩ := high_facts v a b
  unfold of5
  dsimp only
  rw [f3, f4, f5, show s % 64 = s by omega, show m % 64 = m by omega, show hh % 32 = hh by omega, show (v.val : Int) % 256 + (v.val : Int) / 256 * 256 = (v.val : Int) by omega]
theorem of_bytes (c b : C) (hc : wide c) (hb : wide b) : clock_Of.f (five c ++ five b) = some ((nm c).1, (nm c).2.1, (nm c).2.2.1, (nm c).2.2.2.1, (nm c).2.2.2.2.1, (nm c).2.2.2.2.2, (nm b).1, (nm b).2.1, (nm b).2.2.1, (nm b).2.2.2.1, (nm b).2.2.2.2.1, (nm b).2.2.2.2.2, 0) := by
  have e1 : five c = five (nm c) := by unfold five; rw [nm_of (nm_ok c)]
  have e2 : five b = five (nm b) := by unfold five; rw [nm_of (nm_ok b)]
  rw [e1, e2, nm_five _ (nm_ok c), nm_five _ (nm_ok b)]
  have o1 := of5_five _ (nm_ok c)
  have o2 := of5_five _ (nm_ok b)
  have h1 := nm_ok c
  have h2 := nm_ok b
  generalize nm c = x at h1 o1 ⊢
  generalize nm b = y at h2 o2 ⊢
  unfold okC at h1 h2
  obtain ⟨b1, b2, b3, b4⟩ := h1
  obtain ⟨c1, c2, c3, c4⟩ := h2
  obtain ⟨v, ev⟩ := d_fin b4
  obtain ⟨u, eu⟩ := d_fin c4
  have F := high_facts v x.2.2.2.2.1 x.2.2.2.2.2
  have G := high_facts u y.2.2.2.2.1 y.2.2.2.2.2
  rw [← ev] at F
  rw [← eu] at G
  obtain ⟨f0, f1, f2, _, _, _⟩ := F
  obtain ⟨g0, g1, g2, _, _, _⟩ := G
  show clock_Of.f [x.1, x.2.1, x.2.2.1, x.2.2.2.1 % 256, highOf x.2.2.2.1 x.2.2.2.2.1 x.2.2.2.2.2, y.1, y.2.1, y.2.2.1, y.2.2.2.1 % 256, highOf y.2.2.2.1 y.2.2.2.2.1 y.2.2.2.2.2] = _
  rw [of_prog _ _ _ _ _ _ _ _ _ _ (by omega) (by omega) (by omega) (by omega) ⟨f0, f1⟩ (by omega) (by omega) (by omega) (by omega) ⟨g0, g1⟩, if_pos ⟨⟨by omega, by omega, by omega, f2⟩, ⟨by omega, by omega, by omega, g2⟩⟩, o1, o2]
end Go.Proofs.Ytmjjojbedllmgaa.Pure
end
section
namespace Go.Proofs.Ytmjjojbedllmgaa.Pure
open Go.RowKit Go.Proofs.Ytmjjojbedllmgaa.G Go.Proofs.Ytmjjojbedllmgaa.Hand
open Go.Proofs.YtmjjojbedllmgaaW.PrintWords Go.Proofs.YtmjjojbedllmgaaW.PrintLast Go.Proofs.YtmjjojbedllmgaaW.PrintMore
set_option maxRecDepth 100000
set_option linter.unusedVariables false
set_option linter.unusedSimpArgs false
def ct (c : Ck) : C := (c.s, c.m, c.h, c.d, c.ht, c.cy)
structure Nm (s : Ct) : Prop where
  lv : okC (ct s.lv)
  hd : okC (ct s.hd)
theorem tick_ct (c : Ck) (h : okC (ct c)) : ct c.tick = tk (ct c) := by
  have q := tick_prog (ct c) h.wide
  rw [nm_of h] at q
  have e := c.tick_eq
  have q2 : clock_Tick.f c.s c.m c.h c.d c.ht c.cy = some (tk (ct c)) := q
  rw [q2] at e
  exact (Option.some.inj e).symm
theorem write_ct (c : Ck) (h : okC (ct c)) (n v : Int) (hv : 0 ≤ v ∧ v ≤ 255) : ct (c.write n v) = (wrC (ct c) n v).1 := by
  have q := write_prog (ct c) h.wide n v hv
  rw [nm_of h] at q
  have e := c.write_eq n v
  have q2 : clock_Write.f c.s c.m c.h c.d c.ht c.cy n v = some (fl2 (wrC (ct c) n v)) := q
  rw [q2] at e
  have e2 := Option.some.inj e
  simp only [fl2, Prod.mk.injEq] at e2
  obtain ⟨a1, a2, a3, a4, a5, a6, _⟩ := e2
  show ((c.write n v).s, (c.write n v).m, (c.write n v).h, (c.write n v).d, (c.write n v).ht, (c.write n v).cy) = _
  rw [← a1, ← a2, ← a3, ← a4, ← a5, ← a6]
theorem bytes_ct (s : Ct) (h : Nm s) : s.bytesL = five (ct s.lv) ++ five (ct s.hd) := by
  have q : s.bytes = some (five (ct s.lv) ++ five (ct s.hd)) := bytes_prog (ct s.lv) (ct s.hd) h.lv.wide h.hd.wide
  rw [Ct.bytesL, q]
  rfl
theorem of_facts {l : List Int} (hb : Bytes l) (hl : l.length = 10) (h0 : ofE l = 0) : okC (ct (ofX l)) ∧ okC (ct (ofY l)) ∧ five (ct (ofX l)) ++ five (ct (ofY l)) = l := by
  match l, hl with
  | [b0, b1, b2, b3, b4, b5, b6, b7, b8, b9], _ =>
    have p0 := hb b0 (by simp)
    have p1 := hb b1 (by simp)
    have p2 := hb b2 (by simp)
    have p3 := hb b3 (by simp)
    have p4 := hb b4 (by simp)
    have p5 := hb b5 (by simp)
    have p6 := hb b6 (by simp)
    have p7 := hb b7 (by simp)
    have p8 := hb b8 (by simp)
    have p9 := hb b9 (by simp)
    have q := of_prog b0 b1 b2 b3 b4 b5 b6 b7 b8 b9 p0 p1 p2 p3 p4 p5 p6 p7 p8 p9
    by_cases c : (b0 ≤ 63 ∧ b1 ≤ 63 ∧ b2 ≤ 31 ∧ b4 % 64 ≤ 1) ∧ (b5 ≤ 63 ∧ b6 ≤ 63 ∧ b7 ≤ 31 ∧ b9 % 64 ≤ 1)
    · rw [if_pos c] at q
      have e1 : ct (ofX [b0, b1, b2, b3, b4, b5, b6, b7, b8, b9]) = of5 b0 b1 b2 b3 b4 := by rw [ofX, q]; rfl
      have e2 : ct (ofY [b0, b1, b2, b3, b4, b5, b6, b7, b8, b9]) = of5 b5 b6 b7 b8 b9 := by rw [ofY, q]; rfl
      rw [e1, e2, (five_again b0 b1 b2 b3 b4 p0 p1 p2 p3 p4).mpr c.1, (five_again b5 b6 b7 b8 b9 p5 p6 p7 p8 p9).mpr c.2]
      exact ⟨of5_ok b0 b1 b2 b3 b4 p3, of5_ok b5 b6 b7 b8 b9 p8, rfl⟩
    · rw [if_neg c] at q
      have : ofE [b0, b1, b2, b3, b4, b5, b6, b7, b8, b9] = 6 := by rw [ofE, q]; rfl
      omega
theorem of_again (x y : Ck) (hx : okC (ct x)) (hy : okC (ct y)) : ofX (five (ct x) ++ five (ct y)) = x ∧ ofY (five (ct x) ++ five (ct y)) = y ∧ ofE (five (ct x) ++ five (ct y)) = 0 := by
  have q := of_bytes (ct x) (ct y) hx.wide hy.wide
  rw [nm_of hx, nm_of hy] at q
  refine ⟨?_, ?_, ?_⟩
  · rw [ofX, q]; rfl
  · rw [ofY, q]; rfl
  · rw [ofE, q]; rfl
theorem Nm.new {l : List Int} : Nm (newC l) := by
  have z : okC (0, 0, 0, 0, false, false) := by simp [okC]
  exact ⟨z, z⟩
theorem Nm.write {s : Ct} (h : Nm s) (ad v : Int) (hv : 0 ≤ v ∧ v ≤ 255) : Nm (s.write ad v) := by
  unfold Ct.write
  split
  · split
    · unfold Ct.latch
      split
      · exact ⟨h.lv, h.lv⟩
      · exact ⟨h.lv, h.hd⟩
    · exact ⟨h.lv, h.hd⟩
  · split
    · refine ⟨?_, h.hd⟩
      show okC (ct (s.lv.write _ v))
      rw [write_ct _ h.lv _ _ hv]
      exact wrC_ok h.lv hv _
    · split
      · exact ⟨h.lv, h.hd⟩
      · exact h
theorem Nm.tick {s : Ct} (h : Nm s) : Nm s.tick := by
  unfold Ct.tick
  split
  · refine ⟨?_, h.hd⟩
    show okC (ct s.lv.tick)
    rw [tick_ct _ h.lv]
    exact tk_ok h.lv
  · exact h
theorem bytes_drop {l : List Int} (h : Bytes l) (n : Nat) : Bytes (l.drop n) := fun x hx => h x (List.mem_of_mem_drop hx)
theorem load_zero {s : Ct} {l : List Int} (h : s.loadE l = 0) : s.hdr.bt = true ∧ ((s.hdr.ck = false ∧ l.length = s.ram.length) ∨ (s.hdr.ck = true ∧ l.length = s.ram.length + 10 ∧ ofE (l.drop s.ram.length) = 0)) := by
  unfold Ct.loadE at h
  cases hbt : s.hdr.bt with
  | false => rw [hbt] at h; simp at h
  | true =>
    rw [hbt] at h
    cases hck : s.hdr.ck with
    | false =>
      rw [hck] at h
      by_cases hn : l.length = s.ram.length
      · exact ⟨rfl, Or.inl ⟨rfl, hn⟩⟩
      · simp [hn] at h
    | true =>
      rw [hck] at h
      by_cases hn : l.length = s.ram.length + 10
      · simp [hn] at h
        exact ⟨rfl, Or.inr ⟨rfl, hn, h⟩⟩
      · simp [hn] at h
theorem Nm.load {s : Ct} (h : Nm s) {l : List Int} (hb : Bytes l) : Nm (s.loadS l) := by
  unfold Ct.loadS
  split
  · rename_i h0
    obtain ⟨_, ⟨h1, h2⟩ | ⟨h1, h2, h3⟩⟩ := load_zero h0
    · rw [if_neg (by simp [h1])]
      exact ⟨h.lv, h.hd⟩
    · rw [if_pos h1]
      obtain ⟨q1, q2, _⟩ := of_facts (bytes_drop hb s.ram.length) (by simp; omega) h3
      exact ⟨q1, q2⟩
  · exact h
theorem Nm.step1 {s : Ct} (h : Nm s) {x : Act1} (hx : x.Ok) : Nm (Hand.step1 s x) := by
  unfold Hand.step1
  split
  · exact h.write _ _ ⟨hx.v0, hx.v1⟩
  · split
    · exact h.tick
    · split
      · exact h.load hx.b
      · exact h
theorem Nm.does {s : Ct} (h : Nm s) : ∀ (l : List Act1), (∀ x ∈ l, x.Ok) → Nm (doesS s l)
  | [], _ => h
  | x :: r, hl => (h.step1 (hl x (by simp))).does r (fun y hy => hl y (by simp [hy]))
theorem step1_keeps (s : Ct) (x : Act1) : (Hand.step1 s x).img = s.img ∧ (Hand.step1 s x).ram.length = s.ram.length ∧ (Hand.step1 s x).hdr = s.hdr := by
  unfold Hand.step1
  split
  · obtain ⟨a, b, c, _⟩ := write_keeps s x.ad x.v; exact ⟨a, b, c⟩
  · split
    · obtain ⟨a, b, c, _⟩ := tick_keeps s; exact ⟨a, by rw [b], c⟩
    · split
      · obtain ⟨a, b, c, _⟩ := load_keeps s x.b; exact ⟨a, b, c⟩
      · exact ⟨rfl, rfl, rfl⟩
theorem does_keeps : ∀ (l : List Act1) (s : Ct), (doesS s l).img = s.img ∧ (doesS s l).ram.length = s.ram.length ∧ (doesS s l).hdr = s.hdr
  | [], s => ⟨rfl, rfl, rfl⟩
  | x :: r, s => by
    obtain ⟨a, b, c⟩ := does_keeps r (Hand.step1 s x)
    obtain ⟨a', b', c'⟩ := step1_keeps s x
    exact ⟨a.trans a', b.trans b', c.trans c'⟩
end Go.Proofs.Ytmjjojbedllmgaa.Pure
end
section
namespace Go.Proofs.Ytmjjojbedllmgaa.Hand
open Go.RowKit
open Go.Proofs.Ytmjjojbedllmgaa.G
open Go.Proofs.YtmjjojbedllmgaaW.PrintWords Go.Proofs.YtmjjojbedllmgaaW.PrintLast Go.Proofs.YtmjjojbedllmgaaW.PrintMore
set_option linter.unusedVariables false
set_option linter.unusedSimpArgs false
theorem blk_at2 (w : World) (A B : Obj) : ((w.alloc A).alloc B).heap[w.heap.size + 1]? = some B := by
  have q := blk_new (w.alloc A) B
  simpa using q
theorem blk_at3 (w : World) (A B C : Obj) : (((w.alloc A).alloc B).alloc C).heap[w.heap.size + 2]? = some C := by
  have q := blk_new ((w.alloc A).alloc B) C
  simpa using q
set_option maxRecDepth 100000 in
set_option maxHeartbeats 4000000 in
theorem state_at {w : World} {a : Ad} {s : Ct} (h : CartAt w a s) :
    Calls Try.prog 17 #[a.p] w fun e w' => e = .returned (.tuple #[s.mp.v, s.lv.v, s.hd.v]) ∧ Below w.heap.size w w' := by
  have HH := Aside0.mk h
  clear h
  go_enter Try.func17, Try.ntmps17
  go_wp2_with fail
  have hB := below_alloc (below_alloc (below_alloc (Below.refl w.heap.size w) (.cells #[.int .i64 0, .bool false, .int .u8 0, .int .u8 0, .int .u8 0, .bool false] 32)) (.cells #[.int .u8 0, .int .u8 0, .int .u8 0, .int .u16 0, .bool false, .bool false] 34)) (.cells #[.int .u8 0, .int .u8 0, .int .u8 0, .int .u16 0, .bool false, .bool false] 34)
  have b0 := blk_alloc (blk_alloc (blk_new w (.cells #[.int .i64 0, .bool false, .int .u8 0, .int .u8 0, .int .u8 0, .bool false] 32)) (.cells #[.int .u8 0, .int .u8 0, .int .u8 0, .int .u16 0, .bool false, .bool false] 34)) (.cells #[.int .u8 0, .int .u8 0, .int .u8 0, .int .u16 0, .bool false, .bool false] 34)
  have b1 := blk_alloc (blk_at2 w (.cells #[.int .i64 0, .bool false, .int .u8 0, .int .u8 0, .int .u8 0, .bool false] 32) (.cells #[.int .u8 0, .int .u8 0, .int .u8 0, .int .u16 0, .bool false, .bool false] 34)) (.cells #[.int .u8 0, .int .u8 0, .int .u8 0, .int .u16 0, .bool false, .bool false] 34)
  have b2 := blk_at3 w (.cells #[.int .i64 0, .bool false, .int .u8 0, .int .u8 0, .int .u8 0, .bool false] 32) (.cells #[.int .u8 0, .int .u8 0, .int .u8 0, .int .u16 0, .bool false, .bool false] 34) (.cells #[.int .u8 0, .int .u8 0, .int .u8 0, .int .u16 0, .bool false, .bool false] 34)
  have hz : (((w.alloc (.cells #[.int .i64 0, .bool false, .int .u8 0, .int .u8 0, .int .u8 0, .bool false] 32)).alloc (.cells #[.int .u8 0, .int .u8 0, .int .u8 0, .int .u16 0, .bool false, .bool false] 34)).alloc (.cells #[.int .u8 0, .int .u8 0, .int .u8 0, .int .u16 0, .bool false, .bool false] 34)).heap.size = w.heap.size + 3 := by simp
  have h1 := HH.out.below hB
  generalize ((w.alloc (.cells #[.int .i64 0, .bool false, .int .u8 0, .int .u8 0, .int .u8 0, .bool false] 32)).alloc (.cells #[.int .u8 0, .int .u8 0, .int .u8 0, .int .u16 0, .bool false, .bool false] 34)).alloc (.cells #[.int .u8 0, .int .u8 0, .int .u8 0, .int .u16 0, .bool false, .bool false] 34) = W1 at hB b0 b1 b2 hz h1 ⊢
  have B0 := Aside0.mk b0
  have B1 := Aside0.mk b1
  have B2 := Aside0.mk b2
  have HB := Aside0.mk hB
  have H1 := Aside0.mk h1
  clear b0 b1 b2 hB h1
  refine (none_at H1.out).mono ?_
  rintro e' w1 ⟨rfl, hw⟩
  replace hw := hw.symm
  subst hw
  have c0 := H1.out.c0
  have c1 := H1.out.c1
  have c2 := H1.out.c2
  have c3 := H1.out.c3
  have c4 := H1.out.c4
  have c5 := H1.out.c5
  have c6 := H1.out.c6
  have c7 := H1.out.c7
  have c8 := H1.out.c8
  have c9 := H1.out.c9
  have c10 := H1.out.c10
  have c11 := H1.out.c11
  have c12 := H1.out.c12
  have c13 := H1.out.c13
  have c14 := H1.out.c14
  have c15 := H1.out.c15
  have c16 := H1.out.c16
  have c17 := H1.out.c17
  have hlt := HH.out.ltb
  have n0 : ¬ a.b = w.heap.size := by omega
  have n1 : ¬ a.b = w.heap.size + 1 := by omega
  have n2 : ¬ a.b = w.heap.size + 2 := by omega
  have fz := H1.out.frozen
  clear hlt hz
  have e00 : W1.cell? ⟨w.heap.size, 0, none⟩ = some (.int .i64 0) := (blk_cell B0.out 0).trans rfl
  have e01 : W1.cell? ⟨w.heap.size, 1, none⟩ = some (.bool false) := (blk_cell B0.out 1).trans rfl
  have e02 : W1.cell? ⟨w.heap.size, 2, none⟩ = some (.int .u8 0) := (blk_cell B0.out 2).trans rfl
  have e03 : W1.cell? ⟨w.heap.size, 3, none⟩ = some (.int .u8 0) := (blk_cell B0.out 3).trans rfl
  have e04 : W1.cell? ⟨w.heap.size, 4, none⟩ = some (.int .u8 0) := (blk_cell B0.out 4).trans rfl
  have e05 : W1.cell? ⟨w.heap.size, 5, none⟩ = some (.bool false) := (blk_cell B0.out 5).trans rfl
  have f0 := fun i => blk_frozen B0.out i
  have e10 : W1.cell? ⟨w.heap.size + 1, 0, none⟩ = some (.int .u8 0) := (blk_cell B1.out 0).trans rfl
  have e11 : W1.cell? ⟨w.heap.size + 1, 1, none⟩ = some (.int .u8 0) := (blk_cell B1.out 1).trans rfl
  have e12 : W1.cell? ⟨w.heap.size + 1, 2, none⟩ = some (.int .u8 0) := (blk_cell B1.out 2).trans rfl
  have e13 : W1.cell? ⟨w.heap.size + 1, 3, none⟩ = some (.int .u16 0) := (blk_cell B1.out 3).trans rfl
  have e14 : W1.cell? ⟨w.heap.size + 1, 4, none⟩ = some (.bool false) := (blk_cell B1.out 4).trans rfl
  have e15 : W1.cell? ⟨w.heap.size + 1, 5, none⟩ = some (.bool false) := (blk_cell B1.out 5).trans rfl
  have f1 := fun i => blk_frozen B1.out i
  have e20 : W1.cell? ⟨w.heap.size + 2, 0, none⟩ = some (.int .u8 0) := (blk_cell B2.out 0).trans rfl
  have e21 : W1.cell? ⟨w.heap.size + 2, 1, none⟩ = some (.int .u8 0) := (blk_cell B2.out 1).trans rfl
  have e22 : W1.cell? ⟨w.heap.size + 2, 2, none⟩ = some (.int .u8 0) := (blk_cell B2.out 2).trans rfl
  have e23 : W1.cell? ⟨w.heap.size + 2, 3, none⟩ = some (.int .u16 0) := (blk_cell B2.out 3).trans rfl
  have e24 : W1.cell? ⟨w.heap.size + 2, 4, none⟩ = some (.bool false) := (blk_cell B2.out 4).trans rfl
  have e25 : W1.cell? ⟨w.heap.size + 2, 5, none⟩ = some (.bool false) := (blk_cell B2.out 5).trans rfl
  have f2 := fun i => blk_frozen B2.out i
  go_wp2_with fail
  go_region
  have p0 := blk_far6 (blk_far6 (blk_fill6 (l := [.int .i64 0, .bool false, .int .u8 0, .int .u8 0, .int .u8 0, .bool false]) B0.out rfl (.int .i64 s.mp.k) (.bool s.mp.o) (.int .u8 s.mp.l) (.int .u8 s.mp.h) (.int .u8 s.mp.r) (.bool s.mp.md)) (b := w.heap.size + 1) (by omega) 0 1 2 3 4 5 (.int .u8 s.lv.s) (.int .u8 s.lv.m) (.int .u8 s.lv.h) (.int .u16 s.lv.d) (.bool s.lv.ht) (.bool s.lv.cy)) (b := w.heap.size + 2) (by omega) 0 1 2 3 4 5 (.int .u8 s.hd.s) (.int .u8 s.hd.m) (.int .u8 s.hd.h) (.int .u16 s.hd.d) (.bool s.hd.ht) (.bool s.hd.cy)
  have p1 := blk_far6 (blk_fill6 (l := [.int .u8 0, .int .u8 0, .int .u8 0, .int .u16 0, .bool false, .bool false]) (blk_far6 B1.out (b := w.heap.size) (by omega) 0 1 2 3 4 5 (.int .i64 s.mp.k) (.bool s.mp.o) (.int .u8 s.mp.l) (.int .u8 s.mp.h) (.int .u8 s.mp.r) (.bool s.mp.md)) rfl (.int .u8 s.lv.s) (.int .u8 s.lv.m) (.int .u8 s.lv.h) (.int .u16 s.lv.d) (.bool s.lv.ht) (.bool s.lv.cy)) (b := w.heap.size + 2) (by omega) 0 1 2 3 4 5 (.int .u8 s.hd.s) (.int .u8 s.hd.m) (.int .u8 s.hd.h) (.int .u16 s.hd.d) (.bool s.hd.ht) (.bool s.hd.cy)
  have p2 := blk_fill6 (l := [.int .u8 0, .int .u8 0, .int .u8 0, .int .u16 0, .bool false, .bool false]) (blk_far6 (blk_far6 B2.out (b := w.heap.size) (by omega) 0 1 2 3 4 5 (.int .i64 s.mp.k) (.bool s.mp.o) (.int .u8 s.mp.l) (.int .u8 s.mp.h) (.int .u8 s.mp.r) (.bool s.mp.md)) (b := w.heap.size + 1) (by omega) 0 1 2 3 4 5 (.int .u8 s.lv.s) (.int .u8 s.lv.m) (.int .u8 s.lv.h) (.int .u16 s.lv.d) (.bool s.lv.ht) (.bool s.lv.cy)) rfl (.int .u8 s.hd.s) (.int .u8 s.hd.m) (.int .u8 s.hd.h) (.int .u16 s.hd.d) (.bool s.hd.ht) (.bool s.hd.cy)
  have p3 := below6 (below6 (below6 HB.out (b := w.heap.size) (by omega) 0 1 2 3 4 5 (.int .i64 s.mp.k) (.bool s.mp.o) (.int .u8 s.mp.l) (.int .u8 s.mp.h) (.int .u8 s.mp.r) (.bool s.mp.md)) (b := w.heap.size + 1) (by omega) 0 1 2 3 4 5 (.int .u8 s.lv.s) (.int .u8 s.lv.m) (.int .u8 s.lv.h) (.int .u16 s.lv.d) (.bool s.lv.ht) (.bool s.lv.cy)) (b := w.heap.size + 2) (by omega) 0 1 2 3 4 5 (.int .u8 s.hd.s) (.int .u8 s.hd.m) (.int .u8 s.hd.h) (.int .u16 s.hd.d) (.bool s.hd.ht) (.bool s.hd.cy)
  clear c0 c1 c2 c3 c4 c5 c6 c7 c8 c9 c10 c11 c12 c13 c14 c15 c16 c17 e00 e01 e02 e03 e04 e05 e10 e11 e12 e13 e14 e15 e20 e21 e22 e23 e24 e25 f0 f1 f2 fz n0 n1 n2 H1 HH B0 B1 B2 HB
  replace p0 := blk_drew p0
  replace p1 := blk_drew p1
  replace p2 := blk_drew p2
  replace p3 := below_drew1 p3
  generalize (((((((((((((((((((W1.setCell ⟨w.heap.size, 0, none⟩ (.int .i64 s.mp.k)).setCell ⟨w.heap.size, 1, none⟩ (.bool s.mp.o)).setCell ⟨w.heap.size, 2, none⟩ (.int .u8 s.mp.l)).setCell ⟨w.heap.size, 3, none⟩ (.int .u8 s.mp.h)).setCell ⟨w.heap.size, 4, none⟩ (.int .u8 s.mp.r)).setCell ⟨w.heap.size, 5, none⟩ (.bool s.mp.md)).setCell ⟨w.heap.size + 1, 0, none⟩ (.int .u8 s.lv.s)).setCell ⟨w.heap.size + 1, 1, none⟩ (.int .u8 s.lv.m)).setCell ⟨w.heap.size + 1, 2, none⟩ (.int .u8 s.lv.h)).setCell ⟨w.heap.size + 1, 3, none⟩ (.int .u16 s.lv.d)).setCell ⟨w.heap.size + 1, 4, none⟩ (.bool s.lv.ht)).setCell ⟨w.heap.size + 1, 5, none⟩ (.bool s.lv.cy)).setCell ⟨w.heap.size + 2, 0, none⟩ (.int .u8 s.hd.s)).setCell ⟨w.heap.size + 2, 1, none⟩ (.int .u8 s.hd.m)).setCell ⟨w.heap.size + 2, 2, none⟩ (.int .u8 s.hd.h)).setCell ⟨w.heap.size + 2, 3, none⟩ (.int .u16 s.hd.d)).setCell ⟨w.heap.size + 2, 4, none⟩ (.bool s.hd.ht)).setCell ⟨w.heap.size + 2, 5, none⟩ (.bool s.hd.cy))).drew = Y at p0 p1 p2 p3 ⊢
  have u00 : Y.cell? ⟨w.heap.size, 0, none⟩ = some (.int .i64 s.mp.k) := (blk_cell p0 0).trans rfl
  have u01 : Y.cell? ⟨w.heap.size, 1, none⟩ = some (.bool s.mp.o) := (blk_cell p0 1).trans rfl
  have u02 : Y.cell? ⟨w.heap.size, 2, none⟩ = some (.int .u8 s.mp.l) := (blk_cell p0 2).trans rfl
  have u03 : Y.cell? ⟨w.heap.size, 3, none⟩ = some (.int .u8 s.mp.h) := (blk_cell p0 3).trans rfl
  have u04 : Y.cell? ⟨w.heap.size, 4, none⟩ = some (.int .u8 s.mp.r) := (blk_cell p0 4).trans rfl
  have u05 : Y.cell? ⟨w.heap.size, 5, none⟩ = some (.bool s.mp.md) := (blk_cell p0 5).trans rfl
  have u10 : Y.cell? ⟨w.heap.size + 1, 0, none⟩ = some (.int .u8 s.lv.s) := (blk_cell p1 0).trans rfl
  have u11 : Y.cell? ⟨w.heap.size + 1, 1, none⟩ = some (.int .u8 s.lv.m) := (blk_cell p1 1).trans rfl
  have u12 : Y.cell? ⟨w.heap.size + 1, 2, none⟩ = some (.int .u8 s.lv.h) := (blk_cell p1 2).trans rfl
  have u13 : Y.cell? ⟨w.heap.size + 1, 3, none⟩ = some (.int .u16 s.lv.d) := (blk_cell p1 3).trans rfl
  have u14 : Y.cell? ⟨w.heap.size + 1, 4, none⟩ = some (.bool s.lv.ht) := (blk_cell p1 4).trans rfl
  have u15 : Y.cell? ⟨w.heap.size + 1, 5, none⟩ = some (.bool s.lv.cy) := (blk_cell p1 5).trans rfl
  have u20 : Y.cell? ⟨w.heap.size + 2, 0, none⟩ = some (.int .u8 s.hd.s) := (blk_cell p2 0).trans rfl
  have u21 : Y.cell? ⟨w.heap.size + 2, 1, none⟩ = some (.int .u8 s.hd.m) := (blk_cell p2 1).trans rfl
  have u22 : Y.cell? ⟨w.heap.size + 2, 2, none⟩ = some (.int .u8 s.hd.h) := (blk_cell p2 2).trans rfl
  have u23 : Y.cell? ⟨w.heap.size + 2, 3, none⟩ = some (.int .u16 s.hd.d) := (blk_cell p2 3).trans rfl
  have u24 : Y.cell? ⟨w.heap.size + 2, 4, none⟩ = some (.bool s.hd.ht) := (blk_cell p2 4).trans rfl
  have u25 : Y.cell? ⟨w.heap.size + 2, 5, none⟩ = some (.bool s.hd.cy) := (blk_cell p2 5).trans rfl
  go_wp2_with fail
  exact bodyPost_ret (v := .tuple #[s.mp.v, s.lv.v, s.hd.v]) (by simp [results, Try.results17, go_sem, u00, u01, u02, u03, u04, u05, u10, u11, u12, u13, u14, u15, u20, u21, u22, u23, u24, u25]) rfl ⟨rfl, p3⟩
set_option maxRecDepth 100000 in
set_option maxHeartbeats 4000000 in
theorem state_nil (w : World) :
    Calls Try.prog 17 #[.pointer none] w fun e w' => e = .returned (.tuple #[Mp.v ⟨0, false, 0, 0, 0, false⟩, Ck.v ⟨0, 0, 0, 0, false, false⟩, Ck.v ⟨0, 0, 0, 0, false, false⟩]) ∧ Below w.heap.size w w' := by
  go_enter Try.func17, Try.ntmps17
  go_wp2
  go_returns
  exact ⟨rfl, by go_grown⟩
end Go.Proofs.Ytmjjojbedllmgaa.Hand
end
section
namespace Go.Proofs.Ytmjjojbedllmgaa.Hand
open Go.RowKit
open Go.Proofs.Ytmjjojbedllmgaa.G
open Go.Proofs.YtmjjojbedllmgaaW.PrintWords Go.Proofs.YtmjjojbedllmgaaW.PrintLast Go.Proofs.YtmjjojbedllmgaaW.PrintMore
set_option linter.unusedVariables false
set_option linter.unusedSimpArgs false
set_option maxRecDepth 100000
def Held (w : World) (B : Nat) (A : Option Addr) (c : Nat) (l : List Int) : Prop :=
  l.length ≤ c ∧ l.length ≤ 9223372036854775807 ∧ ((A = none ∧ l = []) ∨ ∃ g, A = some ⟨g, 0, none⟩ ∧ B ≤ g ∧ HeadL w g l)
theorem held_of_R {w : World} {base : Nat} {ok : Nat → Prop} {v : Value} {l : List Int} (h : Kd.R (Kd.int .u8) 5 w base ok v l) : ∃ A c, v = .slice A l.length c ∧ Held w base A c l := by
  rcases (Kd.own_of_R h).2 with ⟨rfl, hz⟩ | ⟨g, c, cur, rfl, hg, hcur, hci, hm, _, htk⟩
  · have e : l = [] := List.eq_nil_of_length_eq_zero hz
    subst e
    exact ⟨none, 0, rfl, by simp, by simp, Or.inl ⟨rfl, rfl⟩⟩
  · refine ⟨_, c, rfl, hci, by have : maxLen = 9223372036854775807 := rfl; omega, Or.inr ⟨g, rfl, hg, cur, hcur, fun i hi => ?_⟩⟩
    have q : (cur.toList.take (l.length * 1))[i]? = (encs (Value.int .u8) l)[i]? := by rw [htk]
    rw [List.getElem?_take_of_lt (by omega)] at q
    rw [← Array.getElem?_toList, q]
    simp [encs, rd, hi]
theorem Held.upto {w w' : World} {B : Nat} {A : Option Addr} {c : Nat} {l : List Int} {S : Nat → Prop} (h : Held w B A c l) (u : Upto S w w') (hS : ∀ k, S k → k < B) : Held w' B A c l := by
  obtain ⟨h1, h2, h3⟩ := h
  refine ⟨h1, h2, ?_⟩
  rcases h3 with h3 | ⟨g, hA, hB, hh⟩
  · exact Or.inl h3
  · exact Or.inr ⟨g, hA, hB, hh.of_block (u.block g hh.lt (fun q => by have := hS g q; omega))⟩
theorem Held.below {w w' : World} {B : Nat} {A : Option Addr} {c : Nat} {l : List Int} (h : Held w B A c l) (hb : Below w.heap.size w w') : Held w' B A c l :=
  h.upto (S := fun _ => False) (Upto.of_below hb) (fun _ q => q.elim)
theorem Held.C {w : World} {B : Nat} {A : Option Addr} {c : Nat} {l : List Int} (h : Held w B A c l) : Kd.C (Kd.int .u8) w A l.length l := by
  obtain ⟨h1, h2, h3⟩ := h
  rcases h3 with ⟨rfl, rfl⟩ | ⟨g, rfl, hB, hh⟩
  · exact ⟨rfl, by simp, fun z => absurd z (by simp)⟩
  · exact hh.reads h2
theorem C_text {w : World} {A : Option Addr} {c : Nat} {l : List Int} (h : Kd.C (Kd.int .u8) w A l.length l) : (convert 22 9 (.slice A l.length c)).run Try.prog w = .ok (.string (strOfNums l)) w :=
  Kd.C_string Try.underlying22 Try.underlying5 Try.underlying9 h
theorem Held.text {w : World} {B : Nat} {A : Option Addr} {c : Nat} {l : List Int} (h : Held w B A c l) : (convert 22 9 (.slice A l.length c)).run Try.prog w = .ok (.string (strOfNums l)) w := C_text h.C
theorem state_as {w : World} {a : Ad} {s : Ct} (h : CartAt w a s) (m : Mp) (l d : Ck) (hm : s.mp = m) (hl : s.lv = l) (hd : s.hd = d) :
    Calls Try.prog 17 #[a.p] w fun e w' => e = .returned (.tuple #[m.v, l.v, d.v]) ∧ Below w.heap.size w w' := by
  subst hm hl hd
  exact state_at h
theorem head_bt {w : World} {a : Ad} {s : Ct} (h : CartAt w a s) (b : Bool) (hb : s.hdr.bt = b) :
    Calls Try.prog 12 #[a.p] w fun e w' => e = .returned (.agg #[.string s.hdr.t, .int .u8 s.hdr.kd, .int .i64 s.hdr.mp, .bool s.hdr.rm, .bool b, .bool s.hdr.ck, .int .i64 s.hdr.bk, .int .i64 s.hdr.sz, .int .u8 s.hdr.sm, .int .u16 s.hdr.wh]) ∧ Below w.heap.size w w' := by
  subst hb
  exact head_at h
theorem field_bt (t : ByteArray) (a0 a1 : Int) (b0 b1 b2 : Bool) (a2 a3 a4 a5 : Int) (W : World) : (Instr.field 30 (.agg #[.string t, .int .u8 a0, .int .i64 a1, .bool b0, .bool b1, .bool b2, .int .i64 a2, .int .i64 a3, .int .u8 a4, .int .u16 a5]) 4).run Try.prog W = .ok (.bool b1) W := by kernel_rfl
end Go.Proofs.Ytmjjojbedllmgaa.Hand
end
section
namespace Go.Proofs.Ytmjjojbedllmgaa.Pure
open Go.RowKit Go.Proofs.Ytmjjojbedllmgaa.G Go.Proofs.Ytmjjojbedllmgaa.Hand
open Go.Proofs.YtmjjojbedllmgaaW.PrintWords Go.Proofs.YtmjjojbedllmgaaW.PrintLast Go.Proofs.YtmjjojbedllmgaaW.PrintMore
set_option maxRecDepth 100000
set_option linter.unusedVariables false
set_option linter.unusedSimpArgs false
def zk : Ck := ⟨0, 0, 0, 0, false, false⟩
def Zc (s : Ct) : Prop := s.hdr.ck = false → s.lv = zk ∧ s.hd = zk
theorem Zc.new (l : List Int) : Zc (newC l) := fun _ => ⟨rfl, rfl⟩
theorem Zc.write {s : Ct} (h : Zc s) (ad v : Int) : Zc (s.write ad v) := by
  intro hk
  rw [(write_keeps s ad v).2.2.1] at hk
  have hg : (s.reg ad).getD 0 = 0 := by unfold Ct.reg; rw [hk]; rfl
  unfold Ct.write
  split
  · rw [if_neg (by simp [hk])]
    exact h hk
  · rw [hg, if_neg (by omega)]
    split <;> exact h hk
theorem Zc.tick {s : Ct} (h : Zc s) : Zc s.tick := by
  intro hk
  rw [(tick_keeps s).2.2.1] at hk
  unfold Ct.tick
  rw [if_neg (by simp [hk])]
  exact h hk
theorem Zc.load {s : Ct} (h : Zc s) (l : List Int) : Zc (s.loadS l) := by
  intro hk
  rw [(load_keeps s l).2.2.1] at hk
  unfold Ct.loadS
  split
  · rw [if_neg (by simp [hk])]
    exact h hk
  · exact h hk
theorem Zc.step1 {s : Ct} (h : Zc s) (x : Act1) : Zc (Hand.step1 s x) := by
  unfold Hand.step1
  split
  · exact h.write _ _
  · split
    · exact h.tick
    · split
      · exact h.load _
      · exact h
theorem Zc.does : ∀ (l : List Act1) {s : Ct}, Zc s → Zc (doesS s l)
  | [], _, h => h
  | x :: r, _, h => Zc.does r (h.step1 x)
theorem given_back {s t : Ct} (hs : Nm s) (zs : Zc s) (zt : Zc t) (hh : t.hdr = s.hdr) (hl : t.ram.length = s.ram.length) (hbt : s.hdr.bt = true) :
    t.loadE s.saveL = 0 ∧ (t.loadS s.saveL).lv = s.lv ∧ (t.loadS s.saveL).hd = s.hd ∧ (t.loadS s.saveL).ram = s.ram ∧ (t.loadS s.saveL).saveL = s.saveL := by
  have hb := bytes_ct s hs
  have h10 := (bytesL_is s).2
  obtain ⟨x1, x2, x3⟩ := of_again s.lv s.hd hs.lv hs.hd
  rw [← hb] at x1 x2 x3
  have e0 : t.loadE s.saveL = 0 := by
    unfold Ct.loadE Ct.saveL
    rw [hh, if_pos hbt, if_pos hbt]
    cases hk : s.hdr.ck with
    | true => rw [if_pos rfl, if_pos rfl, if_pos (by rw [List.length_append]; omega), hl, List.drop_left, x3]
    | false => simp [hl]
  have q : (t.loadS s.saveL).lv = s.lv ∧ (t.loadS s.saveL).hd = s.hd ∧ (t.loadS s.saveL).ram = s.ram := by
    unfold Ct.loadS
    rw [if_pos e0]
    cases hk : s.hdr.ck with
    | true =>
      rw [hh, if_pos hk]
      have e : s.saveL = s.ram ++ s.bytesL := by unfold Ct.saveL; rw [if_pos hbt, if_pos hk]
      rw [e, hl]
      dsimp only
      rw [List.drop_left, List.take_left]
      exact ⟨x1, x2, rfl⟩
    | false =>
      rw [hh, if_neg (by simp [hk])]
      have e : s.saveL = s.ram := by unfold Ct.saveL; rw [if_pos hbt, if_neg (by simp [hk])]
      obtain ⟨a1, a2⟩ := zs hk
      obtain ⟨b1, b2⟩ := zt (by rw [hh]; exact hk)
      exact ⟨by rw [a1]; exact b1, by rw [a2]; exact b2, e⟩
  refine ⟨e0, q.1, q.2.1, q.2.2, ?_⟩
  have k := (load_keeps t s.saveL).2.2.1
  have hbb : (t.loadS s.saveL).bytesL = s.bytesL := by unfold Ct.bytesL Ct.bytes; rw [q.1, q.2.1]
  have hu : ∀ u v : Ct, u.hdr = v.hdr → u.ram = v.ram → u.bytesL = v.bytesL → u.saveL = v.saveL := by
    intro u v h1 h2 h3
    unfold Ct.saveL
    rw [h1, h2, h3]
  exact hu _ _ (k.trans hh) q.2.2 hbb
theorem save_none {s : Ct} (h : s.hdr.bt = false) : s.saveL = [] := by unfold Ct.saveL; rw [if_neg (by simp [h])]
theorem load_none {s : Ct} (h : s.hdr.bt = false) (l : List Int) : s.loadE l = 7 ∧ s.loadS l = s := by
  have e : s.loadE l = 7 := by unfold Ct.loadE; rw [if_neg (by simp [h])]
  exact ⟨e, by rw [Ct.loadS, e, if_neg (by omega)]⟩
theorem held_out {w : World} {B : Nat} {A : Option Addr} {c : Nat} {l : List Int} (h : Held w B A c l) (b : Nat) (hb : b < B) (h0 : 0 < l.length) : b ∉ ownA A := by
  obtain ⟨h1, h2, ⟨rfl, rfl⟩ | ⟨g, rfl, h3, _⟩⟩ := h
  · simp [ownA]
  · simp only [ownA, List.mem_singleton]
    omega
end Go.Proofs.Ytmjjojbedllmgaa.Pure
end
