/- clock.Of by hand: the bytes are not found again. -/
import Derived.Test.YtkfjofkocccefaaHWrite
import Derived.Test.YtkfjofkocccefaaHBytes
import Derived.Test.YtkfjofkocccefaaHOfDef
import Derived.Deep.MidRow
import Derived.Deep.RegionHeld2
import Derived.Deep.RegionHeld3
import Derived.Deep.RegionWith
import Derived.BigRegion
import Derived.Handy
namespace Go.Proofs.Ytkfjofkocccefaa.Hand
open Go.RowKit
open Go.Proofs.Ytkfjofkocccefaa.G
open Go.Proofs.YtkfjofkocccefaaW.PrintWords Go.Proofs.YtkfjofkocccefaaW.PrintLast Go.Proofs.YtkfjofkocccefaaW.PrintMore
set_option linter.unusedVariables false
set_option linter.unusedSimpArgs false
set_option maxRecDepth 100000 in
set_option maxHeartbeats 20000000 in
theorem of_no (A : Option Addr) (c : Nat) (l : List Int) (hl : l.length = 10) (X Y : Nat → C6) (e0 e1 e2 e3 e4 e5 e6 e7 e8 e9 : Int) (hX0 : X 0 = (0, 0, 0, 0, false, false)) (hY0 : Y 0 = (0, 0, 0, 0, false, false)) (h0 : clock_Write.f (X 0).1 (X 0).2.1 (X 0).2.2.1 (X 0).2.2.2.1 (X 0).2.2.2.2.1 (X 0).2.2.2.2.2 8 (rd l 0) = some ((X 1).1, (X 1).2.1, (X 1).2.2.1, (X 1).2.2.2.1, (X 1).2.2.2.2.1, (X 1).2.2.2.2.2, e0)) (h1 : clock_Write.f (X 1).1 (X 1).2.1 (X 1).2.2.1 (X 1).2.2.2.1 (X 1).2.2.2.2.1 (X 1).2.2.2.2.2 9 (rd l 1) = some ((X 2).1, (X 2).2.1, (X 2).2.2.1, (X 2).2.2.2.1, (X 2).2.2.2.2.1, (X 2).2.2.2.2.2, e1)) (h2 : clock_Write.f (X 2).1 (X 2).2.1 (X 2).2.2.1 (X 2).2.2.2.1 (X 2).2.2.2.2.1 (X 2).2.2.2.2.2 10 (rd l 2) = some ((X 3).1, (X 3).2.1, (X 3).2.2.1, (X 3).2.2.2.1, (X 3).2.2.2.2.1, (X 3).2.2.2.2.2, e2)) (h3 : clock_Write.f (X 3).1 (X 3).2.1 (X 3).2.2.1 (X 3).2.2.2.1 (X 3).2.2.2.2.1 (X 3).2.2.2.2.2 11 (rd l 3) = some ((X 4).1, (X 4).2.1, (X 4).2.2.1, (X 4).2.2.2.1, (X 4).2.2.2.2.1, (X 4).2.2.2.2.2, e3)) (h4 : clock_Write.f (X 4).1 (X 4).2.1 (X 4).2.2.1 (X 4).2.2.2.1 (X 4).2.2.2.2.1 (X 4).2.2.2.2.2 12 (rd l 4) = some ((X 5).1, (X 5).2.1, (X 5).2.2.1, (X 5).2.2.2.1, (X 5).2.2.2.2.1, (X 5).2.2.2.2.2, e4)) (h5 : clock_Write.f (Y 0).1 (Y 0).2.1 (Y 0).2.2.1 (Y 0).2.2.2.1 (Y 0).2.2.2.2.1 (Y 0).2.2.2.2.2 8 (rd l 5) = some ((Y 1).1, (Y 1).2.1, (Y 1).2.2.1, (Y 1).2.2.2.1, (Y 1).2.2.2.2.1, (Y 1).2.2.2.2.2, e5)) (h6 : clock_Write.f (Y 1).1 (Y 1).2.1 (Y 1).2.2.1 (Y 1).2.2.2.1 (Y 1).2.2.2.2.1 (Y 1).2.2.2.2.2 9 (rd l 6) = some ((Y 2).1, (Y 2).2.1, (Y 2).2.2.1, (Y 2).2.2.2.1, (Y 2).2.2.2.2.1, (Y 2).2.2.2.2.2, e6)) (h7 : clock_Write.f (Y 2).1 (Y 2).2.1 (Y 2).2.2.1 (Y 2).2.2.2.1 (Y 2).2.2.2.2.1 (Y 2).2.2.2.2.2 10 (rd l 7) = some ((Y 3).1, (Y 3).2.1, (Y 3).2.2.1, (Y 3).2.2.2.1, (Y 3).2.2.2.2.1, (Y 3).2.2.2.2.2, e7)) (h8 : clock_Write.f (Y 3).1 (Y 3).2.1 (Y 3).2.2.1 (Y 3).2.2.2.1 (Y 3).2.2.2.2.1 (Y 3).2.2.2.2.2 11 (rd l 8) = some ((Y 4).1, (Y 4).2.1, (Y 4).2.2.1, (Y 4).2.2.2.1, (Y 4).2.2.2.2.1, (Y 4).2.2.2.2.2, e8)) (h9 : clock_Write.f (Y 4).1 (Y 4).2.1 (Y 4).2.2.1 (Y 4).2.2.2.1 (Y 4).2.2.2.2.1 (Y 4).2.2.2.2.2 12 (rd l 9) = some ((Y 5).1, (Y 5).2.1, (Y 5).2.2.1, (Y 5).2.2.2.1, (Y 5).2.2.2.2.1, (Y 5).2.2.2.2.2, e9)) (r : List Int) (hB : clock_Bytes.f (X 5).1 (X 5).2.1 (X 5).2.2.1 (X 5).2.2.2.1 (X 5).2.2.2.2.1 (X 5).2.2.2.2.2 (Y 5).1 (Y 5).2.1 (Y 5).2.2.1 (Y 5).2.2.2.1 (Y 5).2.2.2.2.1 (Y 5).2.2.2.2.2 = some r) (w : World) (hr : Kd.C (Kd.int .u8) w A l.length l) (hc : l.length ≤ c) (hcmp : ((strOfNums r).toList == (strOfNums l).toList) = false) :
    Calls Try.prog 25 #[.slice A l.length c] w fun e' w' => e' = .returned (.tuple #[.agg #[.int .u8 0, .int .u8 0, .int .u8 0, .int .u16 0, .bool false, .bool false], .agg #[.int .u8 0, .int .u8 0, .int .u8 0, .int .u16 0, .bool false, .bool false], .int .i64 6]) ∧ Below w.heap.size w w' := by
  have HY := Aside0.mk hB
  clear hB
  rw [hl] at hr ⊢
  obtain ⟨ad, rfl, _⟩ := Kd.at_int hr 0 (by omega) (by omega)
  have H0 := Aside0.mk h0
  have H1 := Aside0.mk h1
  have H2 := Aside0.mk h2
  have H3 := Aside0.mk h3
  have H4 := Aside0.mk h4
  have H5 := Aside0.mk h5
  have H6 := Aside0.mk h6
  have H7 := Aside0.mk h7
  have H8 := Aside0.mk h8
  have H9 := Aside0.mk h9
  clear h0 h1 h2 h3 h4 h5 h6 h7 h8 h9
  have HR := Aside0.mk hr
  clear hr
  go_enter Try.func25, Try.ntmps25
  go_wp2_with fail
  have s1 : (w.alloc (.cells #[.int .u8 0, .int .u8 0, .int .u8 0, .int .u16 0, .bool false, .bool false] 24)).heap.size = w.heap.size + 1 := by simp
  have s2 : ((w.alloc (.cells #[.int .u8 0, .int .u8 0, .int .u8 0, .int .u16 0, .bool false, .bool false] 24)).alloc (.cells #[.int .u8 0, .int .u8 0, .int .u8 0, .int .u16 0, .bool false, .bool false] 24)).heap.size = w.heap.size + 1 + 1 := by simp
  have q1 := blk_alloc (blk_alloc (blk_new w (.cells #[.int .u8 0, .int .u8 0, .int .u8 0, .int .u16 0, .bool false, .bool false] 24)) (.cells #[.int .u8 0, .int .u8 0, .int .u8 0, .int .u16 0, .bool false, .bool false] 24)) (.cells #[.int .u8 0, .int .u8 0, .int .u8 0, .int .u16 0, .bool false, .bool false, .int .u8 0, .int .u8 0, .int .u8 0, .int .u16 0, .bool false, .bool false] 57)
  have q2 := heap_alloc_new (w.alloc (.cells #[.int .u8 0, .int .u8 0, .int .u8 0, .int .u16 0, .bool false, .bool false] 24)) (.cells #[.int .u8 0, .int .u8 0, .int .u8 0, .int .u16 0, .bool false, .bool false] 24)
  rw [s1] at q2
  have q2 := blk_alloc q2 (.cells #[.int .u8 0, .int .u8 0, .int .u8 0, .int .u16 0, .bool false, .bool false, .int .u8 0, .int .u8 0, .int .u8 0, .int .u16 0, .bool false, .bool false] 57)
  have q3 := heap_alloc_new ((w.alloc (.cells #[.int .u8 0, .int .u8 0, .int .u8 0, .int .u16 0, .bool false, .bool false] 24)).alloc (.cells #[.int .u8 0, .int .u8 0, .int .u8 0, .int .u16 0, .bool false, .bool false] 24)) (.cells #[.int .u8 0, .int .u8 0, .int .u8 0, .int .u16 0, .bool false, .bool false, .int .u8 0, .int .u8 0, .int .u8 0, .int .u16 0, .bool false, .bool false] 57)
  rw [s2] at q3
  have q4 := below_alloc (below_alloc (below_alloc (Below.refl w.heap.size w) (.cells #[.int .u8 0, .int .u8 0, .int .u8 0, .int .u16 0, .bool false, .bool false] 24)) (.cells #[.int .u8 0, .int .u8 0, .int .u8 0, .int .u16 0, .bool false, .bool false] 24)) (.cells #[.int .u8 0, .int .u8 0, .int .u8 0, .int .u16 0, .bool false, .bool false, .int .u8 0, .int .u8 0, .int .u8 0, .int .u16 0, .bool false, .bool false] 57)
  have q5 : (.cells #[.int .u8 0, .int .u8 0, .int .u8 0, .int .u16 0, .bool false, .bool false, .int .u8 0, .int .u8 0, .int .u8 0, .int .u16 0, .bool false, .bool false] 57 : Obj) = .cells (stOf X Y 0) 57 := by show Obj.cells _ _ = Obj.cells (csOf (X 0) (Y 0)) _; unfold csOf; rw [hX0, hY0]
  rw [q5] at q3
  go_loopw [15] (fun i w' => ∃ (j : Nat), i = .int .i64 j ∧ Aside0 (j ≤ 10 ∧ w'.heap[w.heap.size]? = some (.cells #[.int .u8 0, .int .u8 0, .int .u8 0, .int .u16 0, .bool false, .bool false] 24 (0, 0)) ∧ w'.heap[w.heap.size + 1]? = some (.cells #[.int .u8 0, .int .u8 0, .int .u8 0, .int .u16 0, .bool false, .bool false] 24 (0, 0)) ∧ w'.heap[(w.heap.size + 1 + 1)]? = some (.cells (stOf X Y j) 57 (0, 0)) ∧ Below w.heap.size w w')) (fun i _ => 20 - (intOf i).toNat)
  case atStart => exact ⟨0, rfl, Aside0.mk ⟨by omega, q1, q2, by rw [q5]; exact q3, q4⟩⟩
  case round =>
    obtain ⟨j, rfl, HA⟩ := hrel
    obtain ⟨hj, b1, b2, b3, hb⟩ := HA.out
    clear HA
    have B1 := Aside0.mk b1
    have B2 := Aside0.mk b2
    have B3 := Aside0.mk b3
    have HB := Aside0.mk hb
    have CB := Aside0.mk (Kd.C_below HR.out hb)
    clear hX0 hY0 b1 b2 b3 hb s1 s2 q1 q2 q3 q4 q5
    have hsz : (w.heap.size + 1 + 1) < wr.heap.size := blk_lt B3.out
    have hj6 : j = 0 ∨ j = 1 ∨ j = 2 ∨ j = 3 ∨ j = 4 ∨ j = 5 ∨ j = 6 ∨ j = 7 ∨ j = 8 ∨ j = 9 ∨ j = 10 := by omega
    clear hj
    rcases hj6 with rfl | rfl | rfl | rfl | rfl | rfl | rfl | rfl | rfl | rfl | rfl
    · obtain ⟨ad', ea, cb⟩ := Kd.at_int CB.out 0 (by omega) (by omega)
      obtain rfl := Option.some.inj ea
      clear ea
      have cb : wr.cell? ad = some (.int .u8 (rd l 0)) := by simpa [Addr.add] using cb
      have c0 : wr.cell? ⟨(w.heap.size + 1 + 1), 0, none⟩ = some (.int .u8 (X 0).1) := (blk_cell B3.out 0).trans rfl
      have c1 : wr.cell? ⟨(w.heap.size + 1 + 1), 1, none⟩ = some (.int .u8 (X 0).2.1) := (blk_cell B3.out 1).trans rfl
      have c2 : wr.cell? ⟨(w.heap.size + 1 + 1), 2, none⟩ = some (.int .u8 (X 0).2.2.1) := (blk_cell B3.out 2).trans rfl
      have c3 : wr.cell? ⟨(w.heap.size + 1 + 1), 3, none⟩ = some (.int .u16 (X 0).2.2.2.1) := (blk_cell B3.out 3).trans rfl
      have c4 : wr.cell? ⟨(w.heap.size + 1 + 1), 4, none⟩ = some (.bool (X 0).2.2.2.2.1) := (blk_cell B3.out 4).trans rfl
      have c5 : wr.cell? ⟨(w.heap.size + 1 + 1), 5, none⟩ = some (.bool (X 0).2.2.2.2.2) := (blk_cell B3.out 5).trans rfl
      have c6 : wr.cell? ⟨(w.heap.size + 1 + 1), 6, none⟩ = some (.int .u8 (Y 0).1) := (blk_cell B3.out 6).trans rfl
      have c7 : wr.cell? ⟨(w.heap.size + 1 + 1), 7, none⟩ = some (.int .u8 (Y 0).2.1) := (blk_cell B3.out 7).trans rfl
      have c8 : wr.cell? ⟨(w.heap.size + 1 + 1), 8, none⟩ = some (.int .u8 (Y 0).2.2.1) := (blk_cell B3.out 8).trans rfl
      have c9 : wr.cell? ⟨(w.heap.size + 1 + 1), 9, none⟩ = some (.int .u16 (Y 0).2.2.2.1) := (blk_cell B3.out 9).trans rfl
      have c10 : wr.cell? ⟨(w.heap.size + 1 + 1), 10, none⟩ = some (.bool (Y 0).2.2.2.2.1) := (blk_cell B3.out 10).trans rfl
      have c11 : wr.cell? ⟨(w.heap.size + 1 + 1), 11, none⟩ = some (.bool (Y 0).2.2.2.2.2) := (blk_cell B3.out 11).trans rfl
      go_wp2_with (first | (go_at_call 23; ((with_reducible refine (clock_Write.calls (X 0).1 (X 0).2.1 (X 0).2.2.1 (X 0).2.2.2.1 (X 0).2.2.2.2.1 (X 0).2.2.2.2.2 8 (rd l 0) (X 1).1 (X 1).2.1 (X 1).2.2.1 (X 1).2.2.2.1 (X 1).2.2.2.2.1 (X 1).2.2.2.2.2 e0 _ H0.out).mono ?_)); rintro e' w2 ⟨rfl, hb⟩; have n1 := Aside0.mk (blk_below B1.out hb); have n2 := Aside0.mk (blk_below B2.out hb); have n3 := Aside0.mk (blk_below B3.out hb); have n4 := Aside0.mk (below_step HB.out hb); clear hb; have d0 : w2.cell? ⟨(w.heap.size + 1 + 1), 0, none⟩ = some (.int .u8 (X 0).1) := (blk_cell n3.out 0).trans rfl; have d1 : w2.cell? ⟨(w.heap.size + 1 + 1), 1, none⟩ = some (.int .u8 (X 0).2.1) := (blk_cell n3.out 1).trans rfl; have d2 : w2.cell? ⟨(w.heap.size + 1 + 1), 2, none⟩ = some (.int .u8 (X 0).2.2.1) := (blk_cell n3.out 2).trans rfl; have d3 : w2.cell? ⟨(w.heap.size + 1 + 1), 3, none⟩ = some (.int .u16 (X 0).2.2.2.1) := (blk_cell n3.out 3).trans rfl; have d4 : w2.cell? ⟨(w.heap.size + 1 + 1), 4, none⟩ = some (.bool (X 0).2.2.2.2.1) := (blk_cell n3.out 4).trans rfl; have d5 : w2.cell? ⟨(w.heap.size + 1 + 1), 5, none⟩ = some (.bool (X 0).2.2.2.2.2) := (blk_cell n3.out 5).trans rfl; have d6 : w2.cell? ⟨(w.heap.size + 1 + 1), 6, none⟩ = some (.int .u8 (Y 0).1) := (blk_cell n3.out 6).trans rfl; have d7 : w2.cell? ⟨(w.heap.size + 1 + 1), 7, none⟩ = some (.int .u8 (Y 0).2.1) := (blk_cell n3.out 7).trans rfl; have d8 : w2.cell? ⟨(w.heap.size + 1 + 1), 8, none⟩ = some (.int .u8 (Y 0).2.2.1) := (blk_cell n3.out 8).trans rfl; have d9 : w2.cell? ⟨(w.heap.size + 1 + 1), 9, none⟩ = some (.int .u16 (Y 0).2.2.2.1) := (blk_cell n3.out 9).trans rfl; have d10 : w2.cell? ⟨(w.heap.size + 1 + 1), 10, none⟩ = some (.bool (Y 0).2.2.2.2.1) := (blk_cell n3.out 10).trans rfl; have d11 : w2.cell? ⟨(w.heap.size + 1 + 1), 11, none⟩ = some (.bool (Y 0).2.2.2.2.2) := (blk_cell n3.out 11).trans rfl; have fz := fun i => blk_frozen n3.out i))
      refine ⟨⟨1, rfl, Aside0.mk ⟨by omega, ?_, ?_, ?_, ?_⟩⟩, by simp [intOf]⟩
      · exact (blk_far (blk_far (blk_far (blk_far (blk_far (blk_far n1.out (by simp; omega) _) (by simp; omega) _) (by simp; omega) _) (by simp; omega) _) (by simp; omega) _) (by simp; omega) _)
      · exact (blk_far (blk_far (blk_far (blk_far (blk_far (blk_far n2.out (by simp) _) (by simp) _) (by simp) _) (by simp) _) (by simp) _) (by simp) _)
      · exact (blk_put (blk_put (blk_put (blk_put (blk_put (blk_put n3.out 0 _ rfl) 1 _ rfl) 2 _ rfl) 3 _ rfl) 4 _ rfl) 5 _ rfl)
      · exact (below_set (below_set (below_set (below_set (below_set (below_set n4.out (by omega)) (by omega)) (by omega)) (by omega)) (by omega)) (by omega))
    · obtain ⟨ad', ea, cb⟩ := Kd.at_int CB.out 1 (by omega) (by omega)
      obtain rfl := Option.some.inj ea
      clear ea
      have cb' : wr.cell? ⟨ad.block, ad.off + 1, none⟩ = some (.int .u8 (rd l 1)) := by simpa [Addr.add] using cb
      have c0 : wr.cell? ⟨(w.heap.size + 1 + 1), 0, none⟩ = some (.int .u8 (X 1).1) := (blk_cell B3.out 0).trans rfl
      have c1 : wr.cell? ⟨(w.heap.size + 1 + 1), 1, none⟩ = some (.int .u8 (X 1).2.1) := (blk_cell B3.out 1).trans rfl
      have c2 : wr.cell? ⟨(w.heap.size + 1 + 1), 2, none⟩ = some (.int .u8 (X 1).2.2.1) := (blk_cell B3.out 2).trans rfl
      have c3 : wr.cell? ⟨(w.heap.size + 1 + 1), 3, none⟩ = some (.int .u16 (X 1).2.2.2.1) := (blk_cell B3.out 3).trans rfl
      have c4 : wr.cell? ⟨(w.heap.size + 1 + 1), 4, none⟩ = some (.bool (X 1).2.2.2.2.1) := (blk_cell B3.out 4).trans rfl
      have c5 : wr.cell? ⟨(w.heap.size + 1 + 1), 5, none⟩ = some (.bool (X 1).2.2.2.2.2) := (blk_cell B3.out 5).trans rfl
      have c6 : wr.cell? ⟨(w.heap.size + 1 + 1), 6, none⟩ = some (.int .u8 (Y 0).1) := (blk_cell B3.out 6).trans rfl
      have c7 : wr.cell? ⟨(w.heap.size + 1 + 1), 7, none⟩ = some (.int .u8 (Y 0).2.1) := (blk_cell B3.out 7).trans rfl
      have c8 : wr.cell? ⟨(w.heap.size + 1 + 1), 8, none⟩ = some (.int .u8 (Y 0).2.2.1) := (blk_cell B3.out 8).trans rfl
      have c9 : wr.cell? ⟨(w.heap.size + 1 + 1), 9, none⟩ = some (.int .u16 (Y 0).2.2.2.1) := (blk_cell B3.out 9).trans rfl
      have c10 : wr.cell? ⟨(w.heap.size + 1 + 1), 10, none⟩ = some (.bool (Y 0).2.2.2.2.1) := (blk_cell B3.out 10).trans rfl
      have c11 : wr.cell? ⟨(w.heap.size + 1 + 1), 11, none⟩ = some (.bool (Y 0).2.2.2.2.2) := (blk_cell B3.out 11).trans rfl
      go_wp2_with (first | (go_at_call 23; ((with_reducible refine (clock_Write.calls (X 1).1 (X 1).2.1 (X 1).2.2.1 (X 1).2.2.2.1 (X 1).2.2.2.2.1 (X 1).2.2.2.2.2 9 (rd l 1) (X 2).1 (X 2).2.1 (X 2).2.2.1 (X 2).2.2.2.1 (X 2).2.2.2.2.1 (X 2).2.2.2.2.2 e1 _ H1.out).mono ?_)); rintro e' w2 ⟨rfl, hb⟩; have n1 := Aside0.mk (blk_below B1.out hb); have n2 := Aside0.mk (blk_below B2.out hb); have n3 := Aside0.mk (blk_below B3.out hb); have n4 := Aside0.mk (below_step HB.out hb); clear hb; have d0 : w2.cell? ⟨(w.heap.size + 1 + 1), 0, none⟩ = some (.int .u8 (X 1).1) := (blk_cell n3.out 0).trans rfl; have d1 : w2.cell? ⟨(w.heap.size + 1 + 1), 1, none⟩ = some (.int .u8 (X 1).2.1) := (blk_cell n3.out 1).trans rfl; have d2 : w2.cell? ⟨(w.heap.size + 1 + 1), 2, none⟩ = some (.int .u8 (X 1).2.2.1) := (blk_cell n3.out 2).trans rfl; have d3 : w2.cell? ⟨(w.heap.size + 1 + 1), 3, none⟩ = some (.int .u16 (X 1).2.2.2.1) := (blk_cell n3.out 3).trans rfl; have d4 : w2.cell? ⟨(w.heap.size + 1 + 1), 4, none⟩ = some (.bool (X 1).2.2.2.2.1) := (blk_cell n3.out 4).trans rfl; have d5 : w2.cell? ⟨(w.heap.size + 1 + 1), 5, none⟩ = some (.bool (X 1).2.2.2.2.2) := (blk_cell n3.out 5).trans rfl; have d6 : w2.cell? ⟨(w.heap.size + 1 + 1), 6, none⟩ = some (.int .u8 (Y 0).1) := (blk_cell n3.out 6).trans rfl; have d7 : w2.cell? ⟨(w.heap.size + 1 + 1), 7, none⟩ = some (.int .u8 (Y 0).2.1) := (blk_cell n3.out 7).trans rfl; have d8 : w2.cell? ⟨(w.heap.size + 1 + 1), 8, none⟩ = some (.int .u8 (Y 0).2.2.1) := (blk_cell n3.out 8).trans rfl; have d9 : w2.cell? ⟨(w.heap.size + 1 + 1), 9, none⟩ = some (.int .u16 (Y 0).2.2.2.1) := (blk_cell n3.out 9).trans rfl; have d10 : w2.cell? ⟨(w.heap.size + 1 + 1), 10, none⟩ = some (.bool (Y 0).2.2.2.2.1) := (blk_cell n3.out 10).trans rfl; have d11 : w2.cell? ⟨(w.heap.size + 1 + 1), 11, none⟩ = some (.bool (Y 0).2.2.2.2.2) := (blk_cell n3.out 11).trans rfl; have fz := fun i => blk_frozen n3.out i))
      refine ⟨⟨2, rfl, Aside0.mk ⟨by omega, ?_, ?_, ?_, ?_⟩⟩, by simp [intOf]⟩
      · exact (blk_far (blk_far (blk_far (blk_far (blk_far (blk_far n1.out (by simp; omega) _) (by simp; omega) _) (by simp; omega) _) (by simp; omega) _) (by simp; omega) _) (by simp; omega) _)
      · exact (blk_far (blk_far (blk_far (blk_far (blk_far (blk_far n2.out (by simp) _) (by simp) _) (by simp) _) (by simp) _) (by simp) _) (by simp) _)
      · exact (blk_put (blk_put (blk_put (blk_put (blk_put (blk_put n3.out 0 _ rfl) 1 _ rfl) 2 _ rfl) 3 _ rfl) 4 _ rfl) 5 _ rfl)
      · exact (below_set (below_set (below_set (below_set (below_set (below_set n4.out (by omega)) (by omega)) (by omega)) (by omega)) (by omega)) (by omega))
    · obtain ⟨ad', ea, cb⟩ := Kd.at_int CB.out 2 (by omega) (by omega)
      obtain rfl := Option.some.inj ea
      clear ea
      have cb' : wr.cell? ⟨ad.block, ad.off + 2, none⟩ = some (.int .u8 (rd l 2)) := by simpa [Addr.add] using cb
      have c0 : wr.cell? ⟨(w.heap.size + 1 + 1), 0, none⟩ = some (.int .u8 (X 2).1) := (blk_cell B3.out 0).trans rfl
      have c1 : wr.cell? ⟨(w.heap.size + 1 + 1), 1, none⟩ = some (.int .u8 (X 2).2.1) := (blk_cell B3.out 1).trans rfl
      have c2 : wr.cell? ⟨(w.heap.size + 1 + 1), 2, none⟩ = some (.int .u8 (X 2).2.2.1) := (blk_cell B3.out 2).trans rfl
      have c3 : wr.cell? ⟨(w.heap.size + 1 + 1), 3, none⟩ = some (.int .u16 (X 2).2.2.2.1) := (blk_cell B3.out 3).trans rfl
      have c4 : wr.cell? ⟨(w.heap.size + 1 + 1), 4, none⟩ = some (.bool (X 2).2.2.2.2.1) := (blk_cell B3.out 4).trans rfl
      have c5 : wr.cell? ⟨(w.heap.size + 1 + 1), 5, none⟩ = some (.bool (X 2).2.2.2.2.2) := (blk_cell B3.out 5).trans rfl
      have c6 : wr.cell? ⟨(w.heap.size + 1 + 1), 6, none⟩ = some (.int .u8 (Y 0).1) := (blk_cell B3.out 6).trans rfl
      have c7 : wr.cell? ⟨(w.heap.size + 1 + 1), 7, none⟩ = some (.int .u8 (Y 0).2.1) := (blk_cell B3.out 7).trans rfl
      have c8 : wr.cell? ⟨(w.heap.size + 1 + 1), 8, none⟩ = some (.int .u8 (Y 0).2.2.1) := (blk_cell B3.out 8).trans rfl
      have c9 : wr.cell? ⟨(w.heap.size + 1 + 1), 9, none⟩ = some (.int .u16 (Y 0).2.2.2.1) := (blk_cell B3.out 9).trans rfl
      have c10 : wr.cell? ⟨(w.heap.size + 1 + 1), 10, none⟩ = some (.bool (Y 0).2.2.2.2.1) := (blk_cell B3.out 10).trans rfl
      have c11 : wr.cell? ⟨(w.heap.size + 1 + 1), 11, none⟩ = some (.bool (Y 0).2.2.2.2.2) := (blk_cell B3.out 11).trans rfl
      go_wp2_with (first | (go_at_call 23; ((with_reducible refine (clock_Write.calls (X 2).1 (X 2).2.1 (X 2).2.2.1 (X 2).2.2.2.1 (X 2).2.2.2.2.1 (X 2).2.2.2.2.2 10 (rd l 2) (X 3).1 (X 3).2.1 (X 3).2.2.1 (X 3).2.2.2.1 (X 3).2.2.2.2.1 (X 3).2.2.2.2.2 e2 _ H2.out).mono ?_)); rintro e' w2 ⟨rfl, hb⟩; have n1 := Aside0.mk (blk_below B1.out hb); have n2 := Aside0.mk (blk_below B2.out hb); have n3 := Aside0.mk (blk_below B3.out hb); have n4 := Aside0.mk (below_step HB.out hb); clear hb; have d0 : w2.cell? ⟨(w.heap.size + 1 + 1), 0, none⟩ = some (.int .u8 (X 2).1) := (blk_cell n3.out 0).trans rfl; have d1 : w2.cell? ⟨(w.heap.size + 1 + 1), 1, none⟩ = some (.int .u8 (X 2).2.1) := (blk_cell n3.out 1).trans rfl; have d2 : w2.cell? ⟨(w.heap.size + 1 + 1), 2, none⟩ = some (.int .u8 (X 2).2.2.1) := (blk_cell n3.out 2).trans rfl; have d3 : w2.cell? ⟨(w.heap.size + 1 + 1), 3, none⟩ = some (.int .u16 (X 2).2.2.2.1) := (blk_cell n3.out 3).trans rfl; have d4 : w2.cell? ⟨(w.heap.size + 1 + 1), 4, none⟩ = some (.bool (X 2).2.2.2.2.1) := (blk_cell n3.out 4).trans rfl; have d5 : w2.cell? ⟨(w.heap.size + 1 + 1), 5, none⟩ = some (.bool (X 2).2.2.2.2.2) := (blk_cell n3.out 5).trans rfl; have d6 : w2.cell? ⟨(w.heap.size + 1 + 1), 6, none⟩ = some (.int .u8 (Y 0).1) := (blk_cell n3.out 6).trans rfl; have d7 : w2.cell? ⟨(w.heap.size + 1 + 1), 7, none⟩ = some (.int .u8 (Y 0).2.1) := (blk_cell n3.out 7).trans rfl; have d8 : w2.cell? ⟨(w.heap.size + 1 + 1), 8, none⟩ = some (.int .u8 (Y 0).2.2.1) := (blk_cell n3.out 8).trans rfl; have d9 : w2.cell? ⟨(w.heap.size + 1 + 1), 9, none⟩ = some (.int .u16 (Y 0).2.2.2.1) := (blk_cell n3.out 9).trans rfl; have d10 : w2.cell? ⟨(w.heap.size + 1 + 1), 10, none⟩ = some (.bool (Y 0).2.2.2.2.1) := (blk_cell n3.out 10).trans rfl; have d11 : w2.cell? ⟨(w.heap.size + 1 + 1), 11, none⟩ = some (.bool (Y 0).2.2.2.2.2) := (blk_cell n3.out 11).trans rfl; have fz := fun i => blk_frozen n3.out i))
      refine ⟨⟨3, rfl, Aside0.mk ⟨by omega, ?_, ?_, ?_, ?_⟩⟩, by simp [intOf]⟩
      · exact (blk_far (blk_far (blk_far (blk_far (blk_far (blk_far n1.out (by simp; omega) _) (by simp; omega) _) (by simp; omega) _) (by simp; omega) _) (by simp; omega) _) (by simp; omega) _)
      · exact (blk_far (blk_far (blk_far (blk_far (blk_far (blk_far n2.out (by simp) _) (by simp) _) (by simp) _) (by simp) _) (by simp) _) (by simp) _)
      · exact (blk_put (blk_put (blk_put (blk_put (blk_put (blk_put n3.out 0 _ rfl) 1 _ rfl) 2 _ rfl) 3 _ rfl) 4 _ rfl) 5 _ rfl)
      · exact (below_set (below_set (below_set (below_set (below_set (below_set n4.out (by omega)) (by omega)) (by omega)) (by omega)) (by omega)) (by omega))
    · obtain ⟨ad', ea, cb⟩ := Kd.at_int CB.out 3 (by omega) (by omega)
      obtain rfl := Option.some.inj ea
      clear ea
      have cb' : wr.cell? ⟨ad.block, ad.off + 3, none⟩ = some (.int .u8 (rd l 3)) := by simpa [Addr.add] using cb
      have c0 : wr.cell? ⟨(w.heap.size + 1 + 1), 0, none⟩ = some (.int .u8 (X 3).1) := (blk_cell B3.out 0).trans rfl
      have c1 : wr.cell? ⟨(w.heap.size + 1 + 1), 1, none⟩ = some (.int .u8 (X 3).2.1) := (blk_cell B3.out 1).trans rfl
      have c2 : wr.cell? ⟨(w.heap.size + 1 + 1), 2, none⟩ = some (.int .u8 (X 3).2.2.1) := (blk_cell B3.out 2).trans rfl
      have c3 : wr.cell? ⟨(w.heap.size + 1 + 1), 3, none⟩ = some (.int .u16 (X 3).2.2.2.1) := (blk_cell B3.out 3).trans rfl
      have c4 : wr.cell? ⟨(w.heap.size + 1 + 1), 4, none⟩ = some (.bool (X 3).2.2.2.2.1) := (blk_cell B3.out 4).trans rfl
      have c5 : wr.cell? ⟨(w.heap.size + 1 + 1), 5, none⟩ = some (.bool (X 3).2.2.2.2.2) := (blk_cell B3.out 5).trans rfl
      have c6 : wr.cell? ⟨(w.heap.size + 1 + 1), 6, none⟩ = some (.int .u8 (Y 0).1) := (blk_cell B3.out 6).trans rfl
      have c7 : wr.cell? ⟨(w.heap.size + 1 + 1), 7, none⟩ = some (.int .u8 (Y 0).2.1) := (blk_cell B3.out 7).trans rfl
      have c8 : wr.cell? ⟨(w.heap.size + 1 + 1), 8, none⟩ = some (.int .u8 (Y 0).2.2.1) := (blk_cell B3.out 8).trans rfl
      have c9 : wr.cell? ⟨(w.heap.size + 1 + 1), 9, none⟩ = some (.int .u16 (Y 0).2.2.2.1) := (blk_cell B3.out 9).trans rfl
      have c10 : wr.cell? ⟨(w.heap.size + 1 + 1), 10, none⟩ = some (.bool (Y 0).2.2.2.2.1) := (blk_cell B3.out 10).trans rfl
      have c11 : wr.cell? ⟨(w.heap.size + 1 + 1), 11, none⟩ = some (.bool (Y 0).2.2.2.2.2) := (blk_cell B3.out 11).trans rfl
      go_wp2_with (first | (go_at_call 23; ((with_reducible refine (clock_Write.calls (X 3).1 (X 3).2.1 (X 3).2.2.1 (X 3).2.2.2.1 (X 3).2.2.2.2.1 (X 3).2.2.2.2.2 11 (rd l 3) (X 4).1 (X 4).2.1 (X 4).2.2.1 (X 4).2.2.2.1 (X 4).2.2.2.2.1 (X 4).2.2.2.2.2 e3 _ H3.out).mono ?_)); rintro e' w2 ⟨rfl, hb⟩; have n1 := Aside0.mk (blk_below B1.out hb); have n2 := Aside0.mk (blk_below B2.out hb); have n3 := Aside0.mk (blk_below B3.out hb); have n4 := Aside0.mk (below_step HB.out hb); clear hb; have d0 : w2.cell? ⟨(w.heap.size + 1 + 1), 0, none⟩ = some (.int .u8 (X 3).1) := (blk_cell n3.out 0).trans rfl; have d1 : w2.cell? ⟨(w.heap.size + 1 + 1), 1, none⟩ = some (.int .u8 (X 3).2.1) := (blk_cell n3.out 1).trans rfl; have d2 : w2.cell? ⟨(w.heap.size + 1 + 1), 2, none⟩ = some (.int .u8 (X 3).2.2.1) := (blk_cell n3.out 2).trans rfl; have d3 : w2.cell? ⟨(w.heap.size + 1 + 1), 3, none⟩ = some (.int .u16 (X 3).2.2.2.1) := (blk_cell n3.out 3).trans rfl; have d4 : w2.cell? ⟨(w.heap.size + 1 + 1), 4, none⟩ = some (.bool (X 3).2.2.2.2.1) := (blk_cell n3.out 4).trans rfl; have d5 : w2.cell? ⟨(w.heap.size + 1 + 1), 5, none⟩ = some (.bool (X 3).2.2.2.2.2) := (blk_cell n3.out 5).trans rfl; have d6 : w2.cell? ⟨(w.heap.size + 1 + 1), 6, none⟩ = some (.int .u8 (Y 0).1) := (blk_cell n3.out 6).trans rfl; have d7 : w2.cell? ⟨(w.heap.size + 1 + 1), 7, none⟩ = some (.int .u8 (Y 0).2.1) := (blk_cell n3.out 7).trans rfl; have d8 : w2.cell? ⟨(w.heap.size + 1 + 1), 8, none⟩ = some (.int .u8 (Y 0).2.2.1) := (blk_cell n3.out 8).trans rfl; have d9 : w2.cell? ⟨(w.heap.size + 1 + 1), 9, none⟩ = some (.int .u16 (Y 0).2.2.2.1) := (blk_cell n3.out 9).trans rfl; have d10 : w2.cell? ⟨(w.heap.size + 1 + 1), 10, none⟩ = some (.bool (Y 0).2.2.2.2.1) := (blk_cell n3.out 10).trans rfl; have d11 : w2.cell? ⟨(w.heap.size + 1 + 1), 11, none⟩ = some (.bool (Y 0).2.2.2.2.2) := (blk_cell n3.out 11).trans rfl; have fz := fun i => blk_frozen n3.out i))
      refine ⟨⟨4, rfl, Aside0.mk ⟨by omega, ?_, ?_, ?_, ?_⟩⟩, by simp [intOf]⟩
      · exact (blk_far (blk_far (blk_far (blk_far (blk_far (blk_far n1.out (by simp; omega) _) (by simp; omega) _) (by simp; omega) _) (by simp; omega) _) (by simp; omega) _) (by simp; omega) _)
      · exact (blk_far (blk_far (blk_far (blk_far (blk_far (blk_far n2.out (by simp) _) (by simp) _) (by simp) _) (by simp) _) (by simp) _) (by simp) _)
      · exact (blk_put (blk_put (blk_put (blk_put (blk_put (blk_put n3.out 0 _ rfl) 1 _ rfl) 2 _ rfl) 3 _ rfl) 4 _ rfl) 5 _ rfl)
      · exact (below_set (below_set (below_set (below_set (below_set (below_set n4.out (by omega)) (by omega)) (by omega)) (by omega)) (by omega)) (by omega))
    · obtain ⟨ad', ea, cb⟩ := Kd.at_int CB.out 4 (by omega) (by omega)
      obtain rfl := Option.some.inj ea
      clear ea
      have cb' : wr.cell? ⟨ad.block, ad.off + 4, none⟩ = some (.int .u8 (rd l 4)) := by simpa [Addr.add] using cb
      have c0 : wr.cell? ⟨(w.heap.size + 1 + 1), 0, none⟩ = some (.int .u8 (X 4).1) := (blk_cell B3.out 0).trans rfl
      have c1 : wr.cell? ⟨(w.heap.size + 1 + 1), 1, none⟩ = some (.int .u8 (X 4).2.1) := (blk_cell B3.out 1).trans rfl
      have c2 : wr.cell? ⟨(w.heap.size + 1 + 1), 2, none⟩ = some (.int .u8 (X 4).2.2.1) := (blk_cell B3.out 2).trans rfl
      have c3 : wr.cell? ⟨(w.heap.size + 1 + 1), 3, none⟩ = some (.int .u16 (X 4).2.2.2.1) := (blk_cell B3.out 3).trans rfl
      have c4 : wr.cell? ⟨(w.heap.size + 1 + 1), 4, none⟩ = some (.bool (X 4).2.2.2.2.1) := (blk_cell B3.out 4).trans rfl
      have c5 : wr.cell? ⟨(w.heap.size + 1 + 1), 5, none⟩ = some (.bool (X 4).2.2.2.2.2) := (blk_cell B3.out 5).trans rfl
      have c6 : wr.cell? ⟨(w.heap.size + 1 + 1), 6, none⟩ = some (.int .u8 (Y 0).1) := (blk_cell B3.out 6).trans rfl
      have c7 : wr.cell? ⟨(w.heap.size + 1 + 1), 7, none⟩ = some (.int .u8 (Y 0).2.1) := (blk_cell B3.out 7).trans rfl
      have c8 : wr.cell? ⟨(w.heap.size + 1 + 1), 8, none⟩ = some (.int .u8 (Y 0).2.2.1) := (blk_cell B3.out 8).trans rfl
      have c9 : wr.cell? ⟨(w.heap.size + 1 + 1), 9, none⟩ = some (.int .u16 (Y 0).2.2.2.1) := (blk_cell B3.out 9).trans rfl
      have c10 : wr.cell? ⟨(w.heap.size + 1 + 1), 10, none⟩ = some (.bool (Y 0).2.2.2.2.1) := (blk_cell B3.out 10).trans rfl
      have c11 : wr.cell? ⟨(w.heap.size + 1 + 1), 11, none⟩ = some (.bool (Y 0).2.2.2.2.2) := (blk_cell B3.out 11).trans rfl
      go_wp2_with (first | (go_at_call 23; ((with_reducible refine (clock_Write.calls (X 4).1 (X 4).2.1 (X 4).2.2.1 (X 4).2.2.2.1 (X 4).2.2.2.2.1 (X 4).2.2.2.2.2 12 (rd l 4) (X 5).1 (X 5).2.1 (X 5).2.2.1 (X 5).2.2.2.1 (X 5).2.2.2.2.1 (X 5).2.2.2.2.2 e4 _ H4.out).mono ?_)); rintro e' w2 ⟨rfl, hb⟩; have n1 := Aside0.mk (blk_below B1.out hb); have n2 := Aside0.mk (blk_below B2.out hb); have n3 := Aside0.mk (blk_below B3.out hb); have n4 := Aside0.mk (below_step HB.out hb); clear hb; have d0 : w2.cell? ⟨(w.heap.size + 1 + 1), 0, none⟩ = some (.int .u8 (X 4).1) := (blk_cell n3.out 0).trans rfl; have d1 : w2.cell? ⟨(w.heap.size + 1 + 1), 1, none⟩ = some (.int .u8 (X 4).2.1) := (blk_cell n3.out 1).trans rfl; have d2 : w2.cell? ⟨(w.heap.size + 1 + 1), 2, none⟩ = some (.int .u8 (X 4).2.2.1) := (blk_cell n3.out 2).trans rfl; have d3 : w2.cell? ⟨(w.heap.size + 1 + 1), 3, none⟩ = some (.int .u16 (X 4).2.2.2.1) := (blk_cell n3.out 3).trans rfl; have d4 : w2.cell? ⟨(w.heap.size + 1 + 1), 4, none⟩ = some (.bool (X 4).2.2.2.2.1) := (blk_cell n3.out 4).trans rfl; have d5 : w2.cell? ⟨(w.heap.size + 1 + 1), 5, none⟩ = some (.bool (X 4).2.2.2.2.2) := (blk_cell n3.out 5).trans rfl; have d6 : w2.cell? ⟨(w.heap.size + 1 + 1), 6, none⟩ = some (.int .u8 (Y 0).1) := (blk_cell n3.out 6).trans rfl; have d7 : w2.cell? ⟨(w.heap.size + 1 + 1), 7, none⟩ = some (.int .u8 (Y 0).2.1) := (blk_cell n3.out 7).trans rfl; have d8 : w2.cell? ⟨(w.heap.size + 1 + 1), 8, none⟩ = some (.int .u8 (Y 0).2.2.1) := (blk_cell n3.out 8).trans rfl; have d9 : w2.cell? ⟨(w.heap.size + 1 + 1), 9, none⟩ = some (.int .u16 (Y 0).2.2.2.1) := (blk_cell n3.out 9).trans rfl; have d10 : w2.cell? ⟨(w.heap.size + 1 + 1), 10, none⟩ = some (.bool (Y 0).2.2.2.2.1) := (blk_cell n3.out 10).trans rfl; have d11 : w2.cell? ⟨(w.heap.size + 1 + 1), 11, none⟩ = some (.bool (Y 0).2.2.2.2.2) := (blk_cell n3.out 11).trans rfl; have fz := fun i => blk_frozen n3.out i))
      refine ⟨⟨5, rfl, Aside0.mk ⟨by omega, ?_, ?_, ?_, ?_⟩⟩, by simp [intOf]⟩
      · exact (blk_far (blk_far (blk_far (blk_far (blk_far (blk_far n1.out (by simp; omega) _) (by simp; omega) _) (by simp; omega) _) (by simp; omega) _) (by simp; omega) _) (by simp; omega) _)
      · exact (blk_far (blk_far (blk_far (blk_far (blk_far (blk_far n2.out (by simp) _) (by simp) _) (by simp) _) (by simp) _) (by simp) _) (by simp) _)
      · exact (blk_put (blk_put (blk_put (blk_put (blk_put (blk_put n3.out 0 _ rfl) 1 _ rfl) 2 _ rfl) 3 _ rfl) 4 _ rfl) 5 _ rfl)
      · exact (below_set (below_set (below_set (below_set (below_set (below_set n4.out (by omega)) (by omega)) (by omega)) (by omega)) (by omega)) (by omega))
    · obtain ⟨ad', ea, cb⟩ := Kd.at_int CB.out 5 (by omega) (by omega)
      obtain rfl := Option.some.inj ea
      clear ea
      have cb' : wr.cell? ⟨ad.block, ad.off + 5, none⟩ = some (.int .u8 (rd l 5)) := by simpa [Addr.add] using cb
      have c0 : wr.cell? ⟨(w.heap.size + 1 + 1), 0, none⟩ = some (.int .u8 (X 5).1) := (blk_cell B3.out 0).trans rfl
      have c1 : wr.cell? ⟨(w.heap.size + 1 + 1), 1, none⟩ = some (.int .u8 (X 5).2.1) := (blk_cell B3.out 1).trans rfl
      have c2 : wr.cell? ⟨(w.heap.size + 1 + 1), 2, none⟩ = some (.int .u8 (X 5).2.2.1) := (blk_cell B3.out 2).trans rfl
      have c3 : wr.cell? ⟨(w.heap.size + 1 + 1), 3, none⟩ = some (.int .u16 (X 5).2.2.2.1) := (blk_cell B3.out 3).trans rfl
      have c4 : wr.cell? ⟨(w.heap.size + 1 + 1), 4, none⟩ = some (.bool (X 5).2.2.2.2.1) := (blk_cell B3.out 4).trans rfl
      have c5 : wr.cell? ⟨(w.heap.size + 1 + 1), 5, none⟩ = some (.bool (X 5).2.2.2.2.2) := (blk_cell B3.out 5).trans rfl
      have c6 : wr.cell? ⟨(w.heap.size + 1 + 1), 6, none⟩ = some (.int .u8 (Y 0).1) := (blk_cell B3.out 6).trans rfl
      have c7 : wr.cell? ⟨(w.heap.size + 1 + 1), 7, none⟩ = some (.int .u8 (Y 0).2.1) := (blk_cell B3.out 7).trans rfl
      have c8 : wr.cell? ⟨(w.heap.size + 1 + 1), 8, none⟩ = some (.int .u8 (Y 0).2.2.1) := (blk_cell B3.out 8).trans rfl
      have c9 : wr.cell? ⟨(w.heap.size + 1 + 1), 9, none⟩ = some (.int .u16 (Y 0).2.2.2.1) := (blk_cell B3.out 9).trans rfl
      have c10 : wr.cell? ⟨(w.heap.size + 1 + 1), 10, none⟩ = some (.bool (Y 0).2.2.2.2.1) := (blk_cell B3.out 10).trans rfl
      have c11 : wr.cell? ⟨(w.heap.size + 1 + 1), 11, none⟩ = some (.bool (Y 0).2.2.2.2.2) := (blk_cell B3.out 11).trans rfl
      go_wp2_with (first | (go_at_call 23; ((with_reducible refine (clock_Write.calls (Y 0).1 (Y 0).2.1 (Y 0).2.2.1 (Y 0).2.2.2.1 (Y 0).2.2.2.2.1 (Y 0).2.2.2.2.2 8 (rd l 5) (Y 1).1 (Y 1).2.1 (Y 1).2.2.1 (Y 1).2.2.2.1 (Y 1).2.2.2.2.1 (Y 1).2.2.2.2.2 e5 _ H5.out).mono ?_)); rintro e' w2 ⟨rfl, hb⟩; have n1 := Aside0.mk (blk_below B1.out hb); have n2 := Aside0.mk (blk_below B2.out hb); have n3 := Aside0.mk (blk_below B3.out hb); have n4 := Aside0.mk (below_step HB.out hb); clear hb; have d0 : w2.cell? ⟨(w.heap.size + 1 + 1), 0, none⟩ = some (.int .u8 (X 5).1) := (blk_cell n3.out 0).trans rfl; have d1 : w2.cell? ⟨(w.heap.size + 1 + 1), 1, none⟩ = some (.int .u8 (X 5).2.1) := (blk_cell n3.out 1).trans rfl; have d2 : w2.cell? ⟨(w.heap.size + 1 + 1), 2, none⟩ = some (.int .u8 (X 5).2.2.1) := (blk_cell n3.out 2).trans rfl; have d3 : w2.cell? ⟨(w.heap.size + 1 + 1), 3, none⟩ = some (.int .u16 (X 5).2.2.2.1) := (blk_cell n3.out 3).trans rfl; have d4 : w2.cell? ⟨(w.heap.size + 1 + 1), 4, none⟩ = some (.bool (X 5).2.2.2.2.1) := (blk_cell n3.out 4).trans rfl; have d5 : w2.cell? ⟨(w.heap.size + 1 + 1), 5, none⟩ = some (.bool (X 5).2.2.2.2.2) := (blk_cell n3.out 5).trans rfl; have d6 : w2.cell? ⟨(w.heap.size + 1 + 1), 6, none⟩ = some (.int .u8 (Y 0).1) := (blk_cell n3.out 6).trans rfl; have d7 : w2.cell? ⟨(w.heap.size + 1 + 1), 7, none⟩ = some (.int .u8 (Y 0).2.1) := (blk_cell n3.out 7).trans rfl; have d8 : w2.cell? ⟨(w.heap.size + 1 + 1), 8, none⟩ = some (.int .u8 (Y 0).2.2.1) := (blk_cell n3.out 8).trans rfl; have d9 : w2.cell? ⟨(w.heap.size + 1 + 1), 9, none⟩ = some (.int .u16 (Y 0).2.2.2.1) := (blk_cell n3.out 9).trans rfl; have d10 : w2.cell? ⟨(w.heap.size + 1 + 1), 10, none⟩ = some (.bool (Y 0).2.2.2.2.1) := (blk_cell n3.out 10).trans rfl; have d11 : w2.cell? ⟨(w.heap.size + 1 + 1), 11, none⟩ = some (.bool (Y 0).2.2.2.2.2) := (blk_cell n3.out 11).trans rfl; have fz := fun i => blk_frozen n3.out i))
      refine ⟨⟨6, rfl, Aside0.mk ⟨by omega, ?_, ?_, ?_, ?_⟩⟩, by simp [intOf]⟩
      · exact (blk_far (blk_far (blk_far (blk_far (blk_far (blk_far n1.out (by simp; omega) _) (by simp; omega) _) (by simp; omega) _) (by simp; omega) _) (by simp; omega) _) (by simp; omega) _)
      · exact (blk_far (blk_far (blk_far (blk_far (blk_far (blk_far n2.out (by simp) _) (by simp) _) (by simp) _) (by simp) _) (by simp) _) (by simp) _)
      · exact (blk_put (blk_put (blk_put (blk_put (blk_put (blk_put n3.out 6 _ rfl) 7 _ rfl) 8 _ rfl) 9 _ rfl) 10 _ rfl) 11 _ rfl)
      · exact (below_set (below_set (below_set (below_set (below_set (below_set n4.out (by omega)) (by omega)) (by omega)) (by omega)) (by omega)) (by omega))
    · obtain ⟨ad', ea, cb⟩ := Kd.at_int CB.out 6 (by omega) (by omega)
      obtain rfl := Option.some.inj ea
      clear ea
      have cb' : wr.cell? ⟨ad.block, ad.off + 6, none⟩ = some (.int .u8 (rd l 6)) := by simpa [Addr.add] using cb
      have c0 : wr.cell? ⟨(w.heap.size + 1 + 1), 0, none⟩ = some (.int .u8 (X 5).1) := (blk_cell B3.out 0).trans rfl
      have c1 : wr.cell? ⟨(w.heap.size + 1 + 1), 1, none⟩ = some (.int .u8 (X 5).2.1) := (blk_cell B3.out 1).trans rfl
      have c2 : wr.cell? ⟨(w.heap.size + 1 + 1), 2, none⟩ = some (.int .u8 (X 5).2.2.1) := (blk_cell B3.out 2).trans rfl
      have c3 : wr.cell? ⟨(w.heap.size + 1 + 1), 3, none⟩ = some (.int .u16 (X 5).2.2.2.1) := (blk_cell B3.out 3).trans rfl
      have c4 : wr.cell? ⟨(w.heap.size + 1 + 1), 4, none⟩ = some (.bool (X 5).2.2.2.2.1) := (blk_cell B3.out 4).trans rfl
      have c5 : wr.cell? ⟨(w.heap.size + 1 + 1), 5, none⟩ = some (.bool (X 5).2.2.2.2.2) := (blk_cell B3.out 5).trans rfl
      have c6 : wr.cell? ⟨(w.heap.size + 1 + 1), 6, none⟩ = some (.int .u8 (Y 1).1) := (blk_cell B3.out 6).trans rfl
      have c7 : wr.cell? ⟨(w.heap.size + 1 + 1), 7, none⟩ = some (.int .u8 (Y 1).2.1) := (blk_cell B3.out 7).trans rfl
      have c8 : wr.cell? ⟨(w.heap.size + 1 + 1), 8, none⟩ = some (.int .u8 (Y 1).2.2.1) := (blk_cell B3.out 8).trans rfl
      have c9 : wr.cell? ⟨(w.heap.size + 1 + 1), 9, none⟩ = some (.int .u16 (Y 1).2.2.2.1) := (blk_cell B3.out 9).trans rfl
      have c10 : wr.cell? ⟨(w.heap.size + 1 + 1), 10, none⟩ = some (.bool (Y 1).2.2.2.2.1) := (blk_cell B3.out 10).trans rfl
      have c11 : wr.cell? ⟨(w.heap.size + 1 + 1), 11, none⟩ = some (.bool (Y 1).2.2.2.2.2) := (blk_cell B3.out 11).trans rfl
      go_wp2_with (first | (go_at_call 23; ((with_reducible refine (clock_Write.calls (Y 1).1 (Y 1).2.1 (Y 1).2.2.1 (Y 1).2.2.2.1 (Y 1).2.2.2.2.1 (Y 1).2.2.2.2.2 9 (rd l 6) (Y 2).1 (Y 2).2.1 (Y 2).2.2.1 (Y 2).2.2.2.1 (Y 2).2.2.2.2.1 (Y 2).2.2.2.2.2 e6 _ H6.out).mono ?_)); rintro e' w2 ⟨rfl, hb⟩; have n1 := Aside0.mk (blk_below B1.out hb); have n2 := Aside0.mk (blk_below B2.out hb); have n3 := Aside0.mk (blk_below B3.out hb); have n4 := Aside0.mk (below_step HB.out hb); clear hb; have d0 : w2.cell? ⟨(w.heap.size + 1 + 1), 0, none⟩ = some (.int .u8 (X 5).1) := (blk_cell n3.out 0).trans rfl; have d1 : w2.cell? ⟨(w.heap.size + 1 + 1), 1, none⟩ = some (.int .u8 (X 5).2.1) := (blk_cell n3.out 1).trans rfl; have d2 : w2.cell? ⟨(w.heap.size + 1 + 1), 2, none⟩ = some (.int .u8 (X 5).2.2.1) := (blk_cell n3.out 2).trans rfl; have d3 : w2.cell? ⟨(w.heap.size + 1 + 1), 3, none⟩ = some (.int .u16 (X 5).2.2.2.1) := (blk_cell n3.out 3).trans rfl; have d4 : w2.cell? ⟨(w.heap.size + 1 + 1), 4, none⟩ = some (.bool (X 5).2.2.2.2.1) := (blk_cell n3.out 4).trans rfl; have d5 : w2.cell? ⟨(w.heap.size + 1 + 1), 5, none⟩ = some (.bool (X 5).2.2.2.2.2) := (blk_cell n3.out 5).trans rfl; have d6 : w2.cell? ⟨(w.heap.size + 1 + 1), 6, none⟩ = some (.int .u8 (Y 1).1) := (blk_cell n3.out 6).trans rfl; have d7 : w2.cell? ⟨(w.heap.size + 1 + 1), 7, none⟩ = some (.int .u8 (Y 1).2.1) := (blk_cell n3.out 7).trans rfl; have d8 : w2.cell? ⟨(w.heap.size + 1 + 1), 8, none⟩ = some (.int .u8 (Y 1).2.2.1) := (blk_cell n3.out 8).trans rfl; have d9 : w2.cell? ⟨(w.heap.size + 1 + 1), 9, none⟩ = some (.int .u16 (Y 1).2.2.2.1) := (blk_cell n3.out 9).trans rfl; have d10 : w2.cell? ⟨(w.heap.size + 1 + 1), 10, none⟩ = some (.bool (Y 1).2.2.2.2.1) := (blk_cell n3.out 10).trans rfl; have d11 : w2.cell? ⟨(w.heap.size + 1 + 1), 11, none⟩ = some (.bool (Y 1).2.2.2.2.2) := (blk_cell n3.out 11).trans rfl; have fz := fun i => blk_frozen n3.out i))
      refine ⟨⟨7, rfl, Aside0.mk ⟨by omega, ?_, ?_, ?_, ?_⟩⟩, by simp [intOf]⟩
      · exact (blk_far (blk_far (blk_far (blk_far (blk_far (blk_far n1.out (by simp; omega) _) (by simp; omega) _) (by simp; omega) _) (by simp; omega) _) (by simp; omega) _) (by simp; omega) _)
      · exact (blk_far (blk_far (blk_far (blk_far (blk_far (blk_far n2.out (by simp) _) (by simp) _) (by simp) _) (by simp) _) (by simp) _) (by simp) _)
      · exact (blk_put (blk_put (blk_put (blk_put (blk_put (blk_put n3.out 6 _ rfl) 7 _ rfl) 8 _ rfl) 9 _ rfl) 10 _ rfl) 11 _ rfl)
      · exact (below_set (below_set (below_set (below_set (below_set (below_set n4.out (by omega)) (by omega)) (by omega)) (by omega)) (by omega)) (by omega))
    · obtain ⟨ad', ea, cb⟩ := Kd.at_int CB.out 7 (by omega) (by omega)
      obtain rfl := Option.some.inj ea
      clear ea
      have cb' : wr.cell? ⟨ad.block, ad.off + 7, none⟩ = some (.int .u8 (rd l 7)) := by simpa [Addr.add] using cb
      have c0 : wr.cell? ⟨(w.heap.size + 1 + 1), 0, none⟩ = some (.int .u8 (X 5).1) := (blk_cell B3.out 0).trans rfl
      have c1 : wr.cell? ⟨(w.heap.size + 1 + 1), 1, none⟩ = some (.int .u8 (X 5).2.1) := (blk_cell B3.out 1).trans rfl
      have c2 : wr.cell? ⟨(w.heap.size + 1 + 1), 2, none⟩ = some (.int .u8 (X 5).2.2.1) := (blk_cell B3.out 2).trans rfl
      have c3 : wr.cell? ⟨(w.heap.size + 1 + 1), 3, none⟩ = some (.int .u16 (X 5).2.2.2.1) := (blk_cell B3.out 3).trans rfl
      have c4 : wr.cell? ⟨(w.heap.size + 1 + 1), 4, none⟩ = some (.bool (X 5).2.2.2.2.1) := (blk_cell B3.out 4).trans rfl
      have c5 : wr.cell? ⟨(w.heap.size + 1 + 1), 5, none⟩ = some (.bool (X 5).2.2.2.2.2) := (blk_cell B3.out 5).trans rfl
      have c6 : wr.cell? ⟨(w.heap.size + 1 + 1), 6, none⟩ = some (.int .u8 (Y 2).1) := (blk_cell B3.out 6).trans rfl
      have c7 : wr.cell? ⟨(w.heap.size + 1 + 1), 7, none⟩ = some (.int .u8 (Y 2).2.1) := (blk_cell B3.out 7).trans rfl
      have c8 : wr.cell? ⟨(w.heap.size + 1 + 1), 8, none⟩ = some (.int .u8 (Y 2).2.2.1) := (blk_cell B3.out 8).trans rfl
      have c9 : wr.cell? ⟨(w.heap.size + 1 + 1), 9, none⟩ = some (.int .u16 (Y 2).2.2.2.1) := (blk_cell B3.out 9).trans rfl
      have c10 : wr.cell? ⟨(w.heap.size + 1 + 1), 10, none⟩ = some (.bool (Y 2).2.2.2.2.1) := (blk_cell B3.out 10).trans rfl
      have c11 : wr.cell? ⟨(w.heap.size + 1 + 1), 11, none⟩ = some (.bool (Y 2).2.2.2.2.2) := (blk_cell B3.out 11).trans rfl
      go_wp2_with (first | (go_at_call 23; ((with_reducible refine (clock_Write.calls (Y 2).1 (Y 2).2.1 (Y 2).2.2.1 (Y 2).2.2.2.1 (Y 2).2.2.2.2.1 (Y 2).2.2.2.2.2 10 (rd l 7) (Y 3).1 (Y 3).2.1 (Y 3).2.2.1 (Y 3).2.2.2.1 (Y 3).2.2.2.2.1 (Y 3).2.2.2.2.2 e7 _ H7.out).mono ?_)); rintro e' w2 ⟨rfl, hb⟩; have n1 := Aside0.mk (blk_below B1.out hb); have n2 := Aside0.mk (blk_below B2.out hb); have n3 := Aside0.mk (blk_below B3.out hb); have n4 := Aside0.mk (below_step HB.out hb); clear hb; have d0 : w2.cell? ⟨(w.heap.size + 1 + 1), 0, none⟩ = some (.int .u8 (X 5).1) := (blk_cell n3.out 0).trans rfl; have d1 : w2.cell? ⟨(w.heap.size + 1 + 1), 1, none⟩ = some (.int .u8 (X 5).2.1) := (blk_cell n3.out 1).trans rfl; have d2 : w2.cell? ⟨(w.heap.size + 1 + 1), 2, none⟩ = some (.int .u8 (X 5).2.2.1) := (blk_cell n3.out 2).trans rfl; have d3 : w2.cell? ⟨(w.heap.size + 1 + 1), 3, none⟩ = some (.int .u16 (X 5).2.2.2.1) := (blk_cell n3.out 3).trans rfl; have d4 : w2.cell? ⟨(w.heap.size + 1 + 1), 4, none⟩ = some (.bool (X 5).2.2.2.2.1) := (blk_cell n3.out 4).trans rfl; have d5 : w2.cell? ⟨(w.heap.size + 1 + 1), 5, none⟩ = some (.bool (X 5).2.2.2.2.2) := (blk_cell n3.out 5).trans rfl; have d6 : w2.cell? ⟨(w.heap.size + 1 + 1), 6, none⟩ = some (.int .u8 (Y 2).1) := (blk_cell n3.out 6).trans rfl; have d7 : w2.cell? ⟨(w.heap.size + 1 + 1), 7, none⟩ = some (.int .u8 (Y 2).2.1) := (blk_cell n3.out 7).trans rfl; have d8 : w2.cell? ⟨(w.heap.size + 1 + 1), 8, none⟩ = some (.int .u8 (Y 2).2.2.1) := (blk_cell n3.out 8).trans rfl; have d9 : w2.cell? ⟨(w.heap.size + 1 + 1), 9, none⟩ = some (.int .u16 (Y 2).2.2.2.1) := (blk_cell n3.out 9).trans rfl; have d10 : w2.cell? ⟨(w.heap.size + 1 + 1), 10, none⟩ = some (.bool (Y 2).2.2.2.2.1) := (blk_cell n3.out 10).trans rfl; have d11 : w2.cell? ⟨(w.heap.size + 1 + 1), 11, none⟩ = some (.bool (Y 2).2.2.2.2.2) := (blk_cell n3.out 11).trans rfl; have fz := fun i => blk_frozen n3.out i))
      refine ⟨⟨8, rfl, Aside0.mk ⟨by omega, ?_, ?_, ?_, ?_⟩⟩, by simp [intOf]⟩
      · exact (blk_far (blk_far (blk_far (blk_far (blk_far (blk_far n1.out (by simp; omega) _) (by simp; omega) _) (by simp; omega) _) (by simp; omega) _) (by simp; omega) _) (by simp; omega) _)
      · exact (blk_far (blk_far (blk_far (blk_far (blk_far (blk_far n2.out (by simp) _) (by simp) _) (by simp) _) (by simp) _) (by simp) _) (by simp) _)
      · exact (blk_put (blk_put (blk_put (blk_put (blk_put (blk_put n3.out 6 _ rfl) 7 _ rfl) 8 _ rfl) 9 _ rfl) 10 _ rfl) 11 _ rfl)
      · exact (below_set (below_set (below_set (below_set (below_set (below_set n4.out (by omega)) (by omega)) (by omega)) (by omega)) (by omega)) (by omega))
    · obtain ⟨ad', ea, cb⟩ := Kd.at_int CB.out 8 (by omega) (by omega)
      obtain rfl := Option.some.inj ea
      clear ea
      have cb' : wr.cell? ⟨ad.block, ad.off + 8, none⟩ = some (.int .u8 (rd l 8)) := by simpa [Addr.add] using cb
      have c0 : wr.cell? ⟨(w.heap.size + 1 + 1), 0, none⟩ = some (.int .u8 (X 5).1) := (blk_cell B3.out 0).trans rfl
      have c1 : wr.cell? ⟨(w.heap.size + 1 + 1), 1, none⟩ = some (.int .u8 (X 5).2.1) := (blk_cell B3.out 1).trans rfl
      have c2 : wr.cell? ⟨(w.heap.size + 1 + 1), 2, none⟩ = some (.int .u8 (X 5).2.2.1) := (blk_cell B3.out 2).trans rfl
      have c3 : wr.cell? ⟨(w.heap.size + 1 + 1), 3, none⟩ = some (.int .u16 (X 5).2.2.2.1) := (blk_cell B3.out 3).trans rfl
      have c4 : wr.cell? ⟨(w.heap.size + 1 + 1), 4, none⟩ = some (.bool (X 5).2.2.2.2.1) := (blk_cell B3.out 4).trans rfl
      have c5 : wr.cell? ⟨(w.heap.size + 1 + 1), 5, none⟩ = some (.bool (X 5).2.2.2.2.2) := (blk_cell B3.out 5).trans rfl
      have c6 : wr.cell? ⟨(w.heap.size + 1 + 1), 6, none⟩ = some (.int .u8 (Y 3).1) := (blk_cell B3.out 6).trans rfl
      have c7 : wr.cell? ⟨(w.heap.size + 1 + 1), 7, none⟩ = some (.int .u8 (Y 3).2.1) := (blk_cell B3.out 7).trans rfl
      have c8 : wr.cell? ⟨(w.heap.size + 1 + 1), 8, none⟩ = some (.int .u8 (Y 3).2.2.1) := (blk_cell B3.out 8).trans rfl
      have c9 : wr.cell? ⟨(w.heap.size + 1 + 1), 9, none⟩ = some (.int .u16 (Y 3).2.2.2.1) := (blk_cell B3.out 9).trans rfl
      have c10 : wr.cell? ⟨(w.heap.size + 1 + 1), 10, none⟩ = some (.bool (Y 3).2.2.2.2.1) := (blk_cell B3.out 10).trans rfl
      have c11 : wr.cell? ⟨(w.heap.size + 1 + 1), 11, none⟩ = some (.bool (Y 3).2.2.2.2.2) := (blk_cell B3.out 11).trans rfl
      go_wp2_with (first | (go_at_call 23; ((with_reducible refine (clock_Write.calls (Y 3).1 (Y 3).2.1 (Y 3).2.2.1 (Y 3).2.2.2.1 (Y 3).2.2.2.2.1 (Y 3).2.2.2.2.2 11 (rd l 8) (Y 4).1 (Y 4).2.1 (Y 4).2.2.1 (Y 4).2.2.2.1 (Y 4).2.2.2.2.1 (Y 4).2.2.2.2.2 e8 _ H8.out).mono ?_)); rintro e' w2 ⟨rfl, hb⟩; have n1 := Aside0.mk (blk_below B1.out hb); have n2 := Aside0.mk (blk_below B2.out hb); have n3 := Aside0.mk (blk_below B3.out hb); have n4 := Aside0.mk (below_step HB.out hb); clear hb; have d0 : w2.cell? ⟨(w.heap.size + 1 + 1), 0, none⟩ = some (.int .u8 (X 5).1) := (blk_cell n3.out 0).trans rfl; have d1 : w2.cell? ⟨(w.heap.size + 1 + 1), 1, none⟩ = some (.int .u8 (X 5).2.1) := (blk_cell n3.out 1).trans rfl; have d2 : w2.cell? ⟨(w.heap.size + 1 + 1), 2, none⟩ = some (.int .u8 (X 5).2.2.1) := (blk_cell n3.out 2).trans rfl; have d3 : w2.cell? ⟨(w.heap.size + 1 + 1), 3, none⟩ = some (.int .u16 (X 5).2.2.2.1) := (blk_cell n3.out 3).trans rfl; have d4 : w2.cell? ⟨(w.heap.size + 1 + 1), 4, none⟩ = some (.bool (X 5).2.2.2.2.1) := (blk_cell n3.out 4).trans rfl; have d5 : w2.cell? ⟨(w.heap.size + 1 + 1), 5, none⟩ = some (.bool (X 5).2.2.2.2.2) := (blk_cell n3.out 5).trans rfl; have d6 : w2.cell? ⟨(w.heap.size + 1 + 1), 6, none⟩ = some (.int .u8 (Y 3).1) := (blk_cell n3.out 6).trans rfl; have d7 : w2.cell? ⟨(w.heap.size + 1 + 1), 7, none⟩ = some (.int .u8 (Y 3).2.1) := (blk_cell n3.out 7).trans rfl; have d8 : w2.cell? ⟨(w.heap.size + 1 + 1), 8, none⟩ = some (.int .u8 (Y 3).2.2.1) := (blk_cell n3.out 8).trans rfl; have d9 : w2.cell? ⟨(w.heap.size + 1 + 1), 9, none⟩ = some (.int .u16 (Y 3).2.2.2.1) := (blk_cell n3.out 9).trans rfl; have d10 : w2.cell? ⟨(w.heap.size + 1 + 1), 10, none⟩ = some (.bool (Y 3).2.2.2.2.1) := (blk_cell n3.out 10).trans rfl; have d11 : w2.cell? ⟨(w.heap.size + 1 + 1), 11, none⟩ = some (.bool (Y 3).2.2.2.2.2) := (blk_cell n3.out 11).trans rfl; have fz := fun i => blk_frozen n3.out i))
      refine ⟨⟨9, rfl, Aside0.mk ⟨by omega, ?_, ?_, ?_, ?_⟩⟩, by simp [intOf]⟩
      · exact (blk_far (blk_far (blk_far (blk_far (blk_far (blk_far n1.out (by simp; omega) _) (by simp; omega) _) (by simp; omega) _) (by simp; omega) _) (by simp; omega) _) (by simp; omega) _)
      · exact (blk_far (blk_far (blk_far (blk_far (blk_far (blk_far n2.out (by simp) _) (by simp) _) (by simp) _) (by simp) _) (by simp) _) (by simp) _)
      · exact (blk_put (blk_put (blk_put (blk_put (blk_put (blk_put n3.out 6 _ rfl) 7 _ rfl) 8 _ rfl) 9 _ rfl) 10 _ rfl) 11 _ rfl)
      · exact (below_set (below_set (below_set (below_set (below_set (below_set n4.out (by omega)) (by omega)) (by omega)) (by omega)) (by omega)) (by omega))
    · obtain ⟨ad', ea, cb⟩ := Kd.at_int CB.out 9 (by omega) (by omega)
      obtain rfl := Option.some.inj ea
      clear ea
      have cb' : wr.cell? ⟨ad.block, ad.off + 9, none⟩ = some (.int .u8 (rd l 9)) := by simpa [Addr.add] using cb
      have c0 : wr.cell? ⟨(w.heap.size + 1 + 1), 0, none⟩ = some (.int .u8 (X 5).1) := (blk_cell B3.out 0).trans rfl
      have c1 : wr.cell? ⟨(w.heap.size + 1 + 1), 1, none⟩ = some (.int .u8 (X 5).2.1) := (blk_cell B3.out 1).trans rfl
      have c2 : wr.cell? ⟨(w.heap.size + 1 + 1), 2, none⟩ = some (.int .u8 (X 5).2.2.1) := (blk_cell B3.out 2).trans rfl
      have c3 : wr.cell? ⟨(w.heap.size + 1 + 1), 3, none⟩ = some (.int .u16 (X 5).2.2.2.1) := (blk_cell B3.out 3).trans rfl
      have c4 : wr.cell? ⟨(w.heap.size + 1 + 1), 4, none⟩ = some (.bool (X 5).2.2.2.2.1) := (blk_cell B3.out 4).trans rfl
      have c5 : wr.cell? ⟨(w.heap.size + 1 + 1), 5, none⟩ = some (.bool (X 5).2.2.2.2.2) := (blk_cell B3.out 5).trans rfl
      have c6 : wr.cell? ⟨(w.heap.size + 1 + 1), 6, none⟩ = some (.int .u8 (Y 4).1) := (blk_cell B3.out 6).trans rfl
      have c7 : wr.cell? ⟨(w.heap.size + 1 + 1), 7, none⟩ = some (.int .u8 (Y 4).2.1) := (blk_cell B3.out 7).trans rfl
      have c8 : wr.cell? ⟨(w.heap.size + 1 + 1), 8, none⟩ = some (.int .u8 (Y 4).2.2.1) := (blk_cell B3.out 8).trans rfl
      have c9 : wr.cell? ⟨(w.heap.size + 1 + 1), 9, none⟩ = some (.int .u16 (Y 4).2.2.2.1) := (blk_cell B3.out 9).trans rfl
      have c10 : wr.cell? ⟨(w.heap.size + 1 + 1), 10, none⟩ = some (.bool (Y 4).2.2.2.2.1) := (blk_cell B3.out 10).trans rfl
      have c11 : wr.cell? ⟨(w.heap.size + 1 + 1), 11, none⟩ = some (.bool (Y 4).2.2.2.2.2) := (blk_cell B3.out 11).trans rfl
      go_wp2_with (first | (go_at_call 23; ((with_reducible refine (clock_Write.calls (Y 4).1 (Y 4).2.1 (Y 4).2.2.1 (Y 4).2.2.2.1 (Y 4).2.2.2.2.1 (Y 4).2.2.2.2.2 12 (rd l 9) (Y 5).1 (Y 5).2.1 (Y 5).2.2.1 (Y 5).2.2.2.1 (Y 5).2.2.2.2.1 (Y 5).2.2.2.2.2 e9 _ H9.out).mono ?_)); rintro e' w2 ⟨rfl, hb⟩; have n1 := Aside0.mk (blk_below B1.out hb); have n2 := Aside0.mk (blk_below B2.out hb); have n3 := Aside0.mk (blk_below B3.out hb); have n4 := Aside0.mk (below_step HB.out hb); clear hb; have d0 : w2.cell? ⟨(w.heap.size + 1 + 1), 0, none⟩ = some (.int .u8 (X 5).1) := (blk_cell n3.out 0).trans rfl; have d1 : w2.cell? ⟨(w.heap.size + 1 + 1), 1, none⟩ = some (.int .u8 (X 5).2.1) := (blk_cell n3.out 1).trans rfl; have d2 : w2.cell? ⟨(w.heap.size + 1 + 1), 2, none⟩ = some (.int .u8 (X 5).2.2.1) := (blk_cell n3.out 2).trans rfl; have d3 : w2.cell? ⟨(w.heap.size + 1 + 1), 3, none⟩ = some (.int .u16 (X 5).2.2.2.1) := (blk_cell n3.out 3).trans rfl; have d4 : w2.cell? ⟨(w.heap.size + 1 + 1), 4, none⟩ = some (.bool (X 5).2.2.2.2.1) := (blk_cell n3.out 4).trans rfl; have d5 : w2.cell? ⟨(w.heap.size + 1 + 1), 5, none⟩ = some (.bool (X 5).2.2.2.2.2) := (blk_cell n3.out 5).trans rfl; have d6 : w2.cell? ⟨(w.heap.size + 1 + 1), 6, none⟩ = some (.int .u8 (Y 4).1) := (blk_cell n3.out 6).trans rfl; have d7 : w2.cell? ⟨(w.heap.size + 1 + 1), 7, none⟩ = some (.int .u8 (Y 4).2.1) := (blk_cell n3.out 7).trans rfl; have d8 : w2.cell? ⟨(w.heap.size + 1 + 1), 8, none⟩ = some (.int .u8 (Y 4).2.2.1) := (blk_cell n3.out 8).trans rfl; have d9 : w2.cell? ⟨(w.heap.size + 1 + 1), 9, none⟩ = some (.int .u16 (Y 4).2.2.2.1) := (blk_cell n3.out 9).trans rfl; have d10 : w2.cell? ⟨(w.heap.size + 1 + 1), 10, none⟩ = some (.bool (Y 4).2.2.2.2.1) := (blk_cell n3.out 10).trans rfl; have d11 : w2.cell? ⟨(w.heap.size + 1 + 1), 11, none⟩ = some (.bool (Y 4).2.2.2.2.2) := (blk_cell n3.out 11).trans rfl; have fz := fun i => blk_frozen n3.out i))
      refine ⟨⟨10, rfl, Aside0.mk ⟨by omega, ?_, ?_, ?_, ?_⟩⟩, by simp [intOf]⟩
      · exact (blk_far (blk_far (blk_far (blk_far (blk_far (blk_far n1.out (by simp; omega) _) (by simp; omega) _) (by simp; omega) _) (by simp; omega) _) (by simp; omega) _) (by simp; omega) _)
      · exact (blk_far (blk_far (blk_far (blk_far (blk_far (blk_far n2.out (by simp) _) (by simp) _) (by simp) _) (by simp) _) (by simp) _) (by simp) _)
      · exact (blk_put (blk_put (blk_put (blk_put (blk_put (blk_put n3.out 6 _ rfl) 7 _ rfl) 8 _ rfl) 9 _ rfl) 10 _ rfl) 11 _ rfl)
      · exact (below_set (below_set (below_set (below_set (below_set (below_set n4.out (by omega)) (by omega)) (by omega)) (by omega)) (by omega)) (by omega))
    · have HC := Aside0.mk hcmp
      clear hcmp
      go_wp2_with fail
      have c0 : wr.cell? ⟨(w.heap.size + 1 + 1), 0, none⟩ = some (.int .u8 (X 5).1) := (blk_cell B3.out 0).trans rfl
      have c1 : wr.cell? ⟨(w.heap.size + 1 + 1), 1, none⟩ = some (.int .u8 (X 5).2.1) := (blk_cell B3.out 1).trans rfl
      have c2 : wr.cell? ⟨(w.heap.size + 1 + 1), 2, none⟩ = some (.int .u8 (X 5).2.2.1) := (blk_cell B3.out 2).trans rfl
      have c3 : wr.cell? ⟨(w.heap.size + 1 + 1), 3, none⟩ = some (.int .u16 (X 5).2.2.2.1) := (blk_cell B3.out 3).trans rfl
      have c4 : wr.cell? ⟨(w.heap.size + 1 + 1), 4, none⟩ = some (.bool (X 5).2.2.2.2.1) := (blk_cell B3.out 4).trans rfl
      have c5 : wr.cell? ⟨(w.heap.size + 1 + 1), 5, none⟩ = some (.bool (X 5).2.2.2.2.2) := (blk_cell B3.out 5).trans rfl
      have c6 : wr.cell? ⟨(w.heap.size + 1 + 1), 6, none⟩ = some (.int .u8 (Y 5).1) := (blk_cell B3.out 6).trans rfl
      have c7 : wr.cell? ⟨(w.heap.size + 1 + 1), 7, none⟩ = some (.int .u8 (Y 5).2.1) := (blk_cell B3.out 7).trans rfl
      have c8 : wr.cell? ⟨(w.heap.size + 1 + 1), 8, none⟩ = some (.int .u8 (Y 5).2.2.1) := (blk_cell B3.out 8).trans rfl
      have c9 : wr.cell? ⟨(w.heap.size + 1 + 1), 9, none⟩ = some (.int .u16 (Y 5).2.2.2.1) := (blk_cell B3.out 9).trans rfl
      have c10 : wr.cell? ⟨(w.heap.size + 1 + 1), 10, none⟩ = some (.bool (Y 5).2.2.2.2.1) := (blk_cell B3.out 10).trans rfl
      have c11 : wr.cell? ⟨(w.heap.size + 1 + 1), 11, none⟩ = some (.bool (Y 5).2.2.2.2.2) := (blk_cell B3.out 11).trans rfl
      have hkwr : (convert 34 9 (.slice (some ad) 10 c)).run Try.prog wr = .ok (.string (strOfNums l)) wr := Kd.C_string Try.underlying34 Try.underlying5 Try.underlying9 CB.out
      have hdwr : (convert 34 9 (.slice (some ad) 10 c)).run Try.prog wr.drew = .ok (.string (strOfNums l)) wr.drew := Kd.C_string Try.underlying34 Try.underlying5 Try.underlying9 (Kd.C_drew CB.out)
      go_cut [44] from 36 to 44 (fun v w9 => v = .bool true ∧ Aside0 (w9.heap[w.heap.size]? = some (.cells #[.int .u8 0, .int .u8 0, .int .u8 0, .int .u16 0, .bool false, .bool false] 24 (0, 0))) ∧ Aside0 (w9.heap[w.heap.size + 1]? = some (.cells #[.int .u8 0, .int .u8 0, .int .u8 0, .int .u16 0, .bool false, .bool false] 24 (0, 0))) ∧ Aside0 (w9.heap[w.heap.size + 1 + 1]? = some (.cells (stOf X Y 10) 57 (0, 0))) ∧ Aside0 (Below w.heap.size w w9))
      case first =>
        go_region_with (first | (go_at_call 19; ((with_reducible refine (clock_Bytes.calls (X 5).1 (X 5).2.1 (X 5).2.2.1 (X 5).2.2.2.1 (X 5).2.2.2.2.1 (X 5).2.2.2.2.2 (Y 5).1 (Y 5).2.1 (Y 5).2.2.1 (Y 5).2.2.2.1 (Y 5).2.2.2.2.1 (Y 5).2.2.2.2.2 r _ HY.out).mono ?_)); rintro e' w9 ⟨v0, rfl, hO, hb⟩; have n1 := Aside0.mk ((hb.block _ (blk_lt B1.out)).trans B1.out); have n2 := Aside0.mk ((hb.block _ (blk_lt B2.out)).trans B2.out); have n3 := Aside0.mk ((hb.block _ (blk_lt B3.out)).trans B3.out); have n4 := Aside0.mk (by first | exact below_step (below_drew1 HB.out) hb | exact below_step HB.out hb); clear hb; have CB9 := Aside0.mk (Kd.C_below HR.out n4.out); have hkw9 : (convert 34 9 (.slice (some ad) 10 c)).run Try.prog w9 = .ok (.string (strOfNums l)) w9 := Kd.C_string Try.underlying34 Try.underlying5 Try.underlying9 CB9.out; have hdw9 : (convert 34 9 (.slice (some ad) 10 c)).run Try.prog w9.drew = .ok (.string (strOfNums l)) w9.drew := Kd.C_string Try.underlying34 Try.underlying5 Try.underlying9 (Kd.C_drew CB9.out); have hv9 := own_string (P := Try.prog) Try.underlying34 Try.underlying5 Try.underlying9 (Kd.own_of_R hO); have hv9d : (convert 34 9 v0).run Try.prog w9.drew = .ok (.string (strOfNums r)) w9.drew := own_string (P := Try.prog) Try.underlying34 Try.underlying5 Try.underlying9 (Kd.own_of_R (Kd.R_drew hO)); clear hO; have d0 : w9.cell? ⟨(w.heap.size + 1 + 1), 0, none⟩ = some (.int .u8 (X 5).1) := (blk_cell n3.out 0).trans rfl; have d1 : w9.cell? ⟨(w.heap.size + 1 + 1), 1, none⟩ = some (.int .u8 (X 5).2.1) := (blk_cell n3.out 1).trans rfl; have d2 : w9.cell? ⟨(w.heap.size + 1 + 1), 2, none⟩ = some (.int .u8 (X 5).2.2.1) := (blk_cell n3.out 2).trans rfl; have d3 : w9.cell? ⟨(w.heap.size + 1 + 1), 3, none⟩ = some (.int .u16 (X 5).2.2.2.1) := (blk_cell n3.out 3).trans rfl; have d4 : w9.cell? ⟨(w.heap.size + 1 + 1), 4, none⟩ = some (.bool (X 5).2.2.2.2.1) := (blk_cell n3.out 4).trans rfl; have d5 : w9.cell? ⟨(w.heap.size + 1 + 1), 5, none⟩ = some (.bool (X 5).2.2.2.2.2) := (blk_cell n3.out 5).trans rfl; have d6 : w9.cell? ⟨(w.heap.size + 1 + 1), 6, none⟩ = some (.int .u8 (Y 5).1) := (blk_cell n3.out 6).trans rfl; have d7 : w9.cell? ⟨(w.heap.size + 1 + 1), 7, none⟩ = some (.int .u8 (Y 5).2.1) := (blk_cell n3.out 7).trans rfl; have d8 : w9.cell? ⟨(w.heap.size + 1 + 1), 8, none⟩ = some (.int .u8 (Y 5).2.2.1) := (blk_cell n3.out 8).trans rfl; have d9 : w9.cell? ⟨(w.heap.size + 1 + 1), 9, none⟩ = some (.int .u16 (Y 5).2.2.2.1) := (blk_cell n3.out 9).trans rfl; have d10 : w9.cell? ⟨(w.heap.size + 1 + 1), 10, none⟩ = some (.bool (Y 5).2.2.2.2.1) := (blk_cell n3.out 10).trans rfl; have d11 : w9.cell? ⟨(w.heap.size + 1 + 1), 11, none⟩ = some (.bool (Y 5).2.2.2.2.2) := (blk_cell n3.out 11).trans rfl))
        all_goals (
        have hcmp := HC.out
        rw [hcmp]
        simp only [Bool.not_true, Bool.not_false]
        go_wp2_with fail
        go_meet
        case rel => exact ⟨rfl, ⟨by first | exact n1.out | exact blk_drew n1.out⟩, ⟨by first | exact n2.out | exact blk_drew n2.out⟩, ⟨by first | exact n3.out | exact blk_drew n3.out⟩, ⟨by first | exact n4.out | exact below_drew1 n4.out⟩⟩)
      case rest =>
        obtain ⟨rfl, n1, n2, n3, n4⟩ := hcut
        have x0 : wc.cell? ⟨w.heap.size, 0, none⟩ = some (.int .u8 0) := (blk_cell n1.out 0).trans rfl
        have x1 : wc.cell? ⟨w.heap.size, 1, none⟩ = some (.int .u8 0) := (blk_cell n1.out 1).trans rfl
        have x2 : wc.cell? ⟨w.heap.size, 2, none⟩ = some (.int .u8 0) := (blk_cell n1.out 2).trans rfl
        have x3 : wc.cell? ⟨w.heap.size, 3, none⟩ = some (.int .u16 0) := (blk_cell n1.out 3).trans rfl
        have x4 : wc.cell? ⟨w.heap.size, 4, none⟩ = some (.bool false) := (blk_cell n1.out 4).trans rfl
        have x5 : wc.cell? ⟨w.heap.size, 5, none⟩ = some (.bool false) := (blk_cell n1.out 5).trans rfl
        have y0 : wc.cell? ⟨w.heap.size + 1, 0, none⟩ = some (.int .u8 0) := (blk_cell n2.out 0).trans rfl
        have y1 : wc.cell? ⟨w.heap.size + 1, 1, none⟩ = some (.int .u8 0) := (blk_cell n2.out 1).trans rfl
        have y2 : wc.cell? ⟨w.heap.size + 1, 2, none⟩ = some (.int .u8 0) := (blk_cell n2.out 2).trans rfl
        have y3 : wc.cell? ⟨w.heap.size + 1, 3, none⟩ = some (.int .u16 0) := (blk_cell n2.out 3).trans rfl
        have y4 : wc.cell? ⟨w.heap.size + 1, 4, none⟩ = some (.bool false) := (blk_cell n2.out 4).trans rfl
        have y5 : wc.cell? ⟨w.heap.size + 1, 5, none⟩ = some (.bool false) := (blk_cell n2.out 5).trans rfl
        have f1 := fun i => blk_frozen n1.out i
        have f2 := fun i => blk_frozen n2.out i
        go_wp2
        have m1 : ((((((((((((wc.setCell ⟨w.heap.size, 0, none⟩ (.int .u8 0)).setCell ⟨w.heap.size, 1, none⟩ (.int .u8 0)).setCell ⟨w.heap.size, 2, none⟩ (.int .u8 0)).setCell ⟨w.heap.size, 3, none⟩ (.int .u16 0)).setCell ⟨w.heap.size, 4, none⟩ (.bool false)).setCell ⟨w.heap.size, 5, none⟩ (.bool false)).setCell ⟨w.heap.size + 1, 0, none⟩ (.int .u8 0)).setCell ⟨w.heap.size + 1, 1, none⟩ (.int .u8 0)).setCell ⟨w.heap.size + 1, 2, none⟩ (.int .u8 0)).setCell ⟨w.heap.size + 1, 3, none⟩ (.int .u16 0)).setCell ⟨w.heap.size + 1, 4, none⟩ (.bool false)).setCell ⟨w.heap.size + 1, 5, none⟩ (.bool false)).heap[w.heap.size]? = some (.cells #[.int .u8 0, .int .u8 0, .int .u8 0, .int .u16 0, .bool false, .bool false] 24 (0, 0)) := (blk_far (blk_far (blk_far (blk_far (blk_far (blk_far (blk_put (blk_put (blk_put (blk_put (blk_put (blk_put n1.out 0 _ rfl) 1 _ rfl) 2 _ rfl) 3 _ rfl) 4 _ rfl) 5 _ rfl) (by simp) _) (by simp) _) (by simp) _) (by simp) _) (by simp) _) (by simp) _)
        have m2 : ((((((((((((wc.setCell ⟨w.heap.size, 0, none⟩ (.int .u8 0)).setCell ⟨w.heap.size, 1, none⟩ (.int .u8 0)).setCell ⟨w.heap.size, 2, none⟩ (.int .u8 0)).setCell ⟨w.heap.size, 3, none⟩ (.int .u16 0)).setCell ⟨w.heap.size, 4, none⟩ (.bool false)).setCell ⟨w.heap.size, 5, none⟩ (.bool false)).setCell ⟨w.heap.size + 1, 0, none⟩ (.int .u8 0)).setCell ⟨w.heap.size + 1, 1, none⟩ (.int .u8 0)).setCell ⟨w.heap.size + 1, 2, none⟩ (.int .u8 0)).setCell ⟨w.heap.size + 1, 3, none⟩ (.int .u16 0)).setCell ⟨w.heap.size + 1, 4, none⟩ (.bool false)).setCell ⟨w.heap.size + 1, 5, none⟩ (.bool false)).heap[w.heap.size + 1]? = some (.cells #[.int .u8 0, .int .u8 0, .int .u8 0, .int .u16 0, .bool false, .bool false] 24 (0, 0)) := (blk_put (blk_put (blk_put (blk_put (blk_put (blk_put (blk_far (blk_far (blk_far (blk_far (blk_far (blk_far n2.out (by simp) _) (by simp) _) (by simp) _) (by simp) _) (by simp) _) (by simp) _) 0 _ rfl) 1 _ rfl) 2 _ rfl) 3 _ rfl) 4 _ rfl) 5 _ rfl)
        have m3 : Below w.heap.size w ((((((((((((wc.setCell ⟨w.heap.size, 0, none⟩ (.int .u8 0)).setCell ⟨w.heap.size, 1, none⟩ (.int .u8 0)).setCell ⟨w.heap.size, 2, none⟩ (.int .u8 0)).setCell ⟨w.heap.size, 3, none⟩ (.int .u16 0)).setCell ⟨w.heap.size, 4, none⟩ (.bool false)).setCell ⟨w.heap.size, 5, none⟩ (.bool false)).setCell ⟨w.heap.size + 1, 0, none⟩ (.int .u8 0)).setCell ⟨w.heap.size + 1, 1, none⟩ (.int .u8 0)).setCell ⟨w.heap.size + 1, 2, none⟩ (.int .u8 0)).setCell ⟨w.heap.size + 1, 3, none⟩ (.int .u16 0)).setCell ⟨w.heap.size + 1, 4, none⟩ (.bool false)).setCell ⟨w.heap.size + 1, 5, none⟩ (.bool false)) := (below_set (below_set (below_set (below_set (below_set (below_set (below_set (below_set (below_set (below_set (below_set (below_set n4.out (Nat.le_refl _)) (Nat.le_refl _)) (Nat.le_refl _)) (Nat.le_refl _)) (Nat.le_refl _)) (Nat.le_refl _)) (Nat.le_succ _)) (Nat.le_succ _)) (Nat.le_succ _)) (Nat.le_succ _)) (Nat.le_succ _)) (Nat.le_succ _))
        generalize ((((((((((((wc.setCell ⟨w.heap.size, 0, none⟩ (.int .u8 0)).setCell ⟨w.heap.size, 1, none⟩ (.int .u8 0)).setCell ⟨w.heap.size, 2, none⟩ (.int .u8 0)).setCell ⟨w.heap.size, 3, none⟩ (.int .u16 0)).setCell ⟨w.heap.size, 4, none⟩ (.bool false)).setCell ⟨w.heap.size, 5, none⟩ (.bool false)).setCell ⟨w.heap.size + 1, 0, none⟩ (.int .u8 0)).setCell ⟨w.heap.size + 1, 1, none⟩ (.int .u8 0)).setCell ⟨w.heap.size + 1, 2, none⟩ (.int .u8 0)).setCell ⟨w.heap.size + 1, 3, none⟩ (.int .u16 0)).setCell ⟨w.heap.size + 1, 4, none⟩ (.bool false)).setCell ⟨w.heap.size + 1, 5, none⟩ (.bool false)) = YY at m1 m2 m3 ⊢
        have u0 : YY.cell? ⟨w.heap.size, 0, none⟩ = some (.int .u8 0) := (blk_cell m1 0).trans rfl
        have t0 : YY.cell? ⟨w.heap.size + 1, 0, none⟩ = some (.int .u8 0) := (blk_cell m2 0).trans rfl
        have u1 : YY.cell? ⟨w.heap.size, 1, none⟩ = some (.int .u8 0) := (blk_cell m1 1).trans rfl
        have t1 : YY.cell? ⟨w.heap.size + 1, 1, none⟩ = some (.int .u8 0) := (blk_cell m2 1).trans rfl
        have u2 : YY.cell? ⟨w.heap.size, 2, none⟩ = some (.int .u8 0) := (blk_cell m1 2).trans rfl
        have t2 : YY.cell? ⟨w.heap.size + 1, 2, none⟩ = some (.int .u8 0) := (blk_cell m2 2).trans rfl
        have u3 : YY.cell? ⟨w.heap.size, 3, none⟩ = some (.int .u16 0) := (blk_cell m1 3).trans rfl
        have t3 : YY.cell? ⟨w.heap.size + 1, 3, none⟩ = some (.int .u16 0) := (blk_cell m2 3).trans rfl
        have u4 : YY.cell? ⟨w.heap.size, 4, none⟩ = some (.bool false) := (blk_cell m1 4).trans rfl
        have t4 : YY.cell? ⟨w.heap.size + 1, 4, none⟩ = some (.bool false) := (blk_cell m2 4).trans rfl
        have u5 : YY.cell? ⟨w.heap.size, 5, none⟩ = some (.bool false) := (blk_cell m1 5).trans rfl
        have t5 : YY.cell? ⟨w.heap.size + 1, 5, none⟩ = some (.bool false) := (blk_cell m2 5).trans rfl
        exact bodyPost_ret (v := .tuple #[.agg #[.int .u8 0, .int .u8 0, .int .u8 0, .int .u16 0, .bool false, .bool false], .agg #[.int .u8 0, .int .u8 0, .int .u8 0, .int .u16 0, .bool false, .bool false], .int .i64 6]) (by simp [results, Try.results25, go_sem, u0, t0, u1, t1, u2, t2, u3, t3, u4, t4, u5, t5]) rfl ⟨rfl, m3⟩
end Go.Proofs.Ytkfjofkocccefaa.Hand
