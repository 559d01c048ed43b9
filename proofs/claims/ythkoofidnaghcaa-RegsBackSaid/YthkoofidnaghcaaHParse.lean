/- regs.Parse by hand: six words read, five pairs put, written again and compared. -/
import Derived.Test.YthkoofidnaghcaaHRead
import Derived.Test.YthkoofidnaghcaaHPutPair
import Derived.Test.YthkoofidnaghcaaHText
import Derived.Deep.MidRow
import Derived.BigRegion
import Derived.Handy
namespace Go.Proofs.Ythkoofidnaghcaa.Hand
open Go.RowKit
open Go.Proofs.Ythkoofidnaghcaa.G
open Go.Proofs.YthkoofidnaghcaaW.PrintWords Go.Proofs.YthkoofidnaghcaaW.PrintLast Go.Proofs.YthkoofidnaghcaaW.PrintMore
set_option linter.unusedVariables false
set_option linter.unusedSimpArgs false
def parseArr (w0 w1 w2 w3 w4 w5 : Int) : Nat → Array Value
  | 0 => #[.int .u16 0, .int .u16 0, .int .u16 0, .int .u16 0, .int .u16 0, .int .u16 0]
  | 1 => #[.int .u16 w0, .int .u16 0, .int .u16 0, .int .u16 0, .int .u16 0, .int .u16 0]
  | 2 => #[.int .u16 w0, .int .u16 w1, .int .u16 0, .int .u16 0, .int .u16 0, .int .u16 0]
  | 3 => #[.int .u16 w0, .int .u16 w1, .int .u16 w2, .int .u16 0, .int .u16 0, .int .u16 0]
  | 4 => #[.int .u16 w0, .int .u16 w1, .int .u16 w2, .int .u16 w3, .int .u16 0, .int .u16 0]
  | 5 => #[.int .u16 w0, .int .u16 w1, .int .u16 w2, .int .u16 w3, .int .u16 w4, .int .u16 0]
  | _ => #[.int .u16 w0, .int .u16 w1, .int .u16 w2, .int .u16 w3, .int .u16 w4, .int .u16 w5]
def parseReg (w5 x1_0 x1_1 x1_2 x1_3 x1_4 x1_5 x1_6 x1_7 x1_8 x1_9 x2_0 x2_1 x2_2 x2_3 x2_4 x2_5 x2_6 x2_7 x2_8 x2_9 x3_0 x3_1 x3_2 x3_3 x3_4 x3_5 x3_6 x3_7 x3_8 x3_9 x4_0 x4_1 x4_2 x4_3 x4_4 x4_5 x4_6 x4_7 x4_8 x4_9 x5_0 x5_1 x5_2 x5_3 x5_4 x5_5 x5_6 x5_7 x5_8 x5_9 : Int) : Nat → Array Value
  | 0 => #[.int .u8 0, .int .u8 0, .int .u8 0, .int .u8 0, .int .u8 0, .int .u8 0, .int .u8 0, .int .u8 0, .int .u16 0, .int .u16 w5]
  | 1 => #[.int .u8 x1_0, .int .u8 x1_1, .int .u8 x1_2, .int .u8 x1_3, .int .u8 x1_4, .int .u8 x1_5, .int .u8 x1_6, .int .u8 x1_7, .int .u16 x1_8, .int .u16 x1_9]
  | 2 => #[.int .u8 x2_0, .int .u8 x2_1, .int .u8 x2_2, .int .u8 x2_3, .int .u8 x2_4, .int .u8 x2_5, .int .u8 x2_6, .int .u8 x2_7, .int .u16 x2_8, .int .u16 x2_9]
  | 3 => #[.int .u8 x3_0, .int .u8 x3_1, .int .u8 x3_2, .int .u8 x3_3, .int .u8 x3_4, .int .u8 x3_5, .int .u8 x3_6, .int .u8 x3_7, .int .u16 x3_8, .int .u16 x3_9]
  | 4 => #[.int .u8 x4_0, .int .u8 x4_1, .int .u8 x4_2, .int .u8 x4_3, .int .u8 x4_4, .int .u8 x4_5, .int .u8 x4_6, .int .u8 x4_7, .int .u16 x4_8, .int .u16 x4_9]
  | _ => #[.int .u8 x5_0, .int .u8 x5_1, .int .u8 x5_2, .int .u8 x5_3, .int .u8 x5_4, .int .u8 x5_5, .int .u8 x5_6, .int .u8 x5_7, .int .u16 x5_8, .int .u16 x5_9]
set_option maxRecDepth 100000 in
set_option maxHeartbeats 8000000 in
theorem parse_main (s : ByteArray) (hs : s.size = 47) (w0 w1 w2 w3 w4 w5 e0 e1 e2 e3 e4 e5 : Int) (x1_0 x1_1 x1_2 x1_3 x1_4 x1_5 x1_6 x1_7 x1_8 x1_9 x2_0 x2_1 x2_2 x2_3 x2_4 x2_5 x2_6 x2_7 x2_8 x2_9 x3_0 x3_1 x3_2 x3_3 x3_4 x3_5 x3_6 x3_7 x3_8 x3_9 x4_0 x4_1 x4_2 x4_3 x4_4 x4_5 x4_6 x4_7 x4_8 x4_9 x5_0 x5_1 x5_2 x5_3 x5_4 x5_5 x5_6 x5_7 x5_8 x5_9 : Int) (q1 q2 q3 q4 q5 : Int) (h0 : word_Read.f (s.extract 3 7) 4 = some (w0, e0)) (h1 : word_Read.f (s.extract 11 15) 4 = some (w1, e1)) (h2 : word_Read.f (s.extract 19 23) 4 = some (w2, e2)) (h3 : word_Read.f (s.extract 27 31) 4 = some (w3, e3)) (h4 : word_Read.f (s.extract 35 39) 4 = some (w4, e4)) (h5 : word_Read.f (s.extract 43 47) 4 = some (w5, e5)) (p1 : regs_PutPair.f 0 0 0 0 0 0 0 0 0 w5 0 w1 = some (x1_0, x1_1, x1_2, x1_3, x1_4, x1_5, x1_6, x1_7, x1_8, x1_9, q1)) (p2 : regs_PutPair.f x1_0 x1_1 x1_2 x1_3 x1_4 x1_5 x1_6 x1_7 x1_8 x1_9 1 w2 = some (x2_0, x2_1, x2_2, x2_3, x2_4, x2_5, x2_6, x2_7, x2_8, x2_9, q2)) (p3 : regs_PutPair.f x2_0 x2_1 x2_2 x2_3 x2_4 x2_5 x2_6 x2_7 x2_8 x2_9 2 w3 = some (x3_0, x3_1, x3_2, x3_3, x3_4, x3_5, x3_6, x3_7, x3_8, x3_9, q3)) (p4 : regs_PutPair.f x3_0 x3_1 x3_2 x3_3 x3_4 x3_5 x3_6 x3_7 x3_8 x3_9 3 w4 = some (x4_0, x4_1, x4_2, x4_3, x4_4, x4_5, x4_6, x4_7, x4_8, x4_9, q4)) (p5 : regs_PutPair.f x4_0 x4_1 x4_2 x4_3 x4_4 x4_5 x4_6 x4_7 x4_8 x4_9 4 w0 = some (x5_0, x5_1, x5_2, x5_3, x5_4, x5_5, x5_6, x5_7, x5_8, x5_9, q5)) (t : ByteArray) (ht : regs_Text.f x5_0 x5_1 x5_2 x5_3 x5_4 x5_5 x5_6 x5_7 x5_8 x5_9 = some t) (w : World) :
    Calls Try.prog 29 #[.string s] w fun e' w' => e' = .returned (.tuple #[.agg (if (t.toList == s.toList) = true then #[.int .u8 x5_0, .int .u8 x5_1, .int .u8 x5_2, .int .u8 x5_3, .int .u8 x5_4, .int .u8 x5_5, .int .u8 x5_6, .int .u8 x5_7, .int .u16 x5_8, .int .u16 x5_9] else #[.int .u8 0, .int .u8 0, .int .u8 0, .int .u8 0, .int .u8 0, .int .u8 0, .int .u8 0, .int .u8 0, .int .u16 0, .int .u16 0]), .int .i64 (if (t.toList == s.toList) = true then 0 else 6)]) ∧ Below w.heap.size w w' := by
  have H0 := Aside0.mk h0
  have H1 := Aside0.mk h1
  have H2 := Aside0.mk h2
  have H3 := Aside0.mk h3
  have H4 := Aside0.mk h4
  have H5 := Aside0.mk h5
  have P1 := Aside0.mk p1
  have P2 := Aside0.mk p2
  have P3 := Aside0.mk p3
  have P4 := Aside0.mk p4
  have P5 := Aside0.mk p5
  have HT := Aside0.mk ht
  clear h0 h1 h2 h3 h4 h5 p1 p2 p3 p4 p5 ht
  have hs0 : (s.size : Int) = 47 := by omega
  go_enter Try.func29, Try.ntmps29
  go_wp2_with fail
  have b1 := blk_alloc (blk_new w (.cells #[.int .u8 0, .int .u8 0, .int .u8 0, .int .u8 0, .int .u8 0, .int .u8 0, .int .u8 0, .int .u8 0, .int .u16 0, .int .u16 0] 24)) (.cells #[.int .u16 0, .int .u16 0, .int .u16 0, .int .u16 0, .int .u16 0, .int .u16 0] 75)
  have b2 := heap_alloc_new (w.alloc (.cells #[.int .u8 0, .int .u8 0, .int .u8 0, .int .u8 0, .int .u8 0, .int .u8 0, .int .u8 0, .int .u8 0, .int .u16 0, .int .u16 0] 24)) (.cells #[.int .u16 0, .int .u16 0, .int .u16 0, .int .u16 0, .int .u16 0, .int .u16 0] 75)
  rw [show (w.alloc (.cells #[.int .u8 0, .int .u8 0, .int .u8 0, .int .u8 0, .int .u8 0, .int .u8 0, .int .u8 0, .int .u8 0, .int .u16 0, .int .u16 0] 24)).heap.size = w.heap.size + 1 by simp] at b2
  have b3 := below_alloc (below_alloc (Below.refl w.heap.size w) (.cells #[.int .u8 0, .int .u8 0, .int .u8 0, .int .u8 0, .int .u8 0, .int .u8 0, .int .u8 0, .int .u8 0, .int .u16 0, .int .u16 0] 24)) (.cells #[.int .u16 0, .int .u16 0, .int .u16 0, .int .u16 0, .int .u16 0, .int .u16 0] 75)
  go_loopw [13] (fun i w' => ∃ (j : Nat), i = .int .i64 j ∧ Aside0 (j ≤ 6 ∧ w'.heap[w.heap.size]? = some (.cells #[.int .u8 0, .int .u8 0, .int .u8 0, .int .u8 0, .int .u8 0, .int .u8 0, .int .u8 0, .int .u8 0, .int .u16 0, .int .u16 0] 24 (0, 0)) ∧ w'.heap[w.heap.size + 1]? = some (.cells (parseArr w0 w1 w2 w3 w4 w5 j) 75 (0, 0)) ∧ Below w.heap.size w w')) (fun i _ => 20 - (intOf i).toNat)
  case atStart => exact ⟨0, rfl, Aside0.mk ⟨by omega, b1, b2, b3⟩⟩
  case round =>
    obtain ⟨j, rfl, HA⟩ := hrel
    obtain ⟨hj, b1, b2, hb⟩ := HA.out
    clear HA
    have B1 := Aside0.mk b1
    have B2 := Aside0.mk b2
    have HB := Aside0.mk hb
    clear b1 b2 hb
    have hsz : w.heap.size + 1 < wr.heap.size := blk_lt B2.out
    have hj6 : j = 0 ∨ j = 1 ∨ j = 2 ∨ j = 3 ∨ j = 4 ∨ j = 5 ∨ j = 6 := by omega
    clear hj
    rcases hj6 with rfl | rfl | rfl | rfl | rfl | rfl | rfl
    · have c0 : wr.cell? ⟨w.heap.size + 1, 0, none⟩ = some (.int .u16 0) := (blk_cell B2.out 0).trans rfl
      go_wp2_with (first | (go_at_call 50; ((with_reducible refine (word_Read.calls (s.extract 3 7) 4 w0 e0 _ H0.out).mono ?_)); rintro e' w2 ⟨rfl, hb⟩; have n1 := Aside0.mk (blk_below B1.out hb); have n2 := Aside0.mk (blk_below B2.out hb); have n4 := Aside0.mk (below_step HB.out hb); clear hb; have d0 : w2.cell? ⟨w.heap.size + 1, 0, none⟩ = some (.int .u16 0) := (blk_cell n2.out 0).trans rfl; have fz := fun i => blk_frozen n2.out i))
      refine ⟨⟨1, rfl, Aside0.mk ⟨by omega, ?_, ?_, ?_⟩⟩, by simp [intOf]⟩
      · exact (blk_far n1.out (by simp) _)
      · exact (blk_put n2.out 0 _ rfl)
      · exact (below_set n4.out (by omega))
    · have c1 : wr.cell? ⟨w.heap.size + 1, 1, none⟩ = some (.int .u16 0) := (blk_cell B2.out 1).trans rfl
      go_wp2_with (first | (go_at_call 50; ((with_reducible refine (word_Read.calls (s.extract 11 15) 4 w1 e1 _ H1.out).mono ?_)); rintro e' w2 ⟨rfl, hb⟩; have n1 := Aside0.mk (blk_below B1.out hb); have n2 := Aside0.mk (blk_below B2.out hb); have n4 := Aside0.mk (below_step HB.out hb); clear hb; have d1 : w2.cell? ⟨w.heap.size + 1, 1, none⟩ = some (.int .u16 0) := (blk_cell n2.out 1).trans rfl; have fz := fun i => blk_frozen n2.out i))
      refine ⟨⟨2, rfl, Aside0.mk ⟨by omega, ?_, ?_, ?_⟩⟩, by simp [intOf]⟩
      · exact (blk_far n1.out (by simp) _)
      · exact (blk_put n2.out 1 _ rfl)
      · exact (below_set n4.out (by omega))
    · have c2 : wr.cell? ⟨w.heap.size + 1, 2, none⟩ = some (.int .u16 0) := (blk_cell B2.out 2).trans rfl
      go_wp2_with (first | (go_at_call 50; ((with_reducible refine (word_Read.calls (s.extract 19 23) 4 w2 e2 _ H2.out).mono ?_)); rintro e' w2 ⟨rfl, hb⟩; have n1 := Aside0.mk (blk_below B1.out hb); have n2 := Aside0.mk (blk_below B2.out hb); have n4 := Aside0.mk (below_step HB.out hb); clear hb; have d2 : w2.cell? ⟨w.heap.size + 1, 2, none⟩ = some (.int .u16 0) := (blk_cell n2.out 2).trans rfl; have fz := fun i => blk_frozen n2.out i))
      refine ⟨⟨3, rfl, Aside0.mk ⟨by omega, ?_, ?_, ?_⟩⟩, by simp [intOf]⟩
      · exact (blk_far n1.out (by simp) _)
      · exact (blk_put n2.out 2 _ rfl)
      · exact (below_set n4.out (by omega))
    · have c3 : wr.cell? ⟨w.heap.size + 1, 3, none⟩ = some (.int .u16 0) := (blk_cell B2.out 3).trans rfl
      go_wp2_with (first | (go_at_call 50; ((with_reducible refine (word_Read.calls (s.extract 27 31) 4 w3 e3 _ H3.out).mono ?_)); rintro e' w2 ⟨rfl, hb⟩; have n1 := Aside0.mk (blk_below B1.out hb); have n2 := Aside0.mk (blk_below B2.out hb); have n4 := Aside0.mk (below_step HB.out hb); clear hb; have d3 : w2.cell? ⟨w.heap.size + 1, 3, none⟩ = some (.int .u16 0) := (blk_cell n2.out 3).trans rfl; have fz := fun i => blk_frozen n2.out i))
      refine ⟨⟨4, rfl, Aside0.mk ⟨by omega, ?_, ?_, ?_⟩⟩, by simp [intOf]⟩
      · exact (blk_far n1.out (by simp) _)
      · exact (blk_put n2.out 3 _ rfl)
      · exact (below_set n4.out (by omega))
    · have c4 : wr.cell? ⟨w.heap.size + 1, 4, none⟩ = some (.int .u16 0) := (blk_cell B2.out 4).trans rfl
      go_wp2_with (first | (go_at_call 50; ((with_reducible refine (word_Read.calls (s.extract 35 39) 4 w4 e4 _ H4.out).mono ?_)); rintro e' w2 ⟨rfl, hb⟩; have n1 := Aside0.mk (blk_below B1.out hb); have n2 := Aside0.mk (blk_below B2.out hb); have n4 := Aside0.mk (below_step HB.out hb); clear hb; have d4 : w2.cell? ⟨w.heap.size + 1, 4, none⟩ = some (.int .u16 0) := (blk_cell n2.out 4).trans rfl; have fz := fun i => blk_frozen n2.out i))
      refine ⟨⟨5, rfl, Aside0.mk ⟨by omega, ?_, ?_, ?_⟩⟩, by simp [intOf]⟩
      · exact (blk_far n1.out (by simp) _)
      · exact (blk_put n2.out 4 _ rfl)
      · exact (below_set n4.out (by omega))
    · have c5 : wr.cell? ⟨w.heap.size + 1, 5, none⟩ = some (.int .u16 0) := (blk_cell B2.out 5).trans rfl
      go_wp2_with (first | (go_at_call 50; ((with_reducible refine (word_Read.calls (s.extract 43 47) 4 w5 e5 _ H5.out).mono ?_)); rintro e' w2 ⟨rfl, hb⟩; have n1 := Aside0.mk (blk_below B1.out hb); have n2 := Aside0.mk (blk_below B2.out hb); have n4 := Aside0.mk (below_step HB.out hb); clear hb; have d5 : w2.cell? ⟨w.heap.size + 1, 5, none⟩ = some (.int .u16 0) := (blk_cell n2.out 5).trans rfl; have fz := fun i => blk_frozen n2.out i))
      refine ⟨⟨6, rfl, Aside0.mk ⟨by omega, ?_, ?_, ?_⟩⟩, by simp [intOf]⟩
      · exact (blk_far n1.out (by simp) _)
      · exact (blk_put n2.out 5 _ rfl)
      · exact (below_set n4.out (by omega))
    · rw [show ((6 : Nat) : Int) = 6 from rfl]
      have a0 : wr.cell? ⟨w.heap.size + 1, 0, none⟩ = some (.int .u16 w0) := (blk_cell B2.out 0).trans rfl
      have a1 : wr.cell? ⟨w.heap.size + 1, 1, none⟩ = some (.int .u16 w1) := (blk_cell B2.out 1).trans rfl
      have a2 : wr.cell? ⟨w.heap.size + 1, 2, none⟩ = some (.int .u16 w2) := (blk_cell B2.out 2).trans rfl
      have a3 : wr.cell? ⟨w.heap.size + 1, 3, none⟩ = some (.int .u16 w3) := (blk_cell B2.out 3).trans rfl
      have a4 : wr.cell? ⟨w.heap.size + 1, 4, none⟩ = some (.int .u16 w4) := (blk_cell B2.out 4).trans rfl
      have a5 : wr.cell? ⟨w.heap.size + 1, 5, none⟩ = some (.int .u16 w5) := (blk_cell B2.out 5).trans rfl
      have A1 := blk_alloc B1.out (.cells #[.int .u8 0, .int .u8 0, .int .u8 0, .int .u8 0, .int .u8 0, .int .u8 0, .int .u8 0, .int .u8 0, .int .u16 0, .int .u16 w5] 24)
      have A2 := heap_alloc_new wr (.cells #[.int .u8 0, .int .u8 0, .int .u8 0, .int .u8 0, .int .u8 0, .int .u8 0, .int .u8 0, .int .u8 0, .int .u16 0, .int .u16 w5] 24)
      have A3 := below_alloc HB.out (.cells #[.int .u8 0, .int .u8 0, .int .u8 0, .int .u8 0, .int .u8 0, .int .u8 0, .int .u8 0, .int .u8 0, .int .u16 0, .int .u16 w5] 24)
      have g6l : w.heap.size + 1 < wr.heap.size := hsz
      have A4 := blk_alloc B2.out (.cells #[.int .u8 0, .int .u8 0, .int .u8 0, .int .u8 0, .int .u8 0, .int .u8 0, .int .u8 0, .int .u8 0, .int .u16 0, .int .u16 w5] 24)
      have e0 : (wr.alloc (.cells #[.int .u8 0, .int .u8 0, .int .u8 0, .int .u8 0, .int .u8 0, .int .u8 0, .int .u8 0, .int .u8 0, .int .u16 0, .int .u16 w5] 24)).cell? ⟨w.heap.size + 1, 0, none⟩ = some (.int .u16 w0) := (blk_cell A4 0).trans rfl
      have e1 : (wr.alloc (.cells #[.int .u8 0, .int .u8 0, .int .u8 0, .int .u8 0, .int .u8 0, .int .u8 0, .int .u8 0, .int .u8 0, .int .u16 0, .int .u16 w5] 24)).cell? ⟨w.heap.size + 1, 1, none⟩ = some (.int .u16 w1) := (blk_cell A4 1).trans rfl
      have e2 : (wr.alloc (.cells #[.int .u8 0, .int .u8 0, .int .u8 0, .int .u8 0, .int .u8 0, .int .u8 0, .int .u8 0, .int .u8 0, .int .u16 0, .int .u16 w5] 24)).cell? ⟨w.heap.size + 1, 2, none⟩ = some (.int .u16 w2) := (blk_cell A4 2).trans rfl
      have e3 : (wr.alloc (.cells #[.int .u8 0, .int .u8 0, .int .u8 0, .int .u8 0, .int .u8 0, .int .u8 0, .int .u8 0, .int .u8 0, .int .u16 0, .int .u16 w5] 24)).cell? ⟨w.heap.size + 1, 3, none⟩ = some (.int .u16 w3) := (blk_cell A4 3).trans rfl
      have e4 : (wr.alloc (.cells #[.int .u8 0, .int .u8 0, .int .u8 0, .int .u8 0, .int .u8 0, .int .u8 0, .int .u8 0, .int .u8 0, .int .u16 0, .int .u16 w5] 24)).cell? ⟨w.heap.size + 1, 4, none⟩ = some (.int .u16 w4) := (blk_cell A4 4).trans rfl
      have e5 : (wr.alloc (.cells #[.int .u8 0, .int .u8 0, .int .u8 0, .int .u8 0, .int .u8 0, .int .u8 0, .int .u8 0, .int .u8 0, .int .u16 0, .int .u16 w5] 24)).cell? ⟨w.heap.size + 1, 5, none⟩ = some (.int .u16 w5) := (blk_cell A4 5).trans rfl
      have i0 : ∀ (a b c d e : Int) (w : World), (Instr.index 77 (.agg #[.int .u16 a, .int .u16 b, .int .u16 c, .int .u16 d, .int .u16 e]) (.int .i64 0)).run Try.prog w = .ok (.int .u16 a) w := fun _ _ _ _ _ _ => by kernel_rfl
      have i1 : ∀ (a b c d e : Int) (w : World), (Instr.index 77 (.agg #[.int .u16 a, .int .u16 b, .int .u16 c, .int .u16 d, .int .u16 e]) (.int .i64 1)).run Try.prog w = .ok (.int .u16 b) w := fun _ _ _ _ _ _ => by kernel_rfl
      have i2 : ∀ (a b c d e : Int) (w : World), (Instr.index 77 (.agg #[.int .u16 a, .int .u16 b, .int .u16 c, .int .u16 d, .int .u16 e]) (.int .i64 2)).run Try.prog w = .ok (.int .u16 c) w := fun _ _ _ _ _ _ => by kernel_rfl
      have i3 : ∀ (a b c d e : Int) (w : World), (Instr.index 77 (.agg #[.int .u16 a, .int .u16 b, .int .u16 c, .int .u16 d, .int .u16 e]) (.int .i64 3)).run Try.prog w = .ok (.int .u16 d) w := fun _ _ _ _ _ _ => by kernel_rfl
      have i4 : ∀ (a b c d e : Int) (w : World), (Instr.index 77 (.agg #[.int .u16 a, .int .u16 b, .int .u16 c, .int .u16 d, .int .u16 e]) (.int .i64 4)).run Try.prog w = .ok (.int .u16 e) w := fun _ _ _ _ _ _ => by kernel_rfl
      go_wp2_with fail
      clear e0 e1 e2 e3 e4 e5 a0 a1 a2 a3 a4 a5 A4
      generalize wr.alloc (.cells #[.int .u8 0, .int .u8 0, .int .u8 0, .int .u8 0, .int .u8 0, .int .u8 0, .int .u8 0, .int .u8 0, .int .u16 0, .int .u16 w5] 24) = W1 at A1 A2 A3 ⊢
      generalize wr.heap.size = g6 at A2 g6l ⊢
      have hg6 : w.heap.size < g6 := by omega
      have R0 : (.cells #[.int .u8 0, .int .u8 0, .int .u8 0, .int .u8 0, .int .u8 0, .int .u8 0, .int .u8 0, .int .u8 0, .int .u16 0, .int .u16 w5] 24 : Obj) = .cells (parseReg w5 x1_0 x1_1 x1_2 x1_3 x1_4 x1_5 x1_6 x1_7 x1_8 x1_9 x2_0 x2_1 x2_2 x2_3 x2_4 x2_5 x2_6 x2_7 x2_8 x2_9 x3_0 x3_1 x3_2 x3_3 x3_4 x3_5 x3_6 x3_7 x3_8 x3_9 x4_0 x4_1 x4_2 x4_3 x4_4 x4_5 x4_6 x4_7 x4_8 x4_9 x5_0 x5_1 x5_2 x5_3 x5_4 x5_5 x5_6 x5_7 x5_8 x5_9 0) 24 := rfl
      rw [R0] at A2
      go_loopw [45] (fun i w' => ∃ (j : Nat), i = .int .i64 j ∧ Aside0 (j ≤ 5 ∧ w'.heap[w.heap.size]? = some (.cells #[.int .u8 0, .int .u8 0, .int .u8 0, .int .u8 0, .int .u8 0, .int .u8 0, .int .u8 0, .int .u8 0, .int .u16 0, .int .u16 0] 24 (0, 0)) ∧ w'.heap[g6]? = some (.cells (parseReg w5 x1_0 x1_1 x1_2 x1_3 x1_4 x1_5 x1_6 x1_7 x1_8 x1_9 x2_0 x2_1 x2_2 x2_3 x2_4 x2_5 x2_6 x2_7 x2_8 x2_9 x3_0 x3_1 x3_2 x3_3 x3_4 x3_5 x3_6 x3_7 x3_8 x3_9 x4_0 x4_1 x4_2 x4_3 x4_4 x4_5 x4_6 x4_7 x4_8 x4_9 x5_0 x5_1 x5_2 x5_3 x5_4 x5_5 x5_6 x5_7 x5_8 x5_9 j) 24 (0, 0)) ∧ Below w.heap.size w w')) (fun i _ => 20 - (intOf i).toNat)
      case atStart => exact ⟨0, rfl, Aside0.mk ⟨by omega, A1, A2, A3⟩⟩
      case round =>
        obtain ⟨j, rfl, HA⟩ := hrel
        obtain ⟨hj, b1, b2, hb⟩ := HA.out
        clear HA
        clear B1 B2 HB A1 A2 A3 R0
        have B1 := Aside0.mk b1
        have B2 := Aside0.mk b2
        have HB := Aside0.mk hb
        clear b1 b2 hb
        have hj6 : j = 0 ∨ j = 1 ∨ j = 2 ∨ j = 3 ∨ j = 4 ∨ j = 5 := by omega
        clear hj
        rcases hj6 with rfl | rfl | rfl | rfl | rfl | rfl
        · have c0 : wr.cell? ⟨g6, 0, none⟩ = some (.int .u8 0) := (blk_cell B2.out 0).trans rfl
          have c1 : wr.cell? ⟨g6, 1, none⟩ = some (.int .u8 0) := (blk_cell B2.out 1).trans rfl
          have c2 : wr.cell? ⟨g6, 2, none⟩ = some (.int .u8 0) := (blk_cell B2.out 2).trans rfl
          have c3 : wr.cell? ⟨g6, 3, none⟩ = some (.int .u8 0) := (blk_cell B2.out 3).trans rfl
          have c4 : wr.cell? ⟨g6, 4, none⟩ = some (.int .u8 0) := (blk_cell B2.out 4).trans rfl
          have c5 : wr.cell? ⟨g6, 5, none⟩ = some (.int .u8 0) := (blk_cell B2.out 5).trans rfl
          have c6 : wr.cell? ⟨g6, 6, none⟩ = some (.int .u8 0) := (blk_cell B2.out 6).trans rfl
          have c7 : wr.cell? ⟨g6, 7, none⟩ = some (.int .u8 0) := (blk_cell B2.out 7).trans rfl
          have c8 : wr.cell? ⟨g6, 8, none⟩ = some (.int .u16 0) := (blk_cell B2.out 8).trans rfl
          have c9 : wr.cell? ⟨g6, 9, none⟩ = some (.int .u16 w5) := (blk_cell B2.out 9).trans rfl
          go_wp2_with (first | (go_at_call 27; ((with_reducible refine (regs_PutPair.calls 0 0 0 0 0 0 0 0 0 w5 0 w1 x1_0 x1_1 x1_2 x1_3 x1_4 x1_5 x1_6 x1_7 x1_8 x1_9 q1 _ P1.out).mono ?_)); rintro e' w2 ⟨rfl, hb⟩; have n1 := Aside0.mk (blk_below B1.out hb); have n2 := Aside0.mk (blk_below B2.out hb); have n4 := Aside0.mk (below_step HB.out hb); clear hb; have d0 : w2.cell? ⟨g6, 0, none⟩ = some (.int .u8 0) := (blk_cell n2.out 0).trans rfl; have d1 : w2.cell? ⟨g6, 1, none⟩ = some (.int .u8 0) := (blk_cell n2.out 1).trans rfl; have d2 : w2.cell? ⟨g6, 2, none⟩ = some (.int .u8 0) := (blk_cell n2.out 2).trans rfl; have d3 : w2.cell? ⟨g6, 3, none⟩ = some (.int .u8 0) := (blk_cell n2.out 3).trans rfl; have d4 : w2.cell? ⟨g6, 4, none⟩ = some (.int .u8 0) := (blk_cell n2.out 4).trans rfl; have d5 : w2.cell? ⟨g6, 5, none⟩ = some (.int .u8 0) := (blk_cell n2.out 5).trans rfl; have d6 : w2.cell? ⟨g6, 6, none⟩ = some (.int .u8 0) := (blk_cell n2.out 6).trans rfl; have d7 : w2.cell? ⟨g6, 7, none⟩ = some (.int .u8 0) := (blk_cell n2.out 7).trans rfl; have d8 : w2.cell? ⟨g6, 8, none⟩ = some (.int .u16 0) := (blk_cell n2.out 8).trans rfl; have d9 : w2.cell? ⟨g6, 9, none⟩ = some (.int .u16 w5) := (blk_cell n2.out 9).trans rfl; have fz := fun i => blk_frozen n2.out i))
          have p : w2.heap[g6]? = some (.cells #[.int .u8 0, .int .u8 0, .int .u8 0, .int .u8 0, .int .u8 0, .int .u8 0, .int .u8 0, .int .u8 0, .int .u16 0, .int .u16 w5] 24 (0, 0)) := n2.out
          have f := n1.out
          have b := n4.out
          have p := blk_put (cs' := #[.int .u8 x1_0, .int .u8 0, .int .u8 0, .int .u8 0, .int .u8 0, .int .u8 0, .int .u8 0, .int .u8 0, .int .u16 0, .int .u16 w5]) p 0 (.int .u8 x1_0) rfl
          have p := blk_put (cs' := #[.int .u8 x1_0, .int .u8 x1_1, .int .u8 0, .int .u8 0, .int .u8 0, .int .u8 0, .int .u8 0, .int .u8 0, .int .u16 0, .int .u16 w5]) p 1 (.int .u8 x1_1) rfl
          have p := blk_put (cs' := #[.int .u8 x1_0, .int .u8 x1_1, .int .u8 x1_2, .int .u8 0, .int .u8 0, .int .u8 0, .int .u8 0, .int .u8 0, .int .u16 0, .int .u16 w5]) p 2 (.int .u8 x1_2) rfl
          have p := blk_put (cs' := #[.int .u8 x1_0, .int .u8 x1_1, .int .u8 x1_2, .int .u8 x1_3, .int .u8 0, .int .u8 0, .int .u8 0, .int .u8 0, .int .u16 0, .int .u16 w5]) p 3 (.int .u8 x1_3) rfl
          have p := blk_put (cs' := #[.int .u8 x1_0, .int .u8 x1_1, .int .u8 x1_2, .int .u8 x1_3, .int .u8 x1_4, .int .u8 0, .int .u8 0, .int .u8 0, .int .u16 0, .int .u16 w5]) p 4 (.int .u8 x1_4) rfl
          have p := blk_put (cs' := #[.int .u8 x1_0, .int .u8 x1_1, .int .u8 x1_2, .int .u8 x1_3, .int .u8 x1_4, .int .u8 x1_5, .int .u8 0, .int .u8 0, .int .u16 0, .int .u16 w5]) p 5 (.int .u8 x1_5) rfl
          have p := blk_put (cs' := #[.int .u8 x1_0, .int .u8 x1_1, .int .u8 x1_2, .int .u8 x1_3, .int .u8 x1_4, .int .u8 x1_5, .int .u8 x1_6, .int .u8 0, .int .u16 0, .int .u16 w5]) p 6 (.int .u8 x1_6) rfl
          have p := blk_put (cs' := #[.int .u8 x1_0, .int .u8 x1_1, .int .u8 x1_2, .int .u8 x1_3, .int .u8 x1_4, .int .u8 x1_5, .int .u8 x1_6, .int .u8 x1_7, .int .u16 0, .int .u16 w5]) p 7 (.int .u8 x1_7) rfl
          have p := blk_put (cs' := #[.int .u8 x1_0, .int .u8 x1_1, .int .u8 x1_2, .int .u8 x1_3, .int .u8 x1_4, .int .u8 x1_5, .int .u8 x1_6, .int .u8 x1_7, .int .u16 x1_8, .int .u16 w5]) p 8 (.int .u16 x1_8) rfl
          have p := blk_put (cs' := #[.int .u8 x1_0, .int .u8 x1_1, .int .u8 x1_2, .int .u8 x1_3, .int .u8 x1_4, .int .u8 x1_5, .int .u8 x1_6, .int .u8 x1_7, .int .u16 x1_8, .int .u16 x1_9]) p 9 (.int .u16 x1_9) rfl
          refine ⟨⟨1, rfl, Aside0.mk ⟨by omega, ?_, ?_, ?_⟩⟩, by simp [intOf]⟩
          · exact (blk_far (blk_far (blk_far (blk_far (blk_far (blk_far (blk_far (blk_far (blk_far (blk_far n1.out (by simp; omega) _) (by simp; omega) _) (by simp; omega) _) (by simp; omega) _) (by simp; omega) _) (by simp; omega) _) (by simp; omega) _) (by simp; omega) _) (by simp; omega) _) (by simp; omega) _)
          · exact p
          · exact (below_set (below_set (below_set (below_set (below_set (below_set (below_set (below_set (below_set (below_set n4.out (by omega)) (by omega)) (by omega)) (by omega)) (by omega)) (by omega)) (by omega)) (by omega)) (by omega)) (by omega))
        · have c0 : wr.cell? ⟨g6, 0, none⟩ = some (.int .u8 x1_0) := (blk_cell B2.out 0).trans rfl
          have c1 : wr.cell? ⟨g6, 1, none⟩ = some (.int .u8 x1_1) := (blk_cell B2.out 1).trans rfl
          have c2 : wr.cell? ⟨g6, 2, none⟩ = some (.int .u8 x1_2) := (blk_cell B2.out 2).trans rfl
          have c3 : wr.cell? ⟨g6, 3, none⟩ = some (.int .u8 x1_3) := (blk_cell B2.out 3).trans rfl
          have c4 : wr.cell? ⟨g6, 4, none⟩ = some (.int .u8 x1_4) := (blk_cell B2.out 4).trans rfl
          have c5 : wr.cell? ⟨g6, 5, none⟩ = some (.int .u8 x1_5) := (blk_cell B2.out 5).trans rfl
          have c6 : wr.cell? ⟨g6, 6, none⟩ = some (.int .u8 x1_6) := (blk_cell B2.out 6).trans rfl
          have c7 : wr.cell? ⟨g6, 7, none⟩ = some (.int .u8 x1_7) := (blk_cell B2.out 7).trans rfl
          have c8 : wr.cell? ⟨g6, 8, none⟩ = some (.int .u16 x1_8) := (blk_cell B2.out 8).trans rfl
          have c9 : wr.cell? ⟨g6, 9, none⟩ = some (.int .u16 x1_9) := (blk_cell B2.out 9).trans rfl
          go_wp2_with (first | (go_at_call 27; ((with_reducible refine (regs_PutPair.calls x1_0 x1_1 x1_2 x1_3 x1_4 x1_5 x1_6 x1_7 x1_8 x1_9 1 w2 x2_0 x2_1 x2_2 x2_3 x2_4 x2_5 x2_6 x2_7 x2_8 x2_9 q2 _ P2.out).mono ?_)); rintro e' w2 ⟨rfl, hb⟩; have n1 := Aside0.mk (blk_below B1.out hb); have n2 := Aside0.mk (blk_below B2.out hb); have n4 := Aside0.mk (below_step HB.out hb); clear hb; have d0 : w2.cell? ⟨g6, 0, none⟩ = some (.int .u8 x1_0) := (blk_cell n2.out 0).trans rfl; have d1 : w2.cell? ⟨g6, 1, none⟩ = some (.int .u8 x1_1) := (blk_cell n2.out 1).trans rfl; have d2 : w2.cell? ⟨g6, 2, none⟩ = some (.int .u8 x1_2) := (blk_cell n2.out 2).trans rfl; have d3 : w2.cell? ⟨g6, 3, none⟩ = some (.int .u8 x1_3) := (blk_cell n2.out 3).trans rfl; have d4 : w2.cell? ⟨g6, 4, none⟩ = some (.int .u8 x1_4) := (blk_cell n2.out 4).trans rfl; have d5 : w2.cell? ⟨g6, 5, none⟩ = some (.int .u8 x1_5) := (blk_cell n2.out 5).trans rfl; have d6 : w2.cell? ⟨g6, 6, none⟩ = some (.int .u8 x1_6) := (blk_cell n2.out 6).trans rfl; have d7 : w2.cell? ⟨g6, 7, none⟩ = some (.int .u8 x1_7) := (blk_cell n2.out 7).trans rfl; have d8 : w2.cell? ⟨g6, 8, none⟩ = some (.int .u16 x1_8) := (blk_cell n2.out 8).trans rfl; have d9 : w2.cell? ⟨g6, 9, none⟩ = some (.int .u16 x1_9) := (blk_cell n2.out 9).trans rfl; have fz := fun i => blk_frozen n2.out i))
          have p : w2.heap[g6]? = some (.cells #[.int .u8 x1_0, .int .u8 x1_1, .int .u8 x1_2, .int .u8 x1_3, .int .u8 x1_4, .int .u8 x1_5, .int .u8 x1_6, .int .u8 x1_7, .int .u16 x1_8, .int .u16 x1_9] 24 (0, 0)) := n2.out
          have f := n1.out
          have b := n4.out
          have p := blk_put (cs' := #[.int .u8 x2_0, .int .u8 x1_1, .int .u8 x1_2, .int .u8 x1_3, .int .u8 x1_4, .int .u8 x1_5, .int .u8 x1_6, .int .u8 x1_7, .int .u16 x1_8, .int .u16 x1_9]) p 0 (.int .u8 x2_0) rfl
          have p := blk_put (cs' := #[.int .u8 x2_0, .int .u8 x2_1, .int .u8 x1_2, .int .u8 x1_3, .int .u8 x1_4, .int .u8 x1_5, .int .u8 x1_6, .int .u8 x1_7, .int .u16 x1_8, .int .u16 x1_9]) p 1 (.int .u8 x2_1) rfl
          have p := blk_put (cs' := #[.int .u8 x2_0, .int .u8 x2_1, .int .u8 x2_2, .int .u8 x1_3, .int .u8 x1_4, .int .u8 x1_5, .int .u8 x1_6, .int .u8 x1_7, .int .u16 x1_8, .int .u16 x1_9]) p 2 (.int .u8 x2_2) rfl
          have p := blk_put (cs' := #[.int .u8 x2_0, .int .u8 x2_1, .int .u8 x2_2, .int .u8 x2_3, .int .u8 x1_4, .int .u8 x1_5, .int .u8 x1_6, .int .u8 x1_7, .int .u16 x1_8, .int .u16 x1_9]) p 3 (.int .u8 x2_3) rfl
          have p := blk_put (cs' := #[.int .u8 x2_0, .int .u8 x2_1, .int .u8 x2_2, .int .u8 x2_3, .int .u8 x2_4, .int .u8 x1_5, .int .u8 x1_6, .int .u8 x1_7, .int .u16 x1_8, .int .u16 x1_9]) p 4 (.int .u8 x2_4) rfl
          have p := blk_put (cs' := #[.int .u8 x2_0, .int .u8 x2_1, .int .u8 x2_2, .int .u8 x2_3, .int .u8 x2_4, .int .u8 x2_5, .int .u8 x1_6, .int .u8 x1_7, .int .u16 x1_8, .int .u16 x1_9]) p 5 (.int .u8 x2_5) rfl
          have p := blk_put (cs' := #[.int .u8 x2_0, .int .u8 x2_1, .int .u8 x2_2, .int .u8 x2_3, .int .u8 x2_4, .int .u8 x2_5, .int .u8 x2_6, .int .u8 x1_7, .int .u16 x1_8, .int .u16 x1_9]) p 6 (.int .u8 x2_6) rfl
          have p := blk_put (cs' := #[.int .u8 x2_0, .int .u8 x2_1, .int .u8 x2_2, .int .u8 x2_3, .int .u8 x2_4, .int .u8 x2_5, .int .u8 x2_6, .int .u8 x2_7, .int .u16 x1_8, .int .u16 x1_9]) p 7 (.int .u8 x2_7) rfl
          have p := blk_put (cs' := #[.int .u8 x2_0, .int .u8 x2_1, .int .u8 x2_2, .int .u8 x2_3, .int .u8 x2_4, .int .u8 x2_5, .int .u8 x2_6, .int .u8 x2_7, .int .u16 x2_8, .int .u16 x1_9]) p 8 (.int .u16 x2_8) rfl
          have p := blk_put (cs' := #[.int .u8 x2_0, .int .u8 x2_1, .int .u8 x2_2, .int .u8 x2_3, .int .u8 x2_4, .int .u8 x2_5, .int .u8 x2_6, .int .u8 x2_7, .int .u16 x2_8, .int .u16 x2_9]) p 9 (.int .u16 x2_9) rfl
          refine ⟨⟨2, rfl, Aside0.mk ⟨by omega, ?_, ?_, ?_⟩⟩, by simp [intOf]⟩
          · exact (blk_far (blk_far (blk_far (blk_far (blk_far (blk_far (blk_far (blk_far (blk_far (blk_far n1.out (by simp; omega) _) (by simp; omega) _) (by simp; omega) _) (by simp; omega) _) (by simp; omega) _) (by simp; omega) _) (by simp; omega) _) (by simp; omega) _) (by simp; omega) _) (by simp; omega) _)
          · exact p
          · exact (below_set (below_set (below_set (below_set (below_set (below_set (below_set (below_set (below_set (below_set n4.out (by omega)) (by omega)) (by omega)) (by omega)) (by omega)) (by omega)) (by omega)) (by omega)) (by omega)) (by omega))
        · have c0 : wr.cell? ⟨g6, 0, none⟩ = some (.int .u8 x2_0) := (blk_cell B2.out 0).trans rfl
          have c1 : wr.cell? ⟨g6, 1, none⟩ = some (.int .u8 x2_1) := (blk_cell B2.out 1).trans rfl
          have c2 : wr.cell? ⟨g6, 2, none⟩ = some (.int .u8 x2_2) := (blk_cell B2.out 2).trans rfl
          have c3 : wr.cell? ⟨g6, 3, none⟩ = some (.int .u8 x2_3) := (blk_cell B2.out 3).trans rfl
          have c4 : wr.cell? ⟨g6, 4, none⟩ = some (.int .u8 x2_4) := (blk_cell B2.out 4).trans rfl
          have c5 : wr.cell? ⟨g6, 5, none⟩ = some (.int .u8 x2_5) := (blk_cell B2.out 5).trans rfl
          have c6 : wr.cell? ⟨g6, 6, none⟩ = some (.int .u8 x2_6) := (blk_cell B2.out 6).trans rfl
          have c7 : wr.cell? ⟨g6, 7, none⟩ = some (.int .u8 x2_7) := (blk_cell B2.out 7).trans rfl
          have c8 : wr.cell? ⟨g6, 8, none⟩ = some (.int .u16 x2_8) := (blk_cell B2.out 8).trans rfl
          have c9 : wr.cell? ⟨g6, 9, none⟩ = some (.int .u16 x2_9) := (blk_cell B2.out 9).trans rfl
          go_wp2_with (first | (go_at_call 27; ((with_reducible refine (regs_PutPair.calls x2_0 x2_1 x2_2 x2_3 x2_4 x2_5 x2_6 x2_7 x2_8 x2_9 2 w3 x3_0 x3_1 x3_2 x3_3 x3_4 x3_5 x3_6 x3_7 x3_8 x3_9 q3 _ P3.out).mono ?_)); rintro e' w2 ⟨rfl, hb⟩; have n1 := Aside0.mk (blk_below B1.out hb); have n2 := Aside0.mk (blk_below B2.out hb); have n4 := Aside0.mk (below_step HB.out hb); clear hb; have d0 : w2.cell? ⟨g6, 0, none⟩ = some (.int .u8 x2_0) := (blk_cell n2.out 0).trans rfl; have d1 : w2.cell? ⟨g6, 1, none⟩ = some (.int .u8 x2_1) := (blk_cell n2.out 1).trans rfl; have d2 : w2.cell? ⟨g6, 2, none⟩ = some (.int .u8 x2_2) := (blk_cell n2.out 2).trans rfl; have d3 : w2.cell? ⟨g6, 3, none⟩ = some (.int .u8 x2_3) := (blk_cell n2.out 3).trans rfl; have d4 : w2.cell? ⟨g6, 4, none⟩ = some (.int .u8 x2_4) := (blk_cell n2.out 4).trans rfl; have d5 : w2.cell? ⟨g6, 5, none⟩ = some (.int .u8 x2_5) := (blk_cell n2.out 5).trans rfl; have d6 : w2.cell? ⟨g6, 6, none⟩ = some (.int .u8 x2_6) := (blk_cell n2.out 6).trans rfl; have d7 : w2.cell? ⟨g6, 7, none⟩ = some (.int .u8 x2_7) := (blk_cell n2.out 7).trans rfl; have d8 : w2.cell? ⟨g6, 8, none⟩ = some (.int .u16 x2_8) := (blk_cell n2.out 8).trans rfl; have d9 : w2.cell? ⟨g6, 9, none⟩ = some (.int .u16 x2_9) := (blk_cell n2.out 9).trans rfl; have fz := fun i => blk_frozen n2.out i))
          have p : w2.heap[g6]? = some (.cells #[.int .u8 x2_0, .int .u8 x2_1, .int .u8 x2_2, .int .u8 x2_3, .int .u8 x2_4, .int .u8 x2_5, .int .u8 x2_6, .int .u8 x2_7, .int .u16 x2_8, .int .u16 x2_9] 24 (0, 0)) := n2.out
          have f := n1.out
          have b := n4.out
          have p := blk_put (cs' := #[.int .u8 x3_0, .int .u8 x2_1, .int .u8 x2_2, .int .u8 x2_3, .int .u8 x2_4, .int .u8 x2_5, .int .u8 x2_6, .int .u8 x2_7, .int .u16 x2_8, .int .u16 x2_9]) p 0 (.int .u8 x3_0) rfl
          have p := blk_put (cs' := #[.int .u8 x3_0, .int .u8 x3_1, .int .u8 x2_2, .int .u8 x2_3, .int .u8 x2_4, .int .u8 x2_5, .int .u8 x2_6, .int .u8 x2_7, .int .u16 x2_8, .int .u16 x2_9]) p 1 (.int .u8 x3_1) rfl
          have p := blk_put (cs' := #[.int .u8 x3_0, .int .u8 x3_1, .int .u8 x3_2, .int .u8 x2_3, .int .u8 x2_4, .int .u8 x2_5, .int .u8 x2_6, .int .u8 x2_7, .int .u16 x2_8, .int .u16 x2_9]) p 2 (.int .u8 x3_2) rfl
          have p := blk_put (cs' := #[.int .u8 x3_0, .int .u8 x3_1, .int .u8 x3_2, .int .u8 x3_3, .int .u8 x2_4, .int .u8 x2_5, .int .u8 x2_6, .int .u8 x2_7, .int .u16 x2_8, .int .u16 x2_9]) p 3 (.int .u8 x3_3) rfl
          have p := blk_put (cs' := #[.int .u8 x3_0, .int .u8 x3_1, .int .u8 x3_2, .int .u8 x3_3, .int .u8 x3_4, .int .u8 x2_5, .int .u8 x2_6, .int .u8 x2_7, .int .u16 x2_8, .int .u16 x2_9]) p 4 (.int .u8 x3_4) rfl
          have p := blk_put (cs' := #[.int .u8 x3_0, .int .u8 x3_1, .int .u8 x3_2, .int .u8 x3_3, .int .u8 x3_4, .int .u8 x3_5, .int .u8 x2_6, .int .u8 x2_7, .int .u16 x2_8, .int .u16 x2_9]) p 5 (.int .u8 x3_5) rfl
          have p := blk_put (cs' := #[.int .u8 x3_0, .int .u8 x3_1, .int .u8 x3_2, .int .u8 x3_3, .int .u8 x3_4, .int .u8 x3_5, .int .u8 x3_6, .int .u8 x2_7, .int .u16 x2_8, .int .u16 x2_9]) p 6 (.int .u8 x3_6) rfl
          have p := blk_put (cs' := #[.int .u8 x3_0, .int .u8 x3_1, .int .u8 x3_2, .int .u8 x3_3, .int .u8 x3_4, .int .u8 x3_5, .int .u8 x3_6, .int .u8 x3_7, .int .u16 x2_8, .int .u16 x2_9]) p 7 (.int .u8 x3_7) rfl
          have p := blk_put (cs' := #[.int .u8 x3_0, .int .u8 x3_1, .int .u8 x3_2, .int .u8 x3_3, .int .u8 x3_4, .int .u8 x3_5, .int .u8 x3_6, .int .u8 x3_7, .int .u16 x3_8, .int .u16 x2_9]) p 8 (.int .u16 x3_8) rfl
          have p := blk_put (cs' := #[.int .u8 x3_0, .int .u8 x3_1, .int .u8 x3_2, .int .u8 x3_3, .int .u8 x3_4, .int .u8 x3_5, .int .u8 x3_6, .int .u8 x3_7, .int .u16 x3_8, .int .u16 x3_9]) p 9 (.int .u16 x3_9) rfl
          refine ⟨⟨3, rfl, Aside0.mk ⟨by omega, ?_, ?_, ?_⟩⟩, by simp [intOf]⟩
          · exact (blk_far (blk_far (blk_far (blk_far (blk_far (blk_far (blk_far (blk_far (blk_far (blk_far n1.out (by simp; omega) _) (by simp; omega) _) (by simp; omega) _) (by simp; omega) _) (by simp; omega) _) (by simp; omega) _) (by simp; omega) _) (by simp; omega) _) (by simp; omega) _) (by simp; omega) _)
          · exact p
          · exact (below_set (below_set (below_set (below_set (below_set (below_set (below_set (below_set (below_set (below_set n4.out (by omega)) (by omega)) (by omega)) (by omega)) (by omega)) (by omega)) (by omega)) (by omega)) (by omega)) (by omega))
        · have c0 : wr.cell? ⟨g6, 0, none⟩ = some (.int .u8 x3_0) := (blk_cell B2.out 0).trans rfl
          have c1 : wr.cell? ⟨g6, 1, none⟩ = some (.int .u8 x3_1) := (blk_cell B2.out 1).trans rfl
          have c2 : wr.cell? ⟨g6, 2, none⟩ = some (.int .u8 x3_2) := (blk_cell B2.out 2).trans rfl
          have c3 : wr.cell? ⟨g6, 3, none⟩ = some (.int .u8 x3_3) := (blk_cell B2.out 3).trans rfl
          have c4 : wr.cell? ⟨g6, 4, none⟩ = some (.int .u8 x3_4) := (blk_cell B2.out 4).trans rfl
          have c5 : wr.cell? ⟨g6, 5, none⟩ = some (.int .u8 x3_5) := (blk_cell B2.out 5).trans rfl
          have c6 : wr.cell? ⟨g6, 6, none⟩ = some (.int .u8 x3_6) := (blk_cell B2.out 6).trans rfl
          have c7 : wr.cell? ⟨g6, 7, none⟩ = some (.int .u8 x3_7) := (blk_cell B2.out 7).trans rfl
          have c8 : wr.cell? ⟨g6, 8, none⟩ = some (.int .u16 x3_8) := (blk_cell B2.out 8).trans rfl
          have c9 : wr.cell? ⟨g6, 9, none⟩ = some (.int .u16 x3_9) := (blk_cell B2.out 9).trans rfl
          go_wp2_with (first | (go_at_call 27; ((with_reducible refine (regs_PutPair.calls x3_0 x3_1 x3_2 x3_3 x3_4 x3_5 x3_6 x3_7 x3_8 x3_9 3 w4 x4_0 x4_1 x4_2 x4_3 x4_4 x4_5 x4_6 x4_7 x4_8 x4_9 q4 _ P4.out).mono ?_)); rintro e' w2 ⟨rfl, hb⟩; have n1 := Aside0.mk (blk_below B1.out hb); have n2 := Aside0.mk (blk_below B2.out hb); have n4 := Aside0.mk (below_step HB.out hb); clear hb; have d0 : w2.cell? ⟨g6, 0, none⟩ = some (.int .u8 x3_0) := (blk_cell n2.out 0).trans rfl; have d1 : w2.cell? ⟨g6, 1, none⟩ = some (.int .u8 x3_1) := (blk_cell n2.out 1).trans rfl; have d2 : w2.cell? ⟨g6, 2, none⟩ = some (.int .u8 x3_2) := (blk_cell n2.out 2).trans rfl; have d3 : w2.cell? ⟨g6, 3, none⟩ = some (.int .u8 x3_3) := (blk_cell n2.out 3).trans rfl; have d4 : w2.cell? ⟨g6, 4, none⟩ = some (.int .u8 x3_4) := (blk_cell n2.out 4).trans rfl; have d5 : w2.cell? ⟨g6, 5, none⟩ = some (.int .u8 x3_5) := (blk_cell n2.out 5).trans rfl; have d6 : w2.cell? ⟨g6, 6, none⟩ = some (.int .u8 x3_6) := (blk_cell n2.out 6).trans rfl; have d7 : w2.cell? ⟨g6, 7, none⟩ = some (.int .u8 x3_7) := (blk_cell n2.out 7).trans rfl; have d8 : w2.cell? ⟨g6, 8, none⟩ = some (.int .u16 x3_8) := (blk_cell n2.out 8).trans rfl; have d9 : w2.cell? ⟨g6, 9, none⟩ = some (.int .u16 x3_9) := (blk_cell n2.out 9).trans rfl; have fz := fun i => blk_frozen n2.out i))
          have p : w2.heap[g6]? = some (.cells #[.int .u8 x3_0, .int .u8 x3_1, .int .u8 x3_2, .int .u8 x3_3, .int .u8 x3_4, .int .u8 x3_5, .int .u8 x3_6, .int .u8 x3_7, .int .u16 x3_8, .int .u16 x3_9] 24 (0, 0)) := n2.out
          have f := n1.out
          have b := n4.out
          have p := blk_put (cs' := #[.int .u8 x4_0, .int .u8 x3_1, .int .u8 x3_2, .int .u8 x3_3, .int .u8 x3_4, .int .u8 x3_5, .int .u8 x3_6, .int .u8 x3_7, .int .u16 x3_8, .int .u16 x3_9]) p 0 (.int .u8 x4_0) rfl
          have p := blk_put (cs' := #[.int .u8 x4_0, .int .u8 x4_1, .int .u8 x3_2, .int .u8 x3_3, .int .u8 x3_4, .int .u8 x3_5, .int .u8 x3_6, .int .u8 x3_7, .int .u16 x3_8, .int .u16 x3_9]) p 1 (.int .u8 x4_1) rfl
          have p := blk_put (cs' := #[.int .u8 x4_0, .int .u8 x4_1, .int .u8 x4_2, .int .u8 x3_3, .int .u8 x3_4, .int .u8 x3_5, .int .u8 x3_6, .int .u8 x3_7, .int .u16 x3_8, .int .u16 x3_9]) p 2 (.int .u8 x4_2) rfl
          have p := blk_put (cs' := #[.int .u8 x4_0, .int .u8 x4_1, .int .u8 x4_2, .int .u8 x4_3, .int .u8 x3_4, .int .u8 x3_5, .int .u8 x3_6, .int .u8 x3_7, .int .u16 x3_8, .int .u16 x3_9]) p 3 (.int .u8 x4_3) rfl
          have p := blk_put (cs' := #[.int .u8 x4_0, .int .u8 x4_1, .int .u8 x4_2, .int .u8 x4_3, .int .u8 x4_4, .int .u8 x3_5, .int .u8 x3_6, .int .u8 x3_7, .int .u16 x3_8, .int .u16 x3_9]) p 4 (.int .u8 x4_4) rfl
          have p := blk_put (cs' := #[.int .u8 x4_0, .int .u8 x4_1, .int .u8 x4_2, .int .u8 x4_3, .int .u8 x4_4, .int .u8 x4_5, .int .u8 x3_6, .int .u8 x3_7, .int .u16 x3_8, .int .u16 x3_9]) p 5 (.int .u8 x4_5) rfl
          have p := blk_put (cs' := #[.int .u8 x4_0, .int .u8 x4_1, .int .u8 x4_2, .int .u8 x4_3, .int .u8 x4_4, .int .u8 x4_5, .int .u8 x4_6, .int .u8 x3_7, .int .u16 x3_8, .int .u16 x3_9]) p 6 (.int .u8 x4_6) rfl
          have p := blk_put (cs' := #[.int .u8 x4_0, .int .u8 x4_1, .int .u8 x4_2, .int .u8 x4_3, .int .u8 x4_4, .int .u8 x4_5, .int .u8 x4_6, .int .u8 x4_7, .int .u16 x3_8, .int .u16 x3_9]) p 7 (.int .u8 x4_7) rfl
          have p := blk_put (cs' := #[.int .u8 x4_0, .int .u8 x4_1, .int .u8 x4_2, .int .u8 x4_3, .int .u8 x4_4, .int .u8 x4_5, .int .u8 x4_6, .int .u8 x4_7, .int .u16 x4_8, .int .u16 x3_9]) p 8 (.int .u16 x4_8) rfl
          have p := blk_put (cs' := #[.int .u8 x4_0, .int .u8 x4_1, .int .u8 x4_2, .int .u8 x4_3, .int .u8 x4_4, .int .u8 x4_5, .int .u8 x4_6, .int .u8 x4_7, .int .u16 x4_8, .int .u16 x4_9]) p 9 (.int .u16 x4_9) rfl
          refine ⟨⟨4, rfl, Aside0.mk ⟨by omega, ?_, ?_, ?_⟩⟩, by simp [intOf]⟩
          · exact (blk_far (blk_far (blk_far (blk_far (blk_far (blk_far (blk_far (blk_far (blk_far (blk_far n1.out (by simp; omega) _) (by simp; omega) _) (by simp; omega) _) (by simp; omega) _) (by simp; omega) _) (by simp; omega) _) (by simp; omega) _) (by simp; omega) _) (by simp; omega) _) (by simp; omega) _)
          · exact p
          · exact (below_set (below_set (below_set (below_set (below_set (below_set (below_set (below_set (below_set (below_set n4.out (by omega)) (by omega)) (by omega)) (by omega)) (by omega)) (by omega)) (by omega)) (by omega)) (by omega)) (by omega))
        · have c0 : wr.cell? ⟨g6, 0, none⟩ = some (.int .u8 x4_0) := (blk_cell B2.out 0).trans rfl
          have c1 : wr.cell? ⟨g6, 1, none⟩ = some (.int .u8 x4_1) := (blk_cell B2.out 1).trans rfl
          have c2 : wr.cell? ⟨g6, 2, none⟩ = some (.int .u8 x4_2) := (blk_cell B2.out 2).trans rfl
          have c3 : wr.cell? ⟨g6, 3, none⟩ = some (.int .u8 x4_3) := (blk_cell B2.out 3).trans rfl
          have c4 : wr.cell? ⟨g6, 4, none⟩ = some (.int .u8 x4_4) := (blk_cell B2.out 4).trans rfl
          have c5 : wr.cell? ⟨g6, 5, none⟩ = some (.int .u8 x4_5) := (blk_cell B2.out 5).trans rfl
          have c6 : wr.cell? ⟨g6, 6, none⟩ = some (.int .u8 x4_6) := (blk_cell B2.out 6).trans rfl
          have c7 : wr.cell? ⟨g6, 7, none⟩ = some (.int .u8 x4_7) := (blk_cell B2.out 7).trans rfl
          have c8 : wr.cell? ⟨g6, 8, none⟩ = some (.int .u16 x4_8) := (blk_cell B2.out 8).trans rfl
          have c9 : wr.cell? ⟨g6, 9, none⟩ = some (.int .u16 x4_9) := (blk_cell B2.out 9).trans rfl
          go_wp2_with (first | (go_at_call 27; ((with_reducible refine (regs_PutPair.calls x4_0 x4_1 x4_2 x4_3 x4_4 x4_5 x4_6 x4_7 x4_8 x4_9 4 w0 x5_0 x5_1 x5_2 x5_3 x5_4 x5_5 x5_6 x5_7 x5_8 x5_9 q5 _ P5.out).mono ?_)); rintro e' w2 ⟨rfl, hb⟩; have n1 := Aside0.mk (blk_below B1.out hb); have n2 := Aside0.mk (blk_below B2.out hb); have n4 := Aside0.mk (below_step HB.out hb); clear hb; have d0 : w2.cell? ⟨g6, 0, none⟩ = some (.int .u8 x4_0) := (blk_cell n2.out 0).trans rfl; have d1 : w2.cell? ⟨g6, 1, none⟩ = some (.int .u8 x4_1) := (blk_cell n2.out 1).trans rfl; have d2 : w2.cell? ⟨g6, 2, none⟩ = some (.int .u8 x4_2) := (blk_cell n2.out 2).trans rfl; have d3 : w2.cell? ⟨g6, 3, none⟩ = some (.int .u8 x4_3) := (blk_cell n2.out 3).trans rfl; have d4 : w2.cell? ⟨g6, 4, none⟩ = some (.int .u8 x4_4) := (blk_cell n2.out 4).trans rfl; have d5 : w2.cell? ⟨g6, 5, none⟩ = some (.int .u8 x4_5) := (blk_cell n2.out 5).trans rfl; have d6 : w2.cell? ⟨g6, 6, none⟩ = some (.int .u8 x4_6) := (blk_cell n2.out 6).trans rfl; have d7 : w2.cell? ⟨g6, 7, none⟩ = some (.int .u8 x4_7) := (blk_cell n2.out 7).trans rfl; have d8 : w2.cell? ⟨g6, 8, none⟩ = some (.int .u16 x4_8) := (blk_cell n2.out 8).trans rfl; have d9 : w2.cell? ⟨g6, 9, none⟩ = some (.int .u16 x4_9) := (blk_cell n2.out 9).trans rfl; have fz := fun i => blk_frozen n2.out i))
          have p : w2.heap[g6]? = some (.cells #[.int .u8 x4_0, .int .u8 x4_1, .int .u8 x4_2, .int .u8 x4_3, .int .u8 x4_4, .int .u8 x4_5, .int .u8 x4_6, .int .u8 x4_7, .int .u16 x4_8, .int .u16 x4_9] 24 (0, 0)) := n2.out
          have f := n1.out
          have b := n4.out
          have p := blk_put (cs' := #[.int .u8 x5_0, .int .u8 x4_1, .int .u8 x4_2, .int .u8 x4_3, .int .u8 x4_4, .int .u8 x4_5, .int .u8 x4_6, .int .u8 x4_7, .int .u16 x4_8, .int .u16 x4_9]) p 0 (.int .u8 x5_0) rfl
          have p := blk_put (cs' := #[.int .u8 x5_0, .int .u8 x5_1, .int .u8 x4_2, .int .u8 x4_3, .int .u8 x4_4, .int .u8 x4_5, .int .u8 x4_6, .int .u8 x4_7, .int .u16 x4_8, .int .u16 x4_9]) p 1 (.int .u8 x5_1) rfl
          have p := blk_put (cs' := #[.int .u8 x5_0, .int .u8 x5_1, .int .u8 x5_2, .int .u8 x4_3, .int .u8 x4_4, .int .u8 x4_5, .int .u8 x4_6, .int .u8 x4_7, .int .u16 x4_8, .int .u16 x4_9]) p 2 (.int .u8 x5_2) rfl
          have p := blk_put (cs' := #[.int .u8 x5_0, .int .u8 x5_1, .int .u8 x5_2, .int .u8 x5_3, .int .u8 x4_4, .int .u8 x4_5, .int .u8 x4_6, .int .u8 x4_7, .int .u16 x4_8, .int .u16 x4_9]) p 3 (.int .u8 x5_3) rfl
          have p := blk_put (cs' := #[.int .u8 x5_0, .int .u8 x5_1, .int .u8 x5_2, .int .u8 x5_3, .int .u8 x5_4, .int .u8 x4_5, .int .u8 x4_6, .int .u8 x4_7, .int .u16 x4_8, .int .u16 x4_9]) p 4 (.int .u8 x5_4) rfl
          have p := blk_put (cs' := #[.int .u8 x5_0, .int .u8 x5_1, .int .u8 x5_2, .int .u8 x5_3, .int .u8 x5_4, .int .u8 x5_5, .int .u8 x4_6, .int .u8 x4_7, .int .u16 x4_8, .int .u16 x4_9]) p 5 (.int .u8 x5_5) rfl
          have p := blk_put (cs' := #[.int .u8 x5_0, .int .u8 x5_1, .int .u8 x5_2, .int .u8 x5_3, .int .u8 x5_4, .int .u8 x5_5, .int .u8 x5_6, .int .u8 x4_7, .int .u16 x4_8, .int .u16 x4_9]) p 6 (.int .u8 x5_6) rfl
          have p := blk_put (cs' := #[.int .u8 x5_0, .int .u8 x5_1, .int .u8 x5_2, .int .u8 x5_3, .int .u8 x5_4, .int .u8 x5_5, .int .u8 x5_6, .int .u8 x5_7, .int .u16 x4_8, .int .u16 x4_9]) p 7 (.int .u8 x5_7) rfl
          have p := blk_put (cs' := #[.int .u8 x5_0, .int .u8 x5_1, .int .u8 x5_2, .int .u8 x5_3, .int .u8 x5_4, .int .u8 x5_5, .int .u8 x5_6, .int .u8 x5_7, .int .u16 x5_8, .int .u16 x4_9]) p 8 (.int .u16 x5_8) rfl
          have p := blk_put (cs' := #[.int .u8 x5_0, .int .u8 x5_1, .int .u8 x5_2, .int .u8 x5_3, .int .u8 x5_4, .int .u8 x5_5, .int .u8 x5_6, .int .u8 x5_7, .int .u16 x5_8, .int .u16 x5_9]) p 9 (.int .u16 x5_9) rfl
          refine ⟨⟨5, rfl, Aside0.mk ⟨by omega, ?_, ?_, ?_⟩⟩, by simp [intOf]⟩
          · exact (blk_far (blk_far (blk_far (blk_far (blk_far (blk_far (blk_far (blk_far (blk_far (blk_far n1.out (by simp; omega) _) (by simp; omega) _) (by simp; omega) _) (by simp; omega) _) (by simp; omega) _) (by simp; omega) _) (by simp; omega) _) (by simp; omega) _) (by simp; omega) _) (by simp; omega) _)
          · exact p
          · exact (below_set (below_set (below_set (below_set (below_set (below_set (below_set (below_set (below_set (below_set n4.out (by omega)) (by omega)) (by omega)) (by omega)) (by omega)) (by omega)) (by omega)) (by omega)) (by omega)) (by omega))
        · have c0 : wr.cell? ⟨g6, 0, none⟩ = some (.int .u8 x5_0) := (blk_cell B2.out 0).trans rfl
          have c1 : wr.cell? ⟨g6, 1, none⟩ = some (.int .u8 x5_1) := (blk_cell B2.out 1).trans rfl
          have c2 : wr.cell? ⟨g6, 2, none⟩ = some (.int .u8 x5_2) := (blk_cell B2.out 2).trans rfl
          have c3 : wr.cell? ⟨g6, 3, none⟩ = some (.int .u8 x5_3) := (blk_cell B2.out 3).trans rfl
          have c4 : wr.cell? ⟨g6, 4, none⟩ = some (.int .u8 x5_4) := (blk_cell B2.out 4).trans rfl
          have c5 : wr.cell? ⟨g6, 5, none⟩ = some (.int .u8 x5_5) := (blk_cell B2.out 5).trans rfl
          have c6 : wr.cell? ⟨g6, 6, none⟩ = some (.int .u8 x5_6) := (blk_cell B2.out 6).trans rfl
          have c7 : wr.cell? ⟨g6, 7, none⟩ = some (.int .u8 x5_7) := (blk_cell B2.out 7).trans rfl
          have c8 : wr.cell? ⟨g6, 8, none⟩ = some (.int .u16 x5_8) := (blk_cell B2.out 8).trans rfl
          have c9 : wr.cell? ⟨g6, 9, none⟩ = some (.int .u16 x5_9) := (blk_cell B2.out 9).trans rfl
          cases hcmp : (t.toList == s.toList) with
          | true =>
            go_wp2_with (first | (go_at_call 17; ((with_reducible refine (regs_Text.calls x5_0 x5_1 x5_2 x5_3 x5_4 x5_5 x5_6 x5_7 x5_8 x5_9 t _ HT.out).mono ?_)); rintro e' w2 ⟨rfl, hb⟩; have n1 := Aside0.mk (blk_below B1.out hb); have n2 := Aside0.mk (blk_below B2.out hb); have n4 := Aside0.mk (below_step HB.out hb); clear hb; have d0 : w2.cell? ⟨g6, 0, none⟩ = some (.int .u8 x5_0) := (blk_cell n2.out 0).trans rfl; have d1 : w2.cell? ⟨g6, 1, none⟩ = some (.int .u8 x5_1) := (blk_cell n2.out 1).trans rfl; have d2 : w2.cell? ⟨g6, 2, none⟩ = some (.int .u8 x5_2) := (blk_cell n2.out 2).trans rfl; have d3 : w2.cell? ⟨g6, 3, none⟩ = some (.int .u8 x5_3) := (blk_cell n2.out 3).trans rfl; have d4 : w2.cell? ⟨g6, 4, none⟩ = some (.int .u8 x5_4) := (blk_cell n2.out 4).trans rfl; have d5 : w2.cell? ⟨g6, 5, none⟩ = some (.int .u8 x5_5) := (blk_cell n2.out 5).trans rfl; have d6 : w2.cell? ⟨g6, 6, none⟩ = some (.int .u8 x5_6) := (blk_cell n2.out 6).trans rfl; have d7 : w2.cell? ⟨g6, 7, none⟩ = some (.int .u8 x5_7) := (blk_cell n2.out 7).trans rfl; have d8 : w2.cell? ⟨g6, 8, none⟩ = some (.int .u16 x5_8) := (blk_cell n2.out 8).trans rfl; have d9 : w2.cell? ⟨g6, 9, none⟩ = some (.int .u16 x5_9) := (blk_cell n2.out 9).trans rfl; have z0 : w2.cell? ⟨w.heap.size, 0, none⟩ = some (.int .u8 0) := (blk_cell n1.out 0).trans rfl; have z1 : w2.cell? ⟨w.heap.size, 1, none⟩ = some (.int .u8 0) := (blk_cell n1.out 1).trans rfl; have z2 : w2.cell? ⟨w.heap.size, 2, none⟩ = some (.int .u8 0) := (blk_cell n1.out 2).trans rfl; have z3 : w2.cell? ⟨w.heap.size, 3, none⟩ = some (.int .u8 0) := (blk_cell n1.out 3).trans rfl; have z4 : w2.cell? ⟨w.heap.size, 4, none⟩ = some (.int .u8 0) := (blk_cell n1.out 4).trans rfl; have z5 : w2.cell? ⟨w.heap.size, 5, none⟩ = some (.int .u8 0) := (blk_cell n1.out 5).trans rfl; have z6 : w2.cell? ⟨w.heap.size, 6, none⟩ = some (.int .u8 0) := (blk_cell n1.out 6).trans rfl; have z7 : w2.cell? ⟨w.heap.size, 7, none⟩ = some (.int .u8 0) := (blk_cell n1.out 7).trans rfl; have z8 : w2.cell? ⟨w.heap.size, 8, none⟩ = some (.int .u16 0) := (blk_cell n1.out 8).trans rfl; have z9 : w2.cell? ⟨w.heap.size, 9, none⟩ = some (.int .u16 0) := (blk_cell n1.out 9).trans rfl; have fz := fun i => blk_frozen n1.out i))
            have p : w2.heap[w.heap.size]? = some (.cells #[.int .u8 0, .int .u8 0, .int .u8 0, .int .u8 0, .int .u8 0, .int .u8 0, .int .u8 0, .int .u8 0, .int .u16 0, .int .u16 0] 24 (0, 0)) := n1.out
            have p := blk_put (cs' := #[.int .u8 x5_0, .int .u8 0, .int .u8 0, .int .u8 0, .int .u8 0, .int .u8 0, .int .u8 0, .int .u8 0, .int .u16 0, .int .u16 0]) p 0 (.int .u8 x5_0) rfl
            have p := blk_put (cs' := #[.int .u8 x5_0, .int .u8 x5_1, .int .u8 0, .int .u8 0, .int .u8 0, .int .u8 0, .int .u8 0, .int .u8 0, .int .u16 0, .int .u16 0]) p 1 (.int .u8 x5_1) rfl
            have p := blk_put (cs' := #[.int .u8 x5_0, .int .u8 x5_1, .int .u8 x5_2, .int .u8 0, .int .u8 0, .int .u8 0, .int .u8 0, .int .u8 0, .int .u16 0, .int .u16 0]) p 2 (.int .u8 x5_2) rfl
            have p := blk_put (cs' := #[.int .u8 x5_0, .int .u8 x5_1, .int .u8 x5_2, .int .u8 x5_3, .int .u8 0, .int .u8 0, .int .u8 0, .int .u8 0, .int .u16 0, .int .u16 0]) p 3 (.int .u8 x5_3) rfl
            have p := blk_put (cs' := #[.int .u8 x5_0, .int .u8 x5_1, .int .u8 x5_2, .int .u8 x5_3, .int .u8 x5_4, .int .u8 0, .int .u8 0, .int .u8 0, .int .u16 0, .int .u16 0]) p 4 (.int .u8 x5_4) rfl
            have p := blk_put (cs' := #[.int .u8 x5_0, .int .u8 x5_1, .int .u8 x5_2, .int .u8 x5_3, .int .u8 x5_4, .int .u8 x5_5, .int .u8 0, .int .u8 0, .int .u16 0, .int .u16 0]) p 5 (.int .u8 x5_5) rfl
            have p := blk_put (cs' := #[.int .u8 x5_0, .int .u8 x5_1, .int .u8 x5_2, .int .u8 x5_3, .int .u8 x5_4, .int .u8 x5_5, .int .u8 x5_6, .int .u8 0, .int .u16 0, .int .u16 0]) p 6 (.int .u8 x5_6) rfl
            have p := blk_put (cs' := #[.int .u8 x5_0, .int .u8 x5_1, .int .u8 x5_2, .int .u8 x5_3, .int .u8 x5_4, .int .u8 x5_5, .int .u8 x5_6, .int .u8 x5_7, .int .u16 0, .int .u16 0]) p 7 (.int .u8 x5_7) rfl
            have p := blk_put (cs' := #[.int .u8 x5_0, .int .u8 x5_1, .int .u8 x5_2, .int .u8 x5_3, .int .u8 x5_4, .int .u8 x5_5, .int .u8 x5_6, .int .u8 x5_7, .int .u16 x5_8, .int .u16 0]) p 8 (.int .u16 x5_8) rfl
            have p := blk_put (cs' := #[.int .u8 x5_0, .int .u8 x5_1, .int .u8 x5_2, .int .u8 x5_3, .int .u8 x5_4, .int .u8 x5_5, .int .u8 x5_6, .int .u8 x5_7, .int .u16 x5_8, .int .u16 x5_9]) p 9 (.int .u16 x5_9) rfl
            have b : Below w.heap.size w ((((((((((w2.setCell ⟨w.heap.size, 0, none⟩ (.int .u8 x5_0)).setCell ⟨w.heap.size, 1, none⟩ (.int .u8 x5_1)).setCell ⟨w.heap.size, 2, none⟩ (.int .u8 x5_2)).setCell ⟨w.heap.size, 3, none⟩ (.int .u8 x5_3)).setCell ⟨w.heap.size, 4, none⟩ (.int .u8 x5_4)).setCell ⟨w.heap.size, 5, none⟩ (.int .u8 x5_5)).setCell ⟨w.heap.size, 6, none⟩ (.int .u8 x5_6)).setCell ⟨w.heap.size, 7, none⟩ (.int .u8 x5_7)).setCell ⟨w.heap.size, 8, none⟩ (.int .u16 x5_8)).setCell ⟨w.heap.size, 9, none⟩ (.int .u16 x5_9)) := (below_set (below_set (below_set (below_set (below_set (below_set (below_set (below_set (below_set (below_set n4.out (Nat.le_refl _)) (Nat.le_refl _)) (Nat.le_refl _)) (Nat.le_refl _)) (Nat.le_refl _)) (Nat.le_refl _)) (Nat.le_refl _)) (Nat.le_refl _)) (Nat.le_refl _)) (Nat.le_refl _))
            generalize ((((((((((w2.setCell ⟨w.heap.size, 0, none⟩ (.int .u8 x5_0)).setCell ⟨w.heap.size, 1, none⟩ (.int .u8 x5_1)).setCell ⟨w.heap.size, 2, none⟩ (.int .u8 x5_2)).setCell ⟨w.heap.size, 3, none⟩ (.int .u8 x5_3)).setCell ⟨w.heap.size, 4, none⟩ (.int .u8 x5_4)).setCell ⟨w.heap.size, 5, none⟩ (.int .u8 x5_5)).setCell ⟨w.heap.size, 6, none⟩ (.int .u8 x5_6)).setCell ⟨w.heap.size, 7, none⟩ (.int .u8 x5_7)).setCell ⟨w.heap.size, 8, none⟩ (.int .u16 x5_8)).setCell ⟨w.heap.size, 9, none⟩ (.int .u16 x5_9)) = YY at p b ⊢
            have u0 : YY.cell? ⟨w.heap.size, 0, none⟩ = some (.int .u8 x5_0) := (blk_cell p 0).trans rfl
            have u1 : YY.cell? ⟨w.heap.size, 1, none⟩ = some (.int .u8 x5_1) := (blk_cell p 1).trans rfl
            have u2 : YY.cell? ⟨w.heap.size, 2, none⟩ = some (.int .u8 x5_2) := (blk_cell p 2).trans rfl
            have u3 : YY.cell? ⟨w.heap.size, 3, none⟩ = some (.int .u8 x5_3) := (blk_cell p 3).trans rfl
            have u4 : YY.cell? ⟨w.heap.size, 4, none⟩ = some (.int .u8 x5_4) := (blk_cell p 4).trans rfl
            have u5 : YY.cell? ⟨w.heap.size, 5, none⟩ = some (.int .u8 x5_5) := (blk_cell p 5).trans rfl
            have u6 : YY.cell? ⟨w.heap.size, 6, none⟩ = some (.int .u8 x5_6) := (blk_cell p 6).trans rfl
            have u7 : YY.cell? ⟨w.heap.size, 7, none⟩ = some (.int .u8 x5_7) := (blk_cell p 7).trans rfl
            have u8 : YY.cell? ⟨w.heap.size, 8, none⟩ = some (.int .u16 x5_8) := (blk_cell p 8).trans rfl
            have u9 : YY.cell? ⟨w.heap.size, 9, none⟩ = some (.int .u16 x5_9) := (blk_cell p 9).trans rfl
            exact bodyPost_ret (v := .tuple #[.agg #[.int .u8 x5_0, .int .u8 x5_1, .int .u8 x5_2, .int .u8 x5_3, .int .u8 x5_4, .int .u8 x5_5, .int .u8 x5_6, .int .u8 x5_7, .int .u16 x5_8, .int .u16 x5_9], .int .i64 0]) (by simp [results, Try.results29, go_sem, u0, u1, u2, u3, u4, u5, u6, u7, u8, u9]) rfl ⟨rfl, b⟩
          | false =>
            have hn : ¬ (t.toList == s.toList) = true := by rw [hcmp]; simp
            go_wp2_with (first | (go_at_call 17; ((with_reducible refine (regs_Text.calls x5_0 x5_1 x5_2 x5_3 x5_4 x5_5 x5_6 x5_7 x5_8 x5_9 t _ HT.out).mono ?_)); rintro e' w2 ⟨rfl, hb⟩; have n1 := Aside0.mk (blk_below B1.out hb); have n2 := Aside0.mk (blk_below B2.out hb); have n4 := Aside0.mk (below_step HB.out hb); clear hb; have d0 : w2.cell? ⟨g6, 0, none⟩ = some (.int .u8 x5_0) := (blk_cell n2.out 0).trans rfl; have d1 : w2.cell? ⟨g6, 1, none⟩ = some (.int .u8 x5_1) := (blk_cell n2.out 1).trans rfl; have d2 : w2.cell? ⟨g6, 2, none⟩ = some (.int .u8 x5_2) := (blk_cell n2.out 2).trans rfl; have d3 : w2.cell? ⟨g6, 3, none⟩ = some (.int .u8 x5_3) := (blk_cell n2.out 3).trans rfl; have d4 : w2.cell? ⟨g6, 4, none⟩ = some (.int .u8 x5_4) := (blk_cell n2.out 4).trans rfl; have d5 : w2.cell? ⟨g6, 5, none⟩ = some (.int .u8 x5_5) := (blk_cell n2.out 5).trans rfl; have d6 : w2.cell? ⟨g6, 6, none⟩ = some (.int .u8 x5_6) := (blk_cell n2.out 6).trans rfl; have d7 : w2.cell? ⟨g6, 7, none⟩ = some (.int .u8 x5_7) := (blk_cell n2.out 7).trans rfl; have d8 : w2.cell? ⟨g6, 8, none⟩ = some (.int .u16 x5_8) := (blk_cell n2.out 8).trans rfl; have d9 : w2.cell? ⟨g6, 9, none⟩ = some (.int .u16 x5_9) := (blk_cell n2.out 9).trans rfl; have z0 : w2.cell? ⟨w.heap.size, 0, none⟩ = some (.int .u8 0) := (blk_cell n1.out 0).trans rfl; have z1 : w2.cell? ⟨w.heap.size, 1, none⟩ = some (.int .u8 0) := (blk_cell n1.out 1).trans rfl; have z2 : w2.cell? ⟨w.heap.size, 2, none⟩ = some (.int .u8 0) := (blk_cell n1.out 2).trans rfl; have z3 : w2.cell? ⟨w.heap.size, 3, none⟩ = some (.int .u8 0) := (blk_cell n1.out 3).trans rfl; have z4 : w2.cell? ⟨w.heap.size, 4, none⟩ = some (.int .u8 0) := (blk_cell n1.out 4).trans rfl; have z5 : w2.cell? ⟨w.heap.size, 5, none⟩ = some (.int .u8 0) := (blk_cell n1.out 5).trans rfl; have z6 : w2.cell? ⟨w.heap.size, 6, none⟩ = some (.int .u8 0) := (blk_cell n1.out 6).trans rfl; have z7 : w2.cell? ⟨w.heap.size, 7, none⟩ = some (.int .u8 0) := (blk_cell n1.out 7).trans rfl; have z8 : w2.cell? ⟨w.heap.size, 8, none⟩ = some (.int .u16 0) := (blk_cell n1.out 8).trans rfl; have z9 : w2.cell? ⟨w.heap.size, 9, none⟩ = some (.int .u16 0) := (blk_cell n1.out 9).trans rfl; have fz := fun i => blk_frozen n1.out i))
            have p : w2.heap[w.heap.size]? = some (.cells #[.int .u8 0, .int .u8 0, .int .u8 0, .int .u8 0, .int .u8 0, .int .u8 0, .int .u8 0, .int .u8 0, .int .u16 0, .int .u16 0] 24 (0, 0)) := n1.out
            have p := blk_put (cs' := #[.int .u8 0, .int .u8 0, .int .u8 0, .int .u8 0, .int .u8 0, .int .u8 0, .int .u8 0, .int .u8 0, .int .u16 0, .int .u16 0]) p 0 (.int .u8 0) rfl
            have p := blk_put (cs' := #[.int .u8 0, .int .u8 0, .int .u8 0, .int .u8 0, .int .u8 0, .int .u8 0, .int .u8 0, .int .u8 0, .int .u16 0, .int .u16 0]) p 1 (.int .u8 0) rfl
            have p := blk_put (cs' := #[.int .u8 0, .int .u8 0, .int .u8 0, .int .u8 0, .int .u8 0, .int .u8 0, .int .u8 0, .int .u8 0, .int .u16 0, .int .u16 0]) p 2 (.int .u8 0) rfl
            have p := blk_put (cs' := #[.int .u8 0, .int .u8 0, .int .u8 0, .int .u8 0, .int .u8 0, .int .u8 0, .int .u8 0, .int .u8 0, .int .u16 0, .int .u16 0]) p 3 (.int .u8 0) rfl
            have p := blk_put (cs' := #[.int .u8 0, .int .u8 0, .int .u8 0, .int .u8 0, .int .u8 0, .int .u8 0, .int .u8 0, .int .u8 0, .int .u16 0, .int .u16 0]) p 4 (.int .u8 0) rfl
            have p := blk_put (cs' := #[.int .u8 0, .int .u8 0, .int .u8 0, .int .u8 0, .int .u8 0, .int .u8 0, .int .u8 0, .int .u8 0, .int .u16 0, .int .u16 0]) p 5 (.int .u8 0) rfl
            have p := blk_put (cs' := #[.int .u8 0, .int .u8 0, .int .u8 0, .int .u8 0, .int .u8 0, .int .u8 0, .int .u8 0, .int .u8 0, .int .u16 0, .int .u16 0]) p 6 (.int .u8 0) rfl
            have p := blk_put (cs' := #[.int .u8 0, .int .u8 0, .int .u8 0, .int .u8 0, .int .u8 0, .int .u8 0, .int .u8 0, .int .u8 0, .int .u16 0, .int .u16 0]) p 7 (.int .u8 0) rfl
            have p := blk_put (cs' := #[.int .u8 0, .int .u8 0, .int .u8 0, .int .u8 0, .int .u8 0, .int .u8 0, .int .u8 0, .int .u8 0, .int .u16 0, .int .u16 0]) p 8 (.int .u16 0) rfl
            have p := blk_put (cs' := #[.int .u8 0, .int .u8 0, .int .u8 0, .int .u8 0, .int .u8 0, .int .u8 0, .int .u8 0, .int .u8 0, .int .u16 0, .int .u16 0]) p 9 (.int .u16 0) rfl
            have b : Below w.heap.size w ((((((((((w2.setCell ⟨w.heap.size, 0, none⟩ (.int .u8 0)).setCell ⟨w.heap.size, 1, none⟩ (.int .u8 0)).setCell ⟨w.heap.size, 2, none⟩ (.int .u8 0)).setCell ⟨w.heap.size, 3, none⟩ (.int .u8 0)).setCell ⟨w.heap.size, 4, none⟩ (.int .u8 0)).setCell ⟨w.heap.size, 5, none⟩ (.int .u8 0)).setCell ⟨w.heap.size, 6, none⟩ (.int .u8 0)).setCell ⟨w.heap.size, 7, none⟩ (.int .u8 0)).setCell ⟨w.heap.size, 8, none⟩ (.int .u16 0)).setCell ⟨w.heap.size, 9, none⟩ (.int .u16 0)) := (below_set (below_set (below_set (below_set (below_set (below_set (below_set (below_set (below_set (below_set n4.out (Nat.le_refl _)) (Nat.le_refl _)) (Nat.le_refl _)) (Nat.le_refl _)) (Nat.le_refl _)) (Nat.le_refl _)) (Nat.le_refl _)) (Nat.le_refl _)) (Nat.le_refl _)) (Nat.le_refl _))
            generalize ((((((((((w2.setCell ⟨w.heap.size, 0, none⟩ (.int .u8 0)).setCell ⟨w.heap.size, 1, none⟩ (.int .u8 0)).setCell ⟨w.heap.size, 2, none⟩ (.int .u8 0)).setCell ⟨w.heap.size, 3, none⟩ (.int .u8 0)).setCell ⟨w.heap.size, 4, none⟩ (.int .u8 0)).setCell ⟨w.heap.size, 5, none⟩ (.int .u8 0)).setCell ⟨w.heap.size, 6, none⟩ (.int .u8 0)).setCell ⟨w.heap.size, 7, none⟩ (.int .u8 0)).setCell ⟨w.heap.size, 8, none⟩ (.int .u16 0)).setCell ⟨w.heap.size, 9, none⟩ (.int .u16 0)) = YY at p b ⊢
            have u0 : YY.cell? ⟨w.heap.size, 0, none⟩ = some (.int .u8 0) := (blk_cell p 0).trans rfl
            have u1 : YY.cell? ⟨w.heap.size, 1, none⟩ = some (.int .u8 0) := (blk_cell p 1).trans rfl
            have u2 : YY.cell? ⟨w.heap.size, 2, none⟩ = some (.int .u8 0) := (blk_cell p 2).trans rfl
            have u3 : YY.cell? ⟨w.heap.size, 3, none⟩ = some (.int .u8 0) := (blk_cell p 3).trans rfl
            have u4 : YY.cell? ⟨w.heap.size, 4, none⟩ = some (.int .u8 0) := (blk_cell p 4).trans rfl
            have u5 : YY.cell? ⟨w.heap.size, 5, none⟩ = some (.int .u8 0) := (blk_cell p 5).trans rfl
            have u6 : YY.cell? ⟨w.heap.size, 6, none⟩ = some (.int .u8 0) := (blk_cell p 6).trans rfl
            have u7 : YY.cell? ⟨w.heap.size, 7, none⟩ = some (.int .u8 0) := (blk_cell p 7).trans rfl
            have u8 : YY.cell? ⟨w.heap.size, 8, none⟩ = some (.int .u16 0) := (blk_cell p 8).trans rfl
            have u9 : YY.cell? ⟨w.heap.size, 9, none⟩ = some (.int .u16 0) := (blk_cell p 9).trans rfl
            exact bodyPost_ret (v := .tuple #[.agg #[.int .u8 0, .int .u8 0, .int .u8 0, .int .u8 0, .int .u8 0, .int .u8 0, .int .u8 0, .int .u8 0, .int .u16 0, .int .u16 0], .int .i64 6]) (by simp [results, Try.results29, go_sem, u0, u1, u2, u3, u4, u5, u6, u7, u8, u9]) rfl ⟨rfl, b⟩
set_option maxRecDepth 100000 in
theorem parse_len (s : ByteArray) (hs : ¬ (s.size : Int) = 47) (w : World) :
    Calls Try.prog 29 #[.string s] w fun e' w' => e' = .returned (.tuple #[.agg #[.int .u8 0, .int .u8 0, .int .u8 0, .int .u8 0, .int .u8 0, .int .u8 0, .int .u8 0, .int .u8 0, .int .u16 0, .int .u16 0], .int .i64 6]) ∧ Below w.heap.size w w' := by
  go_enter Try.func29, Try.ntmps29
  go_wp2
  refine bodyPost_ret (v := .tuple #[.agg #[.int .u8 0, .int .u8 0, .int .u8 0, .int .u8 0, .int .u8 0, .int .u8 0, .int .u8 0, .int .u8 0, .int .u16 0, .int .u16 0], .int .i64 6]) (by simp [results, Try.results29, go_sem]) rfl ⟨rfl, by go_grown⟩
def regs_Parse.f (s : ByteArray) : Option (Int × Int × Int × Int × Int × Int × Int × Int × Int × Int × Int) :=
  if s.size = 47 then (word_Read.f (s.extract 3 7) 4).bind fun r0 => (word_Read.f (s.extract 11 15) 4).bind fun r1 => (word_Read.f (s.extract 19 23) 4).bind fun r2 => (word_Read.f (s.extract 27 31) 4).bind fun r3 => (word_Read.f (s.extract 35 39) 4).bind fun r4 => (word_Read.f (s.extract 43 47) 4).bind fun r5 => (regs_PutPair.f 0 0 0 0 0 0 0 0 0 r5.1 0 r1.1).bind fun z1 => (regs_PutPair.f z1.1 z1.2.1 z1.2.2.1 z1.2.2.2.1 z1.2.2.2.2.1 z1.2.2.2.2.2.1 z1.2.2.2.2.2.2.1 z1.2.2.2.2.2.2.2.1 z1.2.2.2.2.2.2.2.2.1 z1.2.2.2.2.2.2.2.2.2.1 1 r2.1).bind fun z2 => (regs_PutPair.f z2.1 z2.2.1 z2.2.2.1 z2.2.2.2.1 z2.2.2.2.2.1 z2.2.2.2.2.2.1 z2.2.2.2.2.2.2.1 z2.2.2.2.2.2.2.2.1 z2.2.2.2.2.2.2.2.2.1 z2.2.2.2.2.2.2.2.2.2.1 2 r3.1).bind fun z3 => (regs_PutPair.f z3.1 z3.2.1 z3.2.2.1 z3.2.2.2.1 z3.2.2.2.2.1 z3.2.2.2.2.2.1 z3.2.2.2.2.2.2.1 z3.2.2.2.2.2.2.2.1 z3.2.2.2.2.2.2.2.2.1 z3.2.2.2.2.2.2.2.2.2.1 3 r4.1).bind fun z4 => (regs_PutPair.f z4.1 z4.2.1 z4.2.2.1 z4.2.2.2.1 z4.2.2.2.2.1 z4.2.2.2.2.2.1 z4.2.2.2.2.2.2.1 z4.2.2.2.2.2.2.2.1 z4.2.2.2.2.2.2.2.2.1 z4.2.2.2.2.2.2.2.2.2.1 4 r0.1).bind fun z5 => (regs_Text.f z5.1 z5.2.1 z5.2.2.1 z5.2.2.2.1 z5.2.2.2.2.1 z5.2.2.2.2.2.1 z5.2.2.2.2.2.2.1 z5.2.2.2.2.2.2.2.1 z5.2.2.2.2.2.2.2.2.1 z5.2.2.2.2.2.2.2.2.2.1).bind fun t => if (t.toList == s.toList) = true then some (z5.1, z5.2.1, z5.2.2.1, z5.2.2.2.1, z5.2.2.2.2.1, z5.2.2.2.2.2.1, z5.2.2.2.2.2.2.1, z5.2.2.2.2.2.2.2.1, z5.2.2.2.2.2.2.2.2.1, z5.2.2.2.2.2.2.2.2.2.1, 0) else some (0, 0, 0, 0, 0, 0, 0, 0, 0, 0, 6)
  else some (0, 0, 0, 0, 0, 0, 0, 0, 0, 0, 6)
theorem regs_Parse.calls (s : ByteArray) (r1 r2 r3 r4 r5 r6 r7 r8 r9 r10 r11 : Int) (w : World) (h : regs_Parse.f s = some (r1, r2, r3, r4, r5, r6, r7, r8, r9, r10, r11)) :
    Calls Try.prog 29 #[.string s] w fun e w' => e = .returned (.tuple #[.agg #[.int .u8 r1, .int .u8 r2, .int .u8 r3, .int .u8 r4, .int .u8 r5, .int .u8 r6, .int .u8 r7, .int .u8 r8, .int .u16 r9, .int .u16 r10], .int .i64 r11]) ∧ Below w.heap.size w w' := by
  unfold regs_Parse.f at h
  by_cases hl : s.size = 47
  case neg =>
    rw [if_neg hl] at h
    cases h
    exact parse_len s (by omega) w
  rw [if_pos hl] at h
  obtain ⟨⟨w0, e0⟩, h0, h⟩ := Option.bind_eq_some_iff.mp h
  obtain ⟨⟨w1, e1⟩, h1, h⟩ := Option.bind_eq_some_iff.mp h
  obtain ⟨⟨w2, e2⟩, h2, h⟩ := Option.bind_eq_some_iff.mp h
  obtain ⟨⟨w3, e3⟩, h3, h⟩ := Option.bind_eq_some_iff.mp h
  obtain ⟨⟨w4, e4⟩, h4, h⟩ := Option.bind_eq_some_iff.mp h
  obtain ⟨⟨w5, e5⟩, h5, h⟩ := Option.bind_eq_some_iff.mp h
  obtain ⟨⟨x1_0, x1_1, x1_2, x1_3, x1_4, x1_5, x1_6, x1_7, x1_8, x1_9, q1⟩, p1, h⟩ := Option.bind_eq_some_iff.mp h
  obtain ⟨⟨x2_0, x2_1, x2_2, x2_3, x2_4, x2_5, x2_6, x2_7, x2_8, x2_9, q2⟩, p2, h⟩ := Option.bind_eq_some_iff.mp h
  obtain ⟨⟨x3_0, x3_1, x3_2, x3_3, x3_4, x3_5, x3_6, x3_7, x3_8, x3_9, q3⟩, p3, h⟩ := Option.bind_eq_some_iff.mp h
  obtain ⟨⟨x4_0, x4_1, x4_2, x4_3, x4_4, x4_5, x4_6, x4_7, x4_8, x4_9, q4⟩, p4, h⟩ := Option.bind_eq_some_iff.mp h
  obtain ⟨⟨x5_0, x5_1, x5_2, x5_3, x5_4, x5_5, x5_6, x5_7, x5_8, x5_9, q5⟩, p5, h⟩ := Option.bind_eq_some_iff.mp h
  obtain ⟨t, ht, h⟩ := Option.bind_eq_some_iff.mp h
  dsimp only at p1 p2 p3 p4 p5 ht h
  have q := parse_main s hl w0 w1 w2 w3 w4 w5 e0 e1 e2 e3 e4 e5 x1_0 x1_1 x1_2 x1_3 x1_4 x1_5 x1_6 x1_7 x1_8 x1_9 x2_0 x2_1 x2_2 x2_3 x2_4 x2_5 x2_6 x2_7 x2_8 x2_9 x3_0 x3_1 x3_2 x3_3 x3_4 x3_5 x3_6 x3_7 x3_8 x3_9 x4_0 x4_1 x4_2 x4_3 x4_4 x4_5 x4_6 x4_7 x4_8 x4_9 x5_0 x5_1 x5_2 x5_3 x5_4 x5_5 x5_6 x5_7 x5_8 x5_9 q1 q2 q3 q4 q5 h0 h1 h2 h3 h4 h5 p1 p2 p3 p4 p5 t ht w
  by_cases hc : (t.toList == s.toList) = true
  · rw [if_pos hc] at h
    cases h
    rw [if_pos hc, if_pos hc] at q
    exact q
  · rw [if_neg hc] at h
    cases h
    rw [if_neg hc, if_neg hc] at q
    exact q
end Go.Proofs.Ythkoofidnaghcaa.Hand
