/- What the proof of the statement CartPlays stands on, part 8. (Packed by pack.py out of this session's texts.) -/
import Derived.Deep.MidRow
import Derived.Handy
import Derived.Test.YtmjjojbedllmgaaQCartPlays0
import Derived.Test.YtmjjojbedllmgaaQCartPlays2
import Derived.Test.YtmjjojbedllmgaaQCartPlays3
import Derived.Test.YtmjjojbedllmgaaQCartPlays6
set_option linter.unusedVariables false
set_option linter.unusedSimpArgs false
set_option maxRecDepth 100000
set_option maxHeartbeats 20000000
open Go.RowKit Go.Proofs.YtmjjojbedllmgaaW.PrintWords Go.Proofs.YtmjjojbedllmgaaW.PrintLast Go.Proofs.YtmjjojbedllmgaaW.PrintMore Go.Proofs.Ytmjjojbedllmgaa.G
namespace Go.Proofs.Ytmjjojbedllmgaa.Hand
theorem rbank1 (a0_0 : Int) (a0_1 : Bool) (a0_2 a0_3 a0_4 : Int) (a0_5 : Bool) (a1 : Int) (c0 : a1 > 32767) (w : World) :
  Calls Try.prog 70 #[.agg #[.int .i64 a0_0, .bool a0_1, .int .u8 a0_2, .int .u8 a0_3, .int .u8 a0_4, .bool a0_5], .int .u16 a1] w fun e w' => e = .returned (.int .i64 (0)) ∧ Below w.heap.size w w' := by
 go_enter Try.func70, Try.ntmps70
 go_wp2
 go_returns
 exact ⟨rfl, by go_grown⟩
theorem rbank2 (a0_0 : Int) (a0_1 : Bool) (a0_2 a0_3 a0_4 : Int) (a0_5 : Bool) (a1 : Int) (c0 : ¬ a1 > 32767)(c1 : a1 > 16383)(cl : wrap64 a0_2 = 0) (w : World) :
  Calls Try.prog 70 #[.agg #[.int .i64 1, .bool a0_1, .int .u8 a0_2, .int .u8 a0_3, .int .u8 a0_4, .bool a0_5], .int .u16 a1] w fun e w' => e = .returned (.int .i64 (wrap64 (wrap64 (32 * wrap64 a0_3) + 1))) ∧ Below w.heap.size w w' := by
 go_enter Try.func70, Try.ntmps70
 go_wp2
 go_returns
 exact ⟨rfl, by go_grown⟩
theorem rbank3 (a0_0 : Int) (a0_1 : Bool) (a0_2 a0_3 a0_4 : Int) (a0_5 : Bool) (a1 : Int) (c0 : ¬ a1 > 32767)(c1 : ¬ a1 > 16383)(cl : wrap64 a0_2 = 0) (w : World) :
  Calls Try.prog 70 #[.agg #[.int .i64 1, .bool a0_1, .int .u8 a0_2, .int .u8 a0_3, .int .u8 a0_4, .bool true], .int .u16 a1] w fun e w' => e = .returned (.int .i64 (wrap64 (32 * wrap64 a0_3))) ∧ Below w.heap.size w w' := by
 go_enter Try.func70, Try.ntmps70
 go_wp2
 go_returns
 exact ⟨rfl, by go_grown⟩
theorem rbank4 (a0_0 : Int) (a0_1 : Bool) (a0_2 a0_3 a0_4 : Int) (a0_5 : Bool) (a1 : Int) (c0 : ¬ a1 > 32767)(c1 : ¬ a1 > 16383)(cl : wrap64 a0_2 = 0) (w : World) :
  Calls Try.prog 70 #[.agg #[.int .i64 1, .bool a0_1, .int .u8 a0_2, .int .u8 a0_3, .int .u8 a0_4, .bool false], .int .u16 a1] w fun e w' => e = .returned (.int .i64 (0)) ∧ Below w.heap.size w w' := by
 go_enter Try.func70, Try.ntmps70
 go_wp2
 go_returns
 exact ⟨rfl, by go_grown⟩
theorem rbank5 (a0_0 : Int) (a0_1 : Bool) (a0_2 a0_3 a0_4 : Int) (a0_5 : Bool) (a1 : Int) (c0 : ¬ a1 > 32767)(c1 : a1 > 16383)(cl : wrap64 a0_2 = 0) (w : World) :
  Calls Try.prog 70 #[.agg #[.int .i64 3, .bool a0_1, .int .u8 a0_2, .int .u8 a0_3, .int .u8 a0_4, .bool a0_5], .int .u16 a1] w fun e w' => e = .returned (.int .i64 (1)) ∧ Below w.heap.size w w' := by
 go_enter Try.func70, Try.ntmps70
 go_wp2
 go_returns
 exact ⟨rfl, by go_grown⟩
theorem rbank6 (a0_0 : Int) (a0_1 : Bool) (a0_2 a0_3 a0_4 : Int) (a0_5 : Bool) (a1 : Int) (c0 : ¬ a1 > 32767)(c1 : ¬ a1 > 16383)(cl : wrap64 a0_2 = 0) (w : World) :
  Calls Try.prog 70 #[.agg #[.int .i64 3, .bool a0_1, .int .u8 a0_2, .int .u8 a0_3, .int .u8 a0_4, .bool a0_5], .int .u16 a1] w fun e w' => e = .returned (.int .i64 (0)) ∧ Below w.heap.size w w' := by
 go_enter Try.func70, Try.ntmps70
 go_wp2
 go_returns
 exact ⟨rfl, by go_grown⟩
theorem rbank7 (a0_0 : Int) (a0_1 : Bool) (a0_2 a0_3 a0_4 : Int) (a0_5 : Bool) (a1 : Int) (c0 : ¬ a1 > 32767)(c1 : a1 > 16383)(cl : wrap64 a0_2 = 0) (w : World) :
  Calls Try.prog 70 #[.agg #[.int .i64 5, .bool a0_1, .int .u8 a0_2, .int .u8 a0_3, .int .u8 a0_4, .bool a0_5], .int .u16 a1] w fun e w' => e = .returned (.int .i64 (wrap64 (wrap64 (256 * wrap64 a0_3) + wrap64 a0_2))) ∧ Below w.heap.size w w' := by
 go_enter Try.func70, Try.ntmps70
 go_wp2
 go_returns
 exact ⟨rfl, by go_grown⟩
theorem rbank8 (a0_0 : Int) (a0_1 : Bool) (a0_2 a0_3 a0_4 : Int) (a0_5 : Bool) (a1 : Int) (c0 : ¬ a1 > 32767)(c1 : ¬ a1 > 16383)(cl : wrap64 a0_2 = 0) (w : World) :
  Calls Try.prog 70 #[.agg #[.int .i64 5, .bool a0_1, .int .u8 a0_2, .int .u8 a0_3, .int .u8 a0_4, .bool a0_5], .int .u16 a1] w fun e w' => e = .returned (.int .i64 (0)) ∧ Below w.heap.size w w' := by
 go_enter Try.func70, Try.ntmps70
 go_wp2
 go_returns
 exact ⟨rfl, by go_grown⟩
theorem rbank9 (a0_0 : Int) (a0_1 : Bool) (a0_2 a0_3 a0_4 : Int) (a0_5 : Bool) (a1 : Int) (c0 : ¬ a1 > 32767)(c1 : a1 > 16383)(cl : wrap64 a0_2 = 0)(k1 : ¬ a0_0 = 1) (k3 : ¬ a0_0 = 3) (k5 : ¬ a0_0 = 5) (w : World) :
  Calls Try.prog 70 #[.agg #[.int .i64 a0_0, .bool a0_1, .int .u8 a0_2, .int .u8 a0_3, .int .u8 a0_4, .bool a0_5], .int .u16 a1] w fun e w' => e = .returned (.int .i64 (1)) ∧ Below w.heap.size w w' := by
 go_enter Try.func70, Try.ntmps70
 go_wp2
 go_returns
 exact ⟨rfl, by go_grown⟩
theorem rbank10 (a0_0 : Int) (a0_1 : Bool) (a0_2 a0_3 a0_4 : Int) (a0_5 : Bool) (a1 : Int) (c0 : ¬ a1 > 32767)(c1 : ¬ a1 > 16383)(cl : wrap64 a0_2 = 0)(k1 : ¬ a0_0 = 1) (k3 : ¬ a0_0 = 3) (k5 : ¬ a0_0 = 5) (w : World) :
  Calls Try.prog 70 #[.agg #[.int .i64 a0_0, .bool a0_1, .int .u8 a0_2, .int .u8 a0_3, .int .u8 a0_4, .bool a0_5], .int .u16 a1] w fun e w' => e = .returned (.int .i64 (0)) ∧ Below w.heap.size w w' := by
 go_enter Try.func70, Try.ntmps70
 go_wp2
 go_returns
 exact ⟨rfl, by go_grown⟩
theorem rbank11 (a0_0 : Int) (a0_1 : Bool) (a0_2 a0_3 a0_4 : Int) (a0_5 : Bool) (a1 : Int) (c0 : ¬ a1 > 32767)(c1 : a1 > 16383)(cl : ¬ wrap64 a0_2 = 0) (w : World) :
  Calls Try.prog 70 #[.agg #[.int .i64 1, .bool a0_1, .int .u8 a0_2, .int .u8 a0_3, .int .u8 a0_4, .bool a0_5], .int .u16 a1] w fun e w' => e = .returned (.int .i64 (wrap64 (wrap64 (32 * wrap64 a0_3) + wrap64 a0_2))) ∧ Below w.heap.size w w' := by
 go_enter Try.func70, Try.ntmps70
 go_wp2
 go_returns
 exact ⟨rfl, by go_grown⟩
theorem rbank12 (a0_0 : Int) (a0_1 : Bool) (a0_2 a0_3 a0_4 : Int) (a0_5 : Bool) (a1 : Int) (c0 : ¬ a1 > 32767)(c1 : ¬ a1 > 16383)(cl : ¬ wrap64 a0_2 = 0) (w : World) :
  Calls Try.prog 70 #[.agg #[.int .i64 1, .bool a0_1, .int .u8 a0_2, .int .u8 a0_3, .int .u8 a0_4, .bool true], .int .u16 a1] w fun e w' => e = .returned (.int .i64 (wrap64 (32 * wrap64 a0_3))) ∧ Below w.heap.size w w' := by
 go_enter Try.func70, Try.ntmps70
 go_wp2
 go_returns
 exact ⟨rfl, by go_grown⟩
theorem rbank13 (a0_0 : Int) (a0_1 : Bool) (a0_2 a0_3 a0_4 : Int) (a0_5 : Bool) (a1 : Int) (c0 : ¬ a1 > 32767)(c1 : ¬ a1 > 16383)(cl : ¬ wrap64 a0_2 = 0) (w : World) :
  Calls Try.prog 70 #[.agg #[.int .i64 1, .bool a0_1, .int .u8 a0_2, .int .u8 a0_3, .int .u8 a0_4, .bool false], .int .u16 a1] w fun e w' => e = .returned (.int .i64 (0)) ∧ Below w.heap.size w w' := by
 go_enter Try.func70, Try.ntmps70
 go_wp2
 go_returns
 exact ⟨rfl, by go_grown⟩
theorem rbank14 (a0_0 : Int) (a0_1 : Bool) (a0_2 a0_3 a0_4 : Int) (a0_5 : Bool) (a1 : Int) (c0 : ¬ a1 > 32767)(c1 : a1 > 16383)(cl : ¬ wrap64 a0_2 = 0) (w : World) :
  Calls Try.prog 70 #[.agg #[.int .i64 3, .bool a0_1, .int .u8 a0_2, .int .u8 a0_3, .int .u8 a0_4, .bool a0_5], .int .u16 a1] w fun e w' => e = .returned (.int .i64 (wrap64 a0_2)) ∧ Below w.heap.size w w' := by
 go_enter Try.func70, Try.ntmps70
 go_wp2
 go_returns
 exact ⟨rfl, by go_grown⟩
theorem rbank15 (a0_0 : Int) (a0_1 : Bool) (a0_2 a0_3 a0_4 : Int) (a0_5 : Bool) (a1 : Int) (c0 : ¬ a1 > 32767)(c1 : ¬ a1 > 16383)(cl : ¬ wrap64 a0_2 = 0) (w : World) :
  Calls Try.prog 70 #[.agg #[.int .i64 3, .bool a0_1, .int .u8 a0_2, .int .u8 a0_3, .int .u8 a0_4, .bool a0_5], .int .u16 a1] w fun e w' => e = .returned (.int .i64 (0)) ∧ Below w.heap.size w w' := by
 go_enter Try.func70, Try.ntmps70
 go_wp2
 go_returns
 exact ⟨rfl, by go_grown⟩
theorem rbank16 (a0_0 : Int) (a0_1 : Bool) (a0_2 a0_3 a0_4 : Int) (a0_5 : Bool) (a1 : Int) (c0 : ¬ a1 > 32767)(c1 : a1 > 16383)(cl : ¬ wrap64 a0_2 = 0) (w : World) :
  Calls Try.prog 70 #[.agg #[.int .i64 5, .bool a0_1, .int .u8 a0_2, .int .u8 a0_3, .int .u8 a0_4, .bool a0_5], .int .u16 a1] w fun e w' => e = .returned (.int .i64 (wrap64 (wrap64 (256 * wrap64 a0_3) + wrap64 a0_2))) ∧ Below w.heap.size w w' := by
 go_enter Try.func70, Try.ntmps70
 go_wp2
 go_returns
 exact ⟨rfl, by go_grown⟩
theorem rbank17 (a0_0 : Int) (a0_1 : Bool) (a0_2 a0_3 a0_4 : Int) (a0_5 : Bool) (a1 : Int) (c0 : ¬ a1 > 32767)(c1 : ¬ a1 > 16383)(cl : ¬ wrap64 a0_2 = 0) (w : World) :
  Calls Try.prog 70 #[.agg #[.int .i64 5, .bool a0_1, .int .u8 a0_2, .int .u8 a0_3, .int .u8 a0_4, .bool a0_5], .int .u16 a1] w fun e w' => e = .returned (.int .i64 (0)) ∧ Below w.heap.size w w' := by
 go_enter Try.func70, Try.ntmps70
 go_wp2
 go_returns
 exact ⟨rfl, by go_grown⟩
theorem rbank18 (a0_0 : Int) (a0_1 : Bool) (a0_2 a0_3 a0_4 : Int) (a0_5 : Bool) (a1 : Int) (c0 : ¬ a1 > 32767)(c1 : a1 > 16383)(cl : ¬ wrap64 a0_2 = 0)(k1 : ¬ a0_0 = 1) (k3 : ¬ a0_0 = 3) (k5 : ¬ a0_0 = 5) (w : World) :
  Calls Try.prog 70 #[.agg #[.int .i64 a0_0, .bool a0_1, .int .u8 a0_2, .int .u8 a0_3, .int .u8 a0_4, .bool a0_5], .int .u16 a1] w fun e w' => e = .returned (.int .i64 (1)) ∧ Below w.heap.size w w' := by
 go_enter Try.func70, Try.ntmps70
 go_wp2
 go_returns
 exact ⟨rfl, by go_grown⟩
theorem rbank19 (a0_0 : Int) (a0_1 : Bool) (a0_2 a0_3 a0_4 : Int) (a0_5 : Bool) (a1 : Int) (c0 : ¬ a1 > 32767)(c1 : ¬ a1 > 16383)(cl : ¬ wrap64 a0_2 = 0)(k1 : ¬ a0_0 = 1) (k3 : ¬ a0_0 = 3) (k5 : ¬ a0_0 = 5) (w : World) :
  Calls Try.prog 70 #[.agg #[.int .i64 a0_0, .bool a0_1, .int .u8 a0_2, .int .u8 a0_3, .int .u8 a0_4, .bool a0_5], .int .u16 a1] w fun e w' => e = .returned (.int .i64 (0)) ∧ Below w.heap.size w w' := by
 go_enter Try.func70, Try.ntmps70
 go_wp2
 go_returns
 exact ⟨rfl, by go_grown⟩
def rbankF (k l h : Int) (md : Bool) (a : Int) : Int :=
 if a > 32767 then 0 else
 if k = 1 then (if a > 16383 then wrap64 (wrap64 (32 * wrap64 h) + (if wrap64 l = 0 then 1 else wrap64 l)) else if md = true then wrap64 (32 * wrap64 h) else 0) else
 if k = 3 then (if a > 16383 then (if wrap64 l = 0 then 1 else wrap64 l) else 0) else
 if k = 5 then (if a > 16383 then wrap64 (wrap64 (256 * wrap64 h) + wrap64 l) else 0) else
 if a > 16383 then 1 else 0
def bG.f (a0_0 : Int) (a0_1 : Bool) (a0_2 a0_3 a0_4 : Int) (a0_5 : Bool) (a1 : Int) : Option Int := some (rbankF a0_0 a0_2 a0_3 a0_5 a1)
theorem bG.calls (a0_0 : Int) (a0_1 : Bool) (a0_2 a0_3 a0_4 : Int) (a0_5 : Bool) (a1 : Int) (r : Int) (w : World) (hf : bG.f a0_0 a0_1 a0_2 a0_3 a0_4 a0_5 a1 = some r) :
  Calls Try.prog 70 #[.agg #[.int .i64 a0_0, .bool a0_1, .int .u8 a0_2, .int .u8 a0_3, .int .u8 a0_4, .bool a0_5], .int .u16 a1] w fun e w' => e = .returned (.int .i64 r) ∧ Below w.heap.size w w' := by
 obtain rfl := Option.some.inj hf
 clear hf
 unfold rbankF
 by_cases c0 : a1 > 32767
 ·rw [if_pos c0]; exact rbank1 _ _ _ _ _ _ _ c0 w
 rw [if_neg c0]
 by_cases k1 : a0_0 = 1
 ·subst k1
  rw [if_pos rfl]
  by_cases c1 : a1 > 16383
  ·rw [if_pos c1]
   by_cases cl : wrap64 a0_2 = 0
   ·rw [if_pos cl]; exact rbank2 0 _ _ _ _ _ _ c0 c1 cl w
   ·rw [if_neg cl]; exact rbank11 0 _ _ _ _ _ _ c0 c1 cl w
  ·rw [if_neg c1]
   cases a0_5 with
   | true =>
    by_cases cl : wrap64 a0_2 = 0
    ·exact rbank3 0 _ _ _ _ true _ c0 c1 cl w
    ·exact rbank12 0 _ _ _ _ true _ c0 c1 cl w
   | false =>
    by_cases cl : wrap64 a0_2 = 0
    ·exact rbank4 0 _ _ _ _ false _ c0 c1 cl w
    ·exact rbank13 0 _ _ _ _ false _ c0 c1 cl w
 rw [if_neg k1]
 by_cases k3 : a0_0 = 3
 ·subst k3
  rw [if_pos rfl]
  by_cases c1 : a1 > 16383
  ·rw [if_pos c1]
   by_cases cl : wrap64 a0_2 = 0
   ·rw [if_pos cl]; exact rbank5 0 _ _ _ _ _ _ c0 c1 cl w
   ·rw [if_neg cl]; exact rbank14 0 _ _ _ _ _ _ c0 c1 cl w
  ·rw [if_neg c1]
   by_cases cl : wrap64 a0_2 = 0
   ·exact rbank6 0 _ _ _ _ _ _ c0 c1 cl w
   ·exact rbank15 0 _ _ _ _ _ _ c0 c1 cl w
 rw [if_neg k3]
 by_cases k5 : a0_0 = 5
 ·subst k5
  rw [if_pos rfl]
  by_cases c1 : a1 > 16383
  ·rw [if_pos c1]
   by_cases cl : wrap64 a0_2 = 0
   ·exact rbank7 0 _ _ _ _ _ _ c0 c1 cl w
   ·exact rbank16 0 _ _ _ _ _ _ c0 c1 cl w
  ·rw [if_neg c1]
   by_cases cl : wrap64 a0_2 = 0
   ·exact rbank8 0 _ _ _ _ _ _ c0 c1 cl w
   ·exact rbank17 0 _ _ _ _ _ _ c0 c1 cl w
 rw [if_neg k5]
 by_cases c1 : a1 > 16383
 ·rw [if_pos c1]
  by_cases cl : wrap64 a0_2 = 0
  ·exact rbank9 _ _ _ _ _ _ _ c0 c1 cl k1 k3 k5 w
  ·exact rbank18 _ _ _ _ _ _ _ c0 c1 cl k1 k3 k5 w
 ·rw [if_neg c1]
  by_cases cl : wrap64 a0_2 = 0
  ·exact rbank10 _ _ _ _ _ _ _ c0 c1 cl k1 k3 k5 w
  ·exact rbank19 _ _ _ _ _ _ _ c0 c1 cl k1 k3 k5 w
theorem rwrite_1_r0 (a0_0 : Int) (a0_1 : Bool) (a0_2 a0_3 a0_4 : Int) (a0_5 : Bool) (a1 : Int) (a2 : Int) (b9 : 0 ≤ a1) (b0 : a1 < 8192)  (w : World) :
  Calls Try.prog 44 #[.agg #[.int .i64 1, .bool a0_1, .int .u8 a0_2, .int .u8 a0_3, .int .u8 a0_4, .bool a0_5], .int .u16 a1, .int .u8 a2] w fun e w' => e = .returned (.agg #[.int .i64 1, .bool (Int.tmod (wrap64 a2) 16 == 10), .int .u8 a0_2, .int .u8 a0_3, .int .u8 a0_4, .bool a0_5]) ∧ Below w.heap.size w w' := by
 go_enter Try.func44, Try.ntmps44
 go_wp2
 go_returns
 exact ⟨rfl, by go_grown⟩
theorem rwrite_1_r1 (a0_0 : Int) (a0_1 : Bool) (a0_2 a0_3 a0_4 : Int) (a0_5 : Bool) (a1 : Int) (a2 : Int) (b0 : 8192 ≤ a1) (b1 : a1 < 12288)  (w : World) :
  Calls Try.prog 44 #[.agg #[.int .i64 1, .bool a0_1, .int .u8 a0_2, .int .u8 a0_3, .int .u8 a0_4, .bool a0_5], .int .u16 a1, .int .u8 a2] w fun e w' => e = .returned (.agg #[.int .i64 1, .bool a0_1, .int .u8 (Int.tmod (wrap64 a2) 32 % 256), .int .u8 a0_3, .int .u8 a0_4, .bool a0_5]) ∧ Below w.heap.size w w' := by
 go_enter Try.func44, Try.ntmps44
 go_wp2
 go_returns
 exact ⟨rfl, by go_grown⟩
theorem rwrite_1_r2 (a0_0 : Int) (a0_1 : Bool) (a0_2 a0_3 a0_4 : Int) (a0_5 : Bool) (a1 : Int) (a2 : Int) (b0 : 12288 ≤ a1) (b1 : a1 < 16384)  (w : World) :
  Calls Try.prog 44 #[.agg #[.int .i64 1, .bool a0_1, .int .u8 a0_2, .int .u8 a0_3, .int .u8 a0_4, .bool a0_5], .int .u16 a1, .int .u8 a2] w fun e w' => e = .returned (.agg #[.int .i64 1, .bool a0_1, .int .u8 (Int.tmod (wrap64 a2) 32 % 256), .int .u8 a0_3, .int .u8 a0_4, .bool a0_5]) ∧ Below w.heap.size w w' := by
 go_enter Try.func44, Try.ntmps44
 go_wp2
 go_returns
 exact ⟨rfl, by go_grown⟩
theorem rwrite_1_r3 (a0_0 : Int) (a0_1 : Bool) (a0_2 a0_3 a0_4 : Int) (a0_5 : Bool) (a1 : Int) (a2 : Int) (b0 : 16384 ≤ a1) (b1 : a1 < 24576)  (w : World) :
  Calls Try.prog 44 #[.agg #[.int .i64 1, .bool a0_1, .int .u8 a0_2, .int .u8 a0_3, .int .u8 a0_4, .bool a0_5], .int .u16 a1, .int .u8 a2] w fun e w' => e = .returned (.agg #[.int .i64 1, .bool a0_1, .int .u8 a0_2, .int .u8 (Int.tmod (wrap64 a2) 4 % 256), .int .u8 a0_4, .bool a0_5]) ∧ Below w.heap.size w w' := by
 go_enter Try.func44, Try.ntmps44
 go_wp2
 go_returns
 exact ⟨rfl, by go_grown⟩
theorem rwrite_1_r4 (a0_0 : Int) (a0_1 : Bool) (a0_2 a0_3 a0_4 : Int) (a0_5 : Bool) (a1 : Int) (a2 : Int) (b0 : 24576 ≤ a1) (b1 : a1 < 32768)  (w : World) :
  Calls Try.prog 44 #[.agg #[.int .i64 1, .bool a0_1, .int .u8 a0_2, .int .u8 a0_3, .int .u8 a0_4, .bool a0_5], .int .u16 a1, .int .u8 a2] w fun e w' => e = .returned (.agg #[.int .i64 1, .bool a0_1, .int .u8 a0_2, .int .u8 a0_3, .int .u8 a0_4, .bool (Int.tmod (wrap64 a2) 2 == 1)]) ∧ Below w.heap.size w w' := by
 go_enter Try.func44, Try.ntmps44
 go_wp2
 go_returns
 exact ⟨rfl, by go_grown⟩
theorem rwrite_1_r5 (a0_0 : Int) (a0_1 : Bool) (a0_2 a0_3 a0_4 : Int) (a0_5 : Bool) (a1 : Int) (a2 : Int) (b0 : 32768 ≤ a1) (b9 : a1 ≤ 65535)  (w : World) :
  Calls Try.prog 44 #[.agg #[.int .i64 1, .bool a0_1, .int .u8 a0_2, .int .u8 a0_3, .int .u8 a0_4, .bool a0_5], .int .u16 a1, .int .u8 a2] w fun e w' => e = .returned (.agg #[.int .i64 1, .bool a0_1, .int .u8 a0_2, .int .u8 a0_3, .int .u8 a0_4, .bool a0_5]) ∧ Below w.heap.size w w' := by
 go_enter Try.func44, Try.ntmps44
 go_wp2
 go_returns
 exact ⟨rfl, by go_grown⟩
theorem rwrite_3_r0 (a0_0 : Int) (a0_1 : Bool) (a0_2 a0_3 a0_4 : Int) (a0_5 : Bool) (a1 : Int) (a2 : Int) (b9 : 0 ≤ a1) (b0 : a1 < 8192)  (w : World) :
  Calls Try.prog 44 #[.agg #[.int .i64 3, .bool a0_1, .int .u8 a0_2, .int .u8 a0_3, .int .u8 a0_4, .bool a0_5], .int .u16 a1, .int .u8 a2] w fun e w' => e = .returned (.agg #[.int .i64 3, .bool (Int.tmod (wrap64 a2) 16 == 10), .int .u8 a0_2, .int .u8 a0_3, .int .u8 a0_4, .bool a0_5]) ∧ Below w.heap.size w w' := by
 go_enter Try.func44, Try.ntmps44
 go_wp2
 go_returns
 exact ⟨rfl, by go_grown⟩
theorem rwrite_3_r1 (a0_0 : Int) (a0_1 : Bool) (a0_2 a0_3 a0_4 : Int) (a0_5 : Bool) (a1 : Int) (a2 : Int) (b0 : 8192 ≤ a1) (b1 : a1 < 12288)  (w : World) :
  Calls Try.prog 44 #[.agg #[.int .i64 3, .bool a0_1, .int .u8 a0_2, .int .u8 a0_3, .int .u8 a0_4, .bool a0_5], .int .u16 a1, .int .u8 a2] w fun e w' => e = .returned (.agg #[.int .i64 3, .bool a0_1, .int .u8 (Int.tmod (wrap64 a2) 128 % 256), .int .u8 a0_3, .int .u8 a0_4, .bool a0_5]) ∧ Below w.heap.size w w' := by
 go_enter Try.func44, Try.ntmps44
 go_wp2
 go_returns
 exact ⟨rfl, by go_grown⟩
theorem rwrite_3_r2 (a0_0 : Int) (a0_1 : Bool) (a0_2 a0_3 a0_4 : Int) (a0_5 : Bool) (a1 : Int) (a2 : Int) (b0 : 12288 ≤ a1) (b1 : a1 < 16384)  (w : World) :
  Calls Try.prog 44 #[.agg #[.int .i64 3, .bool a0_1, .int .u8 a0_2, .int .u8 a0_3, .int .u8 a0_4, .bool a0_5], .int .u16 a1, .int .u8 a2] w fun e w' => e = .returned (.agg #[.int .i64 3, .bool a0_1, .int .u8 (Int.tmod (wrap64 a2) 128 % 256), .int .u8 a0_3, .int .u8 a0_4, .bool a0_5]) ∧ Below w.heap.size w w' := by
 go_enter Try.func44, Try.ntmps44
 go_wp2
 go_returns
 exact ⟨rfl, by go_grown⟩
theorem rwrite_3_r3 (a0_0 : Int) (a0_1 : Bool) (a0_2 a0_3 a0_4 : Int) (a0_5 : Bool) (a1 : Int) (a2 : Int) (b0 : 16384 ≤ a1) (b1 : a1 < 24576)  (w : World) :
  Calls Try.prog 44 #[.agg #[.int .i64 3, .bool a0_1, .int .u8 a0_2, .int .u8 a0_3, .int .u8 a0_4, .bool a0_5], .int .u16 a1, .int .u8 a2] w fun e w' => e = .returned (.agg #[.int .i64 3, .bool a0_1, .int .u8 a0_2, .int .u8 a0_3, .int .u8 (Int.tmod (wrap64 a2) 16 % 256), .bool a0_5]) ∧ Below w.heap.size w w' := by
 go_enter Try.func44, Try.ntmps44
 go_wp2
 go_returns
 exact ⟨rfl, by go_grown⟩
theorem rwrite_3_r4 (a0_0 : Int) (a0_1 : Bool) (a0_2 a0_3 a0_4 : Int) (a0_5 : Bool) (a1 : Int) (a2 : Int) (b0 : 24576 ≤ a1) (b1 : a1 < 32768)  (w : World) :
  Calls Try.prog 44 #[.agg #[.int .i64 3, .bool a0_1, .int .u8 a0_2, .int .u8 a0_3, .int .u8 a0_4, .bool a0_5], .int .u16 a1, .int .u8 a2] w fun e w' => e = .returned (.agg #[.int .i64 3, .bool a0_1, .int .u8 a0_2, .int .u8 a0_3, .int .u8 a0_4, .bool a0_5]) ∧ Below w.heap.size w w' := by
 go_enter Try.func44, Try.ntmps44
 go_wp2
 go_returns
 exact ⟨rfl, by go_grown⟩
theorem rwrite_3_r5 (a0_0 : Int) (a0_1 : Bool) (a0_2 a0_3 a0_4 : Int) (a0_5 : Bool) (a1 : Int) (a2 : Int) (b0 : 32768 ≤ a1) (b9 : a1 ≤ 65535)  (w : World) :
  Calls Try.prog 44 #[.agg #[.int .i64 3, .bool a0_1, .int .u8 a0_2, .int .u8 a0_3, .int .u8 a0_4, .bool a0_5], .int .u16 a1, .int .u8 a2] w fun e w' => e = .returned (.agg #[.int .i64 3, .bool a0_1, .int .u8 a0_2, .int .u8 a0_3, .int .u8 a0_4, .bool a0_5]) ∧ Below w.heap.size w w' := by
 go_enter Try.func44, Try.ntmps44
 go_wp2
 go_returns
 exact ⟨rfl, by go_grown⟩
theorem rwrite_5_r0 (a0_0 : Int) (a0_1 : Bool) (a0_2 a0_3 a0_4 : Int) (a0_5 : Bool) (a1 : Int) (a2 : Int) (b9 : 0 ≤ a1) (b0 : a1 < 8192)  (w : World) :
  Calls Try.prog 44 #[.agg #[.int .i64 5, .bool a0_1, .int .u8 a0_2, .int .u8 a0_3, .int .u8 a0_4, .bool a0_5], .int .u16 a1, .int .u8 a2] w fun e w' => e = .returned (.agg #[.int .i64 5, .bool (wrap64 a2 == 10), .int .u8 a0_2, .int .u8 a0_3, .int .u8 a0_4, .bool a0_5]) ∧ Below w.heap.size w w' := by
 go_enter Try.func44, Try.ntmps44
 go_wp2
 go_returns
 exact ⟨rfl, by go_grown⟩
theorem rwrite_5_r1 (a0_0 : Int) (a0_1 : Bool) (a0_2 a0_3 a0_4 : Int) (a0_5 : Bool) (a1 : Int) (a2 : Int) (b0 : 8192 ≤ a1) (b1 : a1 < 12288)  (w : World) :
  Calls Try.prog 44 #[.agg #[.int .i64 5, .bool a0_1, .int .u8 a0_2, .int .u8 a0_3, .int .u8 a0_4, .bool a0_5], .int .u16 a1, .int .u8 a2] w fun e w' => e = .returned (.agg #[.int .i64 5, .bool a0_1, .int .u8 a2, .int .u8 a0_3, .int .u8 a0_4, .bool a0_5]) ∧ Below w.heap.size w w' := by
 go_enter Try.func44, Try.ntmps44
 go_wp2
 go_returns
 exact ⟨rfl, by go_grown⟩
theorem rwrite_5_r2 (a0_0 : Int) (a0_1 : Bool) (a0_2 a0_3 a0_4 : Int) (a0_5 : Bool) (a1 : Int) (a2 : Int) (b0 : 12288 ≤ a1) (b1 : a1 < 16384)  (w : World) :
  Calls Try.prog 44 #[.agg #[.int .i64 5, .bool a0_1, .int .u8 a0_2, .int .u8 a0_3, .int .u8 a0_4, .bool a0_5], .int .u16 a1, .int .u8 a2] w fun e w' => e = .returned (.agg #[.int .i64 5, .bool a0_1, .int .u8 a0_2, .int .u8 (Int.tmod (wrap64 a2) 2 % 256), .int .u8 a0_4, .bool a0_5]) ∧ Below w.heap.size w w' := by
 go_enter Try.func44, Try.ntmps44
 go_wp2
 go_returns
 exact ⟨rfl, by go_grown⟩
theorem rwrite_5_r3 (a0_0 : Int) (a0_1 : Bool) (a0_2 a0_3 a0_4 : Int) (a0_5 : Bool) (a1 : Int) (a2 : Int) (b0 : 16384 ≤ a1) (b1 : a1 < 24576)  (w : World) :
  Calls Try.prog 44 #[.agg #[.int .i64 5, .bool a0_1, .int .u8 a0_2, .int .u8 a0_3, .int .u8 a0_4, .bool a0_5], .int .u16 a1, .int .u8 a2] w fun e w' => e = .returned (.agg #[.int .i64 5, .bool a0_1, .int .u8 a0_2, .int .u8 a0_3, .int .u8 (Int.tmod (wrap64 a2) 16 % 256), .bool a0_5]) ∧ Below w.heap.size w w' := by
 go_enter Try.func44, Try.ntmps44
 go_wp2
 go_returns
 exact ⟨rfl, by go_grown⟩
theorem rwrite_5_r4 (a0_0 : Int) (a0_1 : Bool) (a0_2 a0_3 a0_4 : Int) (a0_5 : Bool) (a1 : Int) (a2 : Int) (b0 : 24576 ≤ a1) (b1 : a1 < 32768)  (w : World) :
  Calls Try.prog 44 #[.agg #[.int .i64 5, .bool a0_1, .int .u8 a0_2, .int .u8 a0_3, .int .u8 a0_4, .bool a0_5], .int .u16 a1, .int .u8 a2] w fun e w' => e = .returned (.agg #[.int .i64 5, .bool a0_1, .int .u8 a0_2, .int .u8 a0_3, .int .u8 a0_4, .bool a0_5]) ∧ Below w.heap.size w w' := by
 go_enter Try.func44, Try.ntmps44
 go_wp2
 go_returns
 exact ⟨rfl, by go_grown⟩
theorem rwrite_5_r5 (a0_0 : Int) (a0_1 : Bool) (a0_2 a0_3 a0_4 : Int) (a0_5 : Bool) (a1 : Int) (a2 : Int) (b0 : 32768 ≤ a1) (b9 : a1 ≤ 65535)  (w : World) :
  Calls Try.prog 44 #[.agg #[.int .i64 5, .bool a0_1, .int .u8 a0_2, .int .u8 a0_3, .int .u8 a0_4, .bool a0_5], .int .u16 a1, .int .u8 a2] w fun e w' => e = .returned (.agg #[.int .i64 5, .bool a0_1, .int .u8 a0_2, .int .u8 a0_3, .int .u8 a0_4, .bool a0_5]) ∧ Below w.heap.size w w' := by
 go_enter Try.func44, Try.ntmps44
 go_wp2
 go_returns
 exact ⟨rfl, by go_grown⟩
theorem rwrite_a0_0_r0 (a0_0 : Int) (a0_1 : Bool) (a0_2 a0_3 a0_4 : Int) (a0_5 : Bool) (a1 : Int) (a2 : Int) (b9 : 0 ≤ a1) (b0 : a1 < 8192) (k1 : ¬ a0_0 = 1) (k3 : ¬ a0_0 = 3) (k5 : ¬ a0_0 = 5) (w : World) :
  Calls Try.prog 44 #[.agg #[.int .i64 a0_0, .bool a0_1, .int .u8 a0_2, .int .u8 a0_3, .int .u8 a0_4, .bool a0_5], .int .u16 a1, .int .u8 a2] w fun e w' => e = .returned (.agg #[.int .i64 a0_0, .bool a0_1, .int .u8 a0_2, .int .u8 a0_3, .int .u8 a0_4, .bool a0_5]) ∧ Below w.heap.size w w' := by
 go_enter Try.func44, Try.ntmps44
 go_wp2
 go_returns
 exact ⟨rfl, by go_grown⟩
theorem rwrite_a0_0_r1 (a0_0 : Int) (a0_1 : Bool) (a0_2 a0_3 a0_4 : Int) (a0_5 : Bool) (a1 : Int) (a2 : Int) (b0 : 8192 ≤ a1) (b1 : a1 < 12288) (k1 : ¬ a0_0 = 1) (k3 : ¬ a0_0 = 3) (k5 : ¬ a0_0 = 5) (w : World) :
  Calls Try.prog 44 #[.agg #[.int .i64 a0_0, .bool a0_1, .int .u8 a0_2, .int .u8 a0_3, .int .u8 a0_4, .bool a0_5], .int .u16 a1, .int .u8 a2] w fun e w' => e = .returned (.agg #[.int .i64 a0_0, .bool a0_1, .int .u8 a0_2, .int .u8 a0_3, .int .u8 a0_4, .bool a0_5]) ∧ Below w.heap.size w w' := by
 go_enter Try.func44, Try.ntmps44
 go_wp2
 go_returns
 exact ⟨rfl, by go_grown⟩
theorem rwrite_a0_0_r2 (a0_0 : Int) (a0_1 : Bool) (a0_2 a0_3 a0_4 : Int) (a0_5 : Bool) (a1 : Int) (a2 : Int) (b0 : 12288 ≤ a1) (b1 : a1 < 16384) (k1 : ¬ a0_0 = 1) (k3 : ¬ a0_0 = 3) (k5 : ¬ a0_0 = 5) (w : World) :
  Calls Try.prog 44 #[.agg #[.int .i64 a0_0, .bool a0_1, .int .u8 a0_2, .int .u8 a0_3, .int .u8 a0_4, .bool a0_5], .int .u16 a1, .int .u8 a2] w fun e w' => e = .returned (.agg #[.int .i64 a0_0, .bool a0_1, .int .u8 a0_2, .int .u8 a0_3, .int .u8 a0_4, .bool a0_5]) ∧ Below w.heap.size w w' := by
 go_enter Try.func44, Try.ntmps44
 go_wp2
 go_returns
 exact ⟨rfl, by go_grown⟩
theorem rwrite_a0_0_r3 (a0_0 : Int) (a0_1 : Bool) (a0_2 a0_3 a0_4 : Int) (a0_5 : Bool) (a1 : Int) (a2 : Int) (b0 : 16384 ≤ a1) (b1 : a1 < 24576) (k1 : ¬ a0_0 = 1) (k3 : ¬ a0_0 = 3) (k5 : ¬ a0_0 = 5) (w : World) :
  Calls Try.prog 44 #[.agg #[.int .i64 a0_0, .bool a0_1, .int .u8 a0_2, .int .u8 a0_3, .int .u8 a0_4, .bool a0_5], .int .u16 a1, .int .u8 a2] w fun e w' => e = .returned (.agg #[.int .i64 a0_0, .bool a0_1, .int .u8 a0_2, .int .u8 a0_3, .int .u8 a0_4, .bool a0_5]) ∧ Below w.heap.size w w' := by
 go_enter Try.func44, Try.ntmps44
 go_wp2
 go_returns
 exact ⟨rfl, by go_grown⟩
theorem rwrite_a0_0_r4 (a0_0 : Int) (a0_1 : Bool) (a0_2 a0_3 a0_4 : Int) (a0_5 : Bool) (a1 : Int) (a2 : Int) (b0 : 24576 ≤ a1) (b1 : a1 < 32768) (k1 : ¬ a0_0 = 1) (k3 : ¬ a0_0 = 3) (k5 : ¬ a0_0 = 5) (w : World) :
  Calls Try.prog 44 #[.agg #[.int .i64 a0_0, .bool a0_1, .int .u8 a0_2, .int .u8 a0_3, .int .u8 a0_4, .bool a0_5], .int .u16 a1, .int .u8 a2] w fun e w' => e = .returned (.agg #[.int .i64 a0_0, .bool a0_1, .int .u8 a0_2, .int .u8 a0_3, .int .u8 a0_4, .bool a0_5]) ∧ Below w.heap.size w w' := by
 go_enter Try.func44, Try.ntmps44
 go_wp2
 go_returns
 exact ⟨rfl, by go_grown⟩
theorem rwrite_a0_0_r5 (a0_0 : Int) (a0_1 : Bool) (a0_2 a0_3 a0_4 : Int) (a0_5 : Bool) (a1 : Int) (a2 : Int) (b0 : 32768 ≤ a1) (b9 : a1 ≤ 65535) (k1 : ¬ a0_0 = 1) (k3 : ¬ a0_0 = 3) (k5 : ¬ a0_0 = 5) (w : World) :
  Calls Try.prog 44 #[.agg #[.int .i64 a0_0, .bool a0_1, .int .u8 a0_2, .int .u8 a0_3, .int .u8 a0_4, .bool a0_5], .int .u16 a1, .int .u8 a2] w fun e w' => e = .returned (.agg #[.int .i64 a0_0, .bool a0_1, .int .u8 a0_2, .int .u8 a0_3, .int .u8 a0_4, .bool a0_5]) ∧ Below w.heap.size w w' := by
 go_enter Try.func44, Try.ntmps44
 go_wp2
 go_returns
 exact ⟨rfl, by go_grown⟩
def rwriteF (a0_0 : Int) (a0_1 : Bool) (a0_2 a0_3 a0_4 : Int) (a0_5 : Bool) (a1 a2 : Int) : Int × Bool × Int × Int × Int × Bool :=
 if a0_0 = 1 then (if a1 < 8192 then (a0_0, (Int.tmod (wrap64 a2) 16 == 10), a0_2, a0_3, a0_4, a0_5) else if a1 < 12288 then (a0_0, a0_1, (Int.tmod (wrap64 a2) 32 % 256), a0_3, a0_4, a0_5) else if a1 < 16384 then (a0_0, a0_1, (Int.tmod (wrap64 a2) 32 % 256), a0_3, a0_4, a0_5) else if a1 < 24576 then (a0_0, a0_1, a0_2, (Int.tmod (wrap64 a2) 4 % 256), a0_4, a0_5) else if a1 < 32768 then (a0_0, a0_1, a0_2, a0_3, a0_4, (Int.tmod (wrap64 a2) 2 == 1)) else (a0_0, a0_1, a0_2, a0_3, a0_4, a0_5)) else
 if a0_0 = 3 then (if a1 < 8192 then (a0_0, (Int.tmod (wrap64 a2) 16 == 10), a0_2, a0_3, a0_4, a0_5) else if a1 < 12288 then (a0_0, a0_1, (Int.tmod (wrap64 a2) 128 % 256), a0_3, a0_4, a0_5) else if a1 < 16384 then (a0_0, a0_1, (Int.tmod (wrap64 a2) 128 % 256), a0_3, a0_4, a0_5) else if a1 < 24576 then (a0_0, a0_1, a0_2, a0_3, (Int.tmod (wrap64 a2) 16 % 256), a0_5) else if a1 < 32768 then (a0_0, a0_1, a0_2, a0_3, a0_4, a0_5) else (a0_0, a0_1, a0_2, a0_3, a0_4, a0_5)) else
 if a0_0 = 5 then (if a1 < 8192 then (a0_0, (wrap64 a2 == 10), a0_2, a0_3, a0_4, a0_5) else if a1 < 12288 then (a0_0, a0_1, a2, a0_3, a0_4, a0_5) else if a1 < 16384 then (a0_0, a0_1, a0_2, (Int.tmod (wrap64 a2) 2 % 256), a0_4, a0_5) else if a1 < 24576 then (a0_0, a0_1, a0_2, a0_3, (Int.tmod (wrap64 a2) 16 % 256), a0_5) else if a1 < 32768 then (a0_0, a0_1, a0_2, a0_3, a0_4, a0_5) else (a0_0, a0_1, a0_2, a0_3, a0_4, a0_5)) else
 (a0_0, a0_1, a0_2, a0_3, a0_4, a0_5)
def bM.f (a0_0 : Int) (a0_1 : Bool) (a0_2 a0_3 a0_4 : Int) (a0_5 : Bool) (a1 a2 : Int) : Option (Int × Bool × Int × Int × Int × Bool) := if 0 ≤ a1 ∧ a1 ≤ 65535 then some (rwriteF a0_0 a0_1 a0_2 a0_3 a0_4 a0_5 a1 a2) else none
theorem bM.calls (a0_0 : Int) (a0_1 : Bool) (a0_2 a0_3 a0_4 : Int) (a0_5 : Bool) (a1 a2 : Int) (r1 : Int) (r2 : Bool) (r3 r4 r5 : Int) (r6 : Bool) (w : World) (hf : bM.f a0_0 a0_1 a0_2 a0_3 a0_4 a0_5 a1 a2 = some (r1, r2, r3, r4, r5, r6)) :
  Calls Try.prog 44 #[.agg #[.int .i64 a0_0, .bool a0_1, .int .u8 a0_2, .int .u8 a0_3, .int .u8 a0_4, .bool a0_5], .int .u16 a1, .int .u8 a2] w fun e w' => e = .returned (.agg #[.int .i64 r1, .bool r2, .int .u8 r3, .int .u8 r4, .int .u8 r5, .bool r6]) ∧ Below w.heap.size w w' := by
 unfold bM.f at hf
 by_cases hb : 0 ≤ a1 ∧ a1 ≤ 65535
 case neg => rw [if_neg hb] at hf; exact absurd hf (by simp)
 rw [if_pos hb] at hf
 obtain ⟨hb1, hb2⟩ := hb
 replace hf := Option.some.inj hf
 unfold rwriteF at hf
 by_cases k1 : a0_0 = 1
 ·subst k1
  rw [if_pos rfl] at hf
  by_cases d0 : a1 < 8192
  ·rw [if_pos d0] at hf; cases hf; exact rwrite_1_r0 0 _ _ _ _ _ _ _ (by omega) d0 w
  rw [if_neg d0] at hf
  by_cases d1 : a1 < 12288
  ·rw [if_pos d1] at hf; cases hf; exact rwrite_1_r1 0 _ _ _ _ _ _ _ (by omega) d1 w
  rw [if_neg d1] at hf
  by_cases d2 : a1 < 16384
  ·rw [if_pos d2] at hf; cases hf; exact rwrite_1_r2 0 _ _ _ _ _ _ _ (by omega) d2 w
  rw [if_neg d2] at hf
  by_cases d3 : a1 < 24576
  ·rw [if_pos d3] at hf; cases hf; exact rwrite_1_r3 0 _ _ _ _ _ _ _ (by omega) d3 w
  rw [if_neg d3] at hf
  by_cases d4 : a1 < 32768
  ·rw [if_pos d4] at hf; cases hf; exact rwrite_1_r4 0 _ _ _ _ _ _ _ (by omega) d4 w
  rw [if_neg d4] at hf
  cases hf
  exact rwrite_1_r5 0 _ _ _ _ _ _ _ (by omega) (by omega) w
 rw [if_neg k1] at hf
 by_cases k3 : a0_0 = 3
 ·subst k3
  rw [if_pos rfl] at hf
  by_cases d0 : a1 < 8192
  ·rw [if_pos d0] at hf; cases hf; exact rwrite_3_r0 0 _ _ _ _ _ _ _ (by omega) d0 w
  rw [if_neg d0] at hf
  by_cases d1 : a1 < 12288
  ·rw [if_pos d1] at hf; cases hf; exact rwrite_3_r1 0 _ _ _ _ _ _ _ (by omega) d1 w
  rw [if_neg d1] at hf
  by_cases d2 : a1 < 16384
  ·rw [if_pos d2] at hf; cases hf; exact rwrite_3_r2 0 _ _ _ _ _ _ _ (by omega) d2 w
  rw [if_neg d2] at hf
  by_cases d3 : a1 < 24576
  ·rw [if_pos d3] at hf; cases hf; exact rwrite_3_r3 0 _ _ _ _ _ _ _ (by omega) d3 w
  rw [if_neg d3] at hf
  by_cases d4 : a1 < 32768
  ·rw [if_pos d4] at hf; cases hf; exact rwrite_3_r4 0 _ _ _ _ _ _ _ (by omega) d4 w
  rw [if_neg d4] at hf
  cases hf
  exact rwrite_3_r5 0 _ _ _ _ _ _ _ (by omega) (by omega) w
 rw [if_neg k3] at hf
 by_cases k5 : a0_0 = 5
 ·subst k5
  rw [if_pos rfl] at hf
  by_cases d0 : a1 < 8192
  ·rw [if_pos d0] at hf; cases hf; exact rwrite_5_r0 0 _ _ _ _ _ _ _ (by omega) d0 w
  rw [if_neg d0] at hf
  by_cases d1 : a1 < 12288
  ·rw [if_pos d1] at hf; cases hf; exact rwrite_5_r1 0 _ _ _ _ _ _ _ (by omega) d1 w
  rw [if_neg d1] at hf
  by_cases d2 : a1 < 16384
  ·rw [if_pos d2] at hf; cases hf; exact rwrite_5_r2 0 _ _ _ _ _ _ _ (by omega) d2 w
  rw [if_neg d2] at hf
  by_cases d3 : a1 < 24576
  ·rw [if_pos d3] at hf; cases hf; exact rwrite_5_r3 0 _ _ _ _ _ _ _ (by omega) d3 w
  rw [if_neg d3] at hf
  by_cases d4 : a1 < 32768
  ·rw [if_pos d4] at hf; cases hf; exact rwrite_5_r4 0 _ _ _ _ _ _ _ (by omega) d4 w
  rw [if_neg d4] at hf
  cases hf
  exact rwrite_5_r5 0 _ _ _ _ _ _ _ (by omega) (by omega) w
 rw [if_neg k5] at hf
 cases hf
 by_cases d0 : a1 < 8192
 ·exact rwrite_a0_0_r0 _ _ _ _ _ _ _ _ (by omega) d0 k1 k3 k5 w
 by_cases d1 : a1 < 12288
 ·exact rwrite_a0_0_r1 _ _ _ _ _ _ _ _ (by omega) d1 k1 k3 k5 w
 by_cases d2 : a1 < 16384
 ·exact rwrite_a0_0_r2 _ _ _ _ _ _ _ _ (by omega) d2 k1 k3 k5 w
 by_cases d3 : a1 < 24576
 ·exact rwrite_a0_0_r3 _ _ _ _ _ _ _ _ (by omega) d3 k1 k3 k5 w
 by_cases d4 : a1 < 32768
 ·exact rwrite_a0_0_r4 _ _ _ _ _ _ _ _ (by omega) d4 k1 k3 k5 w
 exact rwrite_a0_0_r5 _ _ _ _ _ _ _ _ (by omega) (by omega) k1 k3 k5 w
end Go.Proofs.Ytmjjojbedllmgaa.Hand
section
namespace Go.Proofs.Ytmjjojbedllmgaa.G
open Go.Proofs.Ytmjjojbedllmgaa.Hand
def bV.f (a0_0 : Int) (a0_1 : Bool) (a0_2 : Int) (a0_3 : Int) (a0_4 : Int) (a0_5 : Bool) (a1 : Int) (a2 : Int) : Option (Int) := if a2 < 1 then (some (-1)) else (if a1 > 32767 then (some (-1)) else ((bG.f a0_0 a0_1 a0_2 a0_3 a0_4 a0_5 a1).bind fun t233 => (if a2 = 0 then (none) else (some (Int.tmod (wrap64 ((wrap64 (16384 * t233)) + (Int.tmod (wrap64 (a1)) 16384))) a2)))))
theorem bV.calls (a0_0 : Int) (a0_1 : Bool) (a0_2 : Int) (a0_3 : Int) (a0_4 : Int) (a0_5 : Bool) (a1 : Int) (a2 : Int) (r : Int) (w : World) (h : bV.f a0_0 a0_1 a0_2 a0_3 a0_4 a0_5 a1 a2 = some r) :
  Calls Try.prog 37 #[.agg #[.int .i64 a0_0, .bool a0_1, .int .u8 a0_2, .int .u8 a0_3, .int .u8 a0_4, .bool a0_5], .int .u16 a1, .int .i64 a2] w fun e w' => e = .returned (.int .i64 r) ∧ Below w.heap.size w w' := by
 have hu32 := Try.underlying32
 have HB := ab.mk (Below.refl w.heap.size w)
 have H : (if a2 < 1 then (some (-1)) else (if a1 > 32767 then (some (-1)) else ((bG.f a0_0 a0_1 a0_2 a0_3 a0_4 a0_5 a1).bind fun t233 => (if a2 = 0 then (none) else (some (Int.tmod (wrap64 ((wrap64 (16384 * t233)) + (Int.tmod (wrap64 (a1)) 16384))) a2)))))) = some r := h
 clear h
 by_cases c4 : a2 < 1
 case' _ =>
  rw [if_pos c4] at H
  have c4b0 : decide (a2 < 1) = true := decide_eq_true c4
  clear c4
  obtain rfl := Option.some.inj H
 rotate_right
 case' _ =>
  rw [if_neg c4] at H
  have c4b0 : decide (a2 < 1) = false := decide_eq_false c4
  clear c4
  by_cases c6 : a1 > 32767
  case' _ =>
   rw [if_pos c6] at H
   have c6b0 : decide (32767 < a1) = true := decide_eq_true c6
   clear c6
   obtain rfl := Option.some.inj H
  rotate_right
  case' _ =>
   rw [if_neg c6] at H
   have c6b0 : decide (32767 < a1) = false := decide_eq_false c6
   clear c6
   replace H := Option.bind_eq_some_iff.mp H
   obtain ⟨t233, A80, H⟩ := H
   replace H : (if a2 = 0 then (none) else (some (Int.tmod (wrap64 ((wrap64 (16384 * t233)) + (Int.tmod (wrap64 (a1)) 16384))) a2))) = some r := H
   have A8 := ab.mk A80
   clear A80
   by_cases c9 : a2 = 0
   case' _ =>
    rw [if_pos c9] at H
    exact absurd H (by simp)
   rotate_right
   case' _ =>
    rw [if_neg c9] at H
    have c9b0 : (a2 == 0) = false := beq_eq_false_iff_ne.mpr c9
    have c9b1 : (a2 != 0) = true := bne_iff_ne.mpr c9
    obtain rfl := Option.some.inj H
    go_enter Try.func37, Try.ntmps37
    go_wp2_with (first | ((with_reducible refine ar (N := 3) rfl ?_); refine bf ?hg (N := 3) ?hd (cs := #[.int .i64 a0_0, .bool a0_1, .int .u8 a0_2, .int .u8 a0_3, .int .u8 a0_4, .bool a0_5]) (t := 32) ?hr ?_; (case hd => rfl); (case hg => rfl); (case hr => first | (go_simp; done) | (go_simp; rfl)); intro gb232 hg w900 hbox hb; have n0_ := ab.mk (ak (by repeat (first | (with_reducible first | exact HB.out | apply ac | apply ai | apply aj) | exact HB.out)) hb); have n1_ := ab.mk (hbox); have n2_ := ab.mk ((by rw [hg]; exact (aw (by repeat (first | (with_reducible first | exact HB.out | apply ac | apply ai | apply aj) | exact HB.out))) : w.heap.size ≤ gb232)); have n3_ := ab.mk ((by rw [hg]; exact (aw (by repeat (first | (with_reducible first | exact HB.out | apply ac | apply ai | apply aj) | exact HB.out))) : w.heap.size ≤ gb232)); clear HB; have HB := n0_; have BK232 := n1_; have GW232 := n2_; have GE232 := n3_; clear n0_ n1_ n2_ n3_; clear hb hbox hg; have hcz901_0 : w900.cell? ⟨gb232, 0, none⟩ = some (.int .i64 a0_0) := (aa BK232.out 0).trans rfl; have hcz901_1 : w900.cell? ⟨gb232, 1, none⟩ = some (.bool a0_1) := (aa BK232.out 1).trans rfl; have hcz901_2 : w900.cell? ⟨gb232, 2, none⟩ = some (.int .u8 a0_2) := (aa BK232.out 2).trans rfl; have hcz901_3 : w900.cell? ⟨gb232, 3, none⟩ = some (.int .u8 a0_3) := (aa BK232.out 3).trans rfl; have hcz901_4 : w900.cell? ⟨gb232, 4, none⟩ = some (.int .u8 a0_4) := (aa BK232.out 4).trans rfl; have hcz901_5 : w900.cell? ⟨gb232, 5, none⟩ = some (.bool a0_5) := (aa BK232.out 5).trans rfl; have hfz901_0 := ae BK232.out 0; have hfz901_1 := ae BK232.out 1; have hfz901_2 := ae BK232.out 2; have hfz901_3 := ae BK232.out 3; have hfz901_4 := ae BK232.out 4; have hfz901_5 := ae BK232.out 5) | ((with_reducible refine cn (f := 70) rfl ?_); refine goesL_ (some 15) rfl rfl Try.func70 (by kernel_rfl) rfl #[.agg #[.int .i64 a0_0, .bool a0_1, .int .u8 a0_2, .int .u8 a0_3, .int .u8 a0_4, .bool a0_5], .int .u16 a1] rfl (by (try simp only [List.map_toArray, List.map_cons, List.map_nil]); first | done | rfl | (simp only [List.length_drop, List.length_take]; rfl)) ?_; (with_reducible refine (bG.calls _ _ _ _ _ _ _ _ _ A8.out).mono ?_); rintro e w902 ⟨rfl, hb⟩; refine ⟨_, rfl, ?_⟩; have n0_ := ab.mk (af (g := gb232) (o := .cells #[.int .i64 a0_0, .bool a0_1, .int .u8 a0_2, .int .u8 a0_3, .int .u8 a0_4, .bool a0_5] 32 (0, 0)) (by (with_reducible repeat (first | refine au ?_ _ | refine ap ?_ | refine ah ?_ _)); exact BK232.out) hb); have n1_ := ab.mk (ak (by repeat (first | (with_reducible first | exact HB.out | apply ac | apply ai | apply aj | refine ag ?_ GE232.out) | exact HB.out)) hb); clear BK232; clear HB; have BK232 := n0_; have HB := n1_; clear n0_ n1_; (try clear hb); (try clear hb2); (try clear hk); (try clear hi)))
    go_ret
    exact ⟨by first | rfl | (simp [aE, aG] <;> rfl) | (simp [*, aE, aG] <;> rfl), by repeat (first | (with_reducible first | exact HB.out | apply ac | apply ai | apply aj | refine ag ?_ GE232.out) | exact HB.out)⟩
 all_goals
  go_enter Try.func37, Try.ntmps37
  go_wp2_with (first | ((with_reducible refine ar (N := 3) rfl ?_); refine bf ?hg (N := 3) ?hd (cs := #[.int .i64 a0_0, .bool a0_1, .int .u8 a0_2, .int .u8 a0_3, .int .u8 a0_4, .bool a0_5]) (t := 32) ?hr ?_; (case hd => rfl); (case hg => rfl); (case hr => first | (go_simp; done) | (go_simp; rfl)); intro gb232 hg w900 hbox hb; have n0_ := ab.mk (ak (by repeat (first | (with_reducible first | exact HB.out | apply ac | apply ai | apply aj) | exact HB.out)) hb); have n1_ := ab.mk (hbox); have n2_ := ab.mk ((by rw [hg]; exact (aw (by repeat (first | (with_reducible first | exact HB.out | apply ac | apply ai | apply aj) | exact HB.out))) : w.heap.size ≤ gb232)); have n3_ := ab.mk ((by rw [hg]; exact (aw (by repeat (first | (with_reducible first | exact HB.out | apply ac | apply ai | apply aj) | exact HB.out))) : w.heap.size ≤ gb232)); clear HB; have HB := n0_; have BK232 := n1_; have GW232 := n2_; have GE232 := n3_; clear n0_ n1_ n2_ n3_; clear hb hbox hg))
  go_ret
  exact ⟨by first | rfl | (simp [aE, aG] <;> rfl) | (simp [*, aE, aG] <;> rfl), by repeat (first | (with_reducible first | exact HB.out | apply ac | apply ai | apply aj | refine ag ?_ GE232.out) | exact HB.out)⟩
end Go.Proofs.Ytmjjojbedllmgaa.G
end
namespace Go.Proofs.Ytmjjojbedllmgaa.G
def aY.f (a0 : Int) : Option (Bool) := if a0 ≥ 40960 then (some (decide (a0 ≤ 49151))) else (some false)
theorem aY.calls (a0 : Int) (r : Bool) (w : World) (h : aY.f a0 = some r) :
  Calls Try.prog 73 #[.int .u16 a0] w fun e w' => e = .returned (.bool r) ∧ aM w w' := by
 have H : (if a0 ≥ 40960 then (some (decide (a0 ≤ 49151))) else (some false)) = some r := h
 clear h
 by_cases c2 : a0 ≥ 40960
 ·rw [if_pos c2] at H
  have c2b0 : decide (40960 ≤ a0) = true := decide_eq_true c2
  clear c2
  obtain rfl := Option.some.inj H
  go_enter Try.func73, Try.ntmps73
  go_wp2
  go_ret
  exact ⟨by first | rfl | (simp; done) | (simp [*]; done), by repeat (first | exact aM.refl _ | apply aM.step)⟩
 ·rw [if_neg c2] at H
  have c2b0 : decide (40960 ≤ a0) = false := decide_eq_false c2
  clear c2
  obtain rfl := Option.some.inj H
  go_enter Try.func73, Try.ntmps73
  go_wp2
  go_ret
  exact ⟨by first | rfl | (simp; done) | (simp [*]; done), by repeat (first | exact aM.refl _ | apply aM.step)⟩
def aW.j0 : Nat → Int → Int → Bool → Int → Bool → Int → Int → Int → Bool → Option (Int)
 | 0, _, _, _, _, _, _, _, _, _ => none
 | k + 1, x1, x2, x14, x249000, x249001, x249002, x249003, x249004, x249005 => if x14 = true then (some (-1)) else (if x249000 = 1 then (if x249001 = true then (if x249005 = true then (if x2 = 0 then (none) else (some (Int.tmod (wrap64 ((wrap64 ((wrap64 (8192 * (wrap64 (x249003)))) + (wrap64 (x1)))) - 40960)) x2))) else (if x2 = 0 then (none) else (some (Int.tmod (wrap64 ((wrap64 ((8192 * 0) + (wrap64 (x1)))) - 40960)) x2)))) else (some (-1))) else (if x249000 = 3 then (if x249001 = true then (if x249004 > 7 then (some (-1)) else (if x2 = 0 then (none) else (some (Int.tmod (wrap64 ((wrap64 ((wrap64 (8192 * (wrap64 (x249004)))) + (wrap64 (x1)))) - 40960)) x2)))) else (some (-1))) else (if x249000 = 5 then (if x249001 = true then (if x2 = 0 then (none) else (some (Int.tmod (wrap64 ((wrap64 ((wrap64 (8192 * (wrap64 (x249004)))) + (wrap64 (x1)))) - 40960)) x2))) else (some (-1))) else (if x2 = 0 then (none) else (some (Int.tmod (wrap64 ((wrap64 ((8192 * 0) + (wrap64 (x1)))) - 40960)) x2))))))
def aW.f (k : Nat) (a0_0 : Int) (a0_1 : Bool) (a0_2 : Int) (a0_3 : Int) (a0_4 : Int) (a0_5 : Bool) (a1 : Int) (a2 : Int) : Option (Int) := if a2 < 1 then (aW.j0 k a1 a2 true a0_0 a0_1 a0_2 a0_3 a0_4 a0_5) else ((aY.f a1).bind fun t249 => (aW.j0 k a1 a2 (!t249) a0_0 a0_1 a0_2 a0_3 a0_4 a0_5))
theorem aW.calls (k : Nat) (a0_0 : Int) (a0_1 : Bool) (a0_2 : Int) (a0_3 : Int) (a0_4 : Int) (a0_5 : Bool) (a1 : Int) (a2 : Int) (r : Int) (w : World) (h : aW.f k a0_0 a0_1 a0_2 a0_3 a0_4 a0_5 a1 a2 = some r) :
  Calls Try.prog 40 #[.agg #[.int .i64 a0_0, .bool a0_1, .int .u8 a0_2, .int .u8 a0_3, .int .u8 a0_4, .bool a0_5], .int .u16 a1, .int .i64 a2] w fun e w' => e = .returned (.int .i64 r) ∧ Below w.heap.size w w' := by
 have hu32 := Try.underlying32
 have HB := ab.mk (Below.refl w.heap.size w)
 have H : (if a2 < 1 then (aW.j0 k a1 a2 true a0_0 a0_1 a0_2 a0_3 a0_4 a0_5) else ((aY.f a1).bind fun t249 => (aW.j0 k a1 a2 (!t249) a0_0 a0_1 a0_2 a0_3 a0_4 a0_5))) = some r := h
 clear h
 have HC4 := ab.mk H
 clear H
 go_enter Try.func40, Try.ntmps40
 go_upto_region 1 with (first | ((with_reducible refine ar (N := 3) rfl ?_); refine bf ?hg (N := 3) ?hd (cs := #[.int .i64 a0_0, .bool a0_1, .int .u8 a0_2, .int .u8 a0_3, .int .u8 a0_4, .bool a0_5]) (t := 32) ?hr ?_; (case hd => rfl); (case hg => rfl); (case hr => first | (go_simp; done) | (go_simp; rfl)); intro gb248 hg w5 hbox hb; have n0_ := ab.mk (ak (by repeat (first | (with_reducible first | exact HB.out | apply ac | apply ai | apply aj) | exact HB.out)) hb); have n1_ := ab.mk (hbox); have n2_ := ab.mk ((by rw [hg]; exact (aw (by repeat (first | (with_reducible first | exact HB.out | apply ac | apply ai | apply aj) | exact HB.out))) : w.heap.size ≤ gb248)); have n3_ := ab.mk ((by rw [hg]; exact (aw (by repeat (first | (with_reducible first | exact HB.out | apply ac | apply ai | apply aj) | exact HB.out))) : w.heap.size ≤ gb248)); clear HB; have HB := n0_; have BK248 := n1_; have GW248 := n2_; have GE248 := n3_; clear n0_ n1_ n2_ n3_; clear hb hbox hg))
 (try simp only [Act.put, List.setIfInBounds_toArray, List.set_cons_zero, List.set_cons_succ])
 go_cut [14] (fun v14 wc => ∃ (kq : Nat) (x14_3 : Bool), v14 = .bool x14_3 ∧ ab (aW.j0 kq a1 a2 x14_3 a0_0 a0_1 a0_2 a0_3 a0_4 a0_5 = some r) ∧ ab (kq ≤ k) ∧ ab (wc.heap[gb248]? = some (.cells #[.int .i64 a0_0, .bool a0_1, .int .u8 a0_2, .int .u8 a0_3, .int .u8 a0_4, .bool a0_5] 32 (0, 0))) ∧ ab (Below w.heap.size w wc))
 case first =>
  have H := HC4.out
  clear HC4
  by_cases c6 : a2 < 1
  ·rw [if_pos c6] at H
   have c6b0 : decide (a2 < 1) = true := decide_eq_true c6
   clear c6
   (first | rw [c6b0] | (simp only [aQ, aT]; rw [c6b0]) | skip)
   have H' := ab.mk H
   clear H
   go_wp2
   go_meet
   case rel => exact ⟨_, (true), (by first | rfl | (simp; done) | (simp [*]; done)), H', ⟨by first | omega | exact Nat.le_refl _⟩, ⟨by (with_reducible repeat (first | refine au ?_ _ | refine ap ?_ | refine ah ?_ _)); exact BK248.out⟩, ⟨by repeat (first | (with_reducible first | exact HB.out | apply ac | apply ai | apply aj | refine ag ?_ GE248.out) | exact HB.out)⟩⟩
  ·rw [if_neg c6] at H
   have c6b0 : decide (a2 < 1) = false := decide_eq_false c6
   clear c6
   (first | rw [c6b0] | (simp only [aQ, aT]; rw [c6b0]) | skip)
   replace H := Option.bind_eq_some_iff.mp H
   obtain ⟨t249, A70, H⟩ := H
   replace H : (aW.j0 k a1 a2 (!t249) a0_0 a0_1 a0_2 a0_3 a0_4 a0_5) = some r := H
   have A7 := ab.mk A70
   clear A70
   have H' := ab.mk H
   clear H
   go_wp2_with (first | (go_at_call 73; (with_reducible refine (aY.calls a1 t249 _ A7.out).mono ?_); rintro e w' ⟨rfl, ⟨nd, rfl⟩⟩))
   go_meet
   case rel => exact ⟨_, (!t249), (by first | rfl | (simp; done) | (simp [*]; done)), H', ⟨by first | omega | exact Nat.le_refl _⟩, ⟨by (with_reducible repeat (first | refine au ?_ _ | refine ap ?_ | refine ah ?_ _)); exact BK248.out⟩, ⟨by repeat (first | (with_reducible first | exact HB.out | apply ac | apply ai | apply aj | refine ag ?_ GE248.out) | exact HB.out)⟩⟩
 case rest =>
  clear HC4
  try clear p2
  try clear c4
  try clear c6
  try clear c6b0
  obtain ⟨kq, x14_3, rfl, HA, HJ3, BK248, HB⟩ := hcut
  cases kq with
  | zero => exact absurd HA.out (by simp [aW.j0])
  | succ kj3 =>
   have H := HA.out
   clear HA
   simp only [aW.j0] at H
   by_cases c8 : x14_3 = true
   ·subst c8
    have H1 : (some (-1)) = some r := by rw [if_pos rfl] at H; exact H
    clear H
    have H := H1
    clear H1
    obtain rfl := Option.some.inj H
    go_wp2
    go_ret
    exact ⟨by first | rfl | (simp [aE, aG] <;> rfl) | (simp [*, aE, aG] <;> rfl), by repeat (first | (with_reducible first | exact HB.out | apply ac | apply ai | apply aj | refine ag ?_ GE248.out) | exact HB.out)⟩
   ·replace c8 := Bool.eq_false_iff.mpr c8
    subst c8
    have H1 : (if a0_0 = 1 then (if a0_1 = true then (if a0_5 = true then (if a2 = 0 then (none) else (some (Int.tmod (wrap64 ((wrap64 ((wrap64 (8192 * (wrap64 (a0_3)))) + (wrap64 (a1)))) - 40960)) a2))) else (if a2 = 0 then (none) else (some (Int.tmod (wrap64 ((wrap64 ((8192 * 0) + (wrap64 (a1)))) - 40960)) a2)))) else (some (-1))) else (if a0_0 = 3 then (if a0_1 = true then (if a0_4 > 7 then (some (-1)) else (if a2 = 0 then (none) else (some (Int.tmod (wrap64 ((wrap64 ((wrap64 (8192 * (wrap64 (a0_4)))) + (wrap64 (a1)))) - 40960)) a2)))) else (some (-1))) else (if a0_0 = 5 then (if a0_1 = true then (if a2 = 0 then (none) else (some (Int.tmod (wrap64 ((wrap64 ((wrap64 (8192 * (wrap64 (a0_4)))) + (wrap64 (a1)))) - 40960)) a2))) else (some (-1))) else (if a2 = 0 then (none) else (some (Int.tmod (wrap64 ((wrap64 ((8192 * 0) + (wrap64 (a1)))) - 40960)) a2)))))) = some r := by rw [if_neg (show ¬ (false = true) by decide)] at H; exact H
    clear H
    have H := H1
    clear H1
    by_cases c9 : a0_0 = 1
    ·rw [if_pos c9] at H
     have c9b0 : (a0_0 == 1) = true := beq_iff_eq.mpr c9
     have c9b1 : (a0_0 != 1) = false := bne_eq_false_iff_eq.mpr c9
     clear c9
     by_cases c10 : a0_1 = true
     ·subst c10
      have H1 : (if a0_5 = true then (if a2 = 0 then (none) else (some (Int.tmod (wrap64 ((wrap64 ((wrap64 (8192 * (wrap64 (a0_3)))) + (wrap64 (a1)))) - 40960)) a2))) else (if a2 = 0 then (none) else (some (Int.tmod (wrap64 ((wrap64 ((8192 * 0) + (wrap64 (a1)))) - 40960)) a2)))) = some r := by rw [if_pos rfl] at H; exact H
      clear H
      have H := H1
      clear H1
      by_cases c11 : a0_5 = true
      ·subst c11
       have H1 : (if a2 = 0 then (none) else (some (Int.tmod (wrap64 ((wrap64 ((wrap64 (8192 * (wrap64 (a0_3)))) + (wrap64 (a1)))) - 40960)) a2))) = some r := by rw [if_pos rfl] at H; exact H
       clear H
       have H := H1
       clear H1
       by_cases c12 : a2 = 0
       ·rw [if_pos c12] at H
        exact absurd H (by simp)
       ·rw [if_neg c12] at H
        have c12b0 : (a2 == 0) = false := beq_eq_false_iff_ne.mpr c12
        have c12b1 : (a2 != 0) = true := bne_iff_ne.mpr c12
        obtain rfl := Option.some.inj H
        have hcz13_0 : wc.cell? ⟨gb248, 0, none⟩ = some (.int .i64 a0_0) := (aa BK248.out 0).trans rfl
        have hcz13_1 : wc.cell? ⟨gb248, 1, none⟩ = some (.bool true) := (aa BK248.out 1).trans rfl
        have hcz13_2 : wc.cell? ⟨gb248, 2, none⟩ = some (.int .u8 a0_2) := (aa BK248.out 2).trans rfl
        have hcz13_3 : wc.cell? ⟨gb248, 3, none⟩ = some (.int .u8 a0_3) := (aa BK248.out 3).trans rfl
        have hcz13_4 : wc.cell? ⟨gb248, 4, none⟩ = some (.int .u8 a0_4) := (aa BK248.out 4).trans rfl
        have hcz13_5 : wc.cell? ⟨gb248, 5, none⟩ = some (.bool true) := (aa BK248.out 5).trans rfl
        have hfz13_0 := ae BK248.out 0
        have hfz13_1 := ae BK248.out 1
        have hfz13_2 := ae BK248.out 2
        have hfz13_3 := ae BK248.out 3
        have hfz13_4 := ae BK248.out 4
        have hfz13_5 := ae BK248.out 5
        go_wp2
        go_ret
        exact ⟨by first | rfl | (simp [aE, aG] <;> rfl) | (simp [*, aE, aG] <;> rfl), by repeat (first | (with_reducible first | exact HB.out | apply ac | apply ai | apply aj | refine ag ?_ GE248.out) | exact HB.out)⟩
      ·replace c11 := Bool.eq_false_iff.mpr c11
       subst c11
       have H1 : (if a2 = 0 then (none) else (some (Int.tmod (wrap64 ((wrap64 ((8192 * 0) + (wrap64 (a1)))) - 40960)) a2))) = some r := by rw [if_neg (show ¬ (false = true) by decide)] at H; exact H
       clear H
       have H := H1
       clear H1
       by_cases c14 : a2 = 0
       ·rw [if_pos c14] at H
        exact absurd H (by simp)
       ·rw [if_neg c14] at H
        have c14b0 : (a2 == 0) = false := beq_eq_false_iff_ne.mpr c14
        have c14b1 : (a2 != 0) = true := bne_iff_ne.mpr c14
        obtain rfl := Option.some.inj H
        have hcz15_0 : wc.cell? ⟨gb248, 0, none⟩ = some (.int .i64 a0_0) := (aa BK248.out 0).trans rfl
        have hcz15_1 : wc.cell? ⟨gb248, 1, none⟩ = some (.bool true) := (aa BK248.out 1).trans rfl
        have hcz15_2 : wc.cell? ⟨gb248, 2, none⟩ = some (.int .u8 a0_2) := (aa BK248.out 2).trans rfl
        have hcz15_3 : wc.cell? ⟨gb248, 3, none⟩ = some (.int .u8 a0_3) := (aa BK248.out 3).trans rfl
        have hcz15_4 : wc.cell? ⟨gb248, 4, none⟩ = some (.int .u8 a0_4) := (aa BK248.out 4).trans rfl
        have hcz15_5 : wc.cell? ⟨gb248, 5, none⟩ = some (.bool false) := (aa BK248.out 5).trans rfl
        have hfz15_0 := ae BK248.out 0
        have hfz15_1 := ae BK248.out 1
        have hfz15_2 := ae BK248.out 2
        have hfz15_3 := ae BK248.out 3
        have hfz15_4 := ae BK248.out 4
        have hfz15_5 := ae BK248.out 5
        go_wp2
        go_ret
        exact ⟨by first | rfl | (simp [aE, aG] <;> rfl) | (simp [*, aE, aG] <;> rfl), by repeat (first | (with_reducible first | exact HB.out | apply ac | apply ai | apply aj | refine ag ?_ GE248.out) | exact HB.out)⟩
     ·replace c10 := Bool.eq_false_iff.mpr c10
      subst c10
      have H1 : (some (-1)) = some r := by rw [if_neg (show ¬ (false = true) by decide)] at H; exact H
      clear H
      have H := H1
      clear H1
      obtain rfl := Option.some.inj H
      have hcz16_0 : wc.cell? ⟨gb248, 0, none⟩ = some (.int .i64 a0_0) := (aa BK248.out 0).trans rfl
      have hcz16_1 : wc.cell? ⟨gb248, 1, none⟩ = some (.bool false) := (aa BK248.out 1).trans rfl
      have hcz16_2 : wc.cell? ⟨gb248, 2, none⟩ = some (.int .u8 a0_2) := (aa BK248.out 2).trans rfl
      have hcz16_3 : wc.cell? ⟨gb248, 3, none⟩ = some (.int .u8 a0_3) := (aa BK248.out 3).trans rfl
      have hcz16_4 : wc.cell? ⟨gb248, 4, none⟩ = some (.int .u8 a0_4) := (aa BK248.out 4).trans rfl
      have hcz16_5 : wc.cell? ⟨gb248, 5, none⟩ = some (.bool a0_5) := (aa BK248.out 5).trans rfl
      have hfz16_0 := ae BK248.out 0
      have hfz16_1 := ae BK248.out 1
      have hfz16_2 := ae BK248.out 2
      have hfz16_3 := ae BK248.out 3
      have hfz16_4 := ae BK248.out 4
      have hfz16_5 := ae BK248.out 5
      go_wp2
      go_ret
      exact ⟨by first | rfl | (simp [aE, aG] <;> rfl) | (simp [*, aE, aG] <;> rfl), by repeat (first | (with_reducible first | exact HB.out | apply ac | apply ai | apply aj | refine ag ?_ GE248.out) | exact HB.out)⟩
    ·rw [if_neg c9] at H
     have c9b0 : (a0_0 == 1) = false := beq_eq_false_iff_ne.mpr c9
     have c9b1 : (a0_0 != 1) = true := bne_iff_ne.mpr c9
     by_cases c17 : a0_0 = 3
     ·rw [if_pos c17] at H
      have c17b0 : (a0_0 == 3) = true := beq_iff_eq.mpr c17
      have c17b1 : (a0_0 != 3) = false := bne_eq_false_iff_eq.mpr c17
      clear c17
      by_cases c18 : a0_1 = true
      ·subst c18
       have H1 : (if a0_4 > 7 then (some (-1)) else (if a2 = 0 then (none) else (some (Int.tmod (wrap64 ((wrap64 ((wrap64 (8192 * (wrap64 (a0_4)))) + (wrap64 (a1)))) - 40960)) a2)))) = some r := by rw [if_pos rfl] at H; exact H
       clear H
       have H := H1
       clear H1
       by_cases c19 : a0_4 > 7
       ·rw [if_pos c19] at H
        have c19b0 : decide (7 < a0_4) = true := decide_eq_true c19
        clear c19
        obtain rfl := Option.some.inj H
        have hcz20_0 : wc.cell? ⟨gb248, 0, none⟩ = some (.int .i64 a0_0) := (aa BK248.out 0).trans rfl
        have hcz20_1 : wc.cell? ⟨gb248, 1, none⟩ = some (.bool true) := (aa BK248.out 1).trans rfl
        have hcz20_2 : wc.cell? ⟨gb248, 2, none⟩ = some (.int .u8 a0_2) := (aa BK248.out 2).trans rfl
        have hcz20_3 : wc.cell? ⟨gb248, 3, none⟩ = some (.int .u8 a0_3) := (aa BK248.out 3).trans rfl
        have hcz20_4 : wc.cell? ⟨gb248, 4, none⟩ = some (.int .u8 a0_4) := (aa BK248.out 4).trans rfl
        have hcz20_5 : wc.cell? ⟨gb248, 5, none⟩ = some (.bool a0_5) := (aa BK248.out 5).trans rfl
        have hfz20_0 := ae BK248.out 0
        have hfz20_1 := ae BK248.out 1
        have hfz20_2 := ae BK248.out 2
        have hfz20_3 := ae BK248.out 3
        have hfz20_4 := ae BK248.out 4
        have hfz20_5 := ae BK248.out 5
        go_wp2
        go_ret
        exact ⟨by first | rfl | (simp [aE, aG] <;> rfl) | (simp [*, aE, aG] <;> rfl), by repeat (first | (with_reducible first | exact HB.out | apply ac | apply ai | apply aj | refine ag ?_ GE248.out) | exact HB.out)⟩
       ·rw [if_neg c19] at H
        have c19b0 : decide (7 < a0_4) = false := decide_eq_false c19
        clear c19
        by_cases c21 : a2 = 0
        ·rw [if_pos c21] at H
         exact absurd H (by simp)
        ·rw [if_neg c21] at H
         have c21b0 : (a2 == 0) = false := beq_eq_false_iff_ne.mpr c21
         have c21b1 : (a2 != 0) = true := bne_iff_ne.mpr c21
         obtain rfl := Option.some.inj H
         have hcz22_0 : wc.cell? ⟨gb248, 0, none⟩ = some (.int .i64 a0_0) := (aa BK248.out 0).trans rfl
         have hcz22_1 : wc.cell? ⟨gb248, 1, none⟩ = some (.bool true) := (aa BK248.out 1).trans rfl
         have hcz22_2 : wc.cell? ⟨gb248, 2, none⟩ = some (.int .u8 a0_2) := (aa BK248.out 2).trans rfl
         have hcz22_3 : wc.cell? ⟨gb248, 3, none⟩ = some (.int .u8 a0_3) := (aa BK248.out 3).trans rfl
         have hcz22_4 : wc.cell? ⟨gb248, 4, none⟩ = some (.int .u8 a0_4) := (aa BK248.out 4).trans rfl
         have hcz22_5 : wc.cell? ⟨gb248, 5, none⟩ = some (.bool a0_5) := (aa BK248.out 5).trans rfl
         have hfz22_0 := ae BK248.out 0
         have hfz22_1 := ae BK248.out 1
         have hfz22_2 := ae BK248.out 2
         have hfz22_3 := ae BK248.out 3
         have hfz22_4 := ae BK248.out 4
         have hfz22_5 := ae BK248.out 5
         go_wp2
         go_ret
         exact ⟨by first | rfl | (simp [aE, aG] <;> rfl) | (simp [*, aE, aG] <;> rfl), by repeat (first | (with_reducible first | exact HB.out | apply ac | apply ai | apply aj | refine ag ?_ GE248.out) | exact HB.out)⟩
      ·replace c18 := Bool.eq_false_iff.mpr c18
       subst c18
       have H1 : (some (-1)) = some r := by rw [if_neg (show ¬ (false = true) by decide)] at H; exact H
       clear H
       have H := H1
       clear H1
       obtain rfl := Option.some.inj H
       have hcz23_0 : wc.cell? ⟨gb248, 0, none⟩ = some (.int .i64 a0_0) := (aa BK248.out 0).trans rfl
       have hcz23_1 : wc.cell? ⟨gb248, 1, none⟩ = some (.bool false) := (aa BK248.out 1).trans rfl
       have hcz23_2 : wc.cell? ⟨gb248, 2, none⟩ = some (.int .u8 a0_2) := (aa BK248.out 2).trans rfl
       have hcz23_3 : wc.cell? ⟨gb248, 3, none⟩ = some (.int .u8 a0_3) := (aa BK248.out 3).trans rfl
       have hcz23_4 : wc.cell? ⟨gb248, 4, none⟩ = some (.int .u8 a0_4) := (aa BK248.out 4).trans rfl
       have hcz23_5 : wc.cell? ⟨gb248, 5, none⟩ = some (.bool a0_5) := (aa BK248.out 5).trans rfl
       have hfz23_0 := ae BK248.out 0
       have hfz23_1 := ae BK248.out 1
       have hfz23_2 := ae BK248.out 2
       have hfz23_3 := ae BK248.out 3
       have hfz23_4 := ae BK248.out 4
       have hfz23_5 := ae BK248.out 5
       go_wp2
       go_ret
       exact ⟨by first | rfl | (simp [aE, aG] <;> rfl) | (simp [*, aE, aG] <;> rfl), by repeat (first | (with_reducible first | exact HB.out | apply ac | apply ai | apply aj | refine ag ?_ GE248.out) | exact HB.out)⟩
     ·rw [if_neg c17] at H
      have c17b0 : (a0_0 == 3) = false := beq_eq_false_iff_ne.mpr c17
      have c17b1 : (a0_0 != 3) = true := bne_iff_ne.mpr c17
      by_cases c24 : a0_0 = 5
      ·rw [if_pos c24] at H
       have c24b0 : (a0_0 == 5) = true := beq_iff_eq.mpr c24
       have c24b1 : (a0_0 != 5) = false := bne_eq_false_iff_eq.mpr c24
       clear c24
       by_cases c25 : a0_1 = true
       ·subst c25
        have H1 : (if a2 = 0 then (none) else (some (Int.tmod (wrap64 ((wrap64 ((wrap64 (8192 * (wrap64 (a0_4)))) + (wrap64 (a1)))) - 40960)) a2))) = some r := by rw [if_pos rfl] at H; exact H
        clear H
        have H := H1
        clear H1
        by_cases c26 : a2 = 0
        ·rw [if_pos c26] at H
         exact absurd H (by simp)
        ·rw [if_neg c26] at H
         have c26b0 : (a2 == 0) = false := beq_eq_false_iff_ne.mpr c26
         have c26b1 : (a2 != 0) = true := bne_iff_ne.mpr c26
         obtain rfl := Option.some.inj H
         have hcz27_0 : wc.cell? ⟨gb248, 0, none⟩ = some (.int .i64 a0_0) := (aa BK248.out 0).trans rfl
         have hcz27_1 : wc.cell? ⟨gb248, 1, none⟩ = some (.bool true) := (aa BK248.out 1).trans rfl
         have hcz27_2 : wc.cell? ⟨gb248, 2, none⟩ = some (.int .u8 a0_2) := (aa BK248.out 2).trans rfl
         have hcz27_3 : wc.cell? ⟨gb248, 3, none⟩ = some (.int .u8 a0_3) := (aa BK248.out 3).trans rfl
         have hcz27_4 : wc.cell? ⟨gb248, 4, none⟩ = some (.int .u8 a0_4) := (aa BK248.out 4).trans rfl
         have hcz27_5 : wc.cell? ⟨gb248, 5, none⟩ = some (.bool a0_5) := (aa BK248.out 5).trans rfl
         have hfz27_0 := ae BK248.out 0
         have hfz27_1 := ae BK248.out 1
         have hfz27_2 := ae BK248.out 2
         have hfz27_3 := ae BK248.out 3
         have hfz27_4 := ae BK248.out 4
         have hfz27_5 := ae BK248.out 5
         go_wp2
         go_ret
         exact ⟨by first | rfl | (simp [aE, aG] <;> rfl) | (simp [*, aE, aG] <;> rfl), by repeat (first | (with_reducible first | exact HB.out | apply ac | apply ai | apply aj | refine ag ?_ GE248.out) | exact HB.out)⟩
       ·replace c25 := Bool.eq_false_iff.mpr c25
        subst c25
        have H1 : (some (-1)) = some r := by rw [if_neg (show ¬ (false = true) by decide)] at H; exact H
        clear H
        have H := H1
        clear H1
        obtain rfl := Option.some.inj H
        have hcz28_0 : wc.cell? ⟨gb248, 0, none⟩ = some (.int .i64 a0_0) := (aa BK248.out 0).trans rfl
        have hcz28_1 : wc.cell? ⟨gb248, 1, none⟩ = some (.bool false) := (aa BK248.out 1).trans rfl
        have hcz28_2 : wc.cell? ⟨gb248, 2, none⟩ = some (.int .u8 a0_2) := (aa BK248.out 2).trans rfl
        have hcz28_3 : wc.cell? ⟨gb248, 3, none⟩ = some (.int .u8 a0_3) := (aa BK248.out 3).trans rfl
        have hcz28_4 : wc.cell? ⟨gb248, 4, none⟩ = some (.int .u8 a0_4) := (aa BK248.out 4).trans rfl
        have hcz28_5 : wc.cell? ⟨gb248, 5, none⟩ = some (.bool a0_5) := (aa BK248.out 5).trans rfl
        have hfz28_0 := ae BK248.out 0
        have hfz28_1 := ae BK248.out 1
        have hfz28_2 := ae BK248.out 2
        have hfz28_3 := ae BK248.out 3
        have hfz28_4 := ae BK248.out 4
        have hfz28_5 := ae BK248.out 5
        go_wp2
        go_ret
        exact ⟨by first | rfl | (simp [aE, aG] <;> rfl) | (simp [*, aE, aG] <;> rfl), by repeat (first | (with_reducible first | exact HB.out | apply ac | apply ai | apply aj | refine ag ?_ GE248.out) | exact HB.out)⟩
      ·rw [if_neg c24] at H
       have c24b0 : (a0_0 == 5) = false := beq_eq_false_iff_ne.mpr c24
       have c24b1 : (a0_0 != 5) = true := bne_iff_ne.mpr c24
       by_cases c29 : a2 = 0
       ·rw [if_pos c29] at H
        exact absurd H (by simp)
       ·rw [if_neg c29] at H
        have c29b0 : (a2 == 0) = false := beq_eq_false_iff_ne.mpr c29
        have c29b1 : (a2 != 0) = true := bne_iff_ne.mpr c29
        obtain rfl := Option.some.inj H
        have hcz30_0 : wc.cell? ⟨gb248, 0, none⟩ = some (.int .i64 a0_0) := (aa BK248.out 0).trans rfl
        have hcz30_1 : wc.cell? ⟨gb248, 1, none⟩ = some (.bool a0_1) := (aa BK248.out 1).trans rfl
        have hcz30_2 : wc.cell? ⟨gb248, 2, none⟩ = some (.int .u8 a0_2) := (aa BK248.out 2).trans rfl
        have hcz30_3 : wc.cell? ⟨gb248, 3, none⟩ = some (.int .u8 a0_3) := (aa BK248.out 3).trans rfl
        have hcz30_4 : wc.cell? ⟨gb248, 4, none⟩ = some (.int .u8 a0_4) := (aa BK248.out 4).trans rfl
        have hcz30_5 : wc.cell? ⟨gb248, 5, none⟩ = some (.bool a0_5) := (aa BK248.out 5).trans rfl
        have hfz30_0 := ae BK248.out 0
        have hfz30_1 := ae BK248.out 1
        have hfz30_2 := ae BK248.out 2
        have hfz30_3 := ae BK248.out 3
        have hfz30_4 := ae BK248.out 4
        have hfz30_5 := ae BK248.out 5
        go_wp2
        go_ret
        exact ⟨by first | rfl | (simp [aE, aG] <;> rfl) | (simp [*, aE, aG] <;> rfl), by repeat (first | (with_reducible first | exact HB.out | apply ac | apply ai | apply aj | refine ag ?_ GE248.out) | exact HB.out)⟩
def bW.f (a0_0 : Int) (a0_1 : Bool) (a0_2 : Int) (a0_3 : Int) (a0_4 : Int) (a0_5 : Bool) (a1 : Int) : Option (Int) := if a0_0 = 3 then (if a0_1 = true then ((aY.f a1).bind fun t235 => (if t235 = true then (if a0_4 ≥ 8 then (if a0_4 ≤ 12 then (some (wrap64 (a0_4))) else (some 0)) else (some 0)) else (some 0))) else (some 0)) else (some 0)
theorem bW.calls (a0_0 : Int) (a0_1 : Bool) (a0_2 : Int) (a0_3 : Int) (a0_4 : Int) (a0_5 : Bool) (a1 : Int) (r : Int) (w : World) (h : bW.f a0_0 a0_1 a0_2 a0_3 a0_4 a0_5 a1 = some r) :
  Calls Try.prog 71 #[.agg #[.int .i64 a0_0, .bool a0_1, .int .u8 a0_2, .int .u8 a0_3, .int .u8 a0_4, .bool a0_5], .int .u16 a1] w fun e w' => e = .returned (.int .i64 r) ∧ Below w.heap.size w w' := by
 have hu32 := Try.underlying32
 have HB := ab.mk (Below.refl w.heap.size w)
 have H : (if a0_0 = 3 then (if a0_1 = true then ((aY.f a1).bind fun t235 => (if t235 = true then (if a0_4 ≥ 8 then (if a0_4 ≤ 12 then (some (wrap64 (a0_4))) else (some 0)) else (some 0)) else (some 0))) else (some 0)) else (some 0)) = some r := h
 clear h
 by_cases c3 : a0_0 = 3
 case' _ =>
  rw [if_pos c3] at H
  have c3b0 : (a0_0 == 3) = true := beq_iff_eq.mpr c3
  have c3b1 : (a0_0 != 3) = false := bne_eq_false_iff_eq.mpr c3
  clear c3
  by_cases c4 : a0_1 = true
  case' _ =>
   subst c4
   have H1 : ((aY.f a1).bind fun t235 => (if t235 = true then (if a0_4 ≥ 8 then (if a0_4 ≤ 12 then (some (wrap64 (a0_4))) else (some 0)) else (some 0)) else (some 0))) = some r := by rw [if_pos rfl] at H; exact H
   clear H
   have H := H1
   clear H1
   replace H := Option.bind_eq_some_iff.mp H
   obtain ⟨t235, A50, H⟩ := H
   replace H : (if t235 = true then (if a0_4 ≥ 8 then (if a0_4 ≤ 12 then (some (wrap64 (a0_4))) else (some 0)) else (some 0)) else (some 0)) = some r := H
   have A5 := ab.mk A50
   clear A50
   by_cases c6 : t235 = true
   case' _ =>
    subst c6
    have H1 : (if a0_4 ≥ 8 then (if a0_4 ≤ 12 then (some (wrap64 (a0_4))) else (some 0)) else (some 0)) = some r := by rw [if_pos rfl] at H; exact H
    clear H
    have H := H1
    clear H1
    by_cases c7 : a0_4 ≥ 8
    case' _ =>
     rw [if_pos c7] at H
     have c7b0 : decide (8 ≤ a0_4) = true := decide_eq_true c7
     clear c7
     by_cases c8 : a0_4 ≤ 12
     case' _ =>
      rw [if_pos c8] at H
      have c8b0 : decide (a0_4 ≤ 12) = true := decide_eq_true c8
      clear c8
      obtain rfl := Option.some.inj H
     rotate_right
     case' _ =>
      rw [if_neg c8] at H
      have c8b0 : decide (a0_4 ≤ 12) = false := decide_eq_false c8
      clear c8
      obtain rfl := Option.some.inj H
    rotate_right
    case' _ =>
     rw [if_neg c7] at H
     have c7b0 : decide (8 ≤ a0_4) = false := decide_eq_false c7
     clear c7
     obtain rfl := Option.some.inj H
   rotate_right
   case' _ =>
    replace c6 := Bool.eq_false_iff.mpr c6
    subst c6
    have H1 : (some 0) = some r := by rw [if_neg (show ¬ (false = true) by decide)] at H; exact H
    clear H
    have H := H1
    clear H1
    obtain rfl := Option.some.inj H
  rotate_right
  case' _ =>
   replace c4 := Bool.eq_false_iff.mpr c4
   subst c4
   have H1 : (some 0) = some r := by rw [if_neg (show ¬ (false = true) by decide)] at H; exact H
   clear H
   have H := H1
   clear H1
   obtain rfl := Option.some.inj H
   go_enter Try.func71, Try.ntmps71
   go_wp2_with (first | ((with_reducible refine ar (N := 2) rfl ?_); refine bf ?hg (N := 2) ?hd (cs := #[.int .i64 a0_0, .bool false, .int .u8 a0_2, .int .u8 a0_3, .int .u8 a0_4, .bool a0_5]) (t := 32) ?hr ?_; (case hd => rfl); (case hg => rfl); (case hr => first | (go_simp; done) | (go_simp; rfl)); intro gb234 hg w900 hbox hb; have n0_ := ab.mk (ak (by repeat (first | (with_reducible first | exact HB.out | apply ac | apply ai | apply aj) | exact HB.out)) hb); have n1_ := ab.mk (hbox); have n2_ := ab.mk ((by rw [hg]; exact (aw (by repeat (first | (with_reducible first | exact HB.out | apply ac | apply ai | apply aj) | exact HB.out))) : w.heap.size ≤ gb234)); have n3_ := ab.mk ((by rw [hg]; exact (aw (by repeat (first | (with_reducible first | exact HB.out | apply ac | apply ai | apply aj) | exact HB.out))) : w.heap.size ≤ gb234)); clear HB; have HB := n0_; have BK234 := n1_; have GW234 := n2_; have GE234 := n3_; clear n0_ n1_ n2_ n3_; clear hb hbox hg; have hcz901_0 : w900.cell? ⟨gb234, 0, none⟩ = some (.int .i64 a0_0) := (aa BK234.out 0).trans rfl; have hcz901_1 : w900.cell? ⟨gb234, 1, none⟩ = some (.bool false) := (aa BK234.out 1).trans rfl; have hcz901_2 : w900.cell? ⟨gb234, 2, none⟩ = some (.int .u8 a0_2) := (aa BK234.out 2).trans rfl; have hcz901_3 : w900.cell? ⟨gb234, 3, none⟩ = some (.int .u8 a0_3) := (aa BK234.out 3).trans rfl; have hcz901_4 : w900.cell? ⟨gb234, 4, none⟩ = some (.int .u8 a0_4) := (aa BK234.out 4).trans rfl; have hcz901_5 : w900.cell? ⟨gb234, 5, none⟩ = some (.bool a0_5) := (aa BK234.out 5).trans rfl; have hfz901_0 := ae BK234.out 0; have hfz901_1 := ae BK234.out 1; have hfz901_2 := ae BK234.out 2; have hfz901_3 := ae BK234.out 3; have hfz901_4 := ae BK234.out 4; have hfz901_5 := ae BK234.out 5))
   go_ret
   exact ⟨by first | rfl | (simp [aE, aG] <;> rfl) | (simp [*, aE, aG] <;> rfl), by repeat (first | (with_reducible first | exact HB.out | apply ac | apply ai | apply aj | refine ag ?_ GE234.out) | exact HB.out)⟩
 rotate_right
 case' _ =>
  rw [if_neg c3] at H
  have c3b0 : (a0_0 == 3) = false := beq_eq_false_iff_ne.mpr c3
  have c3b1 : (a0_0 != 3) = true := bne_iff_ne.mpr c3
  obtain rfl := Option.some.inj H
  go_enter Try.func71, Try.ntmps71
  go_wp2_with (first | ((with_reducible refine ar (N := 2) rfl ?_); refine bf ?hg (N := 2) ?hd (cs := #[.int .i64 a0_0, .bool a0_1, .int .u8 a0_2, .int .u8 a0_3, .int .u8 a0_4, .bool a0_5]) (t := 32) ?hr ?_; (case hd => rfl); (case hg => rfl); (case hr => first | (go_simp; done) | (go_simp; rfl)); intro gb234 hg w900 hbox hb; have n0_ := ab.mk (ak (by repeat (first | (with_reducible first | exact HB.out | apply ac | apply ai | apply aj) | exact HB.out)) hb); have n1_ := ab.mk (hbox); have n2_ := ab.mk ((by rw [hg]; exact (aw (by repeat (first | (with_reducible first | exact HB.out | apply ac | apply ai | apply aj) | exact HB.out))) : w.heap.size ≤ gb234)); have n3_ := ab.mk ((by rw [hg]; exact (aw (by repeat (first | (with_reducible first | exact HB.out | apply ac | apply ai | apply aj) | exact HB.out))) : w.heap.size ≤ gb234)); clear HB; have HB := n0_; have BK234 := n1_; have GW234 := n2_; have GE234 := n3_; clear n0_ n1_ n2_ n3_; clear hb hbox hg; have hcz901_0 : w900.cell? ⟨gb234, 0, none⟩ = some (.int .i64 a0_0) := (aa BK234.out 0).trans rfl; have hcz901_1 : w900.cell? ⟨gb234, 1, none⟩ = some (.bool a0_1) := (aa BK234.out 1).trans rfl; have hcz901_2 : w900.cell? ⟨gb234, 2, none⟩ = some (.int .u8 a0_2) := (aa BK234.out 2).trans rfl; have hcz901_3 : w900.cell? ⟨gb234, 3, none⟩ = some (.int .u8 a0_3) := (aa BK234.out 3).trans rfl; have hcz901_4 : w900.cell? ⟨gb234, 4, none⟩ = some (.int .u8 a0_4) := (aa BK234.out 4).trans rfl; have hcz901_5 : w900.cell? ⟨gb234, 5, none⟩ = some (.bool a0_5) := (aa BK234.out 5).trans rfl; have hfz901_0 := ae BK234.out 0; have hfz901_1 := ae BK234.out 1; have hfz901_2 := ae BK234.out 2; have hfz901_3 := ae BK234.out 3; have hfz901_4 := ae BK234.out 4; have hfz901_5 := ae BK234.out 5))
  go_ret
  exact ⟨by first | rfl | (simp [aE, aG] <;> rfl) | (simp [*, aE, aG] <;> rfl), by repeat (first | (with_reducible first | exact HB.out | apply ac | apply ai | apply aj | refine ag ?_ GE234.out) | exact HB.out)⟩
 all_goals
  go_enter Try.func71, Try.ntmps71
  go_wp2_with (first | ((with_reducible refine ar (N := 2) rfl ?_); refine bf ?hg (N := 2) ?hd (cs := #[.int .i64 a0_0, .bool true, .int .u8 a0_2, .int .u8 a0_3, .int .u8 a0_4, .bool a0_5]) (t := 32) ?hr ?_; (case hd => rfl); (case hg => rfl); (case hr => first | (go_simp; done) | (go_simp; rfl)); intro gb234 hg w900 hbox hb; have n0_ := ab.mk (ak (by repeat (first | (with_reducible first | exact HB.out | apply ac | apply ai | apply aj) | exact HB.out)) hb); have n1_ := ab.mk (hbox); have n2_ := ab.mk ((by rw [hg]; exact (aw (by repeat (first | (with_reducible first | exact HB.out | apply ac | apply ai | apply aj) | exact HB.out))) : w.heap.size ≤ gb234)); have n3_ := ab.mk ((by rw [hg]; exact (aw (by repeat (first | (with_reducible first | exact HB.out | apply ac | apply ai | apply aj) | exact HB.out))) : w.heap.size ≤ gb234)); clear HB; have HB := n0_; have BK234 := n1_; have GW234 := n2_; have GE234 := n3_; clear n0_ n1_ n2_ n3_; clear hb hbox hg; have hcz901_0 : w900.cell? ⟨gb234, 0, none⟩ = some (.int .i64 a0_0) := (aa BK234.out 0).trans rfl; have hcz901_1 : w900.cell? ⟨gb234, 1, none⟩ = some (.bool true) := (aa BK234.out 1).trans rfl; have hcz901_2 : w900.cell? ⟨gb234, 2, none⟩ = some (.int .u8 a0_2) := (aa BK234.out 2).trans rfl; have hcz901_3 : w900.cell? ⟨gb234, 3, none⟩ = some (.int .u8 a0_3) := (aa BK234.out 3).trans rfl; have hcz901_4 : w900.cell? ⟨gb234, 4, none⟩ = some (.int .u8 a0_4) := (aa BK234.out 4).trans rfl; have hcz901_5 : w900.cell? ⟨gb234, 5, none⟩ = some (.bool a0_5) := (aa BK234.out 5).trans rfl; have hfz901_0 := ae BK234.out 0; have hfz901_1 := ae BK234.out 1; have hfz901_2 := ae BK234.out 2; have hfz901_3 := ae BK234.out 3; have hfz901_4 := ae BK234.out 4; have hfz901_5 := ae BK234.out 5) | (go_at_call 73; (with_reducible refine (aY.calls _ _ _ A5.out).mono ?_); rintro e w' ⟨rfl, ⟨nd, rfl⟩⟩))
  go_ret
  exact ⟨by first | rfl | (simp [aE, aG] <;> rfl) | (simp [*, aE, aG] <;> rfl), by repeat (first | (with_reducible first | exact HB.out | apply ac | apply ai | apply aj | refine ag ?_ GE234.out) | exact HB.out)⟩
end Go.Proofs.Ytmjjojbedllmgaa.G
section
namespace Go.Proofs.Ytmjjojbedllmgaa.Pure
open Go.Proofs.Ytmjjojbedllmgaa.Hand
theorem bank_same (k l h : Int) (md : Bool) (a : Int) (hl : 0 ≤ l ∧ l ≤ 255) (ha : 0 ≤ a ∧ a ≤ 65535) : bankF k l h md (a / 16384) = rbankF k l h md a := by
 unfold bankF rbankF
 rw [least_is l hl]
 by_cases c0 : a > 32767
 ·rw [if_pos c0, if_neg (by omega), if_neg (by omega)]
 rw [if_neg c0]
 by_cases c1 : a > 16383
 ·rw [if_neg (by omega), if_pos (by omega)]
  simp only [c1, if_true]
 ·rw [if_pos (by omega)]
  simp only [c1, if_false]
  by_cases k1 : k = 1
  ·rw [if_pos k1, if_pos k1]
  ·rw [if_neg k1, if_neg k1]
   split <;> (try rfl)
   split <;> rfl
theorem win_is (a : Int) : aY.f a = some (decide (a / 8192 = 5)) := by
 unfold aY.f
 by_cases c : a ≥ 40960
 ·rw [if_pos c]
  congr 1
  rw [decide_eq_decide]
  omega
 ·rw [if_neg c, decide_eq_false (by omega)]
theorem reg_same (k : Int) (o : Bool) (l h r : Int) (md : Bool) (a : Int) (ha : 0 ≤ a ∧ a ≤ 65535) : bZ.f k o l h r md a = bW.f k o l h r md a := by
 unfold bZ.f bW.f bK.f
 rw [win_is a, show ((a / 8192 == 5) = decide (a / 8192 = 5)) by rw [Bool.eq_iff_iff]; simp]
 simp only [Option.bind_some]
 split <;> (try rfl)
 split <;> (try rfl)
 split <;> (try rfl)
 by_cases c : r < 8
 ·rw [if_pos c, if_neg (show ¬ r ≥ 8 by omega)]
 ·rw [if_neg c, if_pos (show r ≥ 8 by omega)]
  by_cases c2 : r > 12
  ·rw [if_pos c2, if_neg (show ¬ r ≤ 12 by omega)]
  ·rw [if_neg c2, if_pos (show r ≤ 12 by omega)]
theorem ram_ref (k : Int) (o : Bool) (l h r : Int) (md : Bool) (a s : Int) (ha : 0 ≤ a ∧ a ≤ 65535) : aW.f 2 k o l h r md a s = some (ramF k o h r md a s) := by
 unfold aW.f
 rw [win_is a]
 simp only [Option.bind_some, aW.j0, if_true]
 unfold ramF ramR ramZ
 by_cases c0 : s < 1
 ·rw [if_pos c0]
  simp only [c0, if_true, ite_self]
 rw [if_neg c0]
 simp only [c0, if_false]
 by_cases c1 : a / 8192 = 5
 ·have hm : ∀ x : Int, Int.tmod (wrap64 ((wrap64 ((wrap64 (8192 * x)) + (wrap64 a))) - 40960)) s = Int.tmod (wrap64 (wrap64 (wrap64 (x * 8192) + a) - 40960)) s := by
   intro x; rw [Int.mul_comm, wrap64_in (x := a) (by omega)]
  have hz : Int.tmod (wrap64 ((wrap64 ((8192 * 0) + (wrap64 a))) - 40960)) s = (a - 40960) % s := by
   rw [wrap64_in (x := a) (by omega), show (8192 * 0 + a : Int) = a by omega, wrap64_in (x := a) (by omega), wrap64_in (x := a - 40960) (by omega), Int.tmod_eq_emod_of_nonneg (by omega)]
  rw [hz, hm, hm]
  simp only [c1, decide_true, Bool.not_true, Bool.false_eq_true, if_false, not_true_eq_false, show ¬ s = 0 by omega, if_true]
  by_cases k1 : k = 1
  ·subst k1; cases o <;> cases md <;> simp
  by_cases k3 : k = 3
  ·subst k3
   cases o
   ·simp
   ·by_cases hr : r < 8
    ·simp [hr, show ¬ r > 7 by omega]
    ·simp [hr, show r > 7 by omega]
  by_cases k5 : k = 5
  ·subst k5; cases o <;> simp
  ·simp [k1, k3, k5]
 ·simp only [c1, decide_false, Bool.not_false, if_true, not_false_eq_true, ite_self]
theorem mv_all : ∀ v : Fin 256, Go.bits .and .u8 (v.val : Int) 15 = Int.tmod (wrap64 (v.val : Int)) 16 ∧ Go.bits .and .u8 (v.val : Int) 31 = Int.tmod (wrap64 (v.val : Int)) 32 % 256 ∧ Go.bits .and .u8 (v.val : Int) 3 = Int.tmod (wrap64 (v.val : Int)) 4 % 256 ∧ Go.bits .and .u8 (v.val : Int) 1 = Int.tmod (wrap64 (v.val : Int)) 2 ∧ Go.bits .and .u8 (v.val : Int) 127 = Int.tmod (wrap64 (v.val : Int)) 128 % 256 ∧ Int.tmod (wrap64 (v.val : Int)) 16 % 256 = Int.tmod (wrap64 (v.val : Int)) 16 ∧ Int.tmod (wrap64 (v.val : Int)) 2 % 256 = Int.tmod (wrap64 (v.val : Int)) 2 ∧ wrap64 (v.val : Int) = (v.val : Int) := by decide +kernel
theorem write_same (k : Int) (o : Bool) (l h r : Int) (md : Bool) (a v : Int) (ha : 0 ≤ a ∧ a ≤ 65535) (hv : 0 ≤ v ∧ v ≤ 255) : writeF k o l h r md a v = rwriteF k o l h r md a v := by
 have hp : IntKind.i64.wrap (a / 4096) = a / 4096 := by rw [IntKind.wrap_i64]; omega
 have hq : wrap64 (Int.tdiv (a / 4096) 2) = a / 8192 := by
  rw [Int.tdiv_eq_ediv_of_nonneg (by omega), wrap64_in (by omega)]; omega
 obtain ⟨n, rfl⟩ := byte_fin hv
 obtain ⟨e15, e31, e3, e1, e127, m16, m2, ew⟩ := mv_all n
 unfold writeF rwriteF
 rw [hp, hq, e15, e31, e3, e1, e127, m16, m2, ew]
 have t0 : a < 8192 ↔ a / 4096 < 2 := by omega
 have t1 : a < 12288 ↔ a / 4096 < 3 := by omega
 have t2 : a < 16384 ↔ a / 4096 < 4 := by omega
 have t3 : a < 24576 ↔ a / 4096 < 6 := by omega
 have t4 : a < 32768 ↔ a / 4096 < 8 := by omega
 have t5 : a ≥ 32768 ↔ a / 4096 ≥ 8 := by omega
 have t6 : a / 8192 = a / 4096 / 2 := by omega
 have hb : a / 4096 = 0 ∨ a / 4096 = 1 ∨ a / 4096 = 2 ∨ a / 4096 = 3 ∨ a / 4096 = 4 ∨ a / 4096 = 5 ∨ a / 4096 = 6 ∨ a / 4096 = 7 ∨ a / 4096 ≥ 8 := by omega
 simp only [t0, t1, t2, t3, t4, t5, t6]
 generalize a / 4096 = p at hb
 clear t0 t1 t2 t3 t4 t5 t6 hp hq ha
 rcases hb with rfl | rfl | rfl | rfl | rfl | rfl | rfl | rfl | hb
 ·simp
 ·simp
 ·simp
 ·simp
 ·simp
 ·simp
 ·simp
 ·simp
 ·rw [if_pos hb]
  simp only [show ¬ p < 2 by omega, show ¬ p < 3 by omega, show ¬ p < 4 by omega, show ¬ p < 6 by omega, show ¬ p < 8 by omega, if_false]
  simp
end Go.Proofs.Ytmjjojbedllmgaa.Pure
end
namespace Go.Proofs.Ytmjjojbedllmgaa.G
def cm.f (a0 : Int) : Option (Int × Bool × Int × Int × Int × Bool × Int) := if a0 = 0 then (some (a0, false, 0, 0, 0, false, 0)) else (if a0 = 1 then (some (a0, false, 0, 0, 0, false, 0)) else (if a0 = 3 then (some (a0, false, 0, 0, 0, false, 0)) else (if a0 = 5 then (some (a0, false, 0, 0, 0, false, 0)) else (some (0, false, 0, 0, 0, false, 4)))))
theorem cm.calls (a0 : Int) (r1 : Int) (r2 : Bool) (r3 : Int) (r4 : Int) (r5 : Int) (r6 : Bool) (r7 : Int) (w : World) (h : cm.f a0 = some (r1, r2, r3, r4, r5, r6, r7)) :
  Calls Try.prog 31 #[.int .i64 a0] w fun e w' => e = .returned (.tuple #[.agg #[.int .i64 r1, .bool r2, .int .u8 r3, .int .u8 r4, .int .u8 r5, .bool r6], .int .i64 r7]) ∧ Below w.heap.size w w' := by
 have hu32 := Try.underlying32
 have HB := ab.mk (Below.refl w.heap.size w)
 have H : (if a0 = 0 then (some (a0, false, 0, 0, 0, false, 0)) else (if a0 = 1 then (some (a0, false, 0, 0, 0, false, 0)) else (if a0 = 3 then (some (a0, false, 0, 0, 0, false, 0)) else (if a0 = 5 then (some (a0, false, 0, 0, 0, false, 0)) else (some (0, false, 0, 0, 0, false, 4)))))) = some (r1, r2, r3, r4, r5, r6, r7) := h
 clear h
 by_cases c2 : a0 = 0
 case' _ =>
  rw [if_pos c2] at H
  have c2b0 : (a0 == 0) = true := beq_iff_eq.mpr c2
  have c2b1 : (a0 != 0) = false := bne_eq_false_iff_eq.mpr c2
  clear c2
  simp only [Option.some.injEq, Prod.mk.injEq] at H
  obtain ⟨rfl, rfl, rfl, rfl, rfl, rfl, rfl⟩ := H
 rotate_right
 case' _ =>
  rw [if_neg c2] at H
  have c2b0 : (a0 == 0) = false := beq_eq_false_iff_ne.mpr c2
  have c2b1 : (a0 != 0) = true := bne_iff_ne.mpr c2
  by_cases c5 : a0 = 1
  case' _ =>
   rw [if_pos c5] at H
   have c5b0 : (a0 == 1) = true := beq_iff_eq.mpr c5
   have c5b1 : (a0 != 1) = false := bne_eq_false_iff_eq.mpr c5
   clear c5
   simp only [Option.some.injEq, Prod.mk.injEq] at H
   obtain ⟨rfl, rfl, rfl, rfl, rfl, rfl, rfl⟩ := H
  rotate_right
  case' _ =>
   rw [if_neg c5] at H
   have c5b0 : (a0 == 1) = false := beq_eq_false_iff_ne.mpr c5
   have c5b1 : (a0 != 1) = true := bne_iff_ne.mpr c5
   by_cases c8 : a0 = 3
   case' _ =>
    rw [if_pos c8] at H
    have c8b0 : (a0 == 3) = true := beq_iff_eq.mpr c8
    have c8b1 : (a0 != 3) = false := bne_eq_false_iff_eq.mpr c8
    clear c8
    simp only [Option.some.injEq, Prod.mk.injEq] at H
    obtain ⟨rfl, rfl, rfl, rfl, rfl, rfl, rfl⟩ := H
   rotate_right
   case' _ =>
    rw [if_neg c8] at H
    have c8b0 : (a0 == 3) = false := beq_eq_false_iff_ne.mpr c8
    have c8b1 : (a0 != 3) = true := bne_iff_ne.mpr c8
    by_cases c11 : a0 = 5
    case' _ =>
     rw [if_pos c11] at H
     have c11b0 : (a0 == 5) = true := beq_iff_eq.mpr c11
     have c11b1 : (a0 != 5) = false := bne_eq_false_iff_eq.mpr c11
     clear c11
     simp only [Option.some.injEq, Prod.mk.injEq] at H
     obtain ⟨rfl, rfl, rfl, rfl, rfl, rfl, rfl⟩ := H
    rotate_right
    case' _ =>
     rw [if_neg c11] at H
     have c11b0 : (a0 == 5) = false := beq_eq_false_iff_ne.mpr c11
     have c11b1 : (a0 != 5) = true := bne_iff_ne.mpr c11
     simp only [Option.some.injEq, Prod.mk.injEq] at H
     obtain ⟨rfl, rfl, rfl, rfl, rfl, rfl, rfl⟩ := H
     go_enter Try.func31, Try.ntmps31
     go_wp2_with (first | ((with_reducible refine ar (N := 2) rfl ?_); refine bf ?hg (N := 2) ?hd (cs := #[.int .i64 0, .bool false, .int .u8 0, .int .u8 0, .int .u8 0, .bool false]) (t := 32) ?hr ?_; (case hd => rfl); (case hg => rfl); (case hr => first | (go_simp; done) | (go_simp; rfl)); intro gb207 hg w900 hbox hb; have n0_ := ab.mk (ak (by repeat (first | (with_reducible first | exact HB.out | apply ac | apply ai | apply aj) | exact HB.out)) hb); have n1_ := ab.mk (hbox); have n2_ := ab.mk ((by rw [hg]; exact (aw (by repeat (first | (with_reducible first | exact HB.out | apply ac | apply ai | apply aj) | exact HB.out))) : w.heap.size ≤ gb207)); have n3_ := ab.mk ((by rw [hg]; exact (aw (by repeat (first | (with_reducible first | exact HB.out | apply ac | apply ai | apply aj) | exact HB.out))) : w.heap.size ≤ gb207)); clear HB; have HB := n0_; have BK207 := n1_; have GW207 := n2_; have GE207 := n3_; clear n0_ n1_ n2_ n3_; clear hb hbox hg; have hcz901_0 : w900.cell? ⟨gb207, 0, none⟩ = some (.int .i64 0) := (aa BK207.out 0).trans rfl; have hcz901_1 : w900.cell? ⟨gb207, 1, none⟩ = some (.bool false) := (aa BK207.out 1).trans rfl; have hcz901_2 : w900.cell? ⟨gb207, 2, none⟩ = some (.int .u8 0) := (aa BK207.out 2).trans rfl; have hcz901_3 : w900.cell? ⟨gb207, 3, none⟩ = some (.int .u8 0) := (aa BK207.out 3).trans rfl; have hcz901_4 : w900.cell? ⟨gb207, 4, none⟩ = some (.int .u8 0) := (aa BK207.out 4).trans rfl; have hcz901_5 : w900.cell? ⟨gb207, 5, none⟩ = some (.bool false) := (aa BK207.out 5).trans rfl; have hfz901_0 := ae BK207.out 0; have hfz901_1 := ae BK207.out 1; have hfz901_2 := ae BK207.out 2; have hfz901_3 := ae BK207.out 3; have hfz901_4 := ae BK207.out 4; have hfz901_5 := ae BK207.out 5))
     refine bodyPost_ret (bq rfl _ _ gb207 32 #[.int .i64 0, .bool false, .int .u8 0, .int .u8 0, .int .u8 0, .bool false] (0, 0) _ rfl (by (with_reducible repeat (first | refine au ?_ _ | refine ap ?_ | refine ah ?_ _)); refine an (cs := #[.int .i64 0, .bool false, .int .u8 0, .int .u8 0, .int .u8 0, .bool false]) ?_ 5 _ rfl; (with_reducible repeat (first | refine au ?_ _ | refine ap ?_ | refine ah ?_ _)); refine an (cs := #[.int .i64 0, .bool false, .int .u8 0, .int .u8 0, .int .u8 0, .bool false]) ?_ 4 _ rfl; (with_reducible repeat (first | refine au ?_ _ | refine ap ?_ | refine ah ?_ _)); refine an (cs := #[.int .i64 0, .bool false, .int .u8 0, .int .u8 0, .int .u8 0, .bool false]) ?_ 3 _ rfl; (with_reducible repeat (first | refine au ?_ _ | refine ap ?_ | refine ah ?_ _)); refine an (cs := #[.int .i64 0, .bool false, .int .u8 0, .int .u8 0, .int .u8 0, .bool false]) ?_ 2 _ rfl; (with_reducible repeat (first | refine au ?_ _ | refine ap ?_ | refine ah ?_ _)); refine an (cs := #[.int .i64 0, .bool false, .int .u8 0, .int .u8 0, .int .u8 0, .bool false]) ?_ 1 _ rfl; (with_reducible repeat (first | refine au ?_ _ | refine ap ?_ | refine ah ?_ _)); refine an (cs := #[.int .i64 0, .bool false, .int .u8 0, .int .u8 0, .int .u8 0, .bool false]) ?_ 0 _ rfl; (with_reducible repeat (first | refine au ?_ _ | refine ap ?_ | refine ah ?_ _)); exact BK207.out) Try.underlying32 rfl (by kernel_rfl)) rfl ?_
     exact ⟨by first | rfl | (simp [aE, aG] <;> rfl) | (simp [*, aE, aG] <;> rfl), by repeat (first | (with_reducible first | exact HB.out | apply ac | apply ai | apply aj | refine ag ?_ GE207.out) | exact HB.out)⟩
 all_goals
  go_enter Try.func31, Try.ntmps31
  go_wp2_with (first | ((with_reducible refine ar (N := 2) rfl ?_); refine bf ?hg (N := 2) ?hd (cs := #[.int .i64 0, .bool false, .int .u8 0, .int .u8 0, .int .u8 0, .bool false]) (t := 32) ?hr ?_; (case hd => rfl); (case hg => rfl); (case hr => first | (go_simp; done) | (go_simp; rfl)); intro gb207 hg w900 hbox hb; have n0_ := ab.mk (ak (by repeat (first | (with_reducible first | exact HB.out | apply ac | apply ai | apply aj) | exact HB.out)) hb); have n1_ := ab.mk (hbox); have n2_ := ab.mk ((by rw [hg]; exact (aw (by repeat (first | (with_reducible first | exact HB.out | apply ac | apply ai | apply aj) | exact HB.out))) : w.heap.size ≤ gb207)); have n3_ := ab.mk ((by rw [hg]; exact (aw (by repeat (first | (with_reducible first | exact HB.out | apply ac | apply ai | apply aj) | exact HB.out))) : w.heap.size ≤ gb207)); clear HB; have HB := n0_; have BK207 := n1_; have GW207 := n2_; have GE207 := n3_; clear n0_ n1_ n2_ n3_; clear hb hbox hg; have hcz901_0 : w900.cell? ⟨gb207, 0, none⟩ = some (.int .i64 0) := (aa BK207.out 0).trans rfl; have hcz901_1 : w900.cell? ⟨gb207, 1, none⟩ = some (.bool false) := (aa BK207.out 1).trans rfl; have hcz901_2 : w900.cell? ⟨gb207, 2, none⟩ = some (.int .u8 0) := (aa BK207.out 2).trans rfl; have hcz901_3 : w900.cell? ⟨gb207, 3, none⟩ = some (.int .u8 0) := (aa BK207.out 3).trans rfl; have hcz901_4 : w900.cell? ⟨gb207, 4, none⟩ = some (.int .u8 0) := (aa BK207.out 4).trans rfl; have hcz901_5 : w900.cell? ⟨gb207, 5, none⟩ = some (.bool false) := (aa BK207.out 5).trans rfl; have hfz901_0 := ae BK207.out 0; have hfz901_1 := ae BK207.out 1; have hfz901_2 := ae BK207.out 2; have hfz901_3 := ae BK207.out 3; have hfz901_4 := ae BK207.out 4; have hfz901_5 := ae BK207.out 5))
  refine bodyPost_ret (bq rfl _ _ gb207 32 #[.int .i64 a0, .bool false, .int .u8 0, .int .u8 0, .int .u8 0, .bool false] (0, 0) _ rfl (by (with_reducible repeat (first | refine au ?_ _ | refine ap ?_ | refine ah ?_ _)); refine an (cs := #[.int .i64 a0, .bool false, .int .u8 0, .int .u8 0, .int .u8 0, .bool false]) ?_ 5 _ rfl; (with_reducible repeat (first | refine au ?_ _ | refine ap ?_ | refine ah ?_ _)); refine an (cs := #[.int .i64 a0, .bool false, .int .u8 0, .int .u8 0, .int .u8 0, .bool false]) ?_ 4 _ rfl; (with_reducible repeat (first | refine au ?_ _ | refine ap ?_ | refine ah ?_ _)); refine an (cs := #[.int .i64 a0, .bool false, .int .u8 0, .int .u8 0, .int .u8 0, .bool false]) ?_ 3 _ rfl; (with_reducible repeat (first | refine au ?_ _ | refine ap ?_ | refine ah ?_ _)); refine an (cs := #[.int .i64 a0, .bool false, .int .u8 0, .int .u8 0, .int .u8 0, .bool false]) ?_ 2 _ rfl; (with_reducible repeat (first | refine au ?_ _ | refine ap ?_ | refine ah ?_ _)); refine an (cs := #[.int .i64 a0, .bool false, .int .u8 0, .int .u8 0, .int .u8 0, .bool false]) ?_ 1 _ rfl; (with_reducible repeat (first | refine au ?_ _ | refine ap ?_ | refine ah ?_ _)); refine an (cs := #[.int .i64 0, .bool false, .int .u8 0, .int .u8 0, .int .u8 0, .bool false]) ?_ 0 _ rfl; (with_reducible repeat (first | refine au ?_ _ | refine ap ?_ | refine ah ?_ _)); exact BK207.out) Try.underlying32 rfl (by kernel_rfl)) rfl ?_
  exact ⟨by first | rfl | (simp [aE, aG] <;> rfl) | (simp [*, aE, aG] <;> rfl), by repeat (first | (with_reducible first | exact HB.out | apply ac | apply ai | apply aj | refine ag ?_ GE207.out) | exact HB.out)⟩
end Go.Proofs.Ytmjjojbedllmgaa.G
section
namespace Go.Proofs.Ytmjjojbedllmgaa.Pure
open Go.Proofs.Ytmjjojbedllmgaa.Hand
theorem rom_ref (k : Int) (o : Bool) (l h r : Int) (md : Bool) (a s : Int) (hl : 0 ≤ l ∧ l ≤ 255) (ha : 0 ≤ a ∧ a ≤ 65535) : bV.f k o l h r md a s = bB.f k o l h r md a s := by
 unfold bB.f bV.f cp.f bG.f
 rw [bank_same k l h md a hl ha]
 simp only [Option.bind_some]
 by_cases c0 : s < 1
 ·rw [if_pos c0, if_pos c0]
 rw [if_neg c0, if_neg c0]
 by_cases c1 : a ≥ 32768
 ·rw [if_pos c1, if_pos (by omega)]
 rw [if_neg c1, if_neg (by omega), if_neg (by omega), if_neg (by omega), Int.mul_comm]
end Go.Proofs.Ytmjjojbedllmgaa.Pure
namespace Go.Proofs.Ytmjjojbedllmgaa.Hand
open Go.Proofs.Ytmjjojbedllmgaa.Pure
theorem rmap_rom {s : Ct} (ok : s.Ok) (ad : Int) (ha : 0 ≤ ad ∧ ad ≤ 65535) (hlo : ad < 32768) : Puts 37 #[.agg #[.int .i64 s.mp.k, .bool s.mp.o, .int .u8 s.mp.l, .int .u8 s.mp.h, .int .u8 s.mp.r, .bool s.mp.md], .int .u16 ad, .int .i64 s.img.length] (.int .i64 (s.romN ad)) := by
 intro w
 obtain ⟨h1, _⟩ := rom_lo ok ad ha hlo
 exact bV.calls _ _ _ _ _ _ ad s.img.length (s.romN ad) w ((rom_ref _ _ _ _ _ _ ad _ ⟨ok.m.l0, ok.m.l1⟩ ha).trans h1)
theorem rmap_reg {s : Ct} (ad : Int) (ha : 0 ≤ ad ∧ ad ≤ 65535) (n : Int) (hn : bZ.f s.mp.k s.mp.o s.mp.l s.mp.h s.mp.r s.mp.md ad = some n) : Puts 71 #[.agg #[.int .i64 s.mp.k, .bool s.mp.o, .int .u8 s.mp.l, .int .u8 s.mp.h, .int .u8 s.mp.r, .bool s.mp.md], .int .u16 ad] (.int .i64 n) := by
 intro w
 exact bW.calls _ _ _ _ _ _ ad n w ((reg_same _ _ _ _ _ _ ad ha).symm.trans hn)
theorem rmap_ram (s : Ct) (ad : Int) (ha : 0 ≤ ad ∧ ad ≤ 65535) : Puts 40 #[.agg #[.int .i64 s.mp.k, .bool s.mp.o, .int .u8 s.mp.l, .int .u8 s.mp.h, .int .u8 s.mp.r, .bool s.mp.md], .int .u16 ad, .int .i64 s.ram.length] (.int .i64 (s.at ad)) := by
 intro w
 exact aW.calls 2 _ _ _ _ _ _ ad s.ram.length (s.at ad) w (ram_ref _ _ _ _ _ _ ad _ ha)
theorem rmap_write (s : Ct) (ad v : Int) (ha : 0 ≤ ad ∧ ad ≤ 65535) (hv : 0 ≤ v ∧ v ≤ 255) : Puts 44 #[.agg #[.int .i64 s.mp.k, .bool s.mp.o, .int .u8 s.mp.l, .int .u8 s.mp.h, .int .u8 s.mp.r, .bool s.mp.md], .int .u16 ad, .int .u8 v] (.agg #[.int .i64 (s.mp.write ad v).k, .bool (s.mp.write ad v).o, .int .u8 (s.mp.write ad v).l, .int .u8 (s.mp.write ad v).h, .int .u8 (s.mp.write ad v).r, .bool (s.mp.write ad v).md]) := by
 intro w
 refine bM.calls _ _ _ _ _ _ ad v (s.mp.write ad v).k (s.mp.write ad v).o (s.mp.write ad v).l (s.mp.write ad v).h (s.mp.write ad v).r (s.mp.write ad v).md w ?_
 unfold bM.f
 rw [if_pos ha, ← write_same _ _ _ _ _ _ ad v ha hv]
 rfl
theorem rmap_new (k : Int) (h : k = 0 ∨ k = 1 ∨ k = 3 ∨ k = 5) : Puts 31 #[.int .i64 k] (.tuple #[.agg #[.int .i64 k, .bool false, .int .u8 0, .int .u8 0, .int .u8 0, .bool false], .int .i64 0]) := by
 intro w
 refine cm.calls k k false 0 0 0 false 0 w ?_
 unfold cm.f
 rcases h with rfl | rfl | rfl | rfl <;> rfl
end Go.Proofs.Ytmjjojbedllmgaa.Hand
end
namespace Go.Proofs.Ytmjjojbedllmgaa.Hand
abbrev Hd.cells (h : Hd) : List Value := [.string h.t, .int .u8 h.kd, .int .i64 h.mp, .bool h.rm, .bool h.bt, .bool h.ck, .int .i64 h.bk, .int .i64 h.sz, .int .u8 h.sm, .int .u16 h.wh]
def HAt (w : World) (g : Nat) (h : Hd) : Prop := w.heap[g]? = some (.cells h.cells.toArray 30 (0, 0))
theorem HAt.new (w : World) (h : Hd) : HAt (w.alloc (.cells #[.string h.t, .int .u8 h.kd, .int .i64 h.mp, .bool h.rm, .bool h.bt, .bool h.ck, .int .i64 h.bk, .int .i64 h.sz, .int .u8 h.sm, .int .u16 h.wh] 30)) w.heap.size h := aC w _
theorem HAt.below {w w' : World} {g : Nat} {h : Hd} (a : HAt w g h) (hb : Below w.heap.size w w') : HAt w' g h := af a hb
theorem HAt.alloc {w : World} {g : Nat} {h : Hd} (a : HAt w g h) (o : Obj) : HAt (w.alloc o) g h := ah a o
theorem HAt.drew {w : World} {g : Nat} {h : Hd} (a : HAt w g h) : HAt w.drew g h := ap a
theorem HAt.frozen {w : World} {g : Nat} {h : Hd} (a : HAt w g h) (i : Nat) : w.frozen? ⟨g, i, none⟩ = false := ae a i
theorem HAt.range {w : World} {g : Nat} {h : Hd} (a : HAt w g h) : w.rangeAt g 0 h.cells := fun j x hx => by
 rw [aa a (0 + j), Nat.zero_add]
 simpa using hx
theorem Hd.one (h : Hd) : h.cells.toArray.all (·.oneCell') = true := by simp [Value.oneCell']
theorem HAt.c3 {w : World} {g : Nat} {h : Hd} (a : HAt w g h) : w.cell? ⟨g, 3, none⟩ = some (.bool h.rm) := (aa a 3).trans rfl
theorem HAt.c6 {w : World} {g : Nat} {h : Hd} (a : HAt w g h) : w.cell? ⟨g, 6, none⟩ = some (.int .i64 h.bk) := (aa a 6).trans rfl
theorem HAt.c7 {w : World} {g : Nat} {h : Hd} (a : HAt w g h) : w.cell? ⟨g, 7, none⟩ = some (.int .i64 h.sz) := (aa a 7).trans rfl
theorem HAt.c8 {w : World} {g : Nat} {h : Hd} (a : HAt w g h) : w.cell? ⟨g, 8, none⟩ = some (.int .u8 h.sm) := (aa a 8).trans rfl
theorem HAt.c9 {w : World} {g : Nat} {h : Hd} (a : HAt w g h) : w.cell? ⟨g, 9, none⟩ = some (.int .u16 h.wh) := (aa a 9).trans rfl
theorem HAt.putT {w : World} {g : Nat} {h : Hd} (a : HAt w g h) (v : ByteArray) : HAt (w.setCell ⟨g, 0, none⟩ (.string v)) g { h with t := v } := an a 0 _ rfl
theorem HAt.putBk {w : World} {g : Nat} {h : Hd} (a : HAt w g h) (v : Int) : HAt (w.setCell ⟨g, 6, none⟩ (.int .i64 v)) g { h with bk := v } := an a 6 _ rfl
theorem HAt.putSz {w : World} {g : Nat} {h : Hd} (a : HAt w g h) (v : Int) : HAt (w.setCell ⟨g, 7, none⟩ (.int .i64 v)) g { h with sz := v } := an a 7 _ rfl
theorem HAt.putSm {w : World} {g : Nat} {h : Hd} (a : HAt w g h) (v : Int) : HAt (w.setCell ⟨g, 8, none⟩ (.int .u8 v)) g { h with sm := v } := an a 8 _ rfl
theorem HAt.putWh {w : World} {g : Nat} {h : Hd} (a : HAt w g h) (v : Int) : HAt (w.setCell ⟨g, 9, none⟩ (.int .u16 v)) g { h with wh := v } := an a 9 _ rfl
def bR (w : World) (g : Nat) : Prop := ∃ cs : Array Value, cs.size = 10 ∧ w.heap[g]? = some (.cells cs 30 (0, 0))
theorem bR.new (w : World) (cs : List Value) (h : cs.length = 10) : bR (w.alloc (.cells cs.toArray 30)) w.heap.size := ⟨_, by simpa using h, aC w _⟩
theorem bR.below {w w' : World} {g : Nat} (h : bR w g) (hb : Below w.heap.size w w') : bR w' g := by
 obtain ⟨cs, h1, h2⟩ := h
 exact ⟨cs, h1, af h2 hb⟩
theorem bR.alloc {w : World} {g : Nat} (h : bR w g) (o : Obj) : bR (w.alloc o) g := by
 obtain ⟨cs, h1, h2⟩ := h
 exact ⟨cs, h1, ah h2 o⟩
theorem bR.drew {w : World} {g : Nat} (h : bR w g) : bR w.drew g := by
 obtain ⟨cs, h1, h2⟩ := h
 exact ⟨cs, h1, ap h2⟩
theorem bR.far1 {w : World} {b g : Nat} (h : bR w b) (hg : b ≠ g) (i : Nat) (v : Value) : bR (w.setCell ⟨g, i, none⟩ v) b := by
 obtain ⟨cs, h1, h2⟩ := h
 exact ⟨cs, h1, al h2 hg v⟩
theorem bR.there {w : World} {g : Nat} (h : bR w g) : w.there g 0 10 := by
 obtain ⟨cs, h1, h2⟩ := h
 exact blk_there h2 0 10 (by omega)
theorem bR.lt {w : World} {g : Nat} (h : bR w g) : g < w.heap.size := by
 obtain ⟨cs, h1, h2⟩ := h
 exact aZ h2
theorem bR.fillZ {w : World} {g : Nat} (h : bR w g) (vs : List Value) (hv : vs.length = 10) : (w.setCells g 0 vs).heap[g]? = some (.cells vs.toArray 30 (0, 0)) := by
 obtain ⟨cs, h1, h2⟩ := h
 exact blk_setAll h2 vs (by rw [h1]; exact hv)
end Go.Proofs.Ytmjjojbedllmgaa.Hand
