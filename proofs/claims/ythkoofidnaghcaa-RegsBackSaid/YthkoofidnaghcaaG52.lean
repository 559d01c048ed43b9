/- Written by a program of this session, after the kit's print: Go functions as Lean functions, each with the proof that the Go text comes to it. -/
import Derived.Test.YthkoofidnaghcaaG0
import Derived.Test.YthkoofidnaghcaaG1
import Derived.Test.YthkoofidnaghcaaG2
import Derived.Test.YthkoofidnaghcaaG10
import Derived.Test.YthkoofidnaghcaaG14
import Derived.Test.YthkoofidnaghcaaG36
import Derived.Test.YthkoofidnaghcaaHGet
import Derived.Test.YthkoofidnaghcaaHParse
import Derived.Test.YthkoofidnaghcaaHPut
import Derived.Test.YthkoofidnaghcaaHText
namespace Go.Proofs.Ythkoofidnaghcaa.G
open Go.RowKit Go.Proofs.YthkoofidnaghcaaW.PrintWords Go.Proofs.YthkoofidnaghcaaW.PrintLast Go.Proofs.YthkoofidnaghcaaW.PrintMore
attribute [local go_sem] max2_int min2_int max_two min_two max_three min_three max_four min_four   -- for this text's walks alone
set_option linter.unusedVariables false
set_option linter.unusedSimpArgs false

open Go.Proofs.Ythkoofidnaghcaa.Hand
attribute [local go_sem high] eqA24 eqA44
/-! ### whirligiglaw04_RegsBack: function 11 -/
def whirligiglaw04_RegsBack.f (k : Nat) (a0_0 : Int) (a0_1 : Int) (a0_2 : Int) (a0_3 : Int) (a0_4 : Int) (a0_5 : Int) (a0_6 : Int) (a0_7 : Int) (a0_8 : Int) (a0_9 : Int) (a1 : Int) (a2 : Int) : Option (Bool) := (whirligiglaw04_shown.f k).bind fun t402 => ((regs_Put.f a0_0 a0_1 a0_2 a0_3 a0_4 a0_5 a0_6 a0_7 a0_8 a0_9 (wrap64 (Int.tmod a1 8)) a2).bind fun bt403 => ((regs_Get.f bt403.1 bt403.2.1 bt403.2.2.1 bt403.2.2.2.1 bt403.2.2.2.2.1 bt403.2.2.2.2.2.1 bt403.2.2.2.2.2.2.1 bt403.2.2.2.2.2.2.2.1 bt403.2.2.2.2.2.2.2.2.1 bt403.2.2.2.2.2.2.2.2.2.1 (wrap64 (Int.tmod a1 8))).bind fun bt415 => (if (wrap64 (Int.tmod a1 8)) = 6 then (if t402 = true then (if bt403.2.2.2.2.2.2.2.2.2.2 = 7 then (some (bt415.2 == 7)) else (some false)) else (some false)) else ((regs_Flags.f bt403.1 bt403.2.1 bt403.2.2.1 bt403.2.2.2.1 bt403.2.2.2.2.1 bt403.2.2.2.2.2.1 bt403.2.2.2.2.2.2.1 bt403.2.2.2.2.2.2.2.1 bt403.2.2.2.2.2.2.2.2.1 bt403.2.2.2.2.2.2.2.2.2.1).bind fun bt417 => ((regs_WithFlags.f bt403.1 bt403.2.1 bt403.2.2.1 bt403.2.2.2.1 bt403.2.2.2.2.1 bt403.2.2.2.2.2.1 bt403.2.2.2.2.2.2.1 bt403.2.2.2.2.2.2.2.1 bt403.2.2.2.2.2.2.2.2.1 bt403.2.2.2.2.2.2.2.2.2.1 bt417.1 bt417.2.1 bt417.2.2.1 bt417.2.2.2).bind fun bt421 => ((regs_Text.f bt421.1 bt421.2.1 bt421.2.2.1 bt421.2.2.2.1 bt421.2.2.2.2.1 bt421.2.2.2.2.2.1 bt421.2.2.2.2.2.2.1 bt421.2.2.2.2.2.2.2.1 bt421.2.2.2.2.2.2.2.2.1 bt421.2.2.2.2.2.2.2.2.2).bind fun t432 => ((regs_Parse.f t432).bind fun bt433 => (if t402 = true then (if bt403.2.2.2.2.2.2.2.2.2.2 = 0 then (if bt415.2 = 0 then (if bt415.1 = a2 then (if bt421.2.1 = ((((Int.tdiv bt403.2.1 16) % 256) * 16) % 256) then ((regs_Flags.f bt421.1 bt421.2.1 bt421.2.2.1 bt421.2.2.2.1 bt421.2.2.2.2.1 bt421.2.2.2.2.2.1 bt421.2.2.2.2.2.2.1 bt421.2.2.2.2.2.2.2.1 bt421.2.2.2.2.2.2.2.2.1 bt421.2.2.2.2.2.2.2.2.2).bind fun bt445 => ((regs_Flags.f bt403.1 bt403.2.1 bt403.2.2.1 bt403.2.2.2.1 bt403.2.2.2.2.1 bt403.2.2.2.2.2.1 bt403.2.2.2.2.2.2.1 bt403.2.2.2.2.2.2.2.1 bt403.2.2.2.2.2.2.2.2.1 bt403.2.2.2.2.2.2.2.2.2.1).bind fun bt449 => (if (bt445.1 == bt449.1 && (bt445.2.1 == bt449.2.1 && (bt445.2.2.1 == bt449.2.2.1 && (bt445.2.2.2 == bt449.2.2.2)))) = true then (if (bt433.1 == bt421.1 && (bt433.2.1 == bt421.2.1 && (bt433.2.2.1 == bt421.2.2.1 && (bt433.2.2.2.1 == bt421.2.2.2.1 && (bt433.2.2.2.2.1 == bt421.2.2.2.2.1 && (bt433.2.2.2.2.2.1 == bt421.2.2.2.2.2.1 && (bt433.2.2.2.2.2.2.1 == bt421.2.2.2.2.2.2.1 && (bt433.2.2.2.2.2.2.2.1 == bt421.2.2.2.2.2.2.2.1 && (bt433.2.2.2.2.2.2.2.2.1 == bt421.2.2.2.2.2.2.2.2.1 && (bt433.2.2.2.2.2.2.2.2.2.1 == bt421.2.2.2.2.2.2.2.2.2)))))))))) = true then (some (bt433.2.2.2.2.2.2.2.2.2.2 == 0)) else (some false)) else (some false)))) else (some false)) else (some false)) else (some false)) else (some false)) else (some false)))))))))
theorem whirligiglaw04_RegsBack.mono : ∀ a0 a1 a2 a3 a4 a5 a6 a7 a8 a9 a10 a11 k, LeO (whirligiglaw04_RegsBack.f k a0 a1 a2 a3 a4 a5 a6 a7 a8 a9 a10 a11) (whirligiglaw04_RegsBack.f (k + 1) a0 a1 a2 a3 a4 a5 a6 a7 a8 a9 a10 a11) := by
  intro a0 a1 a2 a3 a4 a5 a6 a7 a8 a9 a10 a11 k
  unfold whirligiglaw04_RegsBack.f
  repeat' first
      | (with_reducible exact whirligiglaw04_shown.mono _)
      | (with_reducible exact LeO.refl _)
      | (with_reducible exact LeO.none _)
      | (with_reducible refine LeO.ite ?_ ?_)
      | (with_reducible refine LeO.bind ?_ (fun _ => ?_))
      | exact whirligiglaw04_shown.mono _
      | exact LeO.none _
      | refine LeO.ite ?_ ?_
      | refine LeO.bind ?_ (fun _ => ?_)
def whirligiglaw04_RegsBack.T9 : Bool × List (List Nat × List Nat) := (true, [([], []), ([0], [0]), ([1], [1]), ([2, 1], [1, 2]), ([1, 3], [1, 3]), ([4, 1], [4]), ([5], [5]), ([6, 5], [5, 6]), ([5, 7], [5, 7]), ([8, 5], [8]), ([9], [9]), ([9], [9]), ([10, 11, 9], [9, 10, 11]), ([9, 12], [9, 12]), ([13, 9], [13]), ([14], [14]), ([15, 14], [14, 15]), ([14], [14]), ([17, 14], [14, 17]), ([18, 14], [14, 18]), ([19, 14], [14, 19]), ([16, 20, 14], [14, 16, 20]), ([14, 21], [14, 21]), ([22, 14], [22]), ([23], [23]), ([24, 23, 23], [23, 24]), ([23], [23]), ([26, 25, 23], [23, 26]), ([25, 27, 23], [23, 25, 27]), ([23, 28], [23, 28]), ([29, 27], [29]), ([30], [30]), ([30], [30]), ([31, 32, 30], [30, 31, 32]), ([30, 33], [30, 33]), ([34, 30], [34]), ([35], [35]), ([36, 35], [35, 36]), ([35, 37], [35, 37]), ([38, 35, 0, 1, 2, 3, 4, 5, 6, 7, 8, 9, 10, 11, 12, 13, 14, 15, 16, 17, 18, 19, 20, 21, 22, 23, 24, 25, 26, 27, 28, 29, 30, 31, 32, 33, 34, 35, 36, 37, 38], [38])])
def whirligiglaw04_RegsBack.B9 : List Nat := [0, 1, 3, 7, 15, 31, 63, 127, 255, 511, 1023, 1023, 4095, 8191, 16383, 32767, 65535, 32767, 163839, 425983, 950271, 2097151, 4194303, 8388607, 16777215, 33554431, 16777215, 134217727, 268435455, 536870911, 1073741823, 2147483647, 2147483647, 8589934591, 17179869183, 34359738367, 68719476735, 137438953471, 274877906943, 549755813887]
theorem whirligiglaw04_RegsBack.tab9 : rtab .any (opsOf Try.f11 9) = whirligiglaw04_RegsBack.T9 := by kernel_rfl
theorem whirligiglaw04_RegsBack.bits9 : waitsOk whirligiglaw04_RegsBack.T9.2 whirligiglaw04_RegsBack.B9 = true := by kernel_rfl
set_option maxHeartbeats 8000000 in
set_option maxRecDepth 100000 in
theorem whirligiglaw04_RegsBack.calls (k : Nat) (a0_0 : Int) (a0_1 : Int) (a0_2 : Int) (a0_3 : Int) (a0_4 : Int) (a0_5 : Int) (a0_6 : Int) (a0_7 : Int) (a0_8 : Int) (a0_9 : Int) (a1 : Int) (a2 : Int) (r : Bool) (w : World) (h : whirligiglaw04_RegsBack.f k a0_0 a0_1 a0_2 a0_3 a0_4 a0_5 a0_6 a0_7 a0_8 a0_9 a1 a2 = some r) (ht : r = true) :
    Calls Try.prog 11 #[.agg #[.int .u8 a0_0, .int .u8 a0_1, .int .u8 a0_2, .int .u8 a0_3, .int .u8 a0_4, .int .u8 a0_5, .int .u8 a0_6, .int .u8 a0_7, .int .u16 a0_8, .int .u16 a0_9], .int .u8 a1, .int .u8 a2] w fun e w' => e = .returned (.bool r) ∧ Below w.heap.size w w' := by
  have HT := Aside0.mk ht
  clear ht
  have hu24 := Try.underlying24
  have HB := Aside0.mk (Below.refl w.heap.size w)
  have H : ((whirligiglaw04_shown.f k).bind fun t402 => ((regs_Put.f a0_0 a0_1 a0_2 a0_3 a0_4 a0_5 a0_6 a0_7 a0_8 a0_9 (wrap64 (Int.tmod a1 8)) a2).bind fun bt403 => ((regs_Get.f bt403.1 bt403.2.1 bt403.2.2.1 bt403.2.2.2.1 bt403.2.2.2.2.1 bt403.2.2.2.2.2.1 bt403.2.2.2.2.2.2.1 bt403.2.2.2.2.2.2.2.1 bt403.2.2.2.2.2.2.2.2.1 bt403.2.2.2.2.2.2.2.2.2.1 (wrap64 (Int.tmod a1 8))).bind fun bt415 => (if (wrap64 (Int.tmod a1 8)) = 6 then (if t402 = true then (if bt403.2.2.2.2.2.2.2.2.2.2 = 7 then (some (bt415.2 == 7)) else (some false)) else (some false)) else ((regs_Flags.f bt403.1 bt403.2.1 bt403.2.2.1 bt403.2.2.2.1 bt403.2.2.2.2.1 bt403.2.2.2.2.2.1 bt403.2.2.2.2.2.2.1 bt403.2.2.2.2.2.2.2.1 bt403.2.2.2.2.2.2.2.2.1 bt403.2.2.2.2.2.2.2.2.2.1).bind fun bt417 => ((regs_WithFlags.f bt403.1 bt403.2.1 bt403.2.2.1 bt403.2.2.2.1 bt403.2.2.2.2.1 bt403.2.2.2.2.2.1 bt403.2.2.2.2.2.2.1 bt403.2.2.2.2.2.2.2.1 bt403.2.2.2.2.2.2.2.2.1 bt403.2.2.2.2.2.2.2.2.2.1 bt417.1 bt417.2.1 bt417.2.2.1 bt417.2.2.2).bind fun bt421 => ((regs_Text.f bt421.1 bt421.2.1 bt421.2.2.1 bt421.2.2.2.1 bt421.2.2.2.2.1 bt421.2.2.2.2.2.1 bt421.2.2.2.2.2.2.1 bt421.2.2.2.2.2.2.2.1 bt421.2.2.2.2.2.2.2.2.1 bt421.2.2.2.2.2.2.2.2.2).bind fun t432 => ((regs_Parse.f t432).bind fun bt433 => (if t402 = true then (if bt403.2.2.2.2.2.2.2.2.2.2 = 0 then (if bt415.2 = 0 then (if bt415.1 = a2 then (if bt421.2.1 = ((((Int.tdiv bt403.2.1 16) % 256) * 16) % 256) then ((regs_Flags.f bt421.1 bt421.2.1 bt421.2.2.1 bt421.2.2.2.1 bt421.2.2.2.2.1 bt421.2.2.2.2.2.1 bt421.2.2.2.2.2.2.1 bt421.2.2.2.2.2.2.2.1 bt421.2.2.2.2.2.2.2.2.1 bt421.2.2.2.2.2.2.2.2.2).bind fun bt445 => ((regs_Flags.f bt403.1 bt403.2.1 bt403.2.2.1 bt403.2.2.2.1 bt403.2.2.2.2.1 bt403.2.2.2.2.2.1 bt403.2.2.2.2.2.2.1 bt403.2.2.2.2.2.2.2.1 bt403.2.2.2.2.2.2.2.2.1 bt403.2.2.2.2.2.2.2.2.2.1).bind fun bt449 => (if (bt445.1 == bt449.1 && (bt445.2.1 == bt449.2.1 && (bt445.2.2.1 == bt449.2.2.1 && (bt445.2.2.2 == bt449.2.2.2)))) = true then (if (bt433.1 == bt421.1 && (bt433.2.1 == bt421.2.1 && (bt433.2.2.1 == bt421.2.2.1 && (bt433.2.2.2.1 == bt421.2.2.2.1 && (bt433.2.2.2.2.1 == bt421.2.2.2.2.1 && (bt433.2.2.2.2.2.1 == bt421.2.2.2.2.2.1 && (bt433.2.2.2.2.2.2.1 == bt421.2.2.2.2.2.2.1 && (bt433.2.2.2.2.2.2.2.1 == bt421.2.2.2.2.2.2.2.1 && (bt433.2.2.2.2.2.2.2.2.1 == bt421.2.2.2.2.2.2.2.2.1 && (bt433.2.2.2.2.2.2.2.2.2.1 == bt421.2.2.2.2.2.2.2.2.2)))))))))) = true then (some (bt433.2.2.2.2.2.2.2.2.2.2 == 0)) else (some false)) else (some false)))) else (some false)) else (some false)) else (some false)) else (some false)) else (some false)))))))))) = some r := h
  clear h
  replace H := Option.bind_eq_some_iff.mp H
  obtain ⟨t402, A40, H⟩ := H
  replace H : ((regs_Put.f a0_0 a0_1 a0_2 a0_3 a0_4 a0_5 a0_6 a0_7 a0_8 a0_9 (wrap64 (Int.tmod a1 8)) a2).bind fun bt403 => ((regs_Get.f bt403.1 bt403.2.1 bt403.2.2.1 bt403.2.2.2.1 bt403.2.2.2.2.1 bt403.2.2.2.2.2.1 bt403.2.2.2.2.2.2.1 bt403.2.2.2.2.2.2.2.1 bt403.2.2.2.2.2.2.2.2.1 bt403.2.2.2.2.2.2.2.2.2.1 (wrap64 (Int.tmod a1 8))).bind fun bt415 => (if (wrap64 (Int.tmod a1 8)) = 6 then (if t402 = true then (if bt403.2.2.2.2.2.2.2.2.2.2 = 7 then (some (bt415.2 == 7)) else (some false)) else (some false)) else ((regs_Flags.f bt403.1 bt403.2.1 bt403.2.2.1 bt403.2.2.2.1 bt403.2.2.2.2.1 bt403.2.2.2.2.2.1 bt403.2.2.2.2.2.2.1 bt403.2.2.2.2.2.2.2.1 bt403.2.2.2.2.2.2.2.2.1 bt403.2.2.2.2.2.2.2.2.2.1).bind fun bt417 => ((regs_WithFlags.f bt403.1 bt403.2.1 bt403.2.2.1 bt403.2.2.2.1 bt403.2.2.2.2.1 bt403.2.2.2.2.2.1 bt403.2.2.2.2.2.2.1 bt403.2.2.2.2.2.2.2.1 bt403.2.2.2.2.2.2.2.2.1 bt403.2.2.2.2.2.2.2.2.2.1 bt417.1 bt417.2.1 bt417.2.2.1 bt417.2.2.2).bind fun bt421 => ((regs_Text.f bt421.1 bt421.2.1 bt421.2.2.1 bt421.2.2.2.1 bt421.2.2.2.2.1 bt421.2.2.2.2.2.1 bt421.2.2.2.2.2.2.1 bt421.2.2.2.2.2.2.2.1 bt421.2.2.2.2.2.2.2.2.1 bt421.2.2.2.2.2.2.2.2.2).bind fun t432 => ((regs_Parse.f t432).bind fun bt433 => (if t402 = true then (if bt403.2.2.2.2.2.2.2.2.2.2 = 0 then (if bt415.2 = 0 then (if bt415.1 = a2 then (if bt421.2.1 = ((((Int.tdiv bt403.2.1 16) % 256) * 16) % 256) then ((regs_Flags.f bt421.1 bt421.2.1 bt421.2.2.1 bt421.2.2.2.1 bt421.2.2.2.2.1 bt421.2.2.2.2.2.1 bt421.2.2.2.2.2.2.1 bt421.2.2.2.2.2.2.2.1 bt421.2.2.2.2.2.2.2.2.1 bt421.2.2.2.2.2.2.2.2.2).bind fun bt445 => ((regs_Flags.f bt403.1 bt403.2.1 bt403.2.2.1 bt403.2.2.2.1 bt403.2.2.2.2.1 bt403.2.2.2.2.2.1 bt403.2.2.2.2.2.2.1 bt403.2.2.2.2.2.2.2.1 bt403.2.2.2.2.2.2.2.2.1 bt403.2.2.2.2.2.2.2.2.2.1).bind fun bt449 => (if (bt445.1 == bt449.1 && (bt445.2.1 == bt449.2.1 && (bt445.2.2.1 == bt449.2.2.1 && (bt445.2.2.2 == bt449.2.2.2)))) = true then (if (bt433.1 == bt421.1 && (bt433.2.1 == bt421.2.1 && (bt433.2.2.1 == bt421.2.2.1 && (bt433.2.2.2.1 == bt421.2.2.2.1 && (bt433.2.2.2.2.1 == bt421.2.2.2.2.1 && (bt433.2.2.2.2.2.1 == bt421.2.2.2.2.2.1 && (bt433.2.2.2.2.2.2.1 == bt421.2.2.2.2.2.2.1 && (bt433.2.2.2.2.2.2.2.1 == bt421.2.2.2.2.2.2.2.1 && (bt433.2.2.2.2.2.2.2.2.1 == bt421.2.2.2.2.2.2.2.2.1 && (bt433.2.2.2.2.2.2.2.2.2.1 == bt421.2.2.2.2.2.2.2.2.2)))))))))) = true then (some (bt433.2.2.2.2.2.2.2.2.2.2 == 0)) else (some false)) else (some false)))) else (some false)) else (some false)) else (some false)) else (some false)) else (some false))))))))) = some r := H
  have A4 := Aside0.mk A40
  clear A40
  replace H := Option.bind_eq_some_iff.mp H
  obtain ⟨⟨t403, t404, t405, t406, t407, t408, t409, t410, t411, t412, t413⟩, A50, H⟩ := H
  replace H : ((regs_Get.f t403 t404 t405 t406 t407 t408 t409 t410 t411 t412 (wrap64 (Int.tmod a1 8))).bind fun bt415 => (if (wrap64 (Int.tmod a1 8)) = 6 then (if t402 = true then (if t413 = 7 then (some (bt415.2 == 7)) else (some false)) else (some false)) else ((regs_Flags.f t403 t404 t405 t406 t407 t408 t409 t410 t411 t412).bind fun bt417 => ((regs_WithFlags.f t403 t404 t405 t406 t407 t408 t409 t410 t411 t412 bt417.1 bt417.2.1 bt417.2.2.1 bt417.2.2.2).bind fun bt421 => ((regs_Text.f bt421.1 bt421.2.1 bt421.2.2.1 bt421.2.2.2.1 bt421.2.2.2.2.1 bt421.2.2.2.2.2.1 bt421.2.2.2.2.2.2.1 bt421.2.2.2.2.2.2.2.1 bt421.2.2.2.2.2.2.2.2.1 bt421.2.2.2.2.2.2.2.2.2).bind fun t432 => ((regs_Parse.f t432).bind fun bt433 => (if t402 = true then (if t413 = 0 then (if bt415.2 = 0 then (if bt415.1 = a2 then (if bt421.2.1 = ((((Int.tdiv t404 16) % 256) * 16) % 256) then ((regs_Flags.f bt421.1 bt421.2.1 bt421.2.2.1 bt421.2.2.2.1 bt421.2.2.2.2.1 bt421.2.2.2.2.2.1 bt421.2.2.2.2.2.2.1 bt421.2.2.2.2.2.2.2.1 bt421.2.2.2.2.2.2.2.2.1 bt421.2.2.2.2.2.2.2.2.2).bind fun bt445 => ((regs_Flags.f t403 t404 t405 t406 t407 t408 t409 t410 t411 t412).bind fun bt449 => (if (bt445.1 == bt449.1 && (bt445.2.1 == bt449.2.1 && (bt445.2.2.1 == bt449.2.2.1 && (bt445.2.2.2 == bt449.2.2.2)))) = true then (if (bt433.1 == bt421.1 && (bt433.2.1 == bt421.2.1 && (bt433.2.2.1 == bt421.2.2.1 && (bt433.2.2.2.1 == bt421.2.2.2.1 && (bt433.2.2.2.2.1 == bt421.2.2.2.2.1 && (bt433.2.2.2.2.2.1 == bt421.2.2.2.2.2.1 && (bt433.2.2.2.2.2.2.1 == bt421.2.2.2.2.2.2.1 && (bt433.2.2.2.2.2.2.2.1 == bt421.2.2.2.2.2.2.2.1 && (bt433.2.2.2.2.2.2.2.2.1 == bt421.2.2.2.2.2.2.2.2.1 && (bt433.2.2.2.2.2.2.2.2.2.1 == bt421.2.2.2.2.2.2.2.2.2)))))))))) = true then (some (bt433.2.2.2.2.2.2.2.2.2.2 == 0)) else (some false)) else (some false)))) else (some false)) else (some false)) else (some false)) else (some false)) else (some false)))))))) = some r := H
  have A5 := Aside0.mk A50
  clear A50
  replace H := Option.bind_eq_some_iff.mp H
  obtain ⟨⟨t415, t416⟩, A60, H⟩ := H
  replace H : (if (wrap64 (Int.tmod a1 8)) = 6 then (if t402 = true then (if t413 = 7 then (some (t416 == 7)) else (some false)) else (some false)) else ((regs_Flags.f t403 t404 t405 t406 t407 t408 t409 t410 t411 t412).bind fun bt417 => ((regs_WithFlags.f t403 t404 t405 t406 t407 t408 t409 t410 t411 t412 bt417.1 bt417.2.1 bt417.2.2.1 bt417.2.2.2).bind fun bt421 => ((regs_Text.f bt421.1 bt421.2.1 bt421.2.2.1 bt421.2.2.2.1 bt421.2.2.2.2.1 bt421.2.2.2.2.2.1 bt421.2.2.2.2.2.2.1 bt421.2.2.2.2.2.2.2.1 bt421.2.2.2.2.2.2.2.2.1 bt421.2.2.2.2.2.2.2.2.2).bind fun t432 => ((regs_Parse.f t432).bind fun bt433 => (if t402 = true then (if t413 = 0 then (if t416 = 0 then (if t415 = a2 then (if bt421.2.1 = ((((Int.tdiv t404 16) % 256) * 16) % 256) then ((regs_Flags.f bt421.1 bt421.2.1 bt421.2.2.1 bt421.2.2.2.1 bt421.2.2.2.2.1 bt421.2.2.2.2.2.1 bt421.2.2.2.2.2.2.1 bt421.2.2.2.2.2.2.2.1 bt421.2.2.2.2.2.2.2.2.1 bt421.2.2.2.2.2.2.2.2.2).bind fun bt445 => ((regs_Flags.f t403 t404 t405 t406 t407 t408 t409 t410 t411 t412).bind fun bt449 => (if (bt445.1 == bt449.1 && (bt445.2.1 == bt449.2.1 && (bt445.2.2.1 == bt449.2.2.1 && (bt445.2.2.2 == bt449.2.2.2)))) = true then (if (bt433.1 == bt421.1 && (bt433.2.1 == bt421.2.1 && (bt433.2.2.1 == bt421.2.2.1 && (bt433.2.2.2.1 == bt421.2.2.2.1 && (bt433.2.2.2.2.1 == bt421.2.2.2.2.1 && (bt433.2.2.2.2.2.1 == bt421.2.2.2.2.2.1 && (bt433.2.2.2.2.2.2.1 == bt421.2.2.2.2.2.2.1 && (bt433.2.2.2.2.2.2.2.1 == bt421.2.2.2.2.2.2.2.1 && (bt433.2.2.2.2.2.2.2.2.1 == bt421.2.2.2.2.2.2.2.2.1 && (bt433.2.2.2.2.2.2.2.2.2.1 == bt421.2.2.2.2.2.2.2.2.2)))))))))) = true then (some (bt433.2.2.2.2.2.2.2.2.2.2 == 0)) else (some false)) else (some false)))) else (some false)) else (some false)) else (some false)) else (some false)) else (some false))))))) = some r := H
  have A6 := Aside0.mk A60
  clear A60
  by_cases c7 : (wrap64 (Int.tmod a1 8)) = 6
  · rw [if_pos c7] at H
    have c7b0 : ((wrap64 (Int.tmod a1 8)) == 6) = true := beq_iff_eq.mpr c7
    have c7b1 : ((wrap64 (Int.tmod a1 8)) != 6) = false := bne_eq_false_iff_eq.mpr c7
    clear c7
    by_cases c8 : t402 = true
    · subst c8
      have H1 : (if t413 = 7 then (some (t416 == 7)) else (some false)) = some r := by rw [if_pos rfl] at H; exact H
      clear H
      have H := H1
      clear H1
      by_cases c9 : t413 = 7
      · rw [if_pos c9] at H
        have c9b0 : (t413 == 7) = true := beq_iff_eq.mpr c9
        have c9b1 : (t413 != 7) = false := bne_eq_false_iff_eq.mpr c9
        clear c9
        obtain rfl := Option.some.inj H
        go_enter Try.func11, Try.ntmps11
        go_wp2_with (first | ((with_reducible refine gate_dst (N := 3) rfl ?_); refine box_event ?hg (N := 3) ?hd (cs := #[.int .u8 a0_0, .int .u8 a0_1, .int .u8 a0_2, .int .u8 a0_3, .int .u8 a0_4, .int .u8 a0_5, .int .u8 a0_6, .int .u8 a0_7, .int .u16 a0_8, .int .u16 a0_9]) (t := 24) ?hr ?_; (case hd => rfl); (case hg => rfl); (case hr => first | (go_simp; done) | (go_simp; rfl)); intro gb401 hg w10 hbox hb; have n0_ := Aside0.mk (below_step (by repeat (first | (with_reducible first | exact HB.out | apply below_alloc | apply pw_below_drewN | apply below_drew1) | exact HB.out)) hb); have n1_ := Aside0.mk (hbox); have n2_ := Aside0.mk ((by rw [hg]; exact (below_size (by repeat (first | (with_reducible first | exact HB.out | apply below_alloc | apply pw_below_drewN | apply below_drew1) | exact HB.out))) : w.heap.size ≤ gb401)); have n3_ := Aside0.mk ((by rw [hg]; exact (below_size (by repeat (first | (with_reducible first | exact HB.out | apply below_alloc | apply pw_below_drewN | apply below_drew1) | exact HB.out))) : w.heap.size ≤ gb401)); clear HB; have HB := n0_; have BK401 := n1_; have GW401 := n2_; have GE401 := n3_; clear n0_ n1_ n2_ n3_; clear hb hbox hg) | ((with_reducible refine gate_callee (f := 12) rfl ?_); refine goesL_ (some 16) rfl rfl Try.func12 (by kernel_rfl) rfl #[] rfl (by (try simp only [List.map_toArray, List.map_cons, List.map_nil]); first | done | rfl | (simp only [List.length_drop, List.length_take]; rfl)) ?_; (with_reducible refine (whirligiglaw04_shown.calls k  true _ A4.out).mono ?_); rintro e w11 ⟨rfl, hb⟩; refine ⟨_, rfl, ?_⟩; have n0_ := Aside0.mk (blk_below (g := gb401) (o := .cells #[.int .u8 a0_0, .int .u8 a0_1, .int .u8 a0_2, .int .u8 a0_3, .int .u8 a0_4, .int .u8 a0_5, .int .u8 a0_6, .int .u8 a0_7, .int .u16 a0_8, .int .u16 a0_9] 24 (0, 0)) (by (with_reducible repeat (first | refine blk_drewN ?_ _ | refine blk_drew ?_ | refine blk_alloc ?_ _)); exact BK401.out) hb); have n1_ := Aside0.mk (below_step (by repeat (first | (with_reducible first | exact HB.out | apply below_alloc | apply pw_below_drewN | apply below_drew1 | refine below_set ?_ GE401.out) | exact HB.out)) hb); clear BK401; clear HB; have BK401 := n0_; have HB := n1_; clear n0_ n1_; (try clear hb); (try clear hb2); (try clear hk); (try clear hi); have hcz12_0 : w11.cell? ⟨gb401, 0, none⟩ = some (.int .u8 a0_0) := (blk_cell BK401.out 0).trans rfl; have hcz12_1 : w11.cell? ⟨gb401, 1, none⟩ = some (.int .u8 a0_1) := (blk_cell BK401.out 1).trans rfl; have hcz12_2 : w11.cell? ⟨gb401, 2, none⟩ = some (.int .u8 a0_2) := (blk_cell BK401.out 2).trans rfl; have hcz12_3 : w11.cell? ⟨gb401, 3, none⟩ = some (.int .u8 a0_3) := (blk_cell BK401.out 3).trans rfl; have hcz12_4 : w11.cell? ⟨gb401, 4, none⟩ = some (.int .u8 a0_4) := (blk_cell BK401.out 4).trans rfl; have hcz12_5 : w11.cell? ⟨gb401, 5, none⟩ = some (.int .u8 a0_5) := (blk_cell BK401.out 5).trans rfl; have hcz12_6 : w11.cell? ⟨gb401, 6, none⟩ = some (.int .u8 a0_6) := (blk_cell BK401.out 6).trans rfl; have hcz12_7 : w11.cell? ⟨gb401, 7, none⟩ = some (.int .u8 a0_7) := (blk_cell BK401.out 7).trans rfl; have hcz12_8 : w11.cell? ⟨gb401, 8, none⟩ = some (.int .u16 a0_8) := (blk_cell BK401.out 8).trans rfl; have hcz12_9 : w11.cell? ⟨gb401, 9, none⟩ = some (.int .u16 a0_9) := (blk_cell BK401.out 9).trans rfl; have hfz12_0 := blk_frozen BK401.out 0; have hfz12_1 := blk_frozen BK401.out 1; have hfz12_2 := blk_frozen BK401.out 2; have hfz12_3 := blk_frozen BK401.out 3; have hfz12_4 := blk_frozen BK401.out 4; have hfz12_5 := blk_frozen BK401.out 5; have hfz12_6 := blk_frozen BK401.out 6; have hfz12_7 := blk_frozen BK401.out 7; have hfz12_8 := blk_frozen BK401.out 8; have hfz12_9 := blk_frozen BK401.out 9) | ((with_reducible refine gate_callee (f := 19) rfl ?_); refine goesL_ (some 24) rfl rfl Try.func19 (by kernel_rfl) rfl #[.agg #[.int .u8 a0_0, .int .u8 a0_1, .int .u8 a0_2, .int .u8 a0_3, .int .u8 a0_4, .int .u8 a0_5, .int .u8 a0_6, .int .u8 a0_7, .int .u16 a0_8, .int .u16 a0_9], .int .i64 (wrap64 (Int.tmod a1 8)), .int .u8 a2] rfl (by (try simp only [List.map_toArray, List.map_cons, List.map_nil]); first | done | rfl | (simp only [List.length_drop, List.length_take]; rfl)) ?_; (with_reducible refine (regs_Put.calls a0_0 a0_1 a0_2 a0_3 a0_4 a0_5 a0_6 a0_7 a0_8 a0_9 (wrap64 (Int.tmod a1 8)) a2 t403 t404 t405 t406 t407 t408 t409 t410 t411 t412 t413 _ A5.out).mono ?_); rintro e w13 ⟨rfl, hb⟩; refine ⟨_, rfl, ?_⟩; have n0_ := Aside0.mk (blk_below (g := gb401) (o := .cells #[.int .u8 a0_0, .int .u8 a0_1, .int .u8 a0_2, .int .u8 a0_3, .int .u8 a0_4, .int .u8 a0_5, .int .u8 a0_6, .int .u8 a0_7, .int .u16 a0_8, .int .u16 a0_9] 24 (0, 0)) (by (with_reducible repeat (first | refine blk_drewN ?_ _ | refine blk_drew ?_ | refine blk_alloc ?_ _)); exact BK401.out) hb); have n1_ := Aside0.mk (below_step (by repeat (first | (with_reducible first | exact HB.out | apply below_alloc | apply pw_below_drewN | apply below_drew1 | refine below_set ?_ GE401.out) | exact HB.out)) hb); clear BK401; clear HB; have BK401 := n0_; have HB := n1_; clear n0_ n1_; (try clear hb); (try clear hb2); (try clear hk); (try clear hi)) | ((with_reducible refine gate_dst (N := 9) rfl ?_); refine box_event ?hg (N := 9) ?hd (cs := #[.int .u8 0, .int .u8 0, .int .u8 0, .int .u8 0, .int .u8 0, .int .u8 0, .int .u8 0, .int .u8 0, .int .u16 0, .int .u16 0]) (t := 24) ?hr ?_; (case hd => rfl); (case hg => rfl); (case hr => first | (go_simp; done) | (go_simp; rfl)); intro gb414 hg w14 hbox hb; have n0_ := Aside0.mk (blk_below (g := gb401) (o := .cells #[.int .u8 a0_0, .int .u8 a0_1, .int .u8 a0_2, .int .u8 a0_3, .int .u8 a0_4, .int .u8 a0_5, .int .u8 a0_6, .int .u8 a0_7, .int .u16 a0_8, .int .u16 a0_9] 24 (0, 0)) (by (with_reducible repeat (first | refine blk_drewN ?_ _ | refine blk_drew ?_ | refine blk_alloc ?_ _)); exact BK401.out) hb); have n1_ := Aside0.mk (below_step (by repeat (first | (with_reducible first | exact HB.out | apply below_alloc | apply pw_below_drewN | apply below_drew1 | refine below_set ?_ GE401.out) | exact HB.out)) hb); have n2_ := Aside0.mk (hbox); have n3_ := Aside0.mk ((by rw [hg]; exact (below_size (by repeat (first | (with_reducible first | exact HB.out | apply below_alloc | apply pw_below_drewN | apply below_drew1 | refine below_set ?_ GE401.out) | exact HB.out))) : w.heap.size ≤ gb414)); have n4_ := Aside0.mk ((by rw [hg]; exact (below_size (by repeat (first | (with_reducible first | exact HB.out | apply below_alloc | apply pw_below_drewN | apply below_drew1 | refine below_set ?_ GE401.out) | exact HB.out))) : w.heap.size ≤ gb414)); have n5_ := Aside0.mk ((by rw [hg]; exact Nat.ne_of_lt (blk_lt (g := gb401) (o := .cells #[.int .u8 a0_0, .int .u8 a0_1, .int .u8 a0_2, .int .u8 a0_3, .int .u8 a0_4, .int .u8 a0_5, .int .u8 a0_6, .int .u8 a0_7, .int .u16 a0_8, .int .u16 a0_9] 24 (0, 0)) (by (with_reducible repeat (first | refine blk_drewN ?_ _ | refine blk_drew ?_ | refine blk_alloc ?_ _)); exact BK401.out)) : gb401 ≠ gb414)); have n6_ := Aside0.mk ((by rw [hg]; exact Nat.ne_of_gt (blk_lt (g := gb401) (o := .cells #[.int .u8 a0_0, .int .u8 a0_1, .int .u8 a0_2, .int .u8 a0_3, .int .u8 a0_4, .int .u8 a0_5, .int .u8 a0_6, .int .u8 a0_7, .int .u16 a0_8, .int .u16 a0_9] 24 (0, 0)) (by (with_reducible repeat (first | refine blk_drewN ?_ _ | refine blk_drew ?_ | refine blk_alloc ?_ _)); exact BK401.out)) : gb414 ≠ gb401)); clear BK401; clear HB; have BK401 := n0_; have HB := n1_; have BK414 := n2_; have GW414 := n3_; have GE414 := n4_; have NB401_414 := n5_; have NB414_401 := n6_; clear n0_ n1_ n2_ n3_ n4_ n5_ n6_; clear hb hbox hg; have hnb15 := NB414_401.out; have hnc15 := NB401_414.out; have hcz16_0 : w14.cell? ⟨gb414, 0, none⟩ = some (.int .u8 0) := (blk_cell BK414.out 0).trans rfl; have hcz16_1 : w14.cell? ⟨gb414, 1, none⟩ = some (.int .u8 0) := (blk_cell BK414.out 1).trans rfl; have hcz16_2 : w14.cell? ⟨gb414, 2, none⟩ = some (.int .u8 0) := (blk_cell BK414.out 2).trans rfl; have hcz16_3 : w14.cell? ⟨gb414, 3, none⟩ = some (.int .u8 0) := (blk_cell BK414.out 3).trans rfl; have hcz16_4 : w14.cell? ⟨gb414, 4, none⟩ = some (.int .u8 0) := (blk_cell BK414.out 4).trans rfl; have hcz16_5 : w14.cell? ⟨gb414, 5, none⟩ = some (.int .u8 0) := (blk_cell BK414.out 5).trans rfl; have hcz16_6 : w14.cell? ⟨gb414, 6, none⟩ = some (.int .u8 0) := (blk_cell BK414.out 6).trans rfl; have hcz16_7 : w14.cell? ⟨gb414, 7, none⟩ = some (.int .u8 0) := (blk_cell BK414.out 7).trans rfl; have hcz16_8 : w14.cell? ⟨gb414, 8, none⟩ = some (.int .u16 0) := (blk_cell BK414.out 8).trans rfl; have hcz16_9 : w14.cell? ⟨gb414, 9, none⟩ = some (.int .u16 0) := (blk_cell BK414.out 9).trans rfl; have hfz16_0 := blk_frozen BK414.out 0; have hfz16_1 := blk_frozen BK414.out 1; have hfz16_2 := blk_frozen BK414.out 2; have hfz16_3 := blk_frozen BK414.out 3; have hfz16_4 := blk_frozen BK414.out 4; have hfz16_5 := blk_frozen BK414.out 5; have hfz16_6 := blk_frozen BK414.out 6; have hfz16_7 := blk_frozen BK414.out 7; have hfz16_8 := blk_frozen BK414.out 8; have hfz16_9 := blk_frozen BK414.out 9) | ((with_reducible refine gate_callee (f := 13) rfl ?_); refine goesL_ (some 30) rfl rfl Try.func13 (by kernel_rfl) rfl #[.agg #[.int .u8 t403, .int .u8 t404, .int .u8 t405, .int .u8 t406, .int .u8 t407, .int .u8 t408, .int .u8 t409, .int .u8 t410, .int .u16 t411, .int .u16 t412], .int .i64 (wrap64 (Int.tmod a1 8))] rfl (by (try simp only [List.map_toArray, List.map_cons, List.map_nil]); first | done | rfl | (simp only [List.length_drop, List.length_take]; rfl)) ?_; (with_reducible refine (regs_Get.calls t403 t404 t405 t406 t407 t408 t409 t410 t411 t412 (wrap64 (Int.tmod a1 8)) t415 t416 _ A6.out).mono ?_); rintro e w17 ⟨rfl, hb⟩; refine ⟨_, rfl, ?_⟩; have n0_ := Aside0.mk (blk_below (g := gb401) (o := .cells #[.int .u8 a0_0, .int .u8 a0_1, .int .u8 a0_2, .int .u8 a0_3, .int .u8 a0_4, .int .u8 a0_5, .int .u8 a0_6, .int .u8 a0_7, .int .u16 a0_8, .int .u16 a0_9] 24 (0, 0)) (by (with_reducible repeat (first | refine blk_drewN ?_ _ | refine blk_drew ?_ | refine blk_alloc ?_ _)); refine blk_far ?_ NB401_414.out _; (with_reducible repeat (first | refine blk_drewN ?_ _ | refine blk_drew ?_ | refine blk_alloc ?_ _)); refine blk_far ?_ NB401_414.out _; (with_reducible repeat (first | refine blk_drewN ?_ _ | refine blk_drew ?_ | refine blk_alloc ?_ _)); refine blk_far ?_ NB401_414.out _; (with_reducible repeat (first | refine blk_drewN ?_ _ | refine blk_drew ?_ | refine blk_alloc ?_ _)); refine blk_far ?_ NB401_414.out _; (with_reducible repeat (first | refine blk_drewN ?_ _ | refine blk_drew ?_ | refine blk_alloc ?_ _)); refine blk_far ?_ NB401_414.out _; (with_reducible repeat (first | refine blk_drewN ?_ _ | refine blk_drew ?_ | refine blk_alloc ?_ _)); refine blk_far ?_ NB401_414.out _; (with_reducible repeat (first | refine blk_drewN ?_ _ | refine blk_drew ?_ | refine blk_alloc ?_ _)); refine blk_far ?_ NB401_414.out _; (with_reducible repeat (first | refine blk_drewN ?_ _ | refine blk_drew ?_ | refine blk_alloc ?_ _)); refine blk_far ?_ NB401_414.out _; (with_reducible repeat (first | refine blk_drewN ?_ _ | refine blk_drew ?_ | refine blk_alloc ?_ _)); refine blk_far ?_ NB401_414.out _; (with_reducible repeat (first | refine blk_drewN ?_ _ | refine blk_drew ?_ | refine blk_alloc ?_ _)); refine blk_far ?_ NB401_414.out _; (with_reducible repeat (first | refine blk_drewN ?_ _ | refine blk_drew ?_ | refine blk_alloc ?_ _)); exact BK401.out) hb); have n1_ := Aside0.mk (blk_below (g := gb414) (o := .cells #[.int .u8 t403, .int .u8 t404, .int .u8 t405, .int .u8 t406, .int .u8 t407, .int .u8 t408, .int .u8 t409, .int .u8 t410, .int .u16 t411, .int .u16 t412] 24 (0, 0)) (by (with_reducible repeat (first | refine blk_drewN ?_ _ | refine blk_drew ?_ | refine blk_alloc ?_ _)); refine blk_put (cs := #[.int .u8 t403, .int .u8 t404, .int .u8 t405, .int .u8 t406, .int .u8 t407, .int .u8 t408, .int .u8 t409, .int .u8 t410, .int .u16 t411, .int .u16 0]) ?_ 9 _ rfl; (with_reducible repeat (first | refine blk_drewN ?_ _ | refine blk_drew ?_ | refine blk_alloc ?_ _)); refine blk_put (cs := #[.int .u8 t403, .int .u8 t404, .int .u8 t405, .int .u8 t406, .int .u8 t407, .int .u8 t408, .int .u8 t409, .int .u8 t410, .int .u16 0, .int .u16 0]) ?_ 8 _ rfl; (with_reducible repeat (first | refine blk_drewN ?_ _ | refine blk_drew ?_ | refine blk_alloc ?_ _)); refine blk_put (cs := #[.int .u8 t403, .int .u8 t404, .int .u8 t405, .int .u8 t406, .int .u8 t407, .int .u8 t408, .int .u8 t409, .int .u8 0, .int .u16 0, .int .u16 0]) ?_ 7 _ rfl; (with_reducible repeat (first | refine blk_drewN ?_ _ | refine blk_drew ?_ | refine blk_alloc ?_ _)); refine blk_put (cs := #[.int .u8 t403, .int .u8 t404, .int .u8 t405, .int .u8 t406, .int .u8 t407, .int .u8 t408, .int .u8 0, .int .u8 0, .int .u16 0, .int .u16 0]) ?_ 6 _ rfl; (with_reducible repeat (first | refine blk_drewN ?_ _ | refine blk_drew ?_ | refine blk_alloc ?_ _)); refine blk_put (cs := #[.int .u8 t403, .int .u8 t404, .int .u8 t405, .int .u8 t406, .int .u8 t407, .int .u8 0, .int .u8 0, .int .u8 0, .int .u16 0, .int .u16 0]) ?_ 5 _ rfl; (with_reducible repeat (first | refine blk_drewN ?_ _ | refine blk_drew ?_ | refine blk_alloc ?_ _)); refine blk_put (cs := #[.int .u8 t403, .int .u8 t404, .int .u8 t405, .int .u8 t406, .int .u8 0, .int .u8 0, .int .u8 0, .int .u8 0, .int .u16 0, .int .u16 0]) ?_ 4 _ rfl; (with_reducible repeat (first | refine blk_drewN ?_ _ | refine blk_drew ?_ | refine blk_alloc ?_ _)); refine blk_put (cs := #[.int .u8 t403, .int .u8 t404, .int .u8 t405, .int .u8 0, .int .u8 0, .int .u8 0, .int .u8 0, .int .u8 0, .int .u16 0, .int .u16 0]) ?_ 3 _ rfl; (with_reducible repeat (first | refine blk_drewN ?_ _ | refine blk_drew ?_ | refine blk_alloc ?_ _)); refine blk_put (cs := #[.int .u8 t403, .int .u8 t404, .int .u8 0, .int .u8 0, .int .u8 0, .int .u8 0, .int .u8 0, .int .u8 0, .int .u16 0, .int .u16 0]) ?_ 2 _ rfl; (with_reducible repeat (first | refine blk_drewN ?_ _ | refine blk_drew ?_ | refine blk_alloc ?_ _)); refine blk_put (cs := #[.int .u8 t403, .int .u8 0, .int .u8 0, .int .u8 0, .int .u8 0, .int .u8 0, .int .u8 0, .int .u8 0, .int .u16 0, .int .u16 0]) ?_ 1 _ rfl; (with_reducible repeat (first | refine blk_drewN ?_ _ | refine blk_drew ?_ | refine blk_alloc ?_ _)); refine blk_put (cs := #[.int .u8 0, .int .u8 0, .int .u8 0, .int .u8 0, .int .u8 0, .int .u8 0, .int .u8 0, .int .u8 0, .int .u16 0, .int .u16 0]) ?_ 0 _ rfl; (with_reducible repeat (first | refine blk_drewN ?_ _ | refine blk_drew ?_ | refine blk_alloc ?_ _)); exact BK414.out) hb); have n2_ := Aside0.mk (below_step (by repeat (first | (with_reducible first | exact HB.out | apply below_alloc | apply pw_below_drewN | apply below_drew1 | refine below_set ?_ GE401.out | refine below_set ?_ GE414.out) | exact HB.out)) hb); clear BK401; clear BK414; clear HB; have BK401 := n0_; have BK414 := n1_; have HB := n2_; clear n0_ n1_ n2_; (try clear hb); (try clear hb2); (try clear hk); (try clear hi)))
        go_ret
        exact ⟨by first | rfl | (simp [errW_none, errW_some] <;> rfl) | (simp [*, errW_none, errW_some] <;> rfl), by repeat (first | (with_reducible first | exact HB.out | apply below_alloc | apply pw_below_drewN | apply below_drew1 | refine below_set ?_ GE401.out | refine below_set ?_ GE414.out) | exact HB.out)⟩
      · rw [if_neg c9] at H
        have c9b0 : (t413 == 7) = false := beq_eq_false_iff_ne.mpr c9
        have c9b1 : (t413 != 7) = true := bne_iff_ne.mpr c9
        exact absurd ((Option.some.inj H).trans HT.out) (by simp)
    · replace c8 := Bool.eq_false_iff.mpr c8
      subst c8
      have H1 : (some false) = some r := by rw [if_neg (show ¬ (false = true) by decide)] at H; exact H
      clear H
      have H := H1
      clear H1
      exact absurd ((Option.some.inj H).trans HT.out) (by simp)
  · rw [if_neg c7] at H
    have c7b0 : ((wrap64 (Int.tmod a1 8)) == 6) = false := beq_eq_false_iff_ne.mpr c7
    have c7b1 : ((wrap64 (Int.tmod a1 8)) != 6) = true := bne_iff_ne.mpr c7
    replace H := Option.bind_eq_some_iff.mp H
    obtain ⟨⟨t417, t418, t419, t420⟩, A340, H⟩ := H
    replace H : ((regs_WithFlags.f t403 t404 t405 t406 t407 t408 t409 t410 t411 t412 t417 t418 t419 t420).bind fun bt421 => ((regs_Text.f bt421.1 bt421.2.1 bt421.2.2.1 bt421.2.2.2.1 bt421.2.2.2.2.1 bt421.2.2.2.2.2.1 bt421.2.2.2.2.2.2.1 bt421.2.2.2.2.2.2.2.1 bt421.2.2.2.2.2.2.2.2.1 bt421.2.2.2.2.2.2.2.2.2).bind fun t432 => ((regs_Parse.f t432).bind fun bt433 => (if t402 = true then (if t413 = 0 then (if t416 = 0 then (if t415 = a2 then (if bt421.2.1 = ((((Int.tdiv t404 16) % 256) * 16) % 256) then ((regs_Flags.f bt421.1 bt421.2.1 bt421.2.2.1 bt421.2.2.2.1 bt421.2.2.2.2.1 bt421.2.2.2.2.2.1 bt421.2.2.2.2.2.2.1 bt421.2.2.2.2.2.2.2.1 bt421.2.2.2.2.2.2.2.2.1 bt421.2.2.2.2.2.2.2.2.2).bind fun bt445 => ((regs_Flags.f t403 t404 t405 t406 t407 t408 t409 t410 t411 t412).bind fun bt449 => (if (bt445.1 == bt449.1 && (bt445.2.1 == bt449.2.1 && (bt445.2.2.1 == bt449.2.2.1 && (bt445.2.2.2 == bt449.2.2.2)))) = true then (if (bt433.1 == bt421.1 && (bt433.2.1 == bt421.2.1 && (bt433.2.2.1 == bt421.2.2.1 && (bt433.2.2.2.1 == bt421.2.2.2.1 && (bt433.2.2.2.2.1 == bt421.2.2.2.2.1 && (bt433.2.2.2.2.2.1 == bt421.2.2.2.2.2.1 && (bt433.2.2.2.2.2.2.1 == bt421.2.2.2.2.2.2.1 && (bt433.2.2.2.2.2.2.2.1 == bt421.2.2.2.2.2.2.2.1 && (bt433.2.2.2.2.2.2.2.2.1 == bt421.2.2.2.2.2.2.2.2.1 && (bt433.2.2.2.2.2.2.2.2.2.1 == bt421.2.2.2.2.2.2.2.2.2)))))))))) = true then (some (bt433.2.2.2.2.2.2.2.2.2.2 == 0)) else (some false)) else (some false)))) else (some false)) else (some false)) else (some false)) else (some false)) else (some false))))) = some r := H
    have A34 := Aside0.mk A340
    clear A340
    replace H := Option.bind_eq_some_iff.mp H
    obtain ⟨⟨t421, t422, t423, t424, t425, t426, t427, t428, t429, t430⟩, A350, H⟩ := H
    replace H : ((regs_Text.f t421 t422 t423 t424 t425 t426 t427 t428 t429 t430).bind fun t432 => ((regs_Parse.f t432).bind fun bt433 => (if t402 = true then (if t413 = 0 then (if t416 = 0 then (if t415 = a2 then (if t422 = ((((Int.tdiv t404 16) % 256) * 16) % 256) then ((regs_Flags.f t421 t422 t423 t424 t425 t426 t427 t428 t429 t430).bind fun bt445 => ((regs_Flags.f t403 t404 t405 t406 t407 t408 t409 t410 t411 t412).bind fun bt449 => (if (bt445.1 == bt449.1 && (bt445.2.1 == bt449.2.1 && (bt445.2.2.1 == bt449.2.2.1 && (bt445.2.2.2 == bt449.2.2.2)))) = true then (if (bt433.1 == t421 && (bt433.2.1 == t422 && (bt433.2.2.1 == t423 && (bt433.2.2.2.1 == t424 && (bt433.2.2.2.2.1 == t425 && (bt433.2.2.2.2.2.1 == t426 && (bt433.2.2.2.2.2.2.1 == t427 && (bt433.2.2.2.2.2.2.2.1 == t428 && (bt433.2.2.2.2.2.2.2.2.1 == t429 && (bt433.2.2.2.2.2.2.2.2.2.1 == t430)))))))))) = true then (some (bt433.2.2.2.2.2.2.2.2.2.2 == 0)) else (some false)) else (some false)))) else (some false)) else (some false)) else (some false)) else (some false)) else (some false)))) = some r := H
    have A35 := Aside0.mk A350
    clear A350
    replace H := Option.bind_eq_some_iff.mp H
    obtain ⟨t432, A360, H⟩ := H
    replace H : ((regs_Parse.f t432).bind fun bt433 => (if t402 = true then (if t413 = 0 then (if t416 = 0 then (if t415 = a2 then (if t422 = ((((Int.tdiv t404 16) % 256) * 16) % 256) then ((regs_Flags.f t421 t422 t423 t424 t425 t426 t427 t428 t429 t430).bind fun bt445 => ((regs_Flags.f t403 t404 t405 t406 t407 t408 t409 t410 t411 t412).bind fun bt449 => (if (bt445.1 == bt449.1 && (bt445.2.1 == bt449.2.1 && (bt445.2.2.1 == bt449.2.2.1 && (bt445.2.2.2 == bt449.2.2.2)))) = true then (if (bt433.1 == t421 && (bt433.2.1 == t422 && (bt433.2.2.1 == t423 && (bt433.2.2.2.1 == t424 && (bt433.2.2.2.2.1 == t425 && (bt433.2.2.2.2.2.1 == t426 && (bt433.2.2.2.2.2.2.1 == t427 && (bt433.2.2.2.2.2.2.2.1 == t428 && (bt433.2.2.2.2.2.2.2.2.1 == t429 && (bt433.2.2.2.2.2.2.2.2.2.1 == t430)))))))))) = true then (some (bt433.2.2.2.2.2.2.2.2.2.2 == 0)) else (some false)) else (some false)))) else (some false)) else (some false)) else (some false)) else (some false)) else (some false))) = some r := H
    have A36 := Aside0.mk A360
    clear A360
    replace H := Option.bind_eq_some_iff.mp H
    obtain ⟨⟨t433, t434, t435, t436, t437, t438, t439, t440, t441, t442, t443⟩, A370, H⟩ := H
    replace H : (if t402 = true then (if t413 = 0 then (if t416 = 0 then (if t415 = a2 then (if t422 = ((((Int.tdiv t404 16) % 256) * 16) % 256) then ((regs_Flags.f t421 t422 t423 t424 t425 t426 t427 t428 t429 t430).bind fun bt445 => ((regs_Flags.f t403 t404 t405 t406 t407 t408 t409 t410 t411 t412).bind fun bt449 => (if (bt445.1 == bt449.1 && (bt445.2.1 == bt449.2.1 && (bt445.2.2.1 == bt449.2.2.1 && (bt445.2.2.2 == bt449.2.2.2)))) = true then (if (t433 == t421 && (t434 == t422 && (t435 == t423 && (t436 == t424 && (t437 == t425 && (t438 == t426 && (t439 == t427 && (t440 == t428 && (t441 == t429 && (t442 == t430)))))))))) = true then (some (t443 == 0)) else (some false)) else (some false)))) else (some false)) else (some false)) else (some false)) else (some false)) else (some false)) = some r := H
    have A37 := Aside0.mk A370
    clear A370
    by_cases c38 : t402 = true
    · subst c38
      have H1 : (if t413 = 0 then (if t416 = 0 then (if t415 = a2 then (if t422 = ((((Int.tdiv t404 16) % 256) * 16) % 256) then ((regs_Flags.f t421 t422 t423 t424 t425 t426 t427 t428 t429 t430).bind fun bt445 => ((regs_Flags.f t403 t404 t405 t406 t407 t408 t409 t410 t411 t412).bind fun bt449 => (if (bt445.1 == bt449.1 && (bt445.2.1 == bt449.2.1 && (bt445.2.2.1 == bt449.2.2.1 && (bt445.2.2.2 == bt449.2.2.2)))) = true then (if (t433 == t421 && (t434 == t422 && (t435 == t423 && (t436 == t424 && (t437 == t425 && (t438 == t426 && (t439 == t427 && (t440 == t428 && (t441 == t429 && (t442 == t430)))))))))) = true then (some (t443 == 0)) else (some false)) else (some false)))) else (some false)) else (some false)) else (some false)) else (some false)) = some r := by rw [if_pos rfl] at H; exact H
      clear H
      have H := H1
      clear H1
      by_cases c39 : t413 = 0
      · rw [if_pos c39] at H
        have c39b0 : (t413 == 0) = true := beq_iff_eq.mpr c39
        have c39b1 : (t413 != 0) = false := bne_eq_false_iff_eq.mpr c39
        clear c39
        by_cases c40 : t416 = 0
        · rw [if_pos c40] at H
          have c40b0 : (t416 == 0) = true := beq_iff_eq.mpr c40
          have c40b1 : (t416 != 0) = false := bne_eq_false_iff_eq.mpr c40
          clear c40
          by_cases c41 : t415 = a2
          · rw [if_pos c41] at H
            have c41b0 : (t415 == a2) = true := beq_iff_eq.mpr c41
            have c41b1 : (t415 != a2) = false := bne_eq_false_iff_eq.mpr c41
            clear c41
            by_cases c42 : t422 = ((((Int.tdiv t404 16) % 256) * 16) % 256)
            · rw [if_pos c42] at H
              have c42b0 : (t422 == ((((Int.tdiv t404 16) % 256) * 16) % 256)) = true := beq_iff_eq.mpr c42
              have c42b2 : (t422 == IntKind.u8.wrap (IntKind.u8.wrap (Int.tdiv t404 16) * 16)) = true := by simpa [IntKind.wrap, IntKind.bits, IntKind.signed] using c42b0
              have c42b1 : (t422 != ((((Int.tdiv t404 16) % 256) * 16) % 256)) = false := bne_eq_false_iff_eq.mpr c42
              clear c42
              replace H := Option.bind_eq_some_iff.mp H
              obtain ⟨⟨t445, t446, t447, t448⟩, A430, H⟩ := H
              replace H : ((regs_Flags.f t403 t404 t405 t406 t407 t408 t409 t410 t411 t412).bind fun bt449 => (if (t445 == bt449.1 && (t446 == bt449.2.1 && (t447 == bt449.2.2.1 && (t448 == bt449.2.2.2)))) = true then (if (t433 == t421 && (t434 == t422 && (t435 == t423 && (t436 == t424 && (t437 == t425 && (t438 == t426 && (t439 == t427 && (t440 == t428 && (t441 == t429 && (t442 == t430)))))))))) = true then (some (t443 == 0)) else (some false)) else (some false))) = some r := H
              have A43 := Aside0.mk A430
              clear A430
              replace H := Option.bind_eq_some_iff.mp H
              obtain ⟨⟨t449, t450, t451, t452⟩, A440, H⟩ := H
              replace H : (if (t445 == t449 && (t446 == t450 && (t447 == t451 && (t448 == t452)))) = true then (if (t433 == t421 && (t434 == t422 && (t435 == t423 && (t436 == t424 && (t437 == t425 && (t438 == t426 && (t439 == t427 && (t440 == t428 && (t441 == t429 && (t442 == t430)))))))))) = true then (some (t443 == 0)) else (some false)) else (some false)) = some r := H
              have A44 := Aside0.mk A440
              clear A440
              by_cases c45 : (t445 == t449 && (t446 == t450 && (t447 == t451 && (t448 == t452)))) = true
              · rw [if_pos c45] at H
                have c45b0 : (t445 == t449 && (t446 == t450 && (t447 == t451 && (t448 == t452)))) = true := c45
                (try (have c45b1 : decide (t445 = t449 && (t446 == t450 && (t447 == t451 && (t448 == t452)))) = true := by simpa using c45))
                (try (have c45b2 : (t445 == t449 && (t446 == t450 && (t447 == t451 && (t448 == t452)))) = true := by simpa using c45))
                clear c45
                by_cases c46 : (t433 == t421 && (t434 == t422 && (t435 == t423 && (t436 == t424 && (t437 == t425 && (t438 == t426 && (t439 == t427 && (t440 == t428 && (t441 == t429 && (t442 == t430)))))))))) = true
                · rw [if_pos c46] at H
                  have c46b0 : (t433 == t421 && (t434 == t422 && (t435 == t423 && (t436 == t424 && (t437 == t425 && (t438 == t426 && (t439 == t427 && (t440 == t428 && (t441 == t429 && (t442 == t430)))))))))) = true := c46
                  (try (have c46b1 : decide (t433 = t421 && (t434 == t422 && (t435 == t423 && (t436 == t424 && (t437 == t425 && (t438 == t426 && (t439 == t427 && (t440 == t428 && (t441 == t429 && (t442 == t430)))))))))) = true := by simpa using c46))
                  (try (have c46b2 : (t433 == t421 && (t434 == t422 && (t435 == t423 && (t436 == t424 && (t437 == t425 && (t438 == t426 && (t439 == t427 && (t440 == t428 && (t441 == t429 && (t442 == t430)))))))))) = true := by simpa using c46))
                  clear c46
                  obtain rfl := Option.some.inj H
                  go_enter Try.func11, Try.ntmps11
                  try go_wp2_with (first | ((with_reducible refine gate_dst (N := 3) rfl ?_); refine box_event ?hg (N := 3) ?hd (cs := #[.int .u8 a0_0, .int .u8 a0_1, .int .u8 a0_2, .int .u8 a0_3, .int .u8 a0_4, .int .u8 a0_5, .int .u8 a0_6, .int .u8 a0_7, .int .u16 a0_8, .int .u16 a0_9]) (t := 24) ?hr ?_; (case hd => rfl); (case hg => rfl); (case hr => first | (go_simp; done) | (go_simp; rfl)); intro gb401 hg w47 hbox hb; have n0_ := Aside0.mk (below_step (by repeat (first | (with_reducible first | exact HB.out | apply below_alloc | apply pw_below_drewN | apply below_drew1) | exact HB.out)) hb); have n1_ := Aside0.mk (hbox); have n2_ := Aside0.mk ((by rw [hg]; exact (below_size (by repeat (first | (with_reducible first | exact HB.out | apply below_alloc | apply pw_below_drewN | apply below_drew1) | exact HB.out))) : w.heap.size ≤ gb401)); have n3_ := Aside0.mk ((by rw [hg]; exact (below_size (by repeat (first | (with_reducible first | exact HB.out | apply below_alloc | apply pw_below_drewN | apply below_drew1) | exact HB.out))) : w.heap.size ≤ gb401)); clear HB; have HB := n0_; have BK401 := n1_; have GW401 := n2_; have GE401 := n3_; clear n0_ n1_ n2_ n3_; clear hb hbox hg) | ((with_reducible refine gate_callee (f := 12) rfl ?_); refine goesL_ (some 16) rfl rfl Try.func12 (by kernel_rfl) rfl #[] rfl (by (try simp only [List.map_toArray, List.map_cons, List.map_nil]); first | done | rfl | (simp only [List.length_drop, List.length_take]; rfl)) ?_; (with_reducible refine (whirligiglaw04_shown.calls k  true _ A4.out).mono ?_); rintro e w48 ⟨rfl, hb⟩; refine ⟨_, rfl, ?_⟩; have n0_ := Aside0.mk (blk_below (g := gb401) (o := .cells #[.int .u8 a0_0, .int .u8 a0_1, .int .u8 a0_2, .int .u8 a0_3, .int .u8 a0_4, .int .u8 a0_5, .int .u8 a0_6, .int .u8 a0_7, .int .u16 a0_8, .int .u16 a0_9] 24 (0, 0)) (by (with_reducible repeat (first | refine blk_drewN ?_ _ | refine blk_drew ?_ | refine blk_alloc ?_ _)); exact BK401.out) hb); have n1_ := Aside0.mk (below_step (by repeat (first | (with_reducible first | exact HB.out | apply below_alloc | apply pw_below_drewN | apply below_drew1 | refine below_set ?_ GE401.out) | exact HB.out)) hb); clear BK401; clear HB; have BK401 := n0_; have HB := n1_; clear n0_ n1_; (try clear hb); (try clear hb2); (try clear hk); (try clear hi); have hcz49_0 : w48.cell? ⟨gb401, 0, none⟩ = some (.int .u8 a0_0) := (blk_cell BK401.out 0).trans rfl; have hcz49_1 : w48.cell? ⟨gb401, 1, none⟩ = some (.int .u8 a0_1) := (blk_cell BK401.out 1).trans rfl; have hcz49_2 : w48.cell? ⟨gb401, 2, none⟩ = some (.int .u8 a0_2) := (blk_cell BK401.out 2).trans rfl; have hcz49_3 : w48.cell? ⟨gb401, 3, none⟩ = some (.int .u8 a0_3) := (blk_cell BK401.out 3).trans rfl; have hcz49_4 : w48.cell? ⟨gb401, 4, none⟩ = some (.int .u8 a0_4) := (blk_cell BK401.out 4).trans rfl; have hcz49_5 : w48.cell? ⟨gb401, 5, none⟩ = some (.int .u8 a0_5) := (blk_cell BK401.out 5).trans rfl; have hcz49_6 : w48.cell? ⟨gb401, 6, none⟩ = some (.int .u8 a0_6) := (blk_cell BK401.out 6).trans rfl; have hcz49_7 : w48.cell? ⟨gb401, 7, none⟩ = some (.int .u8 a0_7) := (blk_cell BK401.out 7).trans rfl; have hcz49_8 : w48.cell? ⟨gb401, 8, none⟩ = some (.int .u16 a0_8) := (blk_cell BK401.out 8).trans rfl; have hcz49_9 : w48.cell? ⟨gb401, 9, none⟩ = some (.int .u16 a0_9) := (blk_cell BK401.out 9).trans rfl; have hfz49_0 := blk_frozen BK401.out 0; have hfz49_1 := blk_frozen BK401.out 1; have hfz49_2 := blk_frozen BK401.out 2; have hfz49_3 := blk_frozen BK401.out 3; have hfz49_4 := blk_frozen BK401.out 4; have hfz49_5 := blk_frozen BK401.out 5; have hfz49_6 := blk_frozen BK401.out 6; have hfz49_7 := blk_frozen BK401.out 7; have hfz49_8 := blk_frozen BK401.out 8; have hfz49_9 := blk_frozen BK401.out 9) | ((with_reducible refine gate_callee (f := 19) rfl ?_); refine goesL_ (some 24) rfl rfl Try.func19 (by kernel_rfl) rfl #[.agg #[.int .u8 a0_0, .int .u8 a0_1, .int .u8 a0_2, .int .u8 a0_3, .int .u8 a0_4, .int .u8 a0_5, .int .u8 a0_6, .int .u8 a0_7, .int .u16 a0_8, .int .u16 a0_9], .int .i64 (wrap64 (Int.tmod a1 8)), .int .u8 a2] rfl (by (try simp only [List.map_toArray, List.map_cons, List.map_nil]); first | done | rfl | (simp only [List.length_drop, List.length_take]; rfl)) ?_; (with_reducible refine (regs_Put.calls a0_0 a0_1 a0_2 a0_3 a0_4 a0_5 a0_6 a0_7 a0_8 a0_9 (wrap64 (Int.tmod a1 8)) a2 t403 t404 t405 t406 t407 t408 t409 t410 t411 t412 t413 _ A5.out).mono ?_); rintro e w50 ⟨rfl, hb⟩; refine ⟨_, rfl, ?_⟩; have n0_ := Aside0.mk (blk_below (g := gb401) (o := .cells #[.int .u8 a0_0, .int .u8 a0_1, .int .u8 a0_2, .int .u8 a0_3, .int .u8 a0_4, .int .u8 a0_5, .int .u8 a0_6, .int .u8 a0_7, .int .u16 a0_8, .int .u16 a0_9] 24 (0, 0)) (by (with_reducible repeat (first | refine blk_drewN ?_ _ | refine blk_drew ?_ | refine blk_alloc ?_ _)); exact BK401.out) hb); have n1_ := Aside0.mk (below_step (by repeat (first | (with_reducible first | exact HB.out | apply below_alloc | apply pw_below_drewN | apply below_drew1 | refine below_set ?_ GE401.out) | exact HB.out)) hb); clear BK401; clear HB; have BK401 := n0_; have HB := n1_; clear n0_ n1_; (try clear hb); (try clear hb2); (try clear hk); (try clear hi)) | ((with_reducible refine gate_dst (N := 9) rfl ?_); refine box_event ?hg (N := 9) ?hd (cs := #[.int .u8 0, .int .u8 0, .int .u8 0, .int .u8 0, .int .u8 0, .int .u8 0, .int .u8 0, .int .u8 0, .int .u16 0, .int .u16 0]) (t := 24) ?hr ?_; (case hd => rfl); (case hg => rfl); (case hr => first | (go_simp; done) | (go_simp; rfl)); intro gb414 hg w51 hbox hb; have n0_ := Aside0.mk (blk_below (g := gb401) (o := .cells #[.int .u8 a0_0, .int .u8 a0_1, .int .u8 a0_2, .int .u8 a0_3, .int .u8 a0_4, .int .u8 a0_5, .int .u8 a0_6, .int .u8 a0_7, .int .u16 a0_8, .int .u16 a0_9] 24 (0, 0)) (by (with_reducible repeat (first | refine blk_drewN ?_ _ | refine blk_drew ?_ | refine blk_alloc ?_ _)); exact BK401.out) hb); have n1_ := Aside0.mk (below_step (by repeat (first | (with_reducible first | exact HB.out | apply below_alloc | apply pw_below_drewN | apply below_drew1 | refine below_set ?_ GE401.out) | exact HB.out)) hb); have n2_ := Aside0.mk (hbox); have n3_ := Aside0.mk ((by rw [hg]; exact (below_size (by repeat (first | (with_reducible first | exact HB.out | apply below_alloc | apply pw_below_drewN | apply below_drew1 | refine below_set ?_ GE401.out) | exact HB.out))) : w.heap.size ≤ gb414)); have n4_ := Aside0.mk ((by rw [hg]; exact (below_size (by repeat (first | (with_reducible first | exact HB.out | apply below_alloc | apply pw_below_drewN | apply below_drew1 | refine below_set ?_ GE401.out) | exact HB.out))) : w.heap.size ≤ gb414)); have n5_ := Aside0.mk ((by rw [hg]; exact Nat.ne_of_lt (blk_lt (g := gb401) (o := .cells #[.int .u8 a0_0, .int .u8 a0_1, .int .u8 a0_2, .int .u8 a0_3, .int .u8 a0_4, .int .u8 a0_5, .int .u8 a0_6, .int .u8 a0_7, .int .u16 a0_8, .int .u16 a0_9] 24 (0, 0)) (by (with_reducible repeat (first | refine blk_drewN ?_ _ | refine blk_drew ?_ | refine blk_alloc ?_ _)); exact BK401.out)) : gb401 ≠ gb414)); have n6_ := Aside0.mk ((by rw [hg]; exact Nat.ne_of_gt (blk_lt (g := gb401) (o := .cells #[.int .u8 a0_0, .int .u8 a0_1, .int .u8 a0_2, .int .u8 a0_3, .int .u8 a0_4, .int .u8 a0_5, .int .u8 a0_6, .int .u8 a0_7, .int .u16 a0_8, .int .u16 a0_9] 24 (0, 0)) (by (with_reducible repeat (first | refine blk_drewN ?_ _ | refine blk_drew ?_ | refine blk_alloc ?_ _)); exact BK401.out)) : gb414 ≠ gb401)); clear BK401; clear HB; have BK401 := n0_; have HB := n1_; have BK414 := n2_; have GW414 := n3_; have GE414 := n4_; have NB401_414 := n5_; have NB414_401 := n6_; clear n0_ n1_ n2_ n3_ n4_ n5_ n6_; clear hb hbox hg; have hnb52 := NB414_401.out; have hnc52 := NB401_414.out; have hcz53_0 : w51.cell? ⟨gb414, 0, none⟩ = some (.int .u8 0) := (blk_cell BK414.out 0).trans rfl; have hcz53_1 : w51.cell? ⟨gb414, 1, none⟩ = some (.int .u8 0) := (blk_cell BK414.out 1).trans rfl; have hcz53_2 : w51.cell? ⟨gb414, 2, none⟩ = some (.int .u8 0) := (blk_cell BK414.out 2).trans rfl; have hcz53_3 : w51.cell? ⟨gb414, 3, none⟩ = some (.int .u8 0) := (blk_cell BK414.out 3).trans rfl; have hcz53_4 : w51.cell? ⟨gb414, 4, none⟩ = some (.int .u8 0) := (blk_cell BK414.out 4).trans rfl; have hcz53_5 : w51.cell? ⟨gb414, 5, none⟩ = some (.int .u8 0) := (blk_cell BK414.out 5).trans rfl; have hcz53_6 : w51.cell? ⟨gb414, 6, none⟩ = some (.int .u8 0) := (blk_cell BK414.out 6).trans rfl; have hcz53_7 : w51.cell? ⟨gb414, 7, none⟩ = some (.int .u8 0) := (blk_cell BK414.out 7).trans rfl; have hcz53_8 : w51.cell? ⟨gb414, 8, none⟩ = some (.int .u16 0) := (blk_cell BK414.out 8).trans rfl; have hcz53_9 : w51.cell? ⟨gb414, 9, none⟩ = some (.int .u16 0) := (blk_cell BK414.out 9).trans rfl; have hfz53_0 := blk_frozen BK414.out 0; have hfz53_1 := blk_frozen BK414.out 1; have hfz53_2 := blk_frozen BK414.out 2; have hfz53_3 := blk_frozen BK414.out 3; have hfz53_4 := blk_frozen BK414.out 4; have hfz53_5 := blk_frozen BK414.out 5; have hfz53_6 := blk_frozen BK414.out 6; have hfz53_7 := blk_frozen BK414.out 7; have hfz53_8 := blk_frozen BK414.out 8; have hfz53_9 := blk_frozen BK414.out 9) | ((with_reducible refine gate_callee (f := 13) rfl ?_); refine goesL_ (some 30) rfl rfl Try.func13 (by kernel_rfl) rfl #[.agg #[.int .u8 t403, .int .u8 t404, .int .u8 t405, .int .u8 t406, .int .u8 t407, .int .u8 t408, .int .u8 t409, .int .u8 t410, .int .u16 t411, .int .u16 t412], .int .i64 (wrap64 (Int.tmod a1 8))] rfl (by (try simp only [List.map_toArray, List.map_cons, List.map_nil]); first | done | rfl | (simp only [List.length_drop, List.length_take]; rfl)) ?_; (with_reducible refine (regs_Get.calls t403 t404 t405 t406 t407 t408 t409 t410 t411 t412 (wrap64 (Int.tmod a1 8)) t415 t416 _ A6.out).mono ?_); rintro e w54 ⟨rfl, hb⟩; refine ⟨_, rfl, ?_⟩; have n0_ := Aside0.mk (blk_below (g := gb401) (o := .cells #[.int .u8 a0_0, .int .u8 a0_1, .int .u8 a0_2, .int .u8 a0_3, .int .u8 a0_4, .int .u8 a0_5, .int .u8 a0_6, .int .u8 a0_7, .int .u16 a0_8, .int .u16 a0_9] 24 (0, 0)) (by (with_reducible repeat (first | refine blk_drewN ?_ _ | refine blk_drew ?_ | refine blk_alloc ?_ _)); refine blk_far ?_ NB401_414.out _; (with_reducible repeat (first | refine blk_drewN ?_ _ | refine blk_drew ?_ | refine blk_alloc ?_ _)); refine blk_far ?_ NB401_414.out _; (with_reducible repeat (first | refine blk_drewN ?_ _ | refine blk_drew ?_ | refine blk_alloc ?_ _)); refine blk_far ?_ NB401_414.out _; (with_reducible repeat (first | refine blk_drewN ?_ _ | refine blk_drew ?_ | refine blk_alloc ?_ _)); refine blk_far ?_ NB401_414.out _; (with_reducible repeat (first | refine blk_drewN ?_ _ | refine blk_drew ?_ | refine blk_alloc ?_ _)); refine blk_far ?_ NB401_414.out _; (with_reducible repeat (first | refine blk_drewN ?_ _ | refine blk_drew ?_ | refine blk_alloc ?_ _)); refine blk_far ?_ NB401_414.out _; (with_reducible repeat (first | refine blk_drewN ?_ _ | refine blk_drew ?_ | refine blk_alloc ?_ _)); refine blk_far ?_ NB401_414.out _; (with_reducible repeat (first | refine blk_drewN ?_ _ | refine blk_drew ?_ | refine blk_alloc ?_ _)); refine blk_far ?_ NB401_414.out _; (with_reducible repeat (first | refine blk_drewN ?_ _ | refine blk_drew ?_ | refine blk_alloc ?_ _)); refine blk_far ?_ NB401_414.out _; (with_reducible repeat (first | refine blk_drewN ?_ _ | refine blk_drew ?_ | refine blk_alloc ?_ _)); refine blk_far ?_ NB401_414.out _; (with_reducible repeat (first | refine blk_drewN ?_ _ | refine blk_drew ?_ | refine blk_alloc ?_ _)); exact BK401.out) hb); have n1_ := Aside0.mk (blk_below (g := gb414) (o := .cells #[.int .u8 t403, .int .u8 t404, .int .u8 t405, .int .u8 t406, .int .u8 t407, .int .u8 t408, .int .u8 t409, .int .u8 t410, .int .u16 t411, .int .u16 t412] 24 (0, 0)) (by (with_reducible repeat (first | refine blk_drewN ?_ _ | refine blk_drew ?_ | refine blk_alloc ?_ _)); refine blk_put (cs := #[.int .u8 t403, .int .u8 t404, .int .u8 t405, .int .u8 t406, .int .u8 t407, .int .u8 t408, .int .u8 t409, .int .u8 t410, .int .u16 t411, .int .u16 0]) ?_ 9 _ rfl; (with_reducible repeat (first | refine blk_drewN ?_ _ | refine blk_drew ?_ | refine blk_alloc ?_ _)); refine blk_put (cs := #[.int .u8 t403, .int .u8 t404, .int .u8 t405, .int .u8 t406, .int .u8 t407, .int .u8 t408, .int .u8 t409, .int .u8 t410, .int .u16 0, .int .u16 0]) ?_ 8 _ rfl; (with_reducible repeat (first | refine blk_drewN ?_ _ | refine blk_drew ?_ | refine blk_alloc ?_ _)); refine blk_put (cs := #[.int .u8 t403, .int .u8 t404, .int .u8 t405, .int .u8 t406, .int .u8 t407, .int .u8 t408, .int .u8 t409, .int .u8 0, .int .u16 0, .int .u16 0]) ?_ 7 _ rfl; (with_reducible repeat (first | refine blk_drewN ?_ _ | refine blk_drew ?_ | refine blk_alloc ?_ _)); refine blk_put (cs := #[.int .u8 t403, .int .u8 t404, .int .u8 t405, .int .u8 t406, .int .u8 t407, .int .u8 t408, .int .u8 0, .int .u8 0, .int .u16 0, .int .u16 0]) ?_ 6 _ rfl; (with_reducible repeat (first | refine blk_drewN ?_ _ | refine blk_drew ?_ | refine blk_alloc ?_ _)); refine blk_put (cs := #[.int .u8 t403, .int .u8 t404, .int .u8 t405, .int .u8 t406, .int .u8 t407, .int .u8 0, .int .u8 0, .int .u8 0, .int .u16 0, .int .u16 0]) ?_ 5 _ rfl; (with_reducible repeat (first | refine blk_drewN ?_ _ | refine blk_drew ?_ | refine blk_alloc ?_ _)); refine blk_put (cs := #[.int .u8 t403, .int .u8 t404, .int .u8 t405, .int .u8 t406, .int .u8 0, .int .u8 0, .int .u8 0, .int .u8 0, .int .u16 0, .int .u16 0]) ?_ 4 _ rfl; (with_reducible repeat (first | refine blk_drewN ?_ _ | refine blk_drew ?_ | refine blk_alloc ?_ _)); refine blk_put (cs := #[.int .u8 t403, .int .u8 t404, .int .u8 t405, .int .u8 0, .int .u8 0, .int .u8 0, .int .u8 0, .int .u8 0, .int .u16 0, .int .u16 0]) ?_ 3 _ rfl; (with_reducible repeat (first | refine blk_drewN ?_ _ | refine blk_drew ?_ | refine blk_alloc ?_ _)); refine blk_put (cs := #[.int .u8 t403, .int .u8 t404, .int .u8 0, .int .u8 0, .int .u8 0, .int .u8 0, .int .u8 0, .int .u8 0, .int .u16 0, .int .u16 0]) ?_ 2 _ rfl; (with_reducible repeat (first | refine blk_drewN ?_ _ | refine blk_drew ?_ | refine blk_alloc ?_ _)); refine blk_put (cs := #[.int .u8 t403, .int .u8 0, .int .u8 0, .int .u8 0, .int .u8 0, .int .u8 0, .int .u8 0, .int .u8 0, .int .u16 0, .int .u16 0]) ?_ 1 _ rfl; (with_reducible repeat (first | refine blk_drewN ?_ _ | refine blk_drew ?_ | refine blk_alloc ?_ _)); refine blk_put (cs := #[.int .u8 0, .int .u8 0, .int .u8 0, .int .u8 0, .int .u8 0, .int .u8 0, .int .u8 0, .int .u8 0, .int .u16 0, .int .u16 0]) ?_ 0 _ rfl; (with_reducible repeat (first | refine blk_drewN ?_ _ | refine blk_drew ?_ | refine blk_alloc ?_ _)); exact BK414.out) hb); have n2_ := Aside0.mk (below_step (by repeat (first | (with_reducible first | exact HB.out | apply below_alloc | apply pw_below_drewN | apply below_drew1 | refine below_set ?_ GE401.out | refine below_set ?_ GE414.out) | exact HB.out)) hb); clear BK401; clear BK414; clear HB; have BK401 := n0_; have BK414 := n1_; have HB := n2_; clear n0_ n1_ n2_; (try clear hb); (try clear hb2); (try clear hk); (try clear hi)))
                  have n0_ := Aside0.mk (blk_drew BK401.out)
                  have n1_ := Aside0.mk (blk_drew BK414.out)
                  have n2_ := Aside0.mk (below_drew1 HB.out)
                  clear BK401
                  clear BK414
                  clear HB
                  have BK401 := n0_
                  have BK414 := n1_
                  have HB := n2_
                  clear n0_ n1_ n2_
                  refine start_ (n := 6) (S := fun w' => w'.cell? ⟨gb414, 0, none⟩ = some (.int .u8 t403) ∧ w'.cell? ⟨gb414, 1, none⟩ = some (.int .u8 t404) ∧ w'.cell? ⟨gb414, 2, none⟩ = some (.int .u8 t405) ∧ w'.cell? ⟨gb414, 3, none⟩ = some (.int .u8 t406) ∧ w'.cell? ⟨gb414, 4, none⟩ = some (.int .u8 t407) ∧ w'.cell? ⟨gb414, 5, none⟩ = some (.int .u8 t408) ∧ w'.cell? ⟨gb414, 6, none⟩ = some (.int .u8 t409) ∧ w'.cell? ⟨gb414, 7, none⟩ = some (.int .u8 t410) ∧ w'.cell? ⟨gb414, 8, none⟩ = some (.int .u16 t411) ∧ w'.cell? ⟨gb414, 9, none⟩ = some (.int .u16 t412)) (ds := []) #[false, false, false, false, false, false] (by kernel_rfl) rfl rfl ⟨(blk_cell BK414.out 0).trans rfl, (blk_cell BK414.out 1).trans rfl, (blk_cell BK414.out 2).trans rfl, (blk_cell BK414.out 3).trans rfl, (blk_cell BK414.out 4).trans rfl, (blk_cell BK414.out 5).trans rfl, (blk_cell BK414.out 6).trans rfl, (blk_cell BK414.out 7).trans rfl, (blk_cell BK414.out 8).trans rfl, (blk_cell BK414.out 9).trans rfl⟩ (fun hHeld => ?_)
                  generalize w54.drew = w55 at BK401 BK414 HB hHeld ⊢
                  refine take_ (i := 0) (N := some 44) (v := ?_) (a' := ?_) #[true, false, false, false, false, false] rfl rfl (by kernel_rfl) (fun _ _ _ h => h) (Or.inl ⟨by rfl, ?_⟩) hHeld ?_ ?_
                  rotate_left
                  · rintro w' ⟨s0, s1, s2, s3, s4, s5, s6, s7, s8, s9⟩
                    go_simp
                    with_reducible rfl
                  rotate_left
                  · simp only [Act.put, List.setIfInBounds_toArray, List.set_cons_zero, List.set_cons_succ, i64_w, i32_w]
                    rfl
                  refine take_ (i := 1) (N := some 45) (v := ?_) (a' := ?_) #[true, true, false, false, false, false] rfl rfl (by kernel_rfl) (fun _ _ _ h => h) (Or.inl ⟨by rfl, ?_⟩) hHeld ?_ ?_
                  rotate_left
                  · rintro w' ⟨s0, s1, s2, s3, s4, s5, s6, s7, s8, s9⟩
                    go_simp
                    with_reducible rfl
                  rotate_left
                  · simp only [Act.put, List.setIfInBounds_toArray, List.set_cons_zero, List.set_cons_succ, i64_w, i32_w]
                    rfl
                  refine join_ (σ := Nat) 1 #[true, true, true, true, true, false] (fun s_ => [(46, .agg #[.bool t417, .bool t418, .bool t419, .bool t420]), (47, .agg #[.int .u8 t421, .int .u8 t422, .int .u8 t423, .int .u8 t424, .int .u8 t425, .int .u8 t426, .int .u8 t427, .int .u8 t428, .int .u16 t429, .int .u16 t430]), (13, .pointer (some ⟨s_, 0, none⟩))]) (fun s_ w' => (w'.cell? ⟨gb414, 0, none⟩ = some (.int .u8 t403) ∧ w'.cell? ⟨gb414, 1, none⟩ = some (.int .u8 t404) ∧ w'.cell? ⟨gb414, 2, none⟩ = some (.int .u8 t405) ∧ w'.cell? ⟨gb414, 3, none⟩ = some (.int .u8 t406) ∧ w'.cell? ⟨gb414, 4, none⟩ = some (.int .u8 t407) ∧ w'.cell? ⟨gb414, 5, none⟩ = some (.int .u8 t408) ∧ w'.cell? ⟨gb414, 6, none⟩ = some (.int .u8 t409) ∧ w'.cell? ⟨gb414, 7, none⟩ = some (.int .u8 t410) ∧ w'.cell? ⟨gb414, 8, none⟩ = some (.int .u16 t411) ∧ w'.cell? ⟨gb414, 9, none⟩ = some (.int .u16 t412)) ∧ (w'.heap[gb401]? = some (.cells #[.int .u8 a0_0, .int .u8 a0_1, .int .u8 a0_2, .int .u8 a0_3, .int .u8 a0_4, .int .u8 a0_5, .int .u8 a0_6, .int .u8 a0_7, .int .u16 a0_8, .int .u16 a0_9] 24 (0, 0))) ∧ (w'.heap[gb414]? = some (.cells #[.int .u8 t403, .int .u8 t404, .int .u8 t405, .int .u8 t406, .int .u8 t407, .int .u8 t408, .int .u8 t409, .int .u8 t410, .int .u16 t411, .int .u16 t412] 24 (0, 0))) ∧ (w'.heap[s_]? = some (.cells #[.int .u8 0, .int .u8 0, .int .u8 0, .int .u8 0, .int .u8 0, .int .u8 0, .int .u8 0, .int .u8 0, .int .u16 0, .int .u16 0] 24 (0, 0))) ∧ (w.heap.size ≤ s_) ∧ (w.heap.size ≤ s_) ∧ (gb401 ≠ s_) ∧ (s_ ≠ gb401) ∧ (gb414 ≠ s_) ∧ (s_ ≠ gb414) ∧ (Below w.heap.size w w')) ?_ ?_
                  rotate_left
                  · intro hCont
                    refine two_ (i := 2) (j := 4) (Ni := some 46) (Nj := some 13) #[true, true, true, false, false, false] #[true, true, false, false, true, false] rfl rfl rfl rfl (by kernel_rfl) (by decide) (by decide) (fun K hK => ?_) (fun K hK => ?_)
                    · skip
                      refine goes_ Try.func21 (by kernel_rfl) rfl #[.agg #[.int .u8 t403, .int .u8 t404, .int .u8 t405, .int .u8 t406, .int .u8 t407, .int .u8 t408, .int .u8 t409, .int .u8 t410, .int .u16 t411, .int .u16 t412]] (by rfl) rfl rfl (by (try simp only [List.map_toArray, List.map_cons, List.map_nil]); first | done | rfl | (simp only [List.length_drop, List.length_take]; rfl)) ?_
                      with_reducible refine (regs_Flags.calls t403 t404 t405 t406 t407 t408 t409 t410 t411 t412 t417 t418 t419 t420 _ A34.out).mono ?_
                      rintro e w56 ⟨rfl, hb⟩
                      refine ⟨_, rfl, ?_⟩
                      have n0_ := Aside0.mk (blk_below (g := gb401) (o := .cells #[.int .u8 a0_0, .int .u8 a0_1, .int .u8 a0_2, .int .u8 a0_3, .int .u8 a0_4, .int .u8 a0_5, .int .u8 a0_6, .int .u8 a0_7, .int .u16 a0_8, .int .u16 a0_9] 24 (0, 0)) (by (with_reducible repeat (first | refine blk_drewN ?_ _ | refine blk_drew ?_ | refine blk_alloc ?_ _)); exact BK401.out) hb)
                      have n1_ := Aside0.mk (blk_below (g := gb414) (o := .cells #[.int .u8 t403, .int .u8 t404, .int .u8 t405, .int .u8 t406, .int .u8 t407, .int .u8 t408, .int .u8 t409, .int .u8 t410, .int .u16 t411, .int .u16 t412] 24 (0, 0)) (by (with_reducible repeat (first | refine blk_drewN ?_ _ | refine blk_drew ?_ | refine blk_alloc ?_ _)); exact BK414.out) hb)
                      have n2_ := Aside0.mk (below_step (by repeat (first | (with_reducible first | exact HB.out | apply below_alloc | apply pw_below_drewN | apply below_drew1 | refine below_set ?_ GE401.out | refine below_set ?_ GE414.out) | exact HB.out)) hb)
                      clear BK401
                      clear BK414
                      clear HB
                      have BK401 := n0_
                      have BK414 := n1_
                      have HB := n2_
                      clear n0_ n1_ n2_
                      (try clear hb)
                      (try clear hb2)
                      (try clear hk)
                      (try clear hi)
                      refine hK.out _ _ ⟨(blk_cell BK414.out 0).trans rfl, (blk_cell BK414.out 1).trans rfl, (blk_cell BK414.out 2).trans rfl, (blk_cell BK414.out 3).trans rfl, (blk_cell BK414.out 4).trans rfl, (blk_cell BK414.out 5).trans rfl, (blk_cell BK414.out 6).trans rfl, (blk_cell BK414.out 7).trans rfl, (blk_cell BK414.out 8).trans rfl, (blk_cell BK414.out 9).trans rfl⟩ (fun hHeld => ?_)
                      clear hK K
                      refine norm_ (a' := ?_) ?_ ?_
                      rotate_left
                      · show Act.put _ (some 46) _ = _
                        simp only [Act.put, List.setIfInBounds_toArray, List.set_cons_zero, List.set_cons_succ, i64_w, i32_w]
                        rfl
                      refine two_ (i := 3) (j := 4) (Ni := some 47) (Nj := some 13) #[true, true, true, true, false, false] #[true, true, true, false, true, false] rfl rfl rfl rfl (by kernel_rfl) (by decide) (by decide) (fun K hK => ?_) (fun K hK => ?_)
                      · skip
                        refine goes_ Try.func23 (by kernel_rfl) rfl #[.agg #[.int .u8 t403, .int .u8 t404, .int .u8 t405, .int .u8 t406, .int .u8 t407, .int .u8 t408, .int .u8 t409, .int .u8 t410, .int .u16 t411, .int .u16 t412], .agg #[.bool t417, .bool t418, .bool t419, .bool t420]] (by rfl) rfl rfl (by (try simp only [List.map_toArray, List.map_cons, List.map_nil]); first | done | rfl | (simp only [List.length_drop, List.length_take]; rfl)) ?_
                        with_reducible refine (regs_WithFlags.calls t403 t404 t405 t406 t407 t408 t409 t410 t411 t412 t417 t418 t419 t420 t421 t422 t423 t424 t425 t426 t427 t428 t429 t430 _ A35.out).mono ?_
                        rintro e w57 ⟨rfl, hb⟩
                        refine ⟨_, rfl, ?_⟩
                        have n0_ := Aside0.mk (blk_below (g := gb401) (o := .cells #[.int .u8 a0_0, .int .u8 a0_1, .int .u8 a0_2, .int .u8 a0_3, .int .u8 a0_4, .int .u8 a0_5, .int .u8 a0_6, .int .u8 a0_7, .int .u16 a0_8, .int .u16 a0_9] 24 (0, 0)) (by (with_reducible repeat (first | refine blk_drewN ?_ _ | refine blk_drew ?_ | refine blk_alloc ?_ _)); exact BK401.out) hb)
                        have n1_ := Aside0.mk (blk_below (g := gb414) (o := .cells #[.int .u8 t403, .int .u8 t404, .int .u8 t405, .int .u8 t406, .int .u8 t407, .int .u8 t408, .int .u8 t409, .int .u8 t410, .int .u16 t411, .int .u16 t412] 24 (0, 0)) (by (with_reducible repeat (first | refine blk_drewN ?_ _ | refine blk_drew ?_ | refine blk_alloc ?_ _)); exact BK414.out) hb)
                        have n2_ := Aside0.mk (below_step (by repeat (first | (with_reducible first | exact HB.out | apply below_alloc | apply pw_below_drewN | apply below_drew1 | refine below_set ?_ GE401.out | refine below_set ?_ GE414.out) | exact HB.out)) hb)
                        clear BK401
                        clear BK414
                        clear HB
                        have BK401 := n0_
                        have BK414 := n1_
                        have HB := n2_
                        clear n0_ n1_ n2_
                        (try clear hb)
                        (try clear hb2)
                        (try clear hk)
                        (try clear hi)
                        refine hK.out _ _ ⟨(blk_cell BK414.out 0).trans rfl, (blk_cell BK414.out 1).trans rfl, (blk_cell BK414.out 2).trans rfl, (blk_cell BK414.out 3).trans rfl, (blk_cell BK414.out 4).trans rfl, (blk_cell BK414.out 5).trans rfl, (blk_cell BK414.out 6).trans rfl, (blk_cell BK414.out 7).trans rfl, (blk_cell BK414.out 8).trans rfl, (blk_cell BK414.out 9).trans rfl⟩ (fun hHeld => ?_)
                        clear hK K
                        refine norm_ (a' := ?_) ?_ ?_
                        rotate_left
                        · show Act.put _ (some 47) _ = _
                          simp only [Act.put, List.setIfInBounds_toArray, List.set_cons_zero, List.set_cons_succ, i64_w, i32_w]
                          rfl
                        refine one_ (i := 4) (N := some 13) #[true, true, true, true, true, false] rfl rfl (by kernel_rfl) (by decide) (fun K hK => ?_)
                        refine box_step ?hg (N := 13) ?hd (cs := #[.int .u8 0, .int .u8 0, .int .u8 0, .int .u8 0, .int .u8 0, .int .u8 0, .int .u8 0, .int .u8 0, .int .u16 0, .int .u16 0]) (t := 24) ?hr ?_; (case hd => rfl); (case hg => rfl); (case hr => first | (go_simp; done) | (go_simp; rfl))
                        intro gb431 hg w58 hbox hb
                        have n0_ := Aside0.mk (blk_below (g := gb401) (o := .cells #[.int .u8 a0_0, .int .u8 a0_1, .int .u8 a0_2, .int .u8 a0_3, .int .u8 a0_4, .int .u8 a0_5, .int .u8 a0_6, .int .u8 a0_7, .int .u16 a0_8, .int .u16 a0_9] 24 (0, 0)) (by (with_reducible repeat (first | refine blk_drewN ?_ _ | refine blk_drew ?_ | refine blk_alloc ?_ _)); exact BK401.out) hb)
                        have n1_ := Aside0.mk (blk_below (g := gb414) (o := .cells #[.int .u8 t403, .int .u8 t404, .int .u8 t405, .int .u8 t406, .int .u8 t407, .int .u8 t408, .int .u8 t409, .int .u8 t410, .int .u16 t411, .int .u16 t412] 24 (0, 0)) (by (with_reducible repeat (first | refine blk_drewN ?_ _ | refine blk_drew ?_ | refine blk_alloc ?_ _)); exact BK414.out) hb)
                        have n2_ := Aside0.mk (below_step (by repeat (first | (with_reducible first | exact HB.out | apply below_alloc | apply pw_below_drewN | apply below_drew1 | refine below_set ?_ GE401.out | refine below_set ?_ GE414.out) | exact HB.out)) hb)
                        have n3_ := Aside0.mk (hbox)
                        have n4_ := Aside0.mk ((by rw [hg]; exact (below_size (by repeat (first | (with_reducible first | exact HB.out | apply below_alloc | apply pw_below_drewN | apply below_drew1 | refine below_set ?_ GE401.out | refine below_set ?_ GE414.out) | exact HB.out))) : w.heap.size ≤ gb431))
                        have n5_ := Aside0.mk ((by rw [hg]; exact (below_size (by repeat (first | (with_reducible first | exact HB.out | apply below_alloc | apply pw_below_drewN | apply below_drew1 | refine below_set ?_ GE401.out | refine below_set ?_ GE414.out) | exact HB.out))) : w.heap.size ≤ gb431))
                        have n6_ := Aside0.mk ((by rw [hg]; exact Nat.ne_of_lt (blk_lt (g := gb401) (o := .cells #[.int .u8 a0_0, .int .u8 a0_1, .int .u8 a0_2, .int .u8 a0_3, .int .u8 a0_4, .int .u8 a0_5, .int .u8 a0_6, .int .u8 a0_7, .int .u16 a0_8, .int .u16 a0_9] 24 (0, 0)) (by (with_reducible repeat (first | refine blk_drewN ?_ _ | refine blk_drew ?_ | refine blk_alloc ?_ _)); exact BK401.out)) : gb401 ≠ gb431))
                        have n7_ := Aside0.mk ((by rw [hg]; exact Nat.ne_of_gt (blk_lt (g := gb401) (o := .cells #[.int .u8 a0_0, .int .u8 a0_1, .int .u8 a0_2, .int .u8 a0_3, .int .u8 a0_4, .int .u8 a0_5, .int .u8 a0_6, .int .u8 a0_7, .int .u16 a0_8, .int .u16 a0_9] 24 (0, 0)) (by (with_reducible repeat (first | refine blk_drewN ?_ _ | refine blk_drew ?_ | refine blk_alloc ?_ _)); exact BK401.out)) : gb431 ≠ gb401))
                        have n8_ := Aside0.mk ((by rw [hg]; exact Nat.ne_of_lt (blk_lt (g := gb414) (o := .cells #[.int .u8 t403, .int .u8 t404, .int .u8 t405, .int .u8 t406, .int .u8 t407, .int .u8 t408, .int .u8 t409, .int .u8 t410, .int .u16 t411, .int .u16 t412] 24 (0, 0)) (by (with_reducible repeat (first | refine blk_drewN ?_ _ | refine blk_drew ?_ | refine blk_alloc ?_ _)); exact BK414.out)) : gb414 ≠ gb431))
                        have n9_ := Aside0.mk ((by rw [hg]; exact Nat.ne_of_gt (blk_lt (g := gb414) (o := .cells #[.int .u8 t403, .int .u8 t404, .int .u8 t405, .int .u8 t406, .int .u8 t407, .int .u8 t408, .int .u8 t409, .int .u8 t410, .int .u16 t411, .int .u16 t412] 24 (0, 0)) (by (with_reducible repeat (first | refine blk_drewN ?_ _ | refine blk_drew ?_ | refine blk_alloc ?_ _)); exact BK414.out)) : gb431 ≠ gb414))
                        clear BK401
                        clear BK414
                        clear HB
                        have BK401 := n0_
                        have BK414 := n1_
                        have HB := n2_
                        have BK431 := n3_
                        have GW431 := n4_
                        have GE431 := n5_
                        have NB401_431 := n6_
                        have NB431_401 := n7_
                        have NB414_431 := n8_
                        have NB431_414 := n9_
                        clear n0_ n1_ n2_ n3_ n4_ n5_ n6_ n7_ n8_ n9_
                        clear hb hbox hg
                        refine hK.out _ _ ⟨(blk_cell BK414.out 0).trans rfl, (blk_cell BK414.out 1).trans rfl, (blk_cell BK414.out 2).trans rfl, (blk_cell BK414.out 3).trans rfl, (blk_cell BK414.out 4).trans rfl, (blk_cell BK414.out 5).trans rfl, (blk_cell BK414.out 6).trans rfl, (blk_cell BK414.out 7).trans rfl, (blk_cell BK414.out 8).trans rfl, (blk_cell BK414.out 9).trans rfl⟩ (fun hHeld => ?_)
                        clear hK K
                        refine norm_ (a' := ?_) ?_ ?_
                        rotate_left
                        · show Act.put _ (some 13) _ = _
                          simp only [Act.put, List.setIfInBounds_toArray, List.set_cons_zero, List.set_cons_succ, i64_w, i32_w]
                          rfl
                        exact norm_ (by simp only [putAll, Act.put, List.setIfInBounds_toArray, List.set_cons_zero, List.set_cons_succ]) (hCont (gb431) _ ⟨hHeld, (by (with_reducible repeat (first | refine blk_drewN ?_ _ | refine blk_drew ?_ | refine blk_alloc ?_ _)); exact BK401.out), (by (with_reducible repeat (first | refine blk_drewN ?_ _ | refine blk_drew ?_ | refine blk_alloc ?_ _)); exact BK414.out), (by (with_reducible repeat (first | refine blk_drewN ?_ _ | refine blk_drew ?_ | refine blk_alloc ?_ _)); exact BK431.out), GW431.out, GE431.out, NB401_431.out, NB431_401.out, NB414_431.out, NB431_414.out, (by repeat (first | (with_reducible first | exact HB.out | apply below_alloc | apply pw_below_drewN | apply below_drew1 | refine below_set ?_ GE401.out | refine below_set ?_ GE414.out | refine below_set ?_ GE431.out) | exact HB.out))⟩)
                      · skip
                        refine box_step ?hg (N := 13) ?hd (cs := #[.int .u8 0, .int .u8 0, .int .u8 0, .int .u8 0, .int .u8 0, .int .u8 0, .int .u8 0, .int .u8 0, .int .u16 0, .int .u16 0]) (t := 24) ?hr ?_; (case hd => rfl); (case hg => rfl); (case hr => first | (go_simp; done) | (go_simp; rfl))
                        intro gb431 hg w57 hbox hb
                        have n0_ := Aside0.mk (blk_below (g := gb401) (o := .cells #[.int .u8 a0_0, .int .u8 a0_1, .int .u8 a0_2, .int .u8 a0_3, .int .u8 a0_4, .int .u8 a0_5, .int .u8 a0_6, .int .u8 a0_7, .int .u16 a0_8, .int .u16 a0_9] 24 (0, 0)) (by (with_reducible repeat (first | refine blk_drewN ?_ _ | refine blk_drew ?_ | refine blk_alloc ?_ _)); exact BK401.out) hb)
                        have n1_ := Aside0.mk (blk_below (g := gb414) (o := .cells #[.int .u8 t403, .int .u8 t404, .int .u8 t405, .int .u8 t406, .int .u8 t407, .int .u8 t408, .int .u8 t409, .int .u8 t410, .int .u16 t411, .int .u16 t412] 24 (0, 0)) (by (with_reducible repeat (first | refine blk_drewN ?_ _ | refine blk_drew ?_ | refine blk_alloc ?_ _)); exact BK414.out) hb)
                        have n2_ := Aside0.mk (below_step (by repeat (first | (with_reducible first | exact HB.out | apply below_alloc | apply pw_below_drewN | apply below_drew1 | refine below_set ?_ GE401.out | refine below_set ?_ GE414.out) | exact HB.out)) hb)
                        have n3_ := Aside0.mk (hbox)
                        have n4_ := Aside0.mk ((by rw [hg]; exact (below_size (by repeat (first | (with_reducible first | exact HB.out | apply below_alloc | apply pw_below_drewN | apply below_drew1 | refine below_set ?_ GE401.out | refine below_set ?_ GE414.out) | exact HB.out))) : w.heap.size ≤ gb431))
                        have n5_ := Aside0.mk ((by rw [hg]; exact (below_size (by repeat (first | (with_reducible first | exact HB.out | apply below_alloc | apply pw_below_drewN | apply below_drew1 | refine below_set ?_ GE401.out | refine below_set ?_ GE414.out) | exact HB.out))) : w.heap.size ≤ gb431))
                        have n6_ := Aside0.mk ((by rw [hg]; exact Nat.ne_of_lt (blk_lt (g := gb401) (o := .cells #[.int .u8 a0_0, .int .u8 a0_1, .int .u8 a0_2, .int .u8 a0_3, .int .u8 a0_4, .int .u8 a0_5, .int .u8 a0_6, .int .u8 a0_7, .int .u16 a0_8, .int .u16 a0_9] 24 (0, 0)) (by (with_reducible repeat (first | refine blk_drewN ?_ _ | refine blk_drew ?_ | refine blk_alloc ?_ _)); exact BK401.out)) : gb401 ≠ gb431))
                        have n7_ := Aside0.mk ((by rw [hg]; exact Nat.ne_of_gt (blk_lt (g := gb401) (o := .cells #[.int .u8 a0_0, .int .u8 a0_1, .int .u8 a0_2, .int .u8 a0_3, .int .u8 a0_4, .int .u8 a0_5, .int .u8 a0_6, .int .u8 a0_7, .int .u16 a0_8, .int .u16 a0_9] 24 (0, 0)) (by (with_reducible repeat (first | refine blk_drewN ?_ _ | refine blk_drew ?_ | refine blk_alloc ?_ _)); exact BK401.out)) : gb431 ≠ gb401))
                        have n8_ := Aside0.mk ((by rw [hg]; exact Nat.ne_of_lt (blk_lt (g := gb414) (o := .cells #[.int .u8 t403, .int .u8 t404, .int .u8 t405, .int .u8 t406, .int .u8 t407, .int .u8 t408, .int .u8 t409, .int .u8 t410, .int .u16 t411, .int .u16 t412] 24 (0, 0)) (by (with_reducible repeat (first | refine blk_drewN ?_ _ | refine blk_drew ?_ | refine blk_alloc ?_ _)); exact BK414.out)) : gb414 ≠ gb431))
                        have n9_ := Aside0.mk ((by rw [hg]; exact Nat.ne_of_gt (blk_lt (g := gb414) (o := .cells #[.int .u8 t403, .int .u8 t404, .int .u8 t405, .int .u8 t406, .int .u8 t407, .int .u8 t408, .int .u8 t409, .int .u8 t410, .int .u16 t411, .int .u16 t412] 24 (0, 0)) (by (with_reducible repeat (first | refine blk_drewN ?_ _ | refine blk_drew ?_ | refine blk_alloc ?_ _)); exact BK414.out)) : gb431 ≠ gb414))
                        clear BK401
                        clear BK414
                        clear HB
                        have BK401 := n0_
                        have BK414 := n1_
                        have HB := n2_
                        have BK431 := n3_
                        have GW431 := n4_
                        have GE431 := n5_
                        have NB401_431 := n6_
                        have NB431_401 := n7_
                        have NB414_431 := n8_
                        have NB431_414 := n9_
                        clear n0_ n1_ n2_ n3_ n4_ n5_ n6_ n7_ n8_ n9_
                        clear hb hbox hg
                        refine hK.out _ _ ⟨(blk_cell BK414.out 0).trans rfl, (blk_cell BK414.out 1).trans rfl, (blk_cell BK414.out 2).trans rfl, (blk_cell BK414.out 3).trans rfl, (blk_cell BK414.out 4).trans rfl, (blk_cell BK414.out 5).trans rfl, (blk_cell BK414.out 6).trans rfl, (blk_cell BK414.out 7).trans rfl, (blk_cell BK414.out 8).trans rfl, (blk_cell BK414.out 9).trans rfl⟩ (fun hHeld => ?_)
                        clear hK K
                        refine norm_ (a' := ?_) ?_ ?_
                        rotate_left
                        · show Act.put _ (some 13) _ = _
                          simp only [Act.put, List.setIfInBounds_toArray, List.set_cons_zero, List.set_cons_succ, i64_w, i32_w]
                          rfl
                        refine one_ (i := 3) (N := some 47) #[true, true, true, true, true, false] rfl rfl (by kernel_rfl) (by decide) (fun K hK => ?_)
                        refine goes_ Try.func23 (by kernel_rfl) rfl #[.agg #[.int .u8 t403, .int .u8 t404, .int .u8 t405, .int .u8 t406, .int .u8 t407, .int .u8 t408, .int .u8 t409, .int .u8 t410, .int .u16 t411, .int .u16 t412], .agg #[.bool t417, .bool t418, .bool t419, .bool t420]] (by rfl) rfl rfl (by (try simp only [List.map_toArray, List.map_cons, List.map_nil]); first | done | rfl | (simp only [List.length_drop, List.length_take]; rfl)) ?_
                        with_reducible refine (regs_WithFlags.calls t403 t404 t405 t406 t407 t408 t409 t410 t411 t412 t417 t418 t419 t420 t421 t422 t423 t424 t425 t426 t427 t428 t429 t430 _ A35.out).mono ?_
                        rintro e w58 ⟨rfl, hb⟩
                        refine ⟨_, rfl, ?_⟩
                        have n0_ := Aside0.mk (blk_below (g := gb401) (o := .cells #[.int .u8 a0_0, .int .u8 a0_1, .int .u8 a0_2, .int .u8 a0_3, .int .u8 a0_4, .int .u8 a0_5, .int .u8 a0_6, .int .u8 a0_7, .int .u16 a0_8, .int .u16 a0_9] 24 (0, 0)) (by (with_reducible repeat (first | refine blk_drewN ?_ _ | refine blk_drew ?_ | refine blk_alloc ?_ _)); exact BK401.out) hb)
                        have n1_ := Aside0.mk (blk_below (g := gb414) (o := .cells #[.int .u8 t403, .int .u8 t404, .int .u8 t405, .int .u8 t406, .int .u8 t407, .int .u8 t408, .int .u8 t409, .int .u8 t410, .int .u16 t411, .int .u16 t412] 24 (0, 0)) (by (with_reducible repeat (first | refine blk_drewN ?_ _ | refine blk_drew ?_ | refine blk_alloc ?_ _)); exact BK414.out) hb)
                        have n2_ := Aside0.mk (blk_below (g := gb431) (o := .cells #[.int .u8 0, .int .u8 0, .int .u8 0, .int .u8 0, .int .u8 0, .int .u8 0, .int .u8 0, .int .u8 0, .int .u16 0, .int .u16 0] 24 (0, 0)) (by (with_reducible repeat (first | refine blk_drewN ?_ _ | refine blk_drew ?_ | refine blk_alloc ?_ _)); exact BK431.out) hb)
                        have n3_ := Aside0.mk (below_step (by repeat (first | (with_reducible first | exact HB.out | apply below_alloc | apply pw_below_drewN | apply below_drew1 | refine below_set ?_ GE401.out | refine below_set ?_ GE414.out | refine below_set ?_ GE431.out) | exact HB.out)) hb)
                        clear BK401
                        clear BK414
                        clear BK431
                        clear HB
                        have BK401 := n0_
                        have BK414 := n1_
                        have BK431 := n2_
                        have HB := n3_
                        clear n0_ n1_ n2_ n3_
                        (try clear hb)
                        (try clear hb2)
                        (try clear hk)
                        (try clear hi)
                        refine hK.out _ _ ⟨(blk_cell BK414.out 0).trans rfl, (blk_cell BK414.out 1).trans rfl, (blk_cell BK414.out 2).trans rfl, (blk_cell BK414.out 3).trans rfl, (blk_cell BK414.out 4).trans rfl, (blk_cell BK414.out 5).trans rfl, (blk_cell BK414.out 6).trans rfl, (blk_cell BK414.out 7).trans rfl, (blk_cell BK414.out 8).trans rfl, (blk_cell BK414.out 9).trans rfl⟩ (fun hHeld => ?_)
                        clear hK K
                        refine norm_ (a' := ?_) ?_ ?_
                        rotate_left
                        · show Act.put _ (some 47) _ = _
                          simp only [Act.put, List.setIfInBounds_toArray, List.set_cons_zero, List.set_cons_succ, i64_w, i32_w]
                          rfl
                        exact norm_ (by simp only [putAll, Act.put, List.setIfInBounds_toArray, List.set_cons_zero, List.set_cons_succ]) (hCont (gb431) _ ⟨hHeld, (by (with_reducible repeat (first | refine blk_drewN ?_ _ | refine blk_drew ?_ | refine blk_alloc ?_ _)); exact BK401.out), (by (with_reducible repeat (first | refine blk_drewN ?_ _ | refine blk_drew ?_ | refine blk_alloc ?_ _)); exact BK414.out), (by (with_reducible repeat (first | refine blk_drewN ?_ _ | refine blk_drew ?_ | refine blk_alloc ?_ _)); exact BK431.out), GW431.out, GE431.out, NB401_431.out, NB431_401.out, NB414_431.out, NB431_414.out, (by repeat (first | (with_reducible first | exact HB.out | apply below_alloc | apply pw_below_drewN | apply below_drew1 | refine below_set ?_ GE401.out | refine below_set ?_ GE414.out | refine below_set ?_ GE431.out) | exact HB.out))⟩)
                    · skip
                      refine box_step ?hg (N := 13) ?hd (cs := #[.int .u8 0, .int .u8 0, .int .u8 0, .int .u8 0, .int .u8 0, .int .u8 0, .int .u8 0, .int .u8 0, .int .u16 0, .int .u16 0]) (t := 24) ?hr ?_; (case hd => rfl); (case hg => rfl); (case hr => first | (go_simp; done) | (go_simp; rfl))
                      intro gb431 hg w56 hbox hb
                      have n0_ := Aside0.mk (blk_below (g := gb401) (o := .cells #[.int .u8 a0_0, .int .u8 a0_1, .int .u8 a0_2, .int .u8 a0_3, .int .u8 a0_4, .int .u8 a0_5, .int .u8 a0_6, .int .u8 a0_7, .int .u16 a0_8, .int .u16 a0_9] 24 (0, 0)) (by (with_reducible repeat (first | refine blk_drewN ?_ _ | refine blk_drew ?_ | refine blk_alloc ?_ _)); exact BK401.out) hb)
                      have n1_ := Aside0.mk (blk_below (g := gb414) (o := .cells #[.int .u8 t403, .int .u8 t404, .int .u8 t405, .int .u8 t406, .int .u8 t407, .int .u8 t408, .int .u8 t409, .int .u8 t410, .int .u16 t411, .int .u16 t412] 24 (0, 0)) (by (with_reducible repeat (first | refine blk_drewN ?_ _ | refine blk_drew ?_ | refine blk_alloc ?_ _)); exact BK414.out) hb)
                      have n2_ := Aside0.mk (below_step (by repeat (first | (with_reducible first | exact HB.out | apply below_alloc | apply pw_below_drewN | apply below_drew1 | refine below_set ?_ GE401.out | refine below_set ?_ GE414.out) | exact HB.out)) hb)
                      have n3_ := Aside0.mk (hbox)
                      have n4_ := Aside0.mk ((by rw [hg]; exact (below_size (by repeat (first | (with_reducible first | exact HB.out | apply below_alloc | apply pw_below_drewN | apply below_drew1 | refine below_set ?_ GE401.out | refine below_set ?_ GE414.out) | exact HB.out))) : w.heap.size ≤ gb431))
                      have n5_ := Aside0.mk ((by rw [hg]; exact (below_size (by repeat (first | (with_reducible first | exact HB.out | apply below_alloc | apply pw_below_drewN | apply below_drew1 | refine below_set ?_ GE401.out | refine below_set ?_ GE414.out) | exact HB.out))) : w.heap.size ≤ gb431))
                      have n6_ := Aside0.mk ((by rw [hg]; exact Nat.ne_of_lt (blk_lt (g := gb401) (o := .cells #[.int .u8 a0_0, .int .u8 a0_1, .int .u8 a0_2, .int .u8 a0_3, .int .u8 a0_4, .int .u8 a0_5, .int .u8 a0_6, .int .u8 a0_7, .int .u16 a0_8, .int .u16 a0_9] 24 (0, 0)) (by (with_reducible repeat (first | refine blk_drewN ?_ _ | refine blk_drew ?_ | refine blk_alloc ?_ _)); exact BK401.out)) : gb401 ≠ gb431))
                      have n7_ := Aside0.mk ((by rw [hg]; exact Nat.ne_of_gt (blk_lt (g := gb401) (o := .cells #[.int .u8 a0_0, .int .u8 a0_1, .int .u8 a0_2, .int .u8 a0_3, .int .u8 a0_4, .int .u8 a0_5, .int .u8 a0_6, .int .u8 a0_7, .int .u16 a0_8, .int .u16 a0_9] 24 (0, 0)) (by (with_reducible repeat (first | refine blk_drewN ?_ _ | refine blk_drew ?_ | refine blk_alloc ?_ _)); exact BK401.out)) : gb431 ≠ gb401))
                      have n8_ := Aside0.mk ((by rw [hg]; exact Nat.ne_of_lt (blk_lt (g := gb414) (o := .cells #[.int .u8 t403, .int .u8 t404, .int .u8 t405, .int .u8 t406, .int .u8 t407, .int .u8 t408, .int .u8 t409, .int .u8 t410, .int .u16 t411, .int .u16 t412] 24 (0, 0)) (by (with_reducible repeat (first | refine blk_drewN ?_ _ | refine blk_drew ?_ | refine blk_alloc ?_ _)); exact BK414.out)) : gb414 ≠ gb431))
                      have n9_ := Aside0.mk ((by rw [hg]; exact Nat.ne_of_gt (blk_lt (g := gb414) (o := .cells #[.int .u8 t403, .int .u8 t404, .int .u8 t405, .int .u8 t406, .int .u8 t407, .int .u8 t408, .int .u8 t409, .int .u8 t410, .int .u16 t411, .int .u16 t412] 24 (0, 0)) (by (with_reducible repeat (first | refine blk_drewN ?_ _ | refine blk_drew ?_ | refine blk_alloc ?_ _)); exact BK414.out)) : gb431 ≠ gb414))
                      clear BK401
                      clear BK414
                      clear HB
                      have BK401 := n0_
                      have BK414 := n1_
                      have HB := n2_
                      have BK431 := n3_
                      have GW431 := n4_
                      have GE431 := n5_
                      have NB401_431 := n6_
                      have NB431_401 := n7_
                      have NB414_431 := n8_
                      have NB431_414 := n9_
                      clear n0_ n1_ n2_ n3_ n4_ n5_ n6_ n7_ n8_ n9_
                      clear hb hbox hg
                      refine hK.out _ _ ⟨(blk_cell BK414.out 0).trans rfl, (blk_cell BK414.out 1).trans rfl, (blk_cell BK414.out 2).trans rfl, (blk_cell BK414.out 3).trans rfl, (blk_cell BK414.out 4).trans rfl, (blk_cell BK414.out 5).trans rfl, (blk_cell BK414.out 6).trans rfl, (blk_cell BK414.out 7).trans rfl, (blk_cell BK414.out 8).trans rfl, (blk_cell BK414.out 9).trans rfl⟩ (fun hHeld => ?_)
                      clear hK K
                      refine norm_ (a' := ?_) ?_ ?_
                      rotate_left
                      · show Act.put _ (some 13) _ = _
                        simp only [Act.put, List.setIfInBounds_toArray, List.set_cons_zero, List.set_cons_succ, i64_w, i32_w]
                        rfl
                      refine one_ (i := 2) (N := some 46) #[true, true, true, false, true, false] rfl rfl (by kernel_rfl) (by decide) (fun K hK => ?_)
                      refine goes_ Try.func21 (by kernel_rfl) rfl #[.agg #[.int .u8 t403, .int .u8 t404, .int .u8 t405, .int .u8 t406, .int .u8 t407, .int .u8 t408, .int .u8 t409, .int .u8 t410, .int .u16 t411, .int .u16 t412]] (by rfl) rfl rfl (by (try simp only [List.map_toArray, List.map_cons, List.map_nil]); first | done | rfl | (simp only [List.length_drop, List.length_take]; rfl)) ?_
                      with_reducible refine (regs_Flags.calls t403 t404 t405 t406 t407 t408 t409 t410 t411 t412 t417 t418 t419 t420 _ A34.out).mono ?_
                      rintro e w57 ⟨rfl, hb⟩
                      refine ⟨_, rfl, ?_⟩
                      have n0_ := Aside0.mk (blk_below (g := gb401) (o := .cells #[.int .u8 a0_0, .int .u8 a0_1, .int .u8 a0_2, .int .u8 a0_3, .int .u8 a0_4, .int .u8 a0_5, .int .u8 a0_6, .int .u8 a0_7, .int .u16 a0_8, .int .u16 a0_9] 24 (0, 0)) (by (with_reducible repeat (first | refine blk_drewN ?_ _ | refine blk_drew ?_ | refine blk_alloc ?_ _)); exact BK401.out) hb)
                      have n1_ := Aside0.mk (blk_below (g := gb414) (o := .cells #[.int .u8 t403, .int .u8 t404, .int .u8 t405, .int .u8 t406, .int .u8 t407, .int .u8 t408, .int .u8 t409, .int .u8 t410, .int .u16 t411, .int .u16 t412] 24 (0, 0)) (by (with_reducible repeat (first | refine blk_drewN ?_ _ | refine blk_drew ?_ | refine blk_alloc ?_ _)); exact BK414.out) hb)
                      have n2_ := Aside0.mk (blk_below (g := gb431) (o := .cells #[.int .u8 0, .int .u8 0, .int .u8 0, .int .u8 0, .int .u8 0, .int .u8 0, .int .u8 0, .int .u8 0, .int .u16 0, .int .u16 0] 24 (0, 0)) (by (with_reducible repeat (first | refine blk_drewN ?_ _ | refine blk_drew ?_ | refine blk_alloc ?_ _)); exact BK431.out) hb)
                      have n3_ := Aside0.mk (below_step (by repeat (first | (with_reducible first | exact HB.out | apply below_alloc | apply pw_below_drewN | apply below_drew1 | refine below_set ?_ GE401.out | refine below_set ?_ GE414.out | refine below_set ?_ GE431.out) | exact HB.out)) hb)
                      clear BK401
                      clear BK414
                      clear BK431
                      clear HB
                      have BK401 := n0_
                      have BK414 := n1_
                      have BK431 := n2_
                      have HB := n3_
                      clear n0_ n1_ n2_ n3_
                      (try clear hb)
                      (try clear hb2)
                      (try clear hk)
                      (try clear hi)
                      refine hK.out _ _ ⟨(blk_cell BK414.out 0).trans rfl, (blk_cell BK414.out 1).trans rfl, (blk_cell BK414.out 2).trans rfl, (blk_cell BK414.out 3).trans rfl, (blk_cell BK414.out 4).trans rfl, (blk_cell BK414.out 5).trans rfl, (blk_cell BK414.out 6).trans rfl, (blk_cell BK414.out 7).trans rfl, (blk_cell BK414.out 8).trans rfl, (blk_cell BK414.out 9).trans rfl⟩ (fun hHeld => ?_)
                      clear hK K
                      refine norm_ (a' := ?_) ?_ ?_
                      rotate_left
                      · show Act.put _ (some 46) _ = _
                        simp only [Act.put, List.setIfInBounds_toArray, List.set_cons_zero, List.set_cons_succ, i64_w, i32_w]
                        rfl
                      refine one_ (i := 3) (N := some 47) #[true, true, true, true, true, false] rfl rfl (by kernel_rfl) (by decide) (fun K hK => ?_)
                      refine goes_ Try.func23 (by kernel_rfl) rfl #[.agg #[.int .u8 t403, .int .u8 t404, .int .u8 t405, .int .u8 t406, .int .u8 t407, .int .u8 t408, .int .u8 t409, .int .u8 t410, .int .u16 t411, .int .u16 t412], .agg #[.bool t417, .bool t418, .bool t419, .bool t420]] (by rfl) rfl rfl (by (try simp only [List.map_toArray, List.map_cons, List.map_nil]); first | done | rfl | (simp only [List.length_drop, List.length_take]; rfl)) ?_
                      with_reducible refine (regs_WithFlags.calls t403 t404 t405 t406 t407 t408 t409 t410 t411 t412 t417 t418 t419 t420 t421 t422 t423 t424 t425 t426 t427 t428 t429 t430 _ A35.out).mono ?_
                      rintro e w58 ⟨rfl, hb⟩
                      refine ⟨_, rfl, ?_⟩
                      have n0_ := Aside0.mk (blk_below (g := gb401) (o := .cells #[.int .u8 a0_0, .int .u8 a0_1, .int .u8 a0_2, .int .u8 a0_3, .int .u8 a0_4, .int .u8 a0_5, .int .u8 a0_6, .int .u8 a0_7, .int .u16 a0_8, .int .u16 a0_9] 24 (0, 0)) (by (with_reducible repeat (first | refine blk_drewN ?_ _ | refine blk_drew ?_ | refine blk_alloc ?_ _)); exact BK401.out) hb)
                      have n1_ := Aside0.mk (blk_below (g := gb414) (o := .cells #[.int .u8 t403, .int .u8 t404, .int .u8 t405, .int .u8 t406, .int .u8 t407, .int .u8 t408, .int .u8 t409, .int .u8 t410, .int .u16 t411, .int .u16 t412] 24 (0, 0)) (by (with_reducible repeat (first | refine blk_drewN ?_ _ | refine blk_drew ?_ | refine blk_alloc ?_ _)); exact BK414.out) hb)
                      have n2_ := Aside0.mk (blk_below (g := gb431) (o := .cells #[.int .u8 0, .int .u8 0, .int .u8 0, .int .u8 0, .int .u8 0, .int .u8 0, .int .u8 0, .int .u8 0, .int .u16 0, .int .u16 0] 24 (0, 0)) (by (with_reducible repeat (first | refine blk_drewN ?_ _ | refine blk_drew ?_ | refine blk_alloc ?_ _)); exact BK431.out) hb)
                      have n3_ := Aside0.mk (below_step (by repeat (first | (with_reducible first | exact HB.out | apply below_alloc | apply pw_below_drewN | apply below_drew1 | refine below_set ?_ GE401.out | refine below_set ?_ GE414.out | refine below_set ?_ GE431.out) | exact HB.out)) hb)
                      clear BK401
                      clear BK414
                      clear BK431
                      clear HB
                      have BK401 := n0_
                      have BK414 := n1_
                      have BK431 := n2_
                      have HB := n3_
                      clear n0_ n1_ n2_ n3_
                      (try clear hb)
                      (try clear hb2)
                      (try clear hk)
                      (try clear hi)
                      refine hK.out _ _ ⟨(blk_cell BK414.out 0).trans rfl, (blk_cell BK414.out 1).trans rfl, (blk_cell BK414.out 2).trans rfl, (blk_cell BK414.out 3).trans rfl, (blk_cell BK414.out 4).trans rfl, (blk_cell BK414.out 5).trans rfl, (blk_cell BK414.out 6).trans rfl, (blk_cell BK414.out 7).trans rfl, (blk_cell BK414.out 8).trans rfl, (blk_cell BK414.out 9).trans rfl⟩ (fun hHeld => ?_)
                      clear hK K
                      refine norm_ (a' := ?_) ?_ ?_
                      rotate_left
                      · show Act.put _ (some 47) _ = _
                        simp only [Act.put, List.setIfInBounds_toArray, List.set_cons_zero, List.set_cons_succ, i64_w, i32_w]
                        rfl
                      exact norm_ (by simp only [putAll, Act.put, List.setIfInBounds_toArray, List.set_cons_zero, List.set_cons_succ]) (hCont (gb431) _ ⟨hHeld, (by (with_reducible repeat (first | refine blk_drewN ?_ _ | refine blk_drew ?_ | refine blk_alloc ?_ _)); exact BK401.out), (by (with_reducible repeat (first | refine blk_drewN ?_ _ | refine blk_drew ?_ | refine blk_alloc ?_ _)); exact BK414.out), (by (with_reducible repeat (first | refine blk_drewN ?_ _ | refine blk_drew ?_ | refine blk_alloc ?_ _)); exact BK431.out), GW431.out, GE431.out, NB401_431.out, NB431_401.out, NB414_431.out, NB431_414.out, (by repeat (first | (with_reducible first | exact HB.out | apply below_alloc | apply pw_below_drewN | apply below_drew1 | refine below_set ?_ GE401.out | refine below_set ?_ GE414.out | refine below_set ?_ GE431.out) | exact HB.out))⟩)
                  rintro gb431 w59 ⟨hS_, h0_, h1_, h2_, h3_, h4_, h5_, h6_, h7_, h8_, h9_⟩
                  have n0_ : Aside0 (w59.heap[gb401]? = some (.cells #[.int .u8 a0_0, .int .u8 a0_1, .int .u8 a0_2, .int .u8 a0_3, .int .u8 a0_4, .int .u8 a0_5, .int .u8 a0_6, .int .u8 a0_7, .int .u16 a0_8, .int .u16 a0_9] 24 (0, 0))) := ⟨h0_⟩
                  have n1_ : Aside0 (w59.heap[gb414]? = some (.cells #[.int .u8 t403, .int .u8 t404, .int .u8 t405, .int .u8 t406, .int .u8 t407, .int .u8 t408, .int .u8 t409, .int .u8 t410, .int .u16 t411, .int .u16 t412] 24 (0, 0))) := ⟨h1_⟩
                  have n2_ : Aside0 (w59.heap[gb431]? = some (.cells #[.int .u8 0, .int .u8 0, .int .u8 0, .int .u8 0, .int .u8 0, .int .u8 0, .int .u8 0, .int .u8 0, .int .u16 0, .int .u16 0] 24 (0, 0))) := ⟨h2_⟩
                  have n3_ : Aside0 (w.heap.size ≤ gb431) := ⟨h3_⟩
                  have n4_ : Aside0 (w.heap.size ≤ gb431) := ⟨h4_⟩
                  have n5_ : Aside0 (gb401 ≠ gb431) := ⟨h5_⟩
                  have n6_ : Aside0 (gb431 ≠ gb401) := ⟨h6_⟩
                  have n7_ : Aside0 (gb414 ≠ gb431) := ⟨h7_⟩
                  have n8_ : Aside0 (gb431 ≠ gb414) := ⟨h8_⟩
                  have n9_ : Aside0 (Below w.heap.size w w59) := ⟨h9_⟩
                  clear BK401
                  clear BK414
                  clear HB
                  clear h0_ h1_ h2_ h3_ h4_ h5_ h6_ h7_ h8_ h9_
                  have BK401 := n0_
                  have BK414 := n1_
                  have BK431 := n2_
                  have GW431 := n3_
                  have GE431 := n4_
                  have NB401_431 := n5_
                  have NB431_401 := n6_
                  have NB414_431 := n7_
                  have NB431_414 := n8_
                  have HB := n9_
                  clear n0_ n1_ n2_ n3_ n4_ n5_ n6_ n7_ n8_ n9_
                  have hHeld : w59.cell? ⟨gb414, 0, none⟩ = some (.int .u8 t403) ∧ w59.cell? ⟨gb414, 1, none⟩ = some (.int .u8 t404) ∧ w59.cell? ⟨gb414, 2, none⟩ = some (.int .u8 t405) ∧ w59.cell? ⟨gb414, 3, none⟩ = some (.int .u8 t406) ∧ w59.cell? ⟨gb414, 4, none⟩ = some (.int .u8 t407) ∧ w59.cell? ⟨gb414, 5, none⟩ = some (.int .u8 t408) ∧ w59.cell? ⟨gb414, 6, none⟩ = some (.int .u8 t409) ∧ w59.cell? ⟨gb414, 7, none⟩ = some (.int .u8 t410) ∧ w59.cell? ⟨gb414, 8, none⟩ = some (.int .u16 t411) ∧ w59.cell? ⟨gb414, 9, none⟩ = some (.int .u16 t412) := hS_
                  refine norm_ (a' := ?_) ?_ ?_
                  rotate_left
                  · simp only [putAll, Act.put, List.setIfInBounds_toArray, List.set_cons_zero, List.set_cons_succ]
                    rfl
                  refine one_ (i := 5) (N := none) #[true, true, true, true, true, true] rfl rfl (by kernel_rfl) (by decide) (fun K hK => ?_)
                  have hs60 : w59.cell? ⟨gb431, 0, none⟩ = some (.int .u8 0) := (blk_cell BK431.out 0).trans rfl
                  have hfs60 := blk_frozen BK431.out 0
                  have hns60_0 := NB401_431.out
                  have hns60_1 := NB414_431.out
                  have hms60_0 := NB431_401.out
                  have hms60_1 := NB431_414.out
                  have hs61 : w59.cell? ⟨gb431, 1, none⟩ = some (.int .u8 0) := (blk_cell BK431.out 1).trans rfl
                  have hfs61 := blk_frozen BK431.out 1
                  have hns61_0 := NB401_431.out
                  have hns61_1 := NB414_431.out
                  have hms61_0 := NB431_401.out
                  have hms61_1 := NB431_414.out
                  have hs62 : w59.cell? ⟨gb431, 2, none⟩ = some (.int .u8 0) := (blk_cell BK431.out 2).trans rfl
                  have hfs62 := blk_frozen BK431.out 2
                  have hns62_0 := NB401_431.out
                  have hns62_1 := NB414_431.out
                  have hms62_0 := NB431_401.out
                  have hms62_1 := NB431_414.out
                  have hs63 : w59.cell? ⟨gb431, 3, none⟩ = some (.int .u8 0) := (blk_cell BK431.out 3).trans rfl
                  have hfs63 := blk_frozen BK431.out 3
                  have hns63_0 := NB401_431.out
                  have hns63_1 := NB414_431.out
                  have hms63_0 := NB431_401.out
                  have hms63_1 := NB431_414.out
                  have hs64 : w59.cell? ⟨gb431, 4, none⟩ = some (.int .u8 0) := (blk_cell BK431.out 4).trans rfl
                  have hfs64 := blk_frozen BK431.out 4
                  have hns64_0 := NB401_431.out
                  have hns64_1 := NB414_431.out
                  have hms64_0 := NB431_401.out
                  have hms64_1 := NB431_414.out
                  have hs65 : w59.cell? ⟨gb431, 5, none⟩ = some (.int .u8 0) := (blk_cell BK431.out 5).trans rfl
                  have hfs65 := blk_frozen BK431.out 5
                  have hns65_0 := NB401_431.out
                  have hns65_1 := NB414_431.out
                  have hms65_0 := NB431_401.out
                  have hms65_1 := NB431_414.out
                  have hs66 : w59.cell? ⟨gb431, 6, none⟩ = some (.int .u8 0) := (blk_cell BK431.out 6).trans rfl
                  have hfs66 := blk_frozen BK431.out 6
                  have hns66_0 := NB401_431.out
                  have hns66_1 := NB414_431.out
                  have hms66_0 := NB431_401.out
                  have hms66_1 := NB431_414.out
                  have hs67 : w59.cell? ⟨gb431, 7, none⟩ = some (.int .u8 0) := (blk_cell BK431.out 7).trans rfl
                  have hfs67 := blk_frozen BK431.out 7
                  have hns67_0 := NB401_431.out
                  have hns67_1 := NB414_431.out
                  have hms67_0 := NB431_401.out
                  have hms67_1 := NB431_414.out
                  have hs68 : w59.cell? ⟨gb431, 8, none⟩ = some (.int .u16 0) := (blk_cell BK431.out 8).trans rfl
                  have hfs68 := blk_frozen BK431.out 8
                  have hns68_0 := NB401_431.out
                  have hns68_1 := NB414_431.out
                  have hms68_0 := NB431_401.out
                  have hms68_1 := NB431_414.out
                  have hs69 : w59.cell? ⟨gb431, 9, none⟩ = some (.int .u16 0) := (blk_cell BK431.out 9).trans rfl
                  have hfs69 := blk_frozen BK431.out 9
                  have hns69_0 := NB401_431.out
                  have hns69_1 := NB414_431.out
                  have hms69_0 := NB431_401.out
                  have hms69_1 := NB431_414.out
                  refine skip_ (w1 := ?_) (by rfl) rfl ?_ ?_
                  rotate_left
                  · go_simp
                    rfl
                  refine hK.out _ _ ⟨((cell_far (p := ⟨gb431, _, none⟩) NB414_431.out _).trans (((cell_far (p := ⟨gb431, _, none⟩) NB414_431.out _).trans (((cell_far (p := ⟨gb431, _, none⟩) NB414_431.out _).trans (((cell_far (p := ⟨gb431, _, none⟩) NB414_431.out _).trans (((cell_far (p := ⟨gb431, _, none⟩) NB414_431.out _).trans (((cell_far (p := ⟨gb431, _, none⟩) NB414_431.out _).trans (((cell_far (p := ⟨gb431, _, none⟩) NB414_431.out _).trans (((cell_far (p := ⟨gb431, _, none⟩) NB414_431.out _).trans (((cell_far (p := ⟨gb431, _, none⟩) NB414_431.out _).trans (((cell_far (p := ⟨gb431, _, none⟩) NB414_431.out _).trans (hHeld.1)))))))))))))))))))), ((cell_far (p := ⟨gb431, _, none⟩) NB414_431.out _).trans (((cell_far (p := ⟨gb431, _, none⟩) NB414_431.out _).trans (((cell_far (p := ⟨gb431, _, none⟩) NB414_431.out _).trans (((cell_far (p := ⟨gb431, _, none⟩) NB414_431.out _).trans (((cell_far (p := ⟨gb431, _, none⟩) NB414_431.out _).trans (((cell_far (p := ⟨gb431, _, none⟩) NB414_431.out _).trans (((cell_far (p := ⟨gb431, _, none⟩) NB414_431.out _).trans (((cell_far (p := ⟨gb431, _, none⟩) NB414_431.out _).trans (((cell_far (p := ⟨gb431, _, none⟩) NB414_431.out _).trans (((cell_far (p := ⟨gb431, _, none⟩) NB414_431.out _).trans (hHeld.2.1)))))))))))))))))))), ((cell_far (p := ⟨gb431, _, none⟩) NB414_431.out _).trans (((cell_far (p := ⟨gb431, _, none⟩) NB414_431.out _).trans (((cell_far (p := ⟨gb431, _, none⟩) NB414_431.out _).trans (((cell_far (p := ⟨gb431, _, none⟩) NB414_431.out _).trans (((cell_far (p := ⟨gb431, _, none⟩) NB414_431.out _).trans (((cell_far (p := ⟨gb431, _, none⟩) NB414_431.out _).trans (((cell_far (p := ⟨gb431, _, none⟩) NB414_431.out _).trans (((cell_far (p := ⟨gb431, _, none⟩) NB414_431.out _).trans (((cell_far (p := ⟨gb431, _, none⟩) NB414_431.out _).trans (((cell_far (p := ⟨gb431, _, none⟩) NB414_431.out _).trans (hHeld.2.2.1)))))))))))))))))))), ((cell_far (p := ⟨gb431, _, none⟩) NB414_431.out _).trans (((cell_far (p := ⟨gb431, _, none⟩) NB414_431.out _).trans (((cell_far (p := ⟨gb431, _, none⟩) NB414_431.out _).trans (((cell_far (p := ⟨gb431, _, none⟩) NB414_431.out _).trans (((cell_far (p := ⟨gb431, _, none⟩) NB414_431.out _).trans (((cell_far (p := ⟨gb431, _, none⟩) NB414_431.out _).trans (((cell_far (p := ⟨gb431, _, none⟩) NB414_431.out _).trans (((cell_far (p := ⟨gb431, _, none⟩) NB414_431.out _).trans (((cell_far (p := ⟨gb431, _, none⟩) NB414_431.out _).trans (((cell_far (p := ⟨gb431, _, none⟩) NB414_431.out _).trans (hHeld.2.2.2.1)))))))))))))))))))), ((cell_far (p := ⟨gb431, _, none⟩) NB414_431.out _).trans (((cell_far (p := ⟨gb431, _, none⟩) NB414_431.out _).trans (((cell_far (p := ⟨gb431, _, none⟩) NB414_431.out _).trans (((cell_far (p := ⟨gb431, _, none⟩) NB414_431.out _).trans (((cell_far (p := ⟨gb431, _, none⟩) NB414_431.out _).trans (((cell_far (p := ⟨gb431, _, none⟩) NB414_431.out _).trans (((cell_far (p := ⟨gb431, _, none⟩) NB414_431.out _).trans (((cell_far (p := ⟨gb431, _, none⟩) NB414_431.out _).trans (((cell_far (p := ⟨gb431, _, none⟩) NB414_431.out _).trans (((cell_far (p := ⟨gb431, _, none⟩) NB414_431.out _).trans (hHeld.2.2.2.2.1)))))))))))))))))))), ((cell_far (p := ⟨gb431, _, none⟩) NB414_431.out _).trans (((cell_far (p := ⟨gb431, _, none⟩) NB414_431.out _).trans (((cell_far (p := ⟨gb431, _, none⟩) NB414_431.out _).trans (((cell_far (p := ⟨gb431, _, none⟩) NB414_431.out _).trans (((cell_far (p := ⟨gb431, _, none⟩) NB414_431.out _).trans (((cell_far (p := ⟨gb431, _, none⟩) NB414_431.out _).trans (((cell_far (p := ⟨gb431, _, none⟩) NB414_431.out _).trans (((cell_far (p := ⟨gb431, _, none⟩) NB414_431.out _).trans (((cell_far (p := ⟨gb431, _, none⟩) NB414_431.out _).trans (((cell_far (p := ⟨gb431, _, none⟩) NB414_431.out _).trans (hHeld.2.2.2.2.2.1)))))))))))))))))))), ((cell_far (p := ⟨gb431, _, none⟩) NB414_431.out _).trans (((cell_far (p := ⟨gb431, _, none⟩) NB414_431.out _).trans (((cell_far (p := ⟨gb431, _, none⟩) NB414_431.out _).trans (((cell_far (p := ⟨gb431, _, none⟩) NB414_431.out _).trans (((cell_far (p := ⟨gb431, _, none⟩) NB414_431.out _).trans (((cell_far (p := ⟨gb431, _, none⟩) NB414_431.out _).trans (((cell_far (p := ⟨gb431, _, none⟩) NB414_431.out _).trans (((cell_far (p := ⟨gb431, _, none⟩) NB414_431.out _).trans (((cell_far (p := ⟨gb431, _, none⟩) NB414_431.out _).trans (((cell_far (p := ⟨gb431, _, none⟩) NB414_431.out _).trans (hHeld.2.2.2.2.2.2.1)))))))))))))))))))), ((cell_far (p := ⟨gb431, _, none⟩) NB414_431.out _).trans (((cell_far (p := ⟨gb431, _, none⟩) NB414_431.out _).trans (((cell_far (p := ⟨gb431, _, none⟩) NB414_431.out _).trans (((cell_far (p := ⟨gb431, _, none⟩) NB414_431.out _).trans (((cell_far (p := ⟨gb431, _, none⟩) NB414_431.out _).trans (((cell_far (p := ⟨gb431, _, none⟩) NB414_431.out _).trans (((cell_far (p := ⟨gb431, _, none⟩) NB414_431.out _).trans (((cell_far (p := ⟨gb431, _, none⟩) NB414_431.out _).trans (((cell_far (p := ⟨gb431, _, none⟩) NB414_431.out _).trans (((cell_far (p := ⟨gb431, _, none⟩) NB414_431.out _).trans (hHeld.2.2.2.2.2.2.2.1)))))))))))))))))))), ((cell_far (p := ⟨gb431, _, none⟩) NB414_431.out _).trans (((cell_far (p := ⟨gb431, _, none⟩) NB414_431.out _).trans (((cell_far (p := ⟨gb431, _, none⟩) NB414_431.out _).trans (((cell_far (p := ⟨gb431, _, none⟩) NB414_431.out _).trans (((cell_far (p := ⟨gb431, _, none⟩) NB414_431.out _).trans (((cell_far (p := ⟨gb431, _, none⟩) NB414_431.out _).trans (((cell_far (p := ⟨gb431, _, none⟩) NB414_431.out _).trans (((cell_far (p := ⟨gb431, _, none⟩) NB414_431.out _).trans (((cell_far (p := ⟨gb431, _, none⟩) NB414_431.out _).trans (((cell_far (p := ⟨gb431, _, none⟩) NB414_431.out _).trans (hHeld.2.2.2.2.2.2.2.2.1)))))))))))))))))))), ((cell_far (p := ⟨gb431, _, none⟩) NB414_431.out _).trans (((cell_far (p := ⟨gb431, _, none⟩) NB414_431.out _).trans (((cell_far (p := ⟨gb431, _, none⟩) NB414_431.out _).trans (((cell_far (p := ⟨gb431, _, none⟩) NB414_431.out _).trans (((cell_far (p := ⟨gb431, _, none⟩) NB414_431.out _).trans (((cell_far (p := ⟨gb431, _, none⟩) NB414_431.out _).trans (((cell_far (p := ⟨gb431, _, none⟩) NB414_431.out _).trans (((cell_far (p := ⟨gb431, _, none⟩) NB414_431.out _).trans (((cell_far (p := ⟨gb431, _, none⟩) NB414_431.out _).trans (((cell_far (p := ⟨gb431, _, none⟩) NB414_431.out _).trans (hHeld.2.2.2.2.2.2.2.2.2))))))))))))))))))))⟩ (fun hHeld => ?_)
                  clear hK K
                  refine done_ (by kernel_rfl) ?_
                  have hnb70 := NB431_401.out
                  have hnc70 := NB401_431.out
                  have hnb71 := NB431_414.out
                  have hnc71 := NB414_431.out
                  have hcz72_0 : w59.cell? ⟨gb431, 0, none⟩ = some (.int .u8 0) := (blk_cell BK431.out 0).trans rfl
                  have hcz72_1 : w59.cell? ⟨gb431, 1, none⟩ = some (.int .u8 0) := (blk_cell BK431.out 1).trans rfl
                  have hcz72_2 : w59.cell? ⟨gb431, 2, none⟩ = some (.int .u8 0) := (blk_cell BK431.out 2).trans rfl
                  have hcz72_3 : w59.cell? ⟨gb431, 3, none⟩ = some (.int .u8 0) := (blk_cell BK431.out 3).trans rfl
                  have hcz72_4 : w59.cell? ⟨gb431, 4, none⟩ = some (.int .u8 0) := (blk_cell BK431.out 4).trans rfl
                  have hcz72_5 : w59.cell? ⟨gb431, 5, none⟩ = some (.int .u8 0) := (blk_cell BK431.out 5).trans rfl
                  have hcz72_6 : w59.cell? ⟨gb431, 6, none⟩ = some (.int .u8 0) := (blk_cell BK431.out 6).trans rfl
                  have hcz72_7 : w59.cell? ⟨gb431, 7, none⟩ = some (.int .u8 0) := (blk_cell BK431.out 7).trans rfl
                  have hcz72_8 : w59.cell? ⟨gb431, 8, none⟩ = some (.int .u16 0) := (blk_cell BK431.out 8).trans rfl
                  have hcz72_9 : w59.cell? ⟨gb431, 9, none⟩ = some (.int .u16 0) := (blk_cell BK431.out 9).trans rfl
                  have hfz72_0 := blk_frozen BK431.out 0
                  have hfz72_1 := blk_frozen BK431.out 1
                  have hfz72_2 := blk_frozen BK431.out 2
                  have hfz72_3 := blk_frozen BK431.out 3
                  have hfz72_4 := blk_frozen BK431.out 4
                  have hfz72_5 := blk_frozen BK431.out 5
                  have hfz72_6 := blk_frozen BK431.out 6
                  have hfz72_7 := blk_frozen BK431.out 7
                  have hfz72_8 := blk_frozen BK431.out 8
                  have hfz72_9 := blk_frozen BK431.out 9
                  try go_wp2_with (first | ((with_reducible refine gate_callee (f := 17) rfl ?_); refine goesL_ (some 50) rfl rfl Try.func17 (by kernel_rfl) rfl #[.agg #[.int .u8 t421, .int .u8 t422, .int .u8 t423, .int .u8 t424, .int .u8 t425, .int .u8 t426, .int .u8 t427, .int .u8 t428, .int .u16 t429, .int .u16 t430]] rfl (by (try simp only [List.map_toArray, List.map_cons, List.map_nil]); first | done | rfl | (simp only [List.length_drop, List.length_take]; rfl)) ?_; (with_reducible refine (regs_Text.calls t421 t422 t423 t424 t425 t426 t427 t428 t429 t430 t432 _ A36.out).mono ?_); rintro e w73 ⟨rfl, hb⟩; refine ⟨_, rfl, ?_⟩; have n0_ := Aside0.mk (blk_below (g := gb401) (o := .cells #[.int .u8 a0_0, .int .u8 a0_1, .int .u8 a0_2, .int .u8 a0_3, .int .u8 a0_4, .int .u8 a0_5, .int .u8 a0_6, .int .u8 a0_7, .int .u16 a0_8, .int .u16 a0_9] 24 (0, 0)) (by (with_reducible repeat (first | refine blk_drewN ?_ _ | refine blk_drew ?_ | refine blk_alloc ?_ _)); refine blk_far ?_ NB401_431.out _; (with_reducible repeat (first | refine blk_drewN ?_ _ | refine blk_drew ?_ | refine blk_alloc ?_ _)); refine blk_far ?_ NB401_431.out _; (with_reducible repeat (first | refine blk_drewN ?_ _ | refine blk_drew ?_ | refine blk_alloc ?_ _)); refine blk_far ?_ NB401_431.out _; (with_reducible repeat (first | refine blk_drewN ?_ _ | refine blk_drew ?_ | refine blk_alloc ?_ _)); refine blk_far ?_ NB401_431.out _; (with_reducible repeat (first | refine blk_drewN ?_ _ | refine blk_drew ?_ | refine blk_alloc ?_ _)); refine blk_far ?_ NB401_431.out _; (with_reducible repeat (first | refine blk_drewN ?_ _ | refine blk_drew ?_ | refine blk_alloc ?_ _)); refine blk_far ?_ NB401_431.out _; (with_reducible repeat (first | refine blk_drewN ?_ _ | refine blk_drew ?_ | refine blk_alloc ?_ _)); refine blk_far ?_ NB401_431.out _; (with_reducible repeat (first | refine blk_drewN ?_ _ | refine blk_drew ?_ | refine blk_alloc ?_ _)); refine blk_far ?_ NB401_431.out _; (with_reducible repeat (first | refine blk_drewN ?_ _ | refine blk_drew ?_ | refine blk_alloc ?_ _)); refine blk_far ?_ NB401_431.out _; (with_reducible repeat (first | refine blk_drewN ?_ _ | refine blk_drew ?_ | refine blk_alloc ?_ _)); refine blk_far ?_ NB401_431.out _; (with_reducible repeat (first | refine blk_drewN ?_ _ | refine blk_drew ?_ | refine blk_alloc ?_ _)); exact BK401.out) hb); have n1_ := Aside0.mk (blk_below (g := gb414) (o := .cells #[.int .u8 t403, .int .u8 t404, .int .u8 t405, .int .u8 t406, .int .u8 t407, .int .u8 t408, .int .u8 t409, .int .u8 t410, .int .u16 t411, .int .u16 t412] 24 (0, 0)) (by (with_reducible repeat (first | refine blk_drewN ?_ _ | refine blk_drew ?_ | refine blk_alloc ?_ _)); refine blk_far ?_ NB414_431.out _; (with_reducible repeat (first | refine blk_drewN ?_ _ | refine blk_drew ?_ | refine blk_alloc ?_ _)); refine blk_far ?_ NB414_431.out _; (with_reducible repeat (first | refine blk_drewN ?_ _ | refine blk_drew ?_ | refine blk_alloc ?_ _)); refine blk_far ?_ NB414_431.out _; (with_reducible repeat (first | refine blk_drewN ?_ _ | refine blk_drew ?_ | refine blk_alloc ?_ _)); refine blk_far ?_ NB414_431.out _; (with_reducible repeat (first | refine blk_drewN ?_ _ | refine blk_drew ?_ | refine blk_alloc ?_ _)); refine blk_far ?_ NB414_431.out _; (with_reducible repeat (first | refine blk_drewN ?_ _ | refine blk_drew ?_ | refine blk_alloc ?_ _)); refine blk_far ?_ NB414_431.out _; (with_reducible repeat (first | refine blk_drewN ?_ _ | refine blk_drew ?_ | refine blk_alloc ?_ _)); refine blk_far ?_ NB414_431.out _; (with_reducible repeat (first | refine blk_drewN ?_ _ | refine blk_drew ?_ | refine blk_alloc ?_ _)); refine blk_far ?_ NB414_431.out _; (with_reducible repeat (first | refine blk_drewN ?_ _ | refine blk_drew ?_ | refine blk_alloc ?_ _)); refine blk_far ?_ NB414_431.out _; (with_reducible repeat (first | refine blk_drewN ?_ _ | refine blk_drew ?_ | refine blk_alloc ?_ _)); refine blk_far ?_ NB414_431.out _; (with_reducible repeat (first | refine blk_drewN ?_ _ | refine blk_drew ?_ | refine blk_alloc ?_ _)); exact BK414.out) hb); have n2_ := Aside0.mk (blk_below (g := gb431) (o := .cells #[.int .u8 t421, .int .u8 t422, .int .u8 t423, .int .u8 t424, .int .u8 t425, .int .u8 t426, .int .u8 t427, .int .u8 t428, .int .u16 t429, .int .u16 t430] 24 (0, 0)) (by (with_reducible repeat (first | refine blk_drewN ?_ _ | refine blk_drew ?_ | refine blk_alloc ?_ _)); refine blk_put (cs := #[.int .u8 t421, .int .u8 t422, .int .u8 t423, .int .u8 t424, .int .u8 t425, .int .u8 t426, .int .u8 t427, .int .u8 t428, .int .u16 t429, .int .u16 0]) ?_ 9 _ rfl; (with_reducible repeat (first | refine blk_drewN ?_ _ | refine blk_drew ?_ | refine blk_alloc ?_ _)); refine blk_put (cs := #[.int .u8 t421, .int .u8 t422, .int .u8 t423, .int .u8 t424, .int .u8 t425, .int .u8 t426, .int .u8 t427, .int .u8 t428, .int .u16 0, .int .u16 0]) ?_ 8 _ rfl; (with_reducible repeat (first | refine blk_drewN ?_ _ | refine blk_drew ?_ | refine blk_alloc ?_ _)); refine blk_put (cs := #[.int .u8 t421, .int .u8 t422, .int .u8 t423, .int .u8 t424, .int .u8 t425, .int .u8 t426, .int .u8 t427, .int .u8 0, .int .u16 0, .int .u16 0]) ?_ 7 _ rfl; (with_reducible repeat (first | refine blk_drewN ?_ _ | refine blk_drew ?_ | refine blk_alloc ?_ _)); refine blk_put (cs := #[.int .u8 t421, .int .u8 t422, .int .u8 t423, .int .u8 t424, .int .u8 t425, .int .u8 t426, .int .u8 0, .int .u8 0, .int .u16 0, .int .u16 0]) ?_ 6 _ rfl; (with_reducible repeat (first | refine blk_drewN ?_ _ | refine blk_drew ?_ | refine blk_alloc ?_ _)); refine blk_put (cs := #[.int .u8 t421, .int .u8 t422, .int .u8 t423, .int .u8 t424, .int .u8 t425, .int .u8 0, .int .u8 0, .int .u8 0, .int .u16 0, .int .u16 0]) ?_ 5 _ rfl; (with_reducible repeat (first | refine blk_drewN ?_ _ | refine blk_drew ?_ | refine blk_alloc ?_ _)); refine blk_put (cs := #[.int .u8 t421, .int .u8 t422, .int .u8 t423, .int .u8 t424, .int .u8 0, .int .u8 0, .int .u8 0, .int .u8 0, .int .u16 0, .int .u16 0]) ?_ 4 _ rfl; (with_reducible repeat (first | refine blk_drewN ?_ _ | refine blk_drew ?_ | refine blk_alloc ?_ _)); refine blk_put (cs := #[.int .u8 t421, .int .u8 t422, .int .u8 t423, .int .u8 0, .int .u8 0, .int .u8 0, .int .u8 0, .int .u8 0, .int .u16 0, .int .u16 0]) ?_ 3 _ rfl; (with_reducible repeat (first | refine blk_drewN ?_ _ | refine blk_drew ?_ | refine blk_alloc ?_ _)); refine blk_put (cs := #[.int .u8 t421, .int .u8 t422, .int .u8 0, .int .u8 0, .int .u8 0, .int .u8 0, .int .u8 0, .int .u8 0, .int .u16 0, .int .u16 0]) ?_ 2 _ rfl; (with_reducible repeat (first | refine blk_drewN ?_ _ | refine blk_drew ?_ | refine blk_alloc ?_ _)); refine blk_put (cs := #[.int .u8 t421, .int .u8 0, .int .u8 0, .int .u8 0, .int .u8 0, .int .u8 0, .int .u8 0, .int .u8 0, .int .u16 0, .int .u16 0]) ?_ 1 _ rfl; (with_reducible repeat (first | refine blk_drewN ?_ _ | refine blk_drew ?_ | refine blk_alloc ?_ _)); refine blk_put (cs := #[.int .u8 0, .int .u8 0, .int .u8 0, .int .u8 0, .int .u8 0, .int .u8 0, .int .u8 0, .int .u8 0, .int .u16 0, .int .u16 0]) ?_ 0 _ rfl; (with_reducible repeat (first | refine blk_drewN ?_ _ | refine blk_drew ?_ | refine blk_alloc ?_ _)); exact BK431.out) hb); have n3_ := Aside0.mk (below_step (by repeat (first | (with_reducible first | exact HB.out | apply below_alloc | apply pw_below_drewN | apply below_drew1 | refine below_set ?_ GE401.out | refine below_set ?_ GE414.out | refine below_set ?_ GE431.out) | exact HB.out)) hb); clear BK401; clear BK414; clear BK431; clear HB; have BK401 := n0_; have BK414 := n1_; have BK431 := n2_; have HB := n3_; clear n0_ n1_ n2_ n3_; (try clear hb); (try clear hb2); (try clear hk); (try clear hi)) | ((with_reducible refine gate_callee (f := 29) rfl ?_); refine goesL_ (some 51) rfl rfl Try.func29 (by kernel_rfl) rfl #[.string t432] rfl (by (try simp only [List.map_toArray, List.map_cons, List.map_nil]); first | done | rfl | (simp only [List.length_drop, List.length_take]; rfl)) ?_; (with_reducible refine (regs_Parse.calls t432 t433 t434 t435 t436 t437 t438 t439 t440 t441 t442 t443 _ A37.out).mono ?_); rintro e w74 ⟨rfl, hb⟩; refine ⟨_, rfl, ?_⟩; have n0_ := Aside0.mk (blk_below (g := gb401) (o := .cells #[.int .u8 a0_0, .int .u8 a0_1, .int .u8 a0_2, .int .u8 a0_3, .int .u8 a0_4, .int .u8 a0_5, .int .u8 a0_6, .int .u8 a0_7, .int .u16 a0_8, .int .u16 a0_9] 24 (0, 0)) (by (with_reducible repeat (first | refine blk_drewN ?_ _ | refine blk_drew ?_ | refine blk_alloc ?_ _)); exact BK401.out) hb); have n1_ := Aside0.mk (blk_below (g := gb414) (o := .cells #[.int .u8 t403, .int .u8 t404, .int .u8 t405, .int .u8 t406, .int .u8 t407, .int .u8 t408, .int .u8 t409, .int .u8 t410, .int .u16 t411, .int .u16 t412] 24 (0, 0)) (by (with_reducible repeat (first | refine blk_drewN ?_ _ | refine blk_drew ?_ | refine blk_alloc ?_ _)); exact BK414.out) hb); have n2_ := Aside0.mk (blk_below (g := gb431) (o := .cells #[.int .u8 t421, .int .u8 t422, .int .u8 t423, .int .u8 t424, .int .u8 t425, .int .u8 t426, .int .u8 t427, .int .u8 t428, .int .u16 t429, .int .u16 t430] 24 (0, 0)) (by (with_reducible repeat (first | refine blk_drewN ?_ _ | refine blk_drew ?_ | refine blk_alloc ?_ _)); exact BK431.out) hb); have n3_ := Aside0.mk (below_step (by repeat (first | (with_reducible first | exact HB.out | apply below_alloc | apply pw_below_drewN | apply below_drew1 | refine below_set ?_ GE401.out | refine below_set ?_ GE414.out | refine below_set ?_ GE431.out) | exact HB.out)) hb); clear BK401; clear BK414; clear BK431; clear HB; have BK401 := n0_; have BK414 := n1_; have BK431 := n2_; have HB := n3_; clear n0_ n1_ n2_ n3_; (try clear hb); (try clear hb2); (try clear hk); (try clear hi)) | ((with_reducible refine gate_dst (N := 14) rfl ?_); refine box_event ?hg (N := 14) ?hd (cs := #[.int .u8 0, .int .u8 0, .int .u8 0, .int .u8 0, .int .u8 0, .int .u8 0, .int .u8 0, .int .u8 0, .int .u16 0, .int .u16 0]) (t := 24) ?hr ?_; (case hd => rfl); (case hg => rfl); (case hr => first | (go_simp; done) | (go_simp; rfl)); intro gb444 hg w75 hbox hb; have n0_ := Aside0.mk (blk_below (g := gb401) (o := .cells #[.int .u8 a0_0, .int .u8 a0_1, .int .u8 a0_2, .int .u8 a0_3, .int .u8 a0_4, .int .u8 a0_5, .int .u8 a0_6, .int .u8 a0_7, .int .u16 a0_8, .int .u16 a0_9] 24 (0, 0)) (by (with_reducible repeat (first | refine blk_drewN ?_ _ | refine blk_drew ?_ | refine blk_alloc ?_ _)); exact BK401.out) hb); have n1_ := Aside0.mk (blk_below (g := gb414) (o := .cells #[.int .u8 t403, .int .u8 t404, .int .u8 t405, .int .u8 t406, .int .u8 t407, .int .u8 t408, .int .u8 t409, .int .u8 t410, .int .u16 t411, .int .u16 t412] 24 (0, 0)) (by (with_reducible repeat (first | refine blk_drewN ?_ _ | refine blk_drew ?_ | refine blk_alloc ?_ _)); exact BK414.out) hb); have n2_ := Aside0.mk (blk_below (g := gb431) (o := .cells #[.int .u8 t421, .int .u8 t422, .int .u8 t423, .int .u8 t424, .int .u8 t425, .int .u8 t426, .int .u8 t427, .int .u8 t428, .int .u16 t429, .int .u16 t430] 24 (0, 0)) (by (with_reducible repeat (first | refine blk_drewN ?_ _ | refine blk_drew ?_ | refine blk_alloc ?_ _)); exact BK431.out) hb); have n3_ := Aside0.mk (below_step (by repeat (first | (with_reducible first | exact HB.out | apply below_alloc | apply pw_below_drewN | apply below_drew1 | refine below_set ?_ GE401.out | refine below_set ?_ GE414.out | refine below_set ?_ GE431.out) | exact HB.out)) hb); have n4_ := Aside0.mk (hbox); have n5_ := Aside0.mk ((by rw [hg]; exact (below_size (by repeat (first | (with_reducible first | exact HB.out | apply below_alloc | apply pw_below_drewN | apply below_drew1 | refine below_set ?_ GE401.out | refine below_set ?_ GE414.out | refine below_set ?_ GE431.out) | exact HB.out))) : w.heap.size ≤ gb444)); have n6_ := Aside0.mk ((by rw [hg]; exact (below_size (by repeat (first | (with_reducible first | exact HB.out | apply below_alloc | apply pw_below_drewN | apply below_drew1 | refine below_set ?_ GE401.out | refine below_set ?_ GE414.out | refine below_set ?_ GE431.out) | exact HB.out))) : w.heap.size ≤ gb444)); have n7_ := Aside0.mk ((by rw [hg]; exact Nat.ne_of_lt (blk_lt (g := gb401) (o := .cells #[.int .u8 a0_0, .int .u8 a0_1, .int .u8 a0_2, .int .u8 a0_3, .int .u8 a0_4, .int .u8 a0_5, .int .u8 a0_6, .int .u8 a0_7, .int .u16 a0_8, .int .u16 a0_9] 24 (0, 0)) (by (with_reducible repeat (first | refine blk_drewN ?_ _ | refine blk_drew ?_ | refine blk_alloc ?_ _)); exact BK401.out)) : gb401 ≠ gb444)); have n8_ := Aside0.mk ((by rw [hg]; exact Nat.ne_of_gt (blk_lt (g := gb401) (o := .cells #[.int .u8 a0_0, .int .u8 a0_1, .int .u8 a0_2, .int .u8 a0_3, .int .u8 a0_4, .int .u8 a0_5, .int .u8 a0_6, .int .u8 a0_7, .int .u16 a0_8, .int .u16 a0_9] 24 (0, 0)) (by (with_reducible repeat (first | refine blk_drewN ?_ _ | refine blk_drew ?_ | refine blk_alloc ?_ _)); exact BK401.out)) : gb444 ≠ gb401)); have n9_ := Aside0.mk ((by rw [hg]; exact Nat.ne_of_lt (blk_lt (g := gb414) (o := .cells #[.int .u8 t403, .int .u8 t404, .int .u8 t405, .int .u8 t406, .int .u8 t407, .int .u8 t408, .int .u8 t409, .int .u8 t410, .int .u16 t411, .int .u16 t412] 24 (0, 0)) (by (with_reducible repeat (first | refine blk_drewN ?_ _ | refine blk_drew ?_ | refine blk_alloc ?_ _)); exact BK414.out)) : gb414 ≠ gb444)); have n10_ := Aside0.mk ((by rw [hg]; exact Nat.ne_of_gt (blk_lt (g := gb414) (o := .cells #[.int .u8 t403, .int .u8 t404, .int .u8 t405, .int .u8 t406, .int .u8 t407, .int .u8 t408, .int .u8 t409, .int .u8 t410, .int .u16 t411, .int .u16 t412] 24 (0, 0)) (by (with_reducible repeat (first | refine blk_drewN ?_ _ | refine blk_drew ?_ | refine blk_alloc ?_ _)); exact BK414.out)) : gb444 ≠ gb414)); have n11_ := Aside0.mk ((by rw [hg]; exact Nat.ne_of_lt (blk_lt (g := gb431) (o := .cells #[.int .u8 t421, .int .u8 t422, .int .u8 t423, .int .u8 t424, .int .u8 t425, .int .u8 t426, .int .u8 t427, .int .u8 t428, .int .u16 t429, .int .u16 t430] 24 (0, 0)) (by (with_reducible repeat (first | refine blk_drewN ?_ _ | refine blk_drew ?_ | refine blk_alloc ?_ _)); exact BK431.out)) : gb431 ≠ gb444)); have n12_ := Aside0.mk ((by rw [hg]; exact Nat.ne_of_gt (blk_lt (g := gb431) (o := .cells #[.int .u8 t421, .int .u8 t422, .int .u8 t423, .int .u8 t424, .int .u8 t425, .int .u8 t426, .int .u8 t427, .int .u8 t428, .int .u16 t429, .int .u16 t430] 24 (0, 0)) (by (with_reducible repeat (first | refine blk_drewN ?_ _ | refine blk_drew ?_ | refine blk_alloc ?_ _)); exact BK431.out)) : gb444 ≠ gb431)); clear BK401; clear BK414; clear BK431; clear HB; have BK401 := n0_; have BK414 := n1_; have BK431 := n2_; have HB := n3_; have BK444 := n4_; have GW444 := n5_; have GE444 := n6_; have NB401_444 := n7_; have NB444_401 := n8_; have NB414_444 := n9_; have NB444_414 := n10_; have NB431_444 := n11_; have NB444_431 := n12_; clear n0_ n1_ n2_ n3_ n4_ n5_ n6_ n7_ n8_ n9_ n10_ n11_ n12_; clear hb hbox hg; have hnb76 := NB444_401.out; have hnc76 := NB401_444.out; have hnb77 := NB444_414.out; have hnc77 := NB414_444.out; have hnb78 := NB444_431.out; have hnc78 := NB431_444.out; have hcz79_0 : w75.cell? ⟨gb444, 0, none⟩ = some (.int .u8 0) := (blk_cell BK444.out 0).trans rfl; have hcz79_1 : w75.cell? ⟨gb444, 1, none⟩ = some (.int .u8 0) := (blk_cell BK444.out 1).trans rfl; have hcz79_2 : w75.cell? ⟨gb444, 2, none⟩ = some (.int .u8 0) := (blk_cell BK444.out 2).trans rfl; have hcz79_3 : w75.cell? ⟨gb444, 3, none⟩ = some (.int .u8 0) := (blk_cell BK444.out 3).trans rfl; have hcz79_4 : w75.cell? ⟨gb444, 4, none⟩ = some (.int .u8 0) := (blk_cell BK444.out 4).trans rfl; have hcz79_5 : w75.cell? ⟨gb444, 5, none⟩ = some (.int .u8 0) := (blk_cell BK444.out 5).trans rfl; have hcz79_6 : w75.cell? ⟨gb444, 6, none⟩ = some (.int .u8 0) := (blk_cell BK444.out 6).trans rfl; have hcz79_7 : w75.cell? ⟨gb444, 7, none⟩ = some (.int .u8 0) := (blk_cell BK444.out 7).trans rfl; have hcz79_8 : w75.cell? ⟨gb444, 8, none⟩ = some (.int .u16 0) := (blk_cell BK444.out 8).trans rfl; have hcz79_9 : w75.cell? ⟨gb444, 9, none⟩ = some (.int .u16 0) := (blk_cell BK444.out 9).trans rfl; have hfz79_0 := blk_frozen BK444.out 0; have hfz79_1 := blk_frozen BK444.out 1; have hfz79_2 := blk_frozen BK444.out 2; have hfz79_3 := blk_frozen BK444.out 3; have hfz79_4 := blk_frozen BK444.out 4; have hfz79_5 := blk_frozen BK444.out 5; have hfz79_6 := blk_frozen BK444.out 6; have hfz79_7 := blk_frozen BK444.out 7; have hfz79_8 := blk_frozen BK444.out 8; have hfz79_9 := blk_frozen BK444.out 9))
                  have n0_ : Aside0 (((((((((((w75.setCell ⟨gb444, 0, none⟩ (.int .u8 t433)).setCell ⟨gb444, 1, none⟩ (.int .u8 t434)).setCell ⟨gb444, 2, none⟩ (.int .u8 t435)).setCell ⟨gb444, 3, none⟩ (.int .u8 t436)).setCell ⟨gb444, 4, none⟩ (.int .u8 t437)).setCell ⟨gb444, 5, none⟩ (.int .u8 t438)).setCell ⟨gb444, 6, none⟩ (.int .u8 t439)).setCell ⟨gb444, 7, none⟩ (.int .u8 t440)).setCell ⟨gb444, 8, none⟩ (.int .u16 t441)).setCell ⟨gb444, 9, none⟩ (.int .u16 t442)).heap[gb401]? = some (.cells #[.int .u8 a0_0, .int .u8 a0_1, .int .u8 a0_2, .int .u8 a0_3, .int .u8 a0_4, .int .u8 a0_5, .int .u8 a0_6, .int .u8 a0_7, .int .u16 a0_8, .int .u16 a0_9] 24 (0, 0))) := ⟨by (with_reducible repeat (first | refine blk_drewN ?_ _ | refine blk_drew ?_ | refine blk_alloc ?_ _)); refine blk_far ?_ NB401_444.out _; (with_reducible repeat (first | refine blk_drewN ?_ _ | refine blk_drew ?_ | refine blk_alloc ?_ _)); refine blk_far ?_ NB401_444.out _; (with_reducible repeat (first | refine blk_drewN ?_ _ | refine blk_drew ?_ | refine blk_alloc ?_ _)); refine blk_far ?_ NB401_444.out _; (with_reducible repeat (first | refine blk_drewN ?_ _ | refine blk_drew ?_ | refine blk_alloc ?_ _)); refine blk_far ?_ NB401_444.out _; (with_reducible repeat (first | refine blk_drewN ?_ _ | refine blk_drew ?_ | refine blk_alloc ?_ _)); refine blk_far ?_ NB401_444.out _; (with_reducible repeat (first | refine blk_drewN ?_ _ | refine blk_drew ?_ | refine blk_alloc ?_ _)); refine blk_far ?_ NB401_444.out _; (with_reducible repeat (first | refine blk_drewN ?_ _ | refine blk_drew ?_ | refine blk_alloc ?_ _)); refine blk_far ?_ NB401_444.out _; (with_reducible repeat (first | refine blk_drewN ?_ _ | refine blk_drew ?_ | refine blk_alloc ?_ _)); refine blk_far ?_ NB401_444.out _; (with_reducible repeat (first | refine blk_drewN ?_ _ | refine blk_drew ?_ | refine blk_alloc ?_ _)); refine blk_far ?_ NB401_444.out _; (with_reducible repeat (first | refine blk_drewN ?_ _ | refine blk_drew ?_ | refine blk_alloc ?_ _)); refine blk_far ?_ NB401_444.out _; (with_reducible repeat (first | refine blk_drewN ?_ _ | refine blk_drew ?_ | refine blk_alloc ?_ _)); exact BK401.out⟩
                  have n1_ : Aside0 (((((((((((w75.setCell ⟨gb444, 0, none⟩ (.int .u8 t433)).setCell ⟨gb444, 1, none⟩ (.int .u8 t434)).setCell ⟨gb444, 2, none⟩ (.int .u8 t435)).setCell ⟨gb444, 3, none⟩ (.int .u8 t436)).setCell ⟨gb444, 4, none⟩ (.int .u8 t437)).setCell ⟨gb444, 5, none⟩ (.int .u8 t438)).setCell ⟨gb444, 6, none⟩ (.int .u8 t439)).setCell ⟨gb444, 7, none⟩ (.int .u8 t440)).setCell ⟨gb444, 8, none⟩ (.int .u16 t441)).setCell ⟨gb444, 9, none⟩ (.int .u16 t442)).heap[gb414]? = some (.cells #[.int .u8 t403, .int .u8 t404, .int .u8 t405, .int .u8 t406, .int .u8 t407, .int .u8 t408, .int .u8 t409, .int .u8 t410, .int .u16 t411, .int .u16 t412] 24 (0, 0))) := ⟨by (with_reducible repeat (first | refine blk_drewN ?_ _ | refine blk_drew ?_ | refine blk_alloc ?_ _)); refine blk_far ?_ NB414_444.out _; (with_reducible repeat (first | refine blk_drewN ?_ _ | refine blk_drew ?_ | refine blk_alloc ?_ _)); refine blk_far ?_ NB414_444.out _; (with_reducible repeat (first | refine blk_drewN ?_ _ | refine blk_drew ?_ | refine blk_alloc ?_ _)); refine blk_far ?_ NB414_444.out _; (with_reducible repeat (first | refine blk_drewN ?_ _ | refine blk_drew ?_ | refine blk_alloc ?_ _)); refine blk_far ?_ NB414_444.out _; (with_reducible repeat (first | refine blk_drewN ?_ _ | refine blk_drew ?_ | refine blk_alloc ?_ _)); refine blk_far ?_ NB414_444.out _; (with_reducible repeat (first | refine blk_drewN ?_ _ | refine blk_drew ?_ | refine blk_alloc ?_ _)); refine blk_far ?_ NB414_444.out _; (with_reducible repeat (first | refine blk_drewN ?_ _ | refine blk_drew ?_ | refine blk_alloc ?_ _)); refine blk_far ?_ NB414_444.out _; (with_reducible repeat (first | refine blk_drewN ?_ _ | refine blk_drew ?_ | refine blk_alloc ?_ _)); refine blk_far ?_ NB414_444.out _; (with_reducible repeat (first | refine blk_drewN ?_ _ | refine blk_drew ?_ | refine blk_alloc ?_ _)); refine blk_far ?_ NB414_444.out _; (with_reducible repeat (first | refine blk_drewN ?_ _ | refine blk_drew ?_ | refine blk_alloc ?_ _)); refine blk_far ?_ NB414_444.out _; (with_reducible repeat (first | refine blk_drewN ?_ _ | refine blk_drew ?_ | refine blk_alloc ?_ _)); exact BK414.out⟩
                  have n2_ : Aside0 (((((((((((w75.setCell ⟨gb444, 0, none⟩ (.int .u8 t433)).setCell ⟨gb444, 1, none⟩ (.int .u8 t434)).setCell ⟨gb444, 2, none⟩ (.int .u8 t435)).setCell ⟨gb444, 3, none⟩ (.int .u8 t436)).setCell ⟨gb444, 4, none⟩ (.int .u8 t437)).setCell ⟨gb444, 5, none⟩ (.int .u8 t438)).setCell ⟨gb444, 6, none⟩ (.int .u8 t439)).setCell ⟨gb444, 7, none⟩ (.int .u8 t440)).setCell ⟨gb444, 8, none⟩ (.int .u16 t441)).setCell ⟨gb444, 9, none⟩ (.int .u16 t442)).heap[gb431]? = some (.cells #[.int .u8 t421, .int .u8 t422, .int .u8 t423, .int .u8 t424, .int .u8 t425, .int .u8 t426, .int .u8 t427, .int .u8 t428, .int .u16 t429, .int .u16 t430] 24 (0, 0))) := ⟨by (with_reducible repeat (first | refine blk_drewN ?_ _ | refine blk_drew ?_ | refine blk_alloc ?_ _)); refine blk_far ?_ NB431_444.out _; (with_reducible repeat (first | refine blk_drewN ?_ _ | refine blk_drew ?_ | refine blk_alloc ?_ _)); refine blk_far ?_ NB431_444.out _; (with_reducible repeat (first | refine blk_drewN ?_ _ | refine blk_drew ?_ | refine blk_alloc ?_ _)); refine blk_far ?_ NB431_444.out _; (with_reducible repeat (first | refine blk_drewN ?_ _ | refine blk_drew ?_ | refine blk_alloc ?_ _)); refine blk_far ?_ NB431_444.out _; (with_reducible repeat (first | refine blk_drewN ?_ _ | refine blk_drew ?_ | refine blk_alloc ?_ _)); refine blk_far ?_ NB431_444.out _; (with_reducible repeat (first | refine blk_drewN ?_ _ | refine blk_drew ?_ | refine blk_alloc ?_ _)); refine blk_far ?_ NB431_444.out _; (with_reducible repeat (first | refine blk_drewN ?_ _ | refine blk_drew ?_ | refine blk_alloc ?_ _)); refine blk_far ?_ NB431_444.out _; (with_reducible repeat (first | refine blk_drewN ?_ _ | refine blk_drew ?_ | refine blk_alloc ?_ _)); refine blk_far ?_ NB431_444.out _; (with_reducible repeat (first | refine blk_drewN ?_ _ | refine blk_drew ?_ | refine blk_alloc ?_ _)); refine blk_far ?_ NB431_444.out _; (with_reducible repeat (first | refine blk_drewN ?_ _ | refine blk_drew ?_ | refine blk_alloc ?_ _)); refine blk_far ?_ NB431_444.out _; (with_reducible repeat (first | refine blk_drewN ?_ _ | refine blk_drew ?_ | refine blk_alloc ?_ _)); exact BK431.out⟩
                  have n3_ : Aside0 (((((((((((w75.setCell ⟨gb444, 0, none⟩ (.int .u8 t433)).setCell ⟨gb444, 1, none⟩ (.int .u8 t434)).setCell ⟨gb444, 2, none⟩ (.int .u8 t435)).setCell ⟨gb444, 3, none⟩ (.int .u8 t436)).setCell ⟨gb444, 4, none⟩ (.int .u8 t437)).setCell ⟨gb444, 5, none⟩ (.int .u8 t438)).setCell ⟨gb444, 6, none⟩ (.int .u8 t439)).setCell ⟨gb444, 7, none⟩ (.int .u8 t440)).setCell ⟨gb444, 8, none⟩ (.int .u16 t441)).setCell ⟨gb444, 9, none⟩ (.int .u16 t442)).heap[gb444]? = some (.cells #[.int .u8 t433, .int .u8 t434, .int .u8 t435, .int .u8 t436, .int .u8 t437, .int .u8 t438, .int .u8 t439, .int .u8 t440, .int .u16 t441, .int .u16 t442] 24 (0, 0))) := ⟨by (with_reducible repeat (first | refine blk_drewN ?_ _ | refine blk_drew ?_ | refine blk_alloc ?_ _)); refine blk_put (cs := #[.int .u8 t433, .int .u8 t434, .int .u8 t435, .int .u8 t436, .int .u8 t437, .int .u8 t438, .int .u8 t439, .int .u8 t440, .int .u16 t441, .int .u16 0]) ?_ 9 _ rfl; (with_reducible repeat (first | refine blk_drewN ?_ _ | refine blk_drew ?_ | refine blk_alloc ?_ _)); refine blk_put (cs := #[.int .u8 t433, .int .u8 t434, .int .u8 t435, .int .u8 t436, .int .u8 t437, .int .u8 t438, .int .u8 t439, .int .u8 t440, .int .u16 0, .int .u16 0]) ?_ 8 _ rfl; (with_reducible repeat (first | refine blk_drewN ?_ _ | refine blk_drew ?_ | refine blk_alloc ?_ _)); refine blk_put (cs := #[.int .u8 t433, .int .u8 t434, .int .u8 t435, .int .u8 t436, .int .u8 t437, .int .u8 t438, .int .u8 t439, .int .u8 0, .int .u16 0, .int .u16 0]) ?_ 7 _ rfl; (with_reducible repeat (first | refine blk_drewN ?_ _ | refine blk_drew ?_ | refine blk_alloc ?_ _)); refine blk_put (cs := #[.int .u8 t433, .int .u8 t434, .int .u8 t435, .int .u8 t436, .int .u8 t437, .int .u8 t438, .int .u8 0, .int .u8 0, .int .u16 0, .int .u16 0]) ?_ 6 _ rfl; (with_reducible repeat (first | refine blk_drewN ?_ _ | refine blk_drew ?_ | refine blk_alloc ?_ _)); refine blk_put (cs := #[.int .u8 t433, .int .u8 t434, .int .u8 t435, .int .u8 t436, .int .u8 t437, .int .u8 0, .int .u8 0, .int .u8 0, .int .u16 0, .int .u16 0]) ?_ 5 _ rfl; (with_reducible repeat (first | refine blk_drewN ?_ _ | refine blk_drew ?_ | refine blk_alloc ?_ _)); refine blk_put (cs := #[.int .u8 t433, .int .u8 t434, .int .u8 t435, .int .u8 t436, .int .u8 0, .int .u8 0, .int .u8 0, .int .u8 0, .int .u16 0, .int .u16 0]) ?_ 4 _ rfl; (with_reducible repeat (first | refine blk_drewN ?_ _ | refine blk_drew ?_ | refine blk_alloc ?_ _)); refine blk_put (cs := #[.int .u8 t433, .int .u8 t434, .int .u8 t435, .int .u8 0, .int .u8 0, .int .u8 0, .int .u8 0, .int .u8 0, .int .u16 0, .int .u16 0]) ?_ 3 _ rfl; (with_reducible repeat (first | refine blk_drewN ?_ _ | refine blk_drew ?_ | refine blk_alloc ?_ _)); refine blk_put (cs := #[.int .u8 t433, .int .u8 t434, .int .u8 0, .int .u8 0, .int .u8 0, .int .u8 0, .int .u8 0, .int .u8 0, .int .u16 0, .int .u16 0]) ?_ 2 _ rfl; (with_reducible repeat (first | refine blk_drewN ?_ _ | refine blk_drew ?_ | refine blk_alloc ?_ _)); refine blk_put (cs := #[.int .u8 t433, .int .u8 0, .int .u8 0, .int .u8 0, .int .u8 0, .int .u8 0, .int .u8 0, .int .u8 0, .int .u16 0, .int .u16 0]) ?_ 1 _ rfl; (with_reducible repeat (first | refine blk_drewN ?_ _ | refine blk_drew ?_ | refine blk_alloc ?_ _)); refine blk_put (cs := #[.int .u8 0, .int .u8 0, .int .u8 0, .int .u8 0, .int .u8 0, .int .u8 0, .int .u8 0, .int .u8 0, .int .u16 0, .int .u16 0]) ?_ 0 _ rfl; (with_reducible repeat (first | refine blk_drewN ?_ _ | refine blk_drew ?_ | refine blk_alloc ?_ _)); exact BK444.out⟩
                  have n4_ : Aside0 (Below w.heap.size w ((((((((((w75.setCell ⟨gb444, 0, none⟩ (.int .u8 t433)).setCell ⟨gb444, 1, none⟩ (.int .u8 t434)).setCell ⟨gb444, 2, none⟩ (.int .u8 t435)).setCell ⟨gb444, 3, none⟩ (.int .u8 t436)).setCell ⟨gb444, 4, none⟩ (.int .u8 t437)).setCell ⟨gb444, 5, none⟩ (.int .u8 t438)).setCell ⟨gb444, 6, none⟩ (.int .u8 t439)).setCell ⟨gb444, 7, none⟩ (.int .u8 t440)).setCell ⟨gb444, 8, none⟩ (.int .u16 t441)).setCell ⟨gb444, 9, none⟩ (.int .u16 t442))) := ⟨by repeat (first | (with_reducible first | exact HB.out | apply below_alloc | apply pw_below_drewN | apply below_drew1 | refine below_set ?_ GE401.out | refine below_set ?_ GE414.out | refine below_set ?_ GE431.out | refine below_set ?_ GE444.out) | exact HB.out)⟩
                  (try clear BK401)
                  (try clear BK414)
                  (try clear BK431)
                  (try clear BK444)
                  (try clear HB)
                  generalize ((((((((((w75.setCell ⟨gb444, 0, none⟩ (.int .u8 t433)).setCell ⟨gb444, 1, none⟩ (.int .u8 t434)).setCell ⟨gb444, 2, none⟩ (.int .u8 t435)).setCell ⟨gb444, 3, none⟩ (.int .u8 t436)).setCell ⟨gb444, 4, none⟩ (.int .u8 t437)).setCell ⟨gb444, 5, none⟩ (.int .u8 t438)).setCell ⟨gb444, 6, none⟩ (.int .u8 t439)).setCell ⟨gb444, 7, none⟩ (.int .u8 t440)).setCell ⟨gb444, 8, none⟩ (.int .u16 t441)).setCell ⟨gb444, 9, none⟩ (.int .u16 t442)) = w80 at n0_ n1_ n2_ n3_ n4_ ⊢
                  have BK401 := n0_
                  have BK414 := n1_
                  have BK431 := n2_
                  have BK444 := n3_
                  have HB := n4_
                  clear n0_ n1_ n2_ n3_ n4_
                  have n0_ := Aside0.mk (blk_drew BK401.out)
                  have n1_ := Aside0.mk (blk_drew BK414.out)
                  have n2_ := Aside0.mk (blk_drew BK431.out)
                  have n3_ := Aside0.mk (blk_drew BK444.out)
                  have n4_ := Aside0.mk (below_drew1 HB.out)
                  clear BK401
                  clear BK414
                  clear BK431
                  clear BK444
                  clear HB
                  have BK401 := n0_
                  have BK414 := n1_
                  have BK431 := n2_
                  have BK444 := n3_
                  have HB := n4_
                  clear n0_ n1_ n2_ n3_ n4_
                  refine start_ (n := 40) (S := fun w' => w'.cell? ⟨gb431, 0, none⟩ = some (.int .u8 t421) ∧ w'.cell? ⟨gb431, 1, none⟩ = some (.int .u8 t422) ∧ w'.cell? ⟨gb431, 2, none⟩ = some (.int .u8 t423) ∧ w'.cell? ⟨gb431, 3, none⟩ = some (.int .u8 t424) ∧ w'.cell? ⟨gb431, 4, none⟩ = some (.int .u8 t425) ∧ w'.cell? ⟨gb431, 5, none⟩ = some (.int .u8 t426) ∧ w'.cell? ⟨gb431, 6, none⟩ = some (.int .u8 t427) ∧ w'.cell? ⟨gb431, 7, none⟩ = some (.int .u8 t428) ∧ w'.cell? ⟨gb431, 8, none⟩ = some (.int .u16 t429) ∧ w'.cell? ⟨gb431, 9, none⟩ = some (.int .u16 t430) ∧ w'.cell? ⟨gb414, 0, none⟩ = some (.int .u8 t403) ∧ w'.cell? ⟨gb414, 1, none⟩ = some (.int .u8 t404) ∧ w'.cell? ⟨gb414, 2, none⟩ = some (.int .u8 t405) ∧ w'.cell? ⟨gb414, 3, none⟩ = some (.int .u8 t406) ∧ w'.cell? ⟨gb414, 4, none⟩ = some (.int .u8 t407) ∧ w'.cell? ⟨gb414, 5, none⟩ = some (.int .u8 t408) ∧ w'.cell? ⟨gb414, 6, none⟩ = some (.int .u8 t409) ∧ w'.cell? ⟨gb414, 7, none⟩ = some (.int .u8 t410) ∧ w'.cell? ⟨gb414, 8, none⟩ = some (.int .u16 t411) ∧ w'.cell? ⟨gb414, 9, none⟩ = some (.int .u16 t412) ∧ w'.cell? ⟨gb444, 0, none⟩ = some (.int .u8 t433) ∧ w'.cell? ⟨gb444, 1, none⟩ = some (.int .u8 t434) ∧ w'.cell? ⟨gb444, 2, none⟩ = some (.int .u8 t435) ∧ w'.cell? ⟨gb444, 3, none⟩ = some (.int .u8 t436) ∧ w'.cell? ⟨gb444, 4, none⟩ = some (.int .u8 t437) ∧ w'.cell? ⟨gb444, 5, none⟩ = some (.int .u8 t438) ∧ w'.cell? ⟨gb444, 6, none⟩ = some (.int .u8 t439) ∧ w'.cell? ⟨gb444, 7, none⟩ = some (.int .u8 t440) ∧ w'.cell? ⟨gb444, 8, none⟩ = some (.int .u16 t441) ∧ w'.cell? ⟨gb444, 9, none⟩ = some (.int .u16 t442)) (ds := []) #[false, false, false, false, false, false, false, false, false, false, false, false, false, false, false, false, false, false, false, false, false, false, false, false, false, false, false, false, false, false, false, false, false, false, false, false, false, false, false, false] (by kernel_rfl) rfl rfl ⟨(blk_cell BK431.out 0).trans rfl, (blk_cell BK431.out 1).trans rfl, (blk_cell BK431.out 2).trans rfl, (blk_cell BK431.out 3).trans rfl, (blk_cell BK431.out 4).trans rfl, (blk_cell BK431.out 5).trans rfl, (blk_cell BK431.out 6).trans rfl, (blk_cell BK431.out 7).trans rfl, (blk_cell BK431.out 8).trans rfl, (blk_cell BK431.out 9).trans rfl, (blk_cell BK414.out 0).trans rfl, (blk_cell BK414.out 1).trans rfl, (blk_cell BK414.out 2).trans rfl, (blk_cell BK414.out 3).trans rfl, (blk_cell BK414.out 4).trans rfl, (blk_cell BK414.out 5).trans rfl, (blk_cell BK414.out 6).trans rfl, (blk_cell BK414.out 7).trans rfl, (blk_cell BK414.out 8).trans rfl, (blk_cell BK414.out 9).trans rfl, (blk_cell BK444.out 0).trans rfl, (blk_cell BK444.out 1).trans rfl, (blk_cell BK444.out 2).trans rfl, (blk_cell BK444.out 3).trans rfl, (blk_cell BK444.out 4).trans rfl, (blk_cell BK444.out 5).trans rfl, (blk_cell BK444.out 6).trans rfl, (blk_cell BK444.out 7).trans rfl, (blk_cell BK444.out 8).trans rfl, (blk_cell BK444.out 9).trans rfl⟩ (fun hHeld => ?_); refine with_tabW whirligiglaw04_RegsBack.tab9 whirligiglaw04_RegsBack.bits9 (fun HT_ HW_ => ?_)
                  generalize w80.drew = w81 at BK401 BK414 BK431 BK444 HB hHeld ⊢
                  refine pure_ (i := 0) (N := some 54) (v := ?_) (a' := ?_) #[true, false, false, false, false, false, false, false, false, false, false, false, false, false, false, false, false, false, false, false, false, false, false, false, false, false, false, false, false, false, false, false, false, false, false, false, false, false, false, false] rfl rfl (any_of HT_.out (by kernel_rfl)) (fun _ _ _ h => h) (Or.inl ⟨by rfl, ?_⟩) ?_ ?_
                  rotate_left
                  · intro w'
                    go_simp
                    with_reducible rfl
                  rotate_left
                  · simp only [Act.put, List.setIfInBounds_toArray, List.set_cons_zero, List.set_cons_succ, i64_w, i32_w]
                    rfl
                  refine pure_ (i := 1) (N := some 55) (v := ?_) (a' := ?_) #[true, true, false, false, false, false, false, false, false, false, false, false, false, false, false, false, false, false, false, false, false, false, false, false, false, false, false, false, false, false, false, false, false, false, false, false, false, false, false, false] rfl rfl (any_of HT_.out (by kernel_rfl)) (fun _ _ _ h => h) (Or.inl ⟨by rfl, ?_⟩) ?_ ?_
                  rotate_left
                  · intro w'
                    go_simp
                    with_reducible rfl
                  rotate_left
                  · simp only [Act.put, List.setIfInBounds_toArray, List.set_cons_zero, List.set_cons_succ, i64_w, i32_w]
                    rfl
                  refine pure_ (i := 2) (N := some 56) (v := ?_) (a' := ?_) #[true, true, true, false, false, false, false, false, false, false, false, false, false, false, false, false, false, false, false, false, false, false, false, false, false, false, false, false, false, false, false, false, false, false, false, false, false, false, false, false] rfl rfl (any_of HT_.out (by kernel_rfl)) (fun _ _ _ h => h) (Or.inl ⟨by rfl, ?_⟩) ?_ ?_
                  rotate_left
                  · intro w'
                    go_simp
                    with_reducible rfl
                  rotate_left
                  · simp only [Act.put, List.setIfInBounds_toArray, List.set_cons_zero, List.set_cons_succ, i64_w, i32_w]
                    rfl
                  refine pure_ (i := 3) (N := some 57) (v := ?_) (a' := ?_) #[true, true, true, true, false, false, false, false, false, false, false, false, false, false, false, false, false, false, false, false, false, false, false, false, false, false, false, false, false, false, false, false, false, false, false, false, false, false, false, false] rfl rfl (any_of HT_.out (by kernel_rfl)) (fun _ _ _ h => h) (Or.inl ⟨by rfl, ?_⟩) ?_ ?_
                  rotate_left
                  · intro w'
                    go_simp
                    with_reducible rfl
                  rotate_left
                  · simp only [Act.put, List.setIfInBounds_toArray, List.set_cons_zero, List.set_cons_succ, i64_w, i32_w]
                    rfl
                  refine pure_ (i := 4) (N := some 58) (v := ?_) (a' := ?_) #[true, true, true, true, true, false, false, false, false, false, false, false, false, false, false, false, false, false, false, false, false, false, false, false, false, false, false, false, false, false, false, false, false, false, false, false, false, false, false, false] rfl rfl (any_of HT_.out (by kernel_rfl)) (fun _ _ _ h => h) (Or.inl ⟨by rfl, ?_⟩) ?_ ?_
                  rotate_left
                  · intro w'
                    go_simp
                    with_reducible rfl
                  rotate_left
                  · simp only [Act.put, List.setIfInBounds_toArray, List.set_cons_zero, List.set_cons_succ, i64_w, i32_w]
                    rfl
                  refine pure_ (i := 5) (N := some 59) (v := ?_) (a' := ?_) #[true, true, true, true, true, true, false, false, false, false, false, false, false, false, false, false, false, false, false, false, false, false, false, false, false, false, false, false, false, false, false, false, false, false, false, false, false, false, false, false] rfl rfl (any_of HT_.out (by kernel_rfl)) (fun _ _ _ h => h) (Or.inl ⟨by rfl, ?_⟩) ?_ ?_
                  rotate_left
                  · intro w'
                    go_simp
                    with_reducible rfl
                  rotate_left
                  · simp only [Act.put, List.setIfInBounds_toArray, List.set_cons_zero, List.set_cons_succ, i64_w, i32_w]
                    rfl
                  refine pure_ (i := 6) (N := some 60) (v := ?_) (a' := ?_) #[true, true, true, true, true, true, true, false, false, false, false, false, false, false, false, false, false, false, false, false, false, false, false, false, false, false, false, false, false, false, false, false, false, false, false, false, false, false, false, false] rfl rfl (any_of HT_.out (by kernel_rfl)) (fun _ _ _ h => h) (Or.inl ⟨by rfl, ?_⟩) ?_ ?_
                  rotate_left
                  · intro w'
                    go_simp
                    with_reducible rfl
                  rotate_left
                  · simp only [Act.put, List.setIfInBounds_toArray, List.set_cons_zero, List.set_cons_succ, i64_w, i32_w]
                    rfl
                  refine pure_ (i := 7) (N := some 61) (v := ?_) (a' := ?_) #[true, true, true, true, true, true, true, true, false, false, false, false, false, false, false, false, false, false, false, false, false, false, false, false, false, false, false, false, false, false, false, false, false, false, false, false, false, false, false, false] rfl rfl (any_of HT_.out (by kernel_rfl)) (fun _ _ _ h => h) (Or.inl ⟨by rfl, ?_⟩) ?_ ?_
                  rotate_left
                  · intro w'
                    go_simp
                    with_reducible rfl
                  rotate_left
                  · simp only [Act.put, List.setIfInBounds_toArray, List.set_cons_zero, List.set_cons_succ, i64_w, i32_w]
                    rfl
                  refine pure_ (i := 8) (N := some 62) (v := ?_) (a' := ?_) #[true, true, true, true, true, true, true, true, true, false, false, false, false, false, false, false, false, false, false, false, false, false, false, false, false, false, false, false, false, false, false, false, false, false, false, false, false, false, false, false] rfl rfl (any_of HT_.out (by kernel_rfl)) (fun _ _ _ h => h) (Or.inl ⟨by rfl, ?_⟩) ?_ ?_
                  rotate_left
                  · intro w'
                    go_simp
                    with_reducible rfl
                  rotate_left
                  · simp only [Act.put, List.setIfInBounds_toArray, List.set_cons_zero, List.set_cons_succ, i64_w, i32_w]
                    rfl
                  refine pure_ (i := 9) (N := some 63) (v := ?_) (a' := ?_) #[true, true, true, true, true, true, true, true, true, true, false, false, false, false, false, false, false, false, false, false, false, false, false, false, false, false, false, false, false, false, false, false, false, false, false, false, false, false, false, false] rfl rfl (any_of HT_.out (by kernel_rfl)) (fun _ _ _ h => h) (Or.inl ⟨by rfl, ?_⟩) ?_ ?_
                  rotate_left
                  · intro w'
                    go_simp
                    with_reducible rfl
                  rotate_left
                  · simp only [Act.put, List.setIfInBounds_toArray, List.set_cons_zero, List.set_cons_succ, i64_w, i32_w]
                    rfl
                  refine pure_ (i := 10) (N := some 64) (v := ?_) (a' := ?_) #[true, true, true, true, true, true, true, true, true, true, true, false, false, false, false, false, false, false, false, false, false, false, false, false, false, false, false, false, false, false, false, false, false, false, false, false, false, false, false, false] rfl rfl (any_of HT_.out (by kernel_rfl)) (fun _ _ _ h => h) (Or.inl ⟨by rfl, ?_⟩) ?_ ?_
                  rotate_left
                  · intro w'
                    go_simp
                    with_reducible rfl
                  rotate_left
                  · simp only [Act.put, List.setIfInBounds_toArray, List.set_cons_zero, List.set_cons_succ, i64_w, i32_w]
                    rfl
                  refine pure_ (i := 11) (N := some 65) (v := ?_) (a' := ?_) #[true, true, true, true, true, true, true, true, true, true, true, true, false, false, false, false, false, false, false, false, false, false, false, false, false, false, false, false, false, false, false, false, false, false, false, false, false, false, false, false] rfl rfl (any_of HT_.out (by kernel_rfl)) (fun _ _ _ h => h) (Or.inl ⟨by rfl, ?_⟩) ?_ ?_
                  rotate_left
                  · intro w'
                    go_simp
                    with_reducible rfl
                  rotate_left
                  · simp only [Act.put, List.setIfInBounds_toArray, List.set_cons_zero, List.set_cons_succ, i64_w, i32_w]
                    rfl
                  refine pure_ (i := 12) (N := some 66) (v := ?_) (a' := ?_) #[true, true, true, true, true, true, true, true, true, true, true, true, true, false, false, false, false, false, false, false, false, false, false, false, false, false, false, false, false, false, false, false, false, false, false, false, false, false, false, false] rfl rfl (any_of HT_.out (by kernel_rfl)) (fun _ _ _ h => h) (Or.inl ⟨by rfl, ?_⟩) ?_ ?_
                  rotate_left
                  · intro w'
                    go_simp
                    with_reducible rfl
                  rotate_left
                  · simp only [Act.put, List.setIfInBounds_toArray, List.set_cons_zero, List.set_cons_succ, i64_w, i32_w]
                    rfl
                  refine pure_ (i := 13) (N := some 67) (v := ?_) (a' := ?_) #[true, true, true, true, true, true, true, true, true, true, true, true, true, true, false, false, false, false, false, false, false, false, false, false, false, false, false, false, false, false, false, false, false, false, false, false, false, false, false, false] rfl rfl (any_of HT_.out (by kernel_rfl)) (fun _ _ _ h => h) (Or.inl ⟨by rfl, ?_⟩) ?_ ?_
                  rotate_left
                  · intro w'
                    go_simp
                    with_reducible rfl
                  rotate_left
                  · simp only [Act.put, List.setIfInBounds_toArray, List.set_cons_zero, List.set_cons_succ, i64_w, i32_w]
                    rfl
                  refine pure_ (i := 14) (N := some 68) (v := ?_) (a' := ?_) #[true, true, true, true, true, true, true, true, true, true, true, true, true, true, true, false, false, false, false, false, false, false, false, false, false, false, false, false, false, false, false, false, false, false, false, false, false, false, false, false] rfl rfl (any_of HT_.out (by kernel_rfl)) (fun _ _ _ h => h) (Or.inl ⟨by rfl, ?_⟩) ?_ ?_
                  rotate_left
                  · intro w'
                    go_simp
                    with_reducible rfl
                  rotate_left
                  · simp only [Act.put, List.setIfInBounds_toArray, List.set_cons_zero, List.set_cons_succ, i64_w, i32_w]
                    rfl
                  refine pure_ (i := 15) (N := some 69) (v := ?_) (a' := ?_) #[true, true, true, true, true, true, true, true, true, true, true, true, true, true, true, true, false, false, false, false, false, false, false, false, false, false, false, false, false, false, false, false, false, false, false, false, false, false, false, false] rfl rfl (any_of HT_.out (by kernel_rfl)) (fun _ _ _ h => h) (Or.inl ⟨by rfl, ?_⟩) ?_ ?_
                  rotate_left
                  · intro w'
                    go_simp
                    with_reducible rfl
                  rotate_left
                  · simp only [Act.put, List.setIfInBounds_toArray, List.set_cons_zero, List.set_cons_succ, i64_w, i32_w]
                    rfl
                  refine pure_ (i := 17) (N := some 71) (v := ?_) (a' := ?_) #[true, true, true, true, true, true, true, true, true, true, true, true, true, true, true, true, false, true, false, false, false, false, false, false, false, false, false, false, false, false, false, false, false, false, false, false, false, false, false, false] rfl rfl (any_of HT_.out (by kernel_rfl)) (fun _ _ _ h => h) (Or.inl ⟨by rfl, ?_⟩) ?_ ?_
                  rotate_left
                  · intro w'
                    go_simp
                    with_reducible rfl
                  rotate_left
                  · simp only [Act.put, List.setIfInBounds_toArray, List.set_cons_zero, List.set_cons_succ, i64_w, i32_w]
                    rfl
                  refine take_ (i := 16) (N := some 70) (v := ?_) (a' := ?_) #[true, true, true, true, true, true, true, true, true, true, true, true, true, true, true, true, true, true, false, false, false, false, false, false, false, false, false, false, false, false, false, false, false, false, false, false, false, false, false, false] rfl rfl (take_ofW HT_.out HW_.out (by kernel_rfl)) (fun _ _ _ h => h) (Or.inl ⟨by rfl, ?_⟩) hHeld ?_ ?_
                  rotate_left
                  · rintro w' ⟨s0, s1, s2, s3, s4, s5, s6, s7, s8, s9, s10, s11, s12, s13, s14, s15, s16, s17, s18, s19, s20, s21, s22, s23, s24, s25, s26, s27, s28, s29⟩
                    go_simp
                    with_reducible rfl
                  rotate_left
                  · simp only [Act.put, List.setIfInBounds_toArray, List.set_cons_zero, List.set_cons_succ, i64_w, i32_w]
                    rfl
                  refine take_ (i := 18) (N := some 72) (v := ?_) (a' := ?_) #[true, true, true, true, true, true, true, true, true, true, true, true, true, true, true, true, true, true, true, false, false, false, false, false, false, false, false, false, false, false, false, false, false, false, false, false, false, false, false, false] rfl rfl (take_ofW HT_.out HW_.out (by kernel_rfl)) (fun _ _ _ h => h) (Or.inl ⟨by rfl, ?_⟩) hHeld ?_ ?_
                  rotate_left
                  · rintro w' ⟨s0, s1, s2, s3, s4, s5, s6, s7, s8, s9, s10, s11, s12, s13, s14, s15, s16, s17, s18, s19, s20, s21, s22, s23, s24, s25, s26, s27, s28, s29⟩
                    go_simp
                    with_reducible rfl
                  rotate_left
                  · simp only [Act.put, List.setIfInBounds_toArray, List.set_cons_zero, List.set_cons_succ, i64_w, i32_w]
                    rfl
                  refine pure_ (i := 19) (N := some 73) (v := ?_) (a' := ?_) #[true, true, true, true, true, true, true, true, true, true, true, true, true, true, true, true, true, true, true, true, false, false, false, false, false, false, false, false, false, false, false, false, false, false, false, false, false, false, false, false] rfl rfl (any_of HT_.out (by kernel_rfl)) (fun _ _ _ h => h) (Or.inl ⟨by rfl, ?_⟩) ?_ ?_
                  rotate_left
                  · intro w'
                    go_simp
                    with_reducible rfl
                  rotate_left
                  · simp only [Act.put, List.setIfInBounds_toArray, List.set_cons_zero, List.set_cons_succ, i64_w, i32_w]
                    rfl
                  refine pure_ (i := 20) (N := some 74) (v := ?_) (a' := ?_) #[true, true, true, true, true, true, true, true, true, true, true, true, true, true, true, true, true, true, true, true, true, false, false, false, false, false, false, false, false, false, false, false, false, false, false, false, false, false, false, false] rfl rfl (any_of HT_.out (by kernel_rfl)) (fun _ _ _ h => h) (Or.inl ⟨by rfl, ?_⟩) ?_ ?_
                  rotate_left
                  · intro w'
                    go_simp
                    with_reducible rfl
                  rotate_left
                  · simp only [Act.put, List.setIfInBounds_toArray, List.set_cons_zero, List.set_cons_succ, i64_w, i32_w]
                    rfl
                  refine pure_ (i := 21) (N := some 75) (v := ?_) (a' := ?_) #[true, true, true, true, true, true, true, true, true, true, true, true, true, true, true, true, true, true, true, true, true, true, false, false, false, false, false, false, false, false, false, false, false, false, false, false, false, false, false, false] rfl rfl (any_of HT_.out (by kernel_rfl)) (fun _ _ _ h => h) (Or.inl ⟨by rfl, ?_⟩) ?_ ?_
                  rotate_left
                  · intro w'
                    go_simp
                    with_reducible rfl
                  rotate_left
                  · simp only [Act.put, List.setIfInBounds_toArray, List.set_cons_zero, List.set_cons_succ, i64_w, i32_w]
                    rfl
                  refine pure_ (i := 22) (N := some 76) (v := ?_) (a' := ?_) #[true, true, true, true, true, true, true, true, true, true, true, true, true, true, true, true, true, true, true, true, true, true, true, false, false, false, false, false, false, false, false, false, false, false, false, false, false, false, false, false] rfl rfl (any_of HT_.out (by kernel_rfl)) (fun _ _ _ h => h) (Or.inl ⟨by rfl, ?_⟩) ?_ ?_
                  rotate_left
                  · intro w'
                    go_simp
                    with_reducible rfl
                  rotate_left
                  · simp only [Act.put, List.setIfInBounds_toArray, List.set_cons_zero, List.set_cons_succ, i64_w, i32_w]
                    rfl
                  refine pure_ (i := 23) (N := some 77) (v := ?_) (a' := ?_) #[true, true, true, true, true, true, true, true, true, true, true, true, true, true, true, true, true, true, true, true, true, true, true, true, false, false, false, false, false, false, false, false, false, false, false, false, false, false, false, false] rfl rfl (any_of HT_.out (by kernel_rfl)) (fun _ _ _ h => h) (Or.inl ⟨by rfl, ?_⟩) ?_ ?_
                  rotate_left
                  · intro w'
                    go_simp
                    with_reducible rfl
                  rotate_left
                  · simp only [Act.put, List.setIfInBounds_toArray, List.set_cons_zero, List.set_cons_succ, i64_w, i32_w]
                    rfl
                  refine take_ (i := 24) (N := some 78) (v := ?_) (a' := ?_) #[true, true, true, true, true, true, true, true, true, true, true, true, true, true, true, true, true, true, true, true, true, true, true, true, true, false, false, false, false, false, false, false, false, false, false, false, false, false, false, false] rfl rfl (take_ofW HT_.out HW_.out (by kernel_rfl)) (fun _ _ _ h => h) (Or.inl ⟨by rfl, ?_⟩) hHeld ?_ ?_
                  rotate_left
                  · rintro w' ⟨s0, s1, s2, s3, s4, s5, s6, s7, s8, s9, s10, s11, s12, s13, s14, s15, s16, s17, s18, s19, s20, s21, s22, s23, s24, s25, s26, s27, s28, s29⟩
                    go_simp
                    with_reducible rfl
                  rotate_left
                  · simp only [Act.put, List.setIfInBounds_toArray, List.set_cons_zero, List.set_cons_succ, i64_w, i32_w]
                    rfl
                  refine take_ (i := 26) (N := some 80) (v := ?_) (a' := ?_) #[true, true, true, true, true, true, true, true, true, true, true, true, true, true, true, true, true, true, true, true, true, true, true, true, true, false, true, false, false, false, false, false, false, false, false, false, false, false, false, false] rfl rfl (take_ofW HT_.out HW_.out (by kernel_rfl)) (fun _ _ _ h => h) (Or.inl ⟨by rfl, ?_⟩) hHeld ?_ ?_
                  rotate_left
                  · rintro w' ⟨s0, s1, s2, s3, s4, s5, s6, s7, s8, s9, s10, s11, s12, s13, s14, s15, s16, s17, s18, s19, s20, s21, s22, s23, s24, s25, s26, s27, s28, s29⟩
                    go_simp
                    with_reducible rfl
                  rotate_left
                  · simp only [Act.put, List.setIfInBounds_toArray, List.set_cons_zero, List.set_cons_succ, i64_w, i32_w]
                    rfl
                  refine one_ (i := 25) (N := some 79) #[true, true, true, true, true, true, true, true, true, true, true, true, true, true, true, true, true, true, true, true, true, true, true, true, true, true, true, false, false, false, false, false, false, false, false, false, false, false, false, false] rfl rfl (one_of HT_.out (by kernel_rfl)) (by decide) (fun K hK => ?_)
                  refine goes_ Try.func21 (by kernel_rfl) rfl #[.agg #[.int .u8 t421, .int .u8 t422, .int .u8 t423, .int .u8 t424, .int .u8 t425, .int .u8 t426, .int .u8 t427, .int .u8 t428, .int .u16 t429, .int .u16 t430]] (by rfl) rfl rfl (by (try simp only [List.map_toArray, List.map_cons, List.map_nil]); first | done | rfl | (simp only [List.length_drop, List.length_take]; rfl)) ?_
                  with_reducible refine (regs_Flags.calls t421 t422 t423 t424 t425 t426 t427 t428 t429 t430 t445 t446 t447 t448 _ A43.out).mono ?_
                  rintro e w82 ⟨rfl, hb⟩
                  refine ⟨_, rfl, ?_⟩
                  have n0_ := Aside0.mk (blk_below (g := gb401) (o := .cells #[.int .u8 a0_0, .int .u8 a0_1, .int .u8 a0_2, .int .u8 a0_3, .int .u8 a0_4, .int .u8 a0_5, .int .u8 a0_6, .int .u8 a0_7, .int .u16 a0_8, .int .u16 a0_9] 24 (0, 0)) (by (with_reducible repeat (first | refine blk_drewN ?_ _ | refine blk_drew ?_ | refine blk_alloc ?_ _)); exact BK401.out) hb)
                  have n1_ := Aside0.mk (blk_below (g := gb414) (o := .cells #[.int .u8 t403, .int .u8 t404, .int .u8 t405, .int .u8 t406, .int .u8 t407, .int .u8 t408, .int .u8 t409, .int .u8 t410, .int .u16 t411, .int .u16 t412] 24 (0, 0)) (by (with_reducible repeat (first | refine blk_drewN ?_ _ | refine blk_drew ?_ | refine blk_alloc ?_ _)); exact BK414.out) hb)
                  have n2_ := Aside0.mk (blk_below (g := gb431) (o := .cells #[.int .u8 t421, .int .u8 t422, .int .u8 t423, .int .u8 t424, .int .u8 t425, .int .u8 t426, .int .u8 t427, .int .u8 t428, .int .u16 t429, .int .u16 t430] 24 (0, 0)) (by (with_reducible repeat (first | refine blk_drewN ?_ _ | refine blk_drew ?_ | refine blk_alloc ?_ _)); exact BK431.out) hb)
                  have n3_ := Aside0.mk (blk_below (g := gb444) (o := .cells #[.int .u8 t433, .int .u8 t434, .int .u8 t435, .int .u8 t436, .int .u8 t437, .int .u8 t438, .int .u8 t439, .int .u8 t440, .int .u16 t441, .int .u16 t442] 24 (0, 0)) (by (with_reducible repeat (first | refine blk_drewN ?_ _ | refine blk_drew ?_ | refine blk_alloc ?_ _)); exact BK444.out) hb)
                  have n4_ := Aside0.mk (below_step (by repeat (first | (with_reducible first | exact HB.out | apply below_alloc | apply pw_below_drewN | apply below_drew1 | refine below_set ?_ GE401.out | refine below_set ?_ GE414.out | refine below_set ?_ GE431.out | refine below_set ?_ GE444.out) | exact HB.out)) hb)
                  clear BK401
                  clear BK414
                  clear BK431
                  clear BK444
                  clear HB
                  have BK401 := n0_
                  have BK414 := n1_
                  have BK431 := n2_
                  have BK444 := n3_
                  have HB := n4_
                  clear n0_ n1_ n2_ n3_ n4_
                  (try clear hb)
                  (try clear hb2)
                  (try clear hk)
                  (try clear hi)
                  refine hK.out _ _ ⟨(blk_cell BK431.out 0).trans rfl, (blk_cell BK431.out 1).trans rfl, (blk_cell BK431.out 2).trans rfl, (blk_cell BK431.out 3).trans rfl, (blk_cell BK431.out 4).trans rfl, (blk_cell BK431.out 5).trans rfl, (blk_cell BK431.out 6).trans rfl, (blk_cell BK431.out 7).trans rfl, (blk_cell BK431.out 8).trans rfl, (blk_cell BK431.out 9).trans rfl, (blk_cell BK414.out 0).trans rfl, (blk_cell BK414.out 1).trans rfl, (blk_cell BK414.out 2).trans rfl, (blk_cell BK414.out 3).trans rfl, (blk_cell BK414.out 4).trans rfl, (blk_cell BK414.out 5).trans rfl, (blk_cell BK414.out 6).trans rfl, (blk_cell BK414.out 7).trans rfl, (blk_cell BK414.out 8).trans rfl, (blk_cell BK414.out 9).trans rfl, (blk_cell BK444.out 0).trans rfl, (blk_cell BK444.out 1).trans rfl, (blk_cell BK444.out 2).trans rfl, (blk_cell BK444.out 3).trans rfl, (blk_cell BK444.out 4).trans rfl, (blk_cell BK444.out 5).trans rfl, (blk_cell BK444.out 6).trans rfl, (blk_cell BK444.out 7).trans rfl, (blk_cell BK444.out 8).trans rfl, (blk_cell BK444.out 9).trans rfl⟩ (fun hHeld => ?_)
                  clear hK K
                  refine norm_ (a' := ?_) ?_ ?_
                  rotate_left
                  · show Act.put _ (some 79) _ = _
                    simp only [Act.put, List.setIfInBounds_toArray, List.set_cons_zero, List.set_cons_succ, i64_w, i32_w]
                    rfl
                  refine one_ (i := 27) (N := some 81) #[true, true, true, true, true, true, true, true, true, true, true, true, true, true, true, true, true, true, true, true, true, true, true, true, true, true, true, true, false, false, false, false, false, false, false, false, false, false, false, false] rfl rfl (one_of HT_.out (by kernel_rfl)) (by decide) (fun K hK => ?_)
                  refine goes_ Try.func21 (by kernel_rfl) rfl #[.agg #[.int .u8 t403, .int .u8 t404, .int .u8 t405, .int .u8 t406, .int .u8 t407, .int .u8 t408, .int .u8 t409, .int .u8 t410, .int .u16 t411, .int .u16 t412]] (by rfl) rfl rfl (by (try simp only [List.map_toArray, List.map_cons, List.map_nil]); first | done | rfl | (simp only [List.length_drop, List.length_take]; rfl)) ?_
                  with_reducible refine (regs_Flags.calls t403 t404 t405 t406 t407 t408 t409 t410 t411 t412 t449 t450 t451 t452 _ A44.out).mono ?_
                  rintro e w83 ⟨rfl, hb⟩
                  refine ⟨_, rfl, ?_⟩
                  have n0_ := Aside0.mk (blk_below (g := gb401) (o := .cells #[.int .u8 a0_0, .int .u8 a0_1, .int .u8 a0_2, .int .u8 a0_3, .int .u8 a0_4, .int .u8 a0_5, .int .u8 a0_6, .int .u8 a0_7, .int .u16 a0_8, .int .u16 a0_9] 24 (0, 0)) (by (with_reducible repeat (first | refine blk_drewN ?_ _ | refine blk_drew ?_ | refine blk_alloc ?_ _)); exact BK401.out) hb)
                  have n1_ := Aside0.mk (blk_below (g := gb414) (o := .cells #[.int .u8 t403, .int .u8 t404, .int .u8 t405, .int .u8 t406, .int .u8 t407, .int .u8 t408, .int .u8 t409, .int .u8 t410, .int .u16 t411, .int .u16 t412] 24 (0, 0)) (by (with_reducible repeat (first | refine blk_drewN ?_ _ | refine blk_drew ?_ | refine blk_alloc ?_ _)); exact BK414.out) hb)
                  have n2_ := Aside0.mk (blk_below (g := gb431) (o := .cells #[.int .u8 t421, .int .u8 t422, .int .u8 t423, .int .u8 t424, .int .u8 t425, .int .u8 t426, .int .u8 t427, .int .u8 t428, .int .u16 t429, .int .u16 t430] 24 (0, 0)) (by (with_reducible repeat (first | refine blk_drewN ?_ _ | refine blk_drew ?_ | refine blk_alloc ?_ _)); exact BK431.out) hb)
                  have n3_ := Aside0.mk (blk_below (g := gb444) (o := .cells #[.int .u8 t433, .int .u8 t434, .int .u8 t435, .int .u8 t436, .int .u8 t437, .int .u8 t438, .int .u8 t439, .int .u8 t440, .int .u16 t441, .int .u16 t442] 24 (0, 0)) (by (with_reducible repeat (first | refine blk_drewN ?_ _ | refine blk_drew ?_ | refine blk_alloc ?_ _)); exact BK444.out) hb)
                  have n4_ := Aside0.mk (below_step (by repeat (first | (with_reducible first | exact HB.out | apply below_alloc | apply pw_below_drewN | apply below_drew1 | refine below_set ?_ GE401.out | refine below_set ?_ GE414.out | refine below_set ?_ GE431.out | refine below_set ?_ GE444.out) | exact HB.out)) hb)
                  clear BK401
                  clear BK414
                  clear BK431
                  clear BK444
                  clear HB
                  have BK401 := n0_
                  have BK414 := n1_
                  have BK431 := n2_
                  have BK444 := n3_
                  have HB := n4_
                  clear n0_ n1_ n2_ n3_ n4_
                  (try clear hb)
                  (try clear hb2)
                  (try clear hk)
                  (try clear hi)
                  refine hK.out _ _ ⟨(blk_cell BK431.out 0).trans rfl, (blk_cell BK431.out 1).trans rfl, (blk_cell BK431.out 2).trans rfl, (blk_cell BK431.out 3).trans rfl, (blk_cell BK431.out 4).trans rfl, (blk_cell BK431.out 5).trans rfl, (blk_cell BK431.out 6).trans rfl, (blk_cell BK431.out 7).trans rfl, (blk_cell BK431.out 8).trans rfl, (blk_cell BK431.out 9).trans rfl, (blk_cell BK414.out 0).trans rfl, (blk_cell BK414.out 1).trans rfl, (blk_cell BK414.out 2).trans rfl, (blk_cell BK414.out 3).trans rfl, (blk_cell BK414.out 4).trans rfl, (blk_cell BK414.out 5).trans rfl, (blk_cell BK414.out 6).trans rfl, (blk_cell BK414.out 7).trans rfl, (blk_cell BK414.out 8).trans rfl, (blk_cell BK414.out 9).trans rfl, (blk_cell BK444.out 0).trans rfl, (blk_cell BK444.out 1).trans rfl, (blk_cell BK444.out 2).trans rfl, (blk_cell BK444.out 3).trans rfl, (blk_cell BK444.out 4).trans rfl, (blk_cell BK444.out 5).trans rfl, (blk_cell BK444.out 6).trans rfl, (blk_cell BK444.out 7).trans rfl, (blk_cell BK444.out 8).trans rfl, (blk_cell BK444.out 9).trans rfl⟩ (fun hHeld => ?_)
                  clear hK K
                  refine norm_ (a' := ?_) ?_ ?_
                  rotate_left
                  · show Act.put _ (some 81) _ = _
                    simp only [Act.put, List.setIfInBounds_toArray, List.set_cons_zero, List.set_cons_succ, i64_w, i32_w]
                    rfl
                  refine pure_ (i := 28) (N := some 82) (v := ?_) (a' := ?_) #[true, true, true, true, true, true, true, true, true, true, true, true, true, true, true, true, true, true, true, true, true, true, true, true, true, true, true, true, true, false, false, false, false, false, false, false, false, false, false, false] rfl rfl (any_of HT_.out (by kernel_rfl)) (fun _ _ _ h => h) (Or.inl ⟨by rfl, ?_⟩) ?_ ?_
                  rotate_left
                  · intro w'
                    go_simp
                    with_reducible rfl
                  rotate_left
                  · simp only [Act.put, List.setIfInBounds_toArray, List.set_cons_zero, List.set_cons_succ, i64_w, i32_w]
                    rfl
                  refine pure_ (i := 29) (N := some 83) (v := ?_) (a' := ?_) #[true, true, true, true, true, true, true, true, true, true, true, true, true, true, true, true, true, true, true, true, true, true, true, true, true, true, true, true, true, true, false, false, false, false, false, false, false, false, false, false] rfl rfl (any_of HT_.out (by kernel_rfl)) (fun _ _ _ h => h) (Or.inl ⟨by rfl, ?_⟩) ?_ ?_
                  rotate_left
                  · intro w'
                    go_simp
                    with_reducible rfl
                  rotate_left
                  · simp only [Act.put, List.setIfInBounds_toArray, List.set_cons_zero, List.set_cons_succ, i64_w, i32_w]
                    rfl
                  refine pure_ (i := 30) (N := some 84) (v := ?_) (a' := ?_) #[true, true, true, true, true, true, true, true, true, true, true, true, true, true, true, true, true, true, true, true, true, true, true, true, true, true, true, true, true, true, true, false, false, false, false, false, false, false, false, false] rfl rfl (any_of HT_.out (by kernel_rfl)) (fun _ _ _ h => h) (Or.inl ⟨by rfl, ?_⟩) ?_ ?_
                  rotate_left
                  · intro w'
                    go_simp
                    with_reducible rfl
                  rotate_left
                  · simp only [Act.put, List.setIfInBounds_toArray, List.set_cons_zero, List.set_cons_succ, i64_w, i32_w]
                    rfl
                  refine take_ (i := 31) (N := some 85) (v := ?_) (a' := ?_) #[true, true, true, true, true, true, true, true, true, true, true, true, true, true, true, true, true, true, true, true, true, true, true, true, true, true, true, true, true, true, true, true, false, false, false, false, false, false, false, false] rfl rfl (take_ofW HT_.out HW_.out (by kernel_rfl)) (fun _ _ _ h => h) (Or.inl ⟨by rfl, ?_⟩) hHeld ?_ ?_
                  rotate_left
                  · rintro w' ⟨s0, s1, s2, s3, s4, s5, s6, s7, s8, s9, s10, s11, s12, s13, s14, s15, s16, s17, s18, s19, s20, s21, s22, s23, s24, s25, s26, s27, s28, s29⟩
                    go_simp
                    with_reducible rfl
                  rotate_left
                  · simp only [Act.put, List.setIfInBounds_toArray, List.set_cons_zero, List.set_cons_succ, i64_w, i32_w]
                    rfl
                  refine take_ (i := 32) (N := some 86) (v := ?_) (a' := ?_) #[true, true, true, true, true, true, true, true, true, true, true, true, true, true, true, true, true, true, true, true, true, true, true, true, true, true, true, true, true, true, true, true, true, false, false, false, false, false, false, false] rfl rfl (take_ofW HT_.out HW_.out (by kernel_rfl)) (fun _ _ _ h => h) (Or.inl ⟨by rfl, ?_⟩) hHeld ?_ ?_
                  rotate_left
                  · rintro w' ⟨s0, s1, s2, s3, s4, s5, s6, s7, s8, s9, s10, s11, s12, s13, s14, s15, s16, s17, s18, s19, s20, s21, s22, s23, s24, s25, s26, s27, s28, s29⟩
                    go_simp
                    with_reducible rfl
                  rotate_left
                  · simp only [Act.put, List.setIfInBounds_toArray, List.set_cons_zero, List.set_cons_succ, i64_w, i32_w]
                    rfl
                  refine pure_ (i := 33) (N := some 87) (v := ?_) (a' := ?_) #[true, true, true, true, true, true, true, true, true, true, true, true, true, true, true, true, true, true, true, true, true, true, true, true, true, true, true, true, true, true, true, true, true, true, false, false, false, false, false, false] rfl rfl (any_of HT_.out (by kernel_rfl)) (fun _ _ _ h => h) (Or.inl ⟨by rfl, ?_⟩) ?_ ?_
                  rotate_left
                  · intro w'
                    go_simp
                    with_reducible rfl
                  rotate_left
                  · simp only [Act.put, List.setIfInBounds_toArray, List.set_cons_zero, List.set_cons_succ, i64_w, i32_w]
                    rfl
                  refine pure_ (i := 34) (N := some 88) (v := ?_) (a' := ?_) #[true, true, true, true, true, true, true, true, true, true, true, true, true, true, true, true, true, true, true, true, true, true, true, true, true, true, true, true, true, true, true, true, true, true, true, false, false, false, false, false] rfl rfl (any_of HT_.out (by kernel_rfl)) (fun _ _ _ h => h) (Or.inl ⟨by rfl, ?_⟩) ?_ ?_
                  rotate_left
                  · intro w'
                    go_simp
                    with_reducible rfl
                  rotate_left
                  · simp only [Act.put, List.setIfInBounds_toArray, List.set_cons_zero, List.set_cons_succ, i64_w, i32_w]
                    rfl
                  refine pure_ (i := 35) (N := some 89) (v := ?_) (a' := ?_) #[true, true, true, true, true, true, true, true, true, true, true, true, true, true, true, true, true, true, true, true, true, true, true, true, true, true, true, true, true, true, true, true, true, true, true, true, false, false, false, false] rfl rfl (any_of HT_.out (by kernel_rfl)) (fun _ _ _ h => h) (Or.inl ⟨by rfl, ?_⟩) ?_ ?_
                  rotate_left
                  · intro w'
                    go_simp
                    with_reducible rfl
                  rotate_left
                  · simp only [Act.put, List.setIfInBounds_toArray, List.set_cons_zero, List.set_cons_succ, i64_w, i32_w]
                    rfl
                  refine pure_ (i := 36) (N := some 90) (v := ?_) (a' := ?_) #[true, true, true, true, true, true, true, true, true, true, true, true, true, true, true, true, true, true, true, true, true, true, true, true, true, true, true, true, true, true, true, true, true, true, true, true, true, false, false, false] rfl rfl (any_of HT_.out (by kernel_rfl)) (fun _ _ _ h => h) (Or.inl ⟨by rfl, ?_⟩) ?_ ?_
                  rotate_left
                  · intro w'
                    go_simp
                    with_reducible rfl
                  rotate_left
                  · simp only [Act.put, List.setIfInBounds_toArray, List.set_cons_zero, List.set_cons_succ, i64_w, i32_w]
                    rfl
                  refine pure_ (i := 37) (N := some 91) (v := ?_) (a' := ?_) #[true, true, true, true, true, true, true, true, true, true, true, true, true, true, true, true, true, true, true, true, true, true, true, true, true, true, true, true, true, true, true, true, true, true, true, true, true, true, false, false] rfl rfl (any_of HT_.out (by kernel_rfl)) (fun _ _ _ h => h) (Or.inl ⟨by rfl, ?_⟩) ?_ ?_
                  rotate_left
                  · intro w'
                    go_simp
                    with_reducible rfl
                  rotate_left
                  · simp only [Act.put, List.setIfInBounds_toArray, List.set_cons_zero, List.set_cons_succ, i64_w, i32_w]
                    rfl
                  refine pure_ (i := 38) (N := some 92) (v := ?_) (a' := ?_) #[true, true, true, true, true, true, true, true, true, true, true, true, true, true, true, true, true, true, true, true, true, true, true, true, true, true, true, true, true, true, true, true, true, true, true, true, true, true, true, false] rfl rfl (any_of HT_.out (by kernel_rfl)) (fun _ _ _ h => h) (Or.inl ⟨by rfl, ?_⟩) ?_ ?_
                  rotate_left
                  · intro w'
                    go_simp
                    with_reducible rfl
                  rotate_left
                  · simp only [Act.put, List.setIfInBounds_toArray, List.set_cons_zero, List.set_cons_succ, i64_w, i32_w]
                    rfl
                  refine pure_ (i := 39) (N := some 6) (v := ?_) (a' := ?_) #[true, true, true, true, true, true, true, true, true, true, true, true, true, true, true, true, true, true, true, true, true, true, true, true, true, true, true, true, true, true, true, true, true, true, true, true, true, true, true, true] rfl rfl (any_of HT_.out (by kernel_rfl)) (fun _ _ _ h => h) (Or.inl ⟨by rfl, ?_⟩) ?_ ?_
                  rotate_left
                  · intro w'
                    go_simp
                    with_reducible rfl
                  rotate_left
                  · simp only [Act.put, List.setIfInBounds_toArray, List.set_cons_zero, List.set_cons_succ, i64_w, i32_w]
                    rfl
                  refine done_ (done_of HT_.out (by kernel_rfl)) ?_
                  try go_wp2
                  go_ret
                  exact ⟨by first | rfl | (simp [errW_none, errW_some] <;> rfl) | (simp [*, errW_none, errW_some] <;> rfl), by repeat (first | (with_reducible first | exact HB.out | apply below_alloc | apply pw_below_drewN | apply below_drew1 | refine below_set ?_ GE401.out | refine below_set ?_ GE414.out | refine below_set ?_ GE431.out | refine below_set ?_ GE444.out) | exact HB.out)⟩
                · rw [if_neg c46] at H
                  have c46b0 : (t433 == t421 && (t434 == t422 && (t435 == t423 && (t436 == t424 && (t437 == t425 && (t438 == t426 && (t439 == t427 && (t440 == t428 && (t441 == t429 && (t442 == t430)))))))))) = false := by simpa using c46
                  (try (have c46b1 : decide (t433 = t421 && (t434 == t422 && (t435 == t423 && (t436 == t424 && (t437 == t425 && (t438 == t426 && (t439 == t427 && (t440 == t428 && (t441 == t429 && (t442 == t430)))))))))) = false := by simpa using c46))
                  (try (have c46b2 : (t433 == t421 && (t434 == t422 && (t435 == t423 && (t436 == t424 && (t437 == t425 && (t438 == t426 && (t439 == t427 && (t440 == t428 && (t441 == t429 && (t442 == t430)))))))))) = false := by simpa using c46))
                  (try (have c46b3 : ¬ (t433 = t421 && (t434 == t422 && (t435 == t423 && (t436 == t424 && (t437 == t425 && (t438 == t426 && (t439 == t427 && (t440 == t428 && (t441 == t429 && (t442 == t430)))))))))) := by simpa using c46))
                  clear c46
                  exact absurd ((Option.some.inj H).trans HT.out) (by simp)
              · rw [if_neg c45] at H
                have c45b0 : (t445 == t449 && (t446 == t450 && (t447 == t451 && (t448 == t452)))) = false := by simpa using c45
                (try (have c45b1 : decide (t445 = t449 && (t446 == t450 && (t447 == t451 && (t448 == t452)))) = false := by simpa using c45))
                (try (have c45b2 : (t445 == t449 && (t446 == t450 && (t447 == t451 && (t448 == t452)))) = false := by simpa using c45))
                (try (have c45b3 : ¬ (t445 = t449 && (t446 == t450 && (t447 == t451 && (t448 == t452)))) := by simpa using c45))
                clear c45
                exact absurd ((Option.some.inj H).trans HT.out) (by simp)
            · rw [if_neg c42] at H
              have c42b0 : (t422 == ((((Int.tdiv t404 16) % 256) * 16) % 256)) = false := beq_eq_false_iff_ne.mpr c42
              have c42b1 : (t422 != ((((Int.tdiv t404 16) % 256) * 16) % 256)) = true := bne_iff_ne.mpr c42
              exact absurd ((Option.some.inj H).trans HT.out) (by simp)
          · rw [if_neg c41] at H
            have c41b0 : (t415 == a2) = false := beq_eq_false_iff_ne.mpr c41
            have c41b1 : (t415 != a2) = true := bne_iff_ne.mpr c41
            exact absurd ((Option.some.inj H).trans HT.out) (by simp)
        · rw [if_neg c40] at H
          have c40b0 : (t416 == 0) = false := beq_eq_false_iff_ne.mpr c40
          have c40b1 : (t416 != 0) = true := bne_iff_ne.mpr c40
          exact absurd ((Option.some.inj H).trans HT.out) (by simp)
      · rw [if_neg c39] at H
        have c39b0 : (t413 == 0) = false := beq_eq_false_iff_ne.mpr c39
        have c39b1 : (t413 != 0) = true := bne_iff_ne.mpr c39
        exact absurd ((Option.some.inj H).trans HT.out) (by simp)
    · replace c38 := Bool.eq_false_iff.mpr c38
      subst c38
      have H1 : (some false) = some r := by rw [if_neg (show ¬ (false = true) by decide)] at H; exact H
      clear H
      have H := H1
      clear H1
      exact absurd ((Option.some.inj H).trans HT.out) (by simp)

end Go.Proofs.Ythkoofidnaghcaa.G
