/- Written by a program of this session, after the kit's print: Go functions as Lean functions, each with the proof that the Go text comes to it. -/
import Derived.Test.YtkogdocpldfmnaaG0
import Derived.Test.YtkogdocpldfmnaaG4
import Derived.Test.YtkogdocpldfmnaaG5
import Derived.Test.YtkogdocpldfmnaaG15
import Derived.Test.YtkogdocpldfmnaaHBank
import Derived.Test.YtkogdocpldfmnaaHRam
namespace Go.Proofs.Ytkogdocpldfmnaa.G
open Go.RowKit Go.Proofs.YtkogdocpldfmnaaW.PrintWords Go.Proofs.YtkogdocpldfmnaaW.PrintLast Go.Proofs.YtkogdocpldfmnaaW.PrintMore
attribute [local go_sem] max2_int min2_int max_two min_two max_three min_three max_four min_four   -- for this text's walks alone
set_option linter.unusedVariables false
set_option linter.unusedSimpArgs false

open Go.Proofs.Ytkogdocpldfmnaa.Hand
/-! ### whirligiglaw08_MapperInside: function 9 -/
def whirligiglaw08_MapperInside.j0 : Nat → Int → Int → Bool → Bool → Int → Bool → Int → Int → Int → Bool → Option (Bool)
  | 0, _, _, _, _, _, _, _, _, _, _ => none
  | k + 1, x1, x3, x9, x81, x230000, x230001, x230002, x230003, x230004, x230005 => if x81 = true then (some false) else (if 0 ≤ (Int.tmod x3 10) then ((mapper_Rom.f x230000 x230001 x230002 x230003 x230004 x230005 x1 (wrap64 ((shl .i64 1 (Int.tmod x3 10)) * 16384))).bind fun t234 => (if x9 = true then (if x1 > 32767 then (some true) else ((mapper_Bank.f x230000 x230001 x230002 x230003 x230004 x230005 x1).bind fun t235 => (if (shl .i64 1 (Int.tmod x3 10)) = 0 then (none) else (if (wrap64 (Int.tdiv t234 16384)) = (Int.tmod t235 (shl .i64 1 (Int.tmod x3 10))) then (some ((Int.tmod t234 16384) == (Int.tmod (wrap64 (x1)) 16384))) else (some false))))) else (some false))) else (none))
def whirligiglaw08_MapperInside.f (k : Nat) (a0_0 : Int) (a0_1 : Bool) (a0_2 : Int) (a0_3 : Int) (a0_4 : Int) (a0_5 : Bool) (a1 : Int) (a2 : Int) (a3 : Int) : Option (Bool) := (whirligiglaw08_shown.f).bind fun t230 => ((mapper_Rom.f a0_0 a0_1 a0_2 a0_3 a0_4 a0_5 a1 a2).bind fun t231 => ((mapper_Ram.f a0_0 a0_1 a0_2 a0_3 a0_4 a0_5 a1 a2).bind fun t232 => ((mapper_Reg.f a0_0 a0_1 a0_2 a0_3 a0_4 a0_5 a1).bind fun t233 => (if t231 < (-1) then (whirligiglaw08_MapperInside.j0 k a1 a3 t230 true a0_0 a0_1 a0_2 a0_3 a0_4 a0_5) else (if t232 < (-1) then (whirligiglaw08_MapperInside.j0 k a1 a3 t230 true a0_0 a0_1 a0_2 a0_3 a0_4 a0_5) else (if t231 ≥ 0 then (if t231 ≥ a2 then (whirligiglaw08_MapperInside.j0 k a1 a3 t230 true a0_0 a0_1 a0_2 a0_3 a0_4 a0_5) else (if t232 ≥ 0 then (if t232 ≥ a2 then (whirligiglaw08_MapperInside.j0 k a1 a3 t230 true a0_0 a0_1 a0_2 a0_3 a0_4 a0_5) else (if a2 > 0 then (if ((decide (t231 ≥ 0)) != (decide (a1 < 32768))) = true then (whirligiglaw08_MapperInside.j0 k a1 a3 t230 true a0_0 a0_1 a0_2 a0_3 a0_4 a0_5) else (if a1 < 40960 then (whirligiglaw08_MapperInside.j0 k a1 a3 t230 true a0_0 a0_1 a0_2 a0_3 a0_4 a0_5) else (if a1 > 49151 then (whirligiglaw08_MapperInside.j0 k a1 a3 t230 true a0_0 a0_1 a0_2 a0_3 a0_4 a0_5) else (whirligiglaw08_MapperInside.j0 k a1 a3 t230 (decide (t233 > 0)) a0_0 a0_1 a0_2 a0_3 a0_4 a0_5)))) else (if ((decide (t231 ≥ 0)) != false) = true then (whirligiglaw08_MapperInside.j0 k a1 a3 t230 true a0_0 a0_1 a0_2 a0_3 a0_4 a0_5) else (if a1 < 40960 then (whirligiglaw08_MapperInside.j0 k a1 a3 t230 true a0_0 a0_1 a0_2 a0_3 a0_4 a0_5) else (if a1 > 49151 then (whirligiglaw08_MapperInside.j0 k a1 a3 t230 true a0_0 a0_1 a0_2 a0_3 a0_4 a0_5) else (whirligiglaw08_MapperInside.j0 k a1 a3 t230 (decide (t233 > 0)) a0_0 a0_1 a0_2 a0_3 a0_4 a0_5)))))) else (if a2 > 0 then (if ((decide (t231 ≥ 0)) != (decide (a1 < 32768))) = true then (whirligiglaw08_MapperInside.j0 k a1 a3 t230 true a0_0 a0_1 a0_2 a0_3 a0_4 a0_5) else (whirligiglaw08_MapperInside.j0 k a1 a3 t230 false a0_0 a0_1 a0_2 a0_3 a0_4 a0_5)) else (if ((decide (t231 ≥ 0)) != false) = true then (whirligiglaw08_MapperInside.j0 k a1 a3 t230 true a0_0 a0_1 a0_2 a0_3 a0_4 a0_5) else (whirligiglaw08_MapperInside.j0 k a1 a3 t230 false a0_0 a0_1 a0_2 a0_3 a0_4 a0_5))))) else (if t232 ≥ 0 then (if t232 ≥ a2 then (whirligiglaw08_MapperInside.j0 k a1 a3 t230 true a0_0 a0_1 a0_2 a0_3 a0_4 a0_5) else (if a2 > 0 then (if ((decide (t231 ≥ 0)) != (decide (a1 < 32768))) = true then (whirligiglaw08_MapperInside.j0 k a1 a3 t230 true a0_0 a0_1 a0_2 a0_3 a0_4 a0_5) else (if a1 < 40960 then (whirligiglaw08_MapperInside.j0 k a1 a3 t230 true a0_0 a0_1 a0_2 a0_3 a0_4 a0_5) else (if a1 > 49151 then (whirligiglaw08_MapperInside.j0 k a1 a3 t230 true a0_0 a0_1 a0_2 a0_3 a0_4 a0_5) else (whirligiglaw08_MapperInside.j0 k a1 a3 t230 (decide (t233 > 0)) a0_0 a0_1 a0_2 a0_3 a0_4 a0_5)))) else (if ((decide (t231 ≥ 0)) != false) = true then (whirligiglaw08_MapperInside.j0 k a1 a3 t230 true a0_0 a0_1 a0_2 a0_3 a0_4 a0_5) else (if a1 < 40960 then (whirligiglaw08_MapperInside.j0 k a1 a3 t230 true a0_0 a0_1 a0_2 a0_3 a0_4 a0_5) else (if a1 > 49151 then (whirligiglaw08_MapperInside.j0 k a1 a3 t230 true a0_0 a0_1 a0_2 a0_3 a0_4 a0_5) else (whirligiglaw08_MapperInside.j0 k a1 a3 t230 (decide (t233 > 0)) a0_0 a0_1 a0_2 a0_3 a0_4 a0_5)))))) else (if a2 > 0 then (if ((decide (t231 ≥ 0)) != (decide (a1 < 32768))) = true then (whirligiglaw08_MapperInside.j0 k a1 a3 t230 true a0_0 a0_1 a0_2 a0_3 a0_4 a0_5) else (whirligiglaw08_MapperInside.j0 k a1 a3 t230 false a0_0 a0_1 a0_2 a0_3 a0_4 a0_5)) else (if ((decide (t231 ≥ 0)) != false) = true then (whirligiglaw08_MapperInside.j0 k a1 a3 t230 true a0_0 a0_1 a0_2 a0_3 a0_4 a0_5) else (whirligiglaw08_MapperInside.j0 k a1 a3 t230 false a0_0 a0_1 a0_2 a0_3 a0_4 a0_5))))))))))
theorem whirligiglaw08_MapperInside.mono_l : ∀ k, (∀ y0 y1 y2 y3 y4 y5 y6 y7 y8 y9, LeO (whirligiglaw08_MapperInside.j0 k y0 y1 y2 y3 y4 y5 y6 y7 y8 y9) (whirligiglaw08_MapperInside.j0 (k + 1) y0 y1 y2 y3 y4 y5 y6 y7 y8 y9))
  | 0 => fun _ _ _ _ _ _ _ _ _ _ r h => by simp [whirligiglaw08_MapperInside.j0] at h
  | k + 1 => by
    have ih0 := whirligiglaw08_MapperInside.mono_l k
    · intro y0 y1 y2 y3 y4 y5 y6 y7 y8 y9
      unfold whirligiglaw08_MapperInside.j0
      repeat' first
      | (with_reducible exact ih0 _ _ _ _ _ _ _ _ _ _)
      | (with_reducible exact LeO.refl _)
      | (with_reducible exact LeO.none _)
      | (with_reducible refine LeO.ite ?_ ?_)
      | (with_reducible refine LeO.bind ?_ (fun _ => ?_))
      | exact ih0 _ _ _ _ _ _ _ _ _ _
      | exact LeO.none _
      | refine LeO.ite ?_ ?_
      | refine LeO.bind ?_ (fun _ => ?_)
theorem whirligiglaw08_MapperInside.mono : ∀ a0 a1 a2 a3 a4 a5 a6 a7 a8 k, LeO (whirligiglaw08_MapperInside.f k a0 a1 a2 a3 a4 a5 a6 a7 a8) (whirligiglaw08_MapperInside.f (k + 1) a0 a1 a2 a3 a4 a5 a6 a7 a8) := by
  intro a0 a1 a2 a3 a4 a5 a6 a7 a8 k
  have ih0 := whirligiglaw08_MapperInside.mono_l k
  unfold whirligiglaw08_MapperInside.f
  repeat' first
      | (with_reducible exact ih0 _ _ _ _ _ _ _ _ _ _)
      | (with_reducible exact LeO.refl _)
      | (with_reducible exact LeO.none _)
      | (with_reducible refine LeO.ite ?_ ?_)
      | (with_reducible refine LeO.bind ?_ (fun _ => ?_))
      | exact ih0 _ _ _ _ _ _ _ _ _ _
      | exact LeO.none _
      | refine LeO.ite ?_ ?_
      | refine LeO.bind ?_ (fun _ => ?_)
set_option maxHeartbeats 8000000 in
set_option maxRecDepth 100000 in
theorem whirligiglaw08_MapperInside.calls (k : Nat) (a0_0 : Int) (a0_1 : Bool) (a0_2 : Int) (a0_3 : Int) (a0_4 : Int) (a0_5 : Bool) (a1 : Int) (a2 : Int) (a3 : Int) (r : Bool) (w : World) (h : whirligiglaw08_MapperInside.f k a0_0 a0_1 a0_2 a0_3 a0_4 a0_5 a1 a2 a3 = some r) :
    Calls Try.prog 9 #[.agg #[.int .i64 a0_0, .bool a0_1, .int .u8 a0_2, .int .u8 a0_3, .int .u8 a0_4, .bool a0_5], .int .u16 a1, .int .i64 a2, .int .u8 a3] w fun e w' => e = .returned (.bool r) ∧ Below w.heap.size w w' := by
  have hu24 := Try.underlying24
  have HB := Aside0.mk (Below.refl w.heap.size w)
  have H : ((whirligiglaw08_shown.f).bind fun t230 => ((mapper_Rom.f a0_0 a0_1 a0_2 a0_3 a0_4 a0_5 a1 a2).bind fun t231 => ((mapper_Ram.f a0_0 a0_1 a0_2 a0_3 a0_4 a0_5 a1 a2).bind fun t232 => ((mapper_Reg.f a0_0 a0_1 a0_2 a0_3 a0_4 a0_5 a1).bind fun t233 => (if t231 < (-1) then (whirligiglaw08_MapperInside.j0 k a1 a3 t230 true a0_0 a0_1 a0_2 a0_3 a0_4 a0_5) else (if t232 < (-1) then (whirligiglaw08_MapperInside.j0 k a1 a3 t230 true a0_0 a0_1 a0_2 a0_3 a0_4 a0_5) else (if t231 ≥ 0 then (if t231 ≥ a2 then (whirligiglaw08_MapperInside.j0 k a1 a3 t230 true a0_0 a0_1 a0_2 a0_3 a0_4 a0_5) else (if t232 ≥ 0 then (if t232 ≥ a2 then (whirligiglaw08_MapperInside.j0 k a1 a3 t230 true a0_0 a0_1 a0_2 a0_3 a0_4 a0_5) else (if a2 > 0 then (if ((decide (t231 ≥ 0)) != (decide (a1 < 32768))) = true then (whirligiglaw08_MapperInside.j0 k a1 a3 t230 true a0_0 a0_1 a0_2 a0_3 a0_4 a0_5) else (if a1 < 40960 then (whirligiglaw08_MapperInside.j0 k a1 a3 t230 true a0_0 a0_1 a0_2 a0_3 a0_4 a0_5) else (if a1 > 49151 then (whirligiglaw08_MapperInside.j0 k a1 a3 t230 true a0_0 a0_1 a0_2 a0_3 a0_4 a0_5) else (whirligiglaw08_MapperInside.j0 k a1 a3 t230 (decide (t233 > 0)) a0_0 a0_1 a0_2 a0_3 a0_4 a0_5)))) else (if ((decide (t231 ≥ 0)) != false) = true then (whirligiglaw08_MapperInside.j0 k a1 a3 t230 true a0_0 a0_1 a0_2 a0_3 a0_4 a0_5) else (if a1 < 40960 then (whirligiglaw08_MapperInside.j0 k a1 a3 t230 true a0_0 a0_1 a0_2 a0_3 a0_4 a0_5) else (if a1 > 49151 then (whirligiglaw08_MapperInside.j0 k a1 a3 t230 true a0_0 a0_1 a0_2 a0_3 a0_4 a0_5) else (whirligiglaw08_MapperInside.j0 k a1 a3 t230 (decide (t233 > 0)) a0_0 a0_1 a0_2 a0_3 a0_4 a0_5)))))) else (if a2 > 0 then (if ((decide (t231 ≥ 0)) != (decide (a1 < 32768))) = true then (whirligiglaw08_MapperInside.j0 k a1 a3 t230 true a0_0 a0_1 a0_2 a0_3 a0_4 a0_5) else (whirligiglaw08_MapperInside.j0 k a1 a3 t230 false a0_0 a0_1 a0_2 a0_3 a0_4 a0_5)) else (if ((decide (t231 ≥ 0)) != false) = true then (whirligiglaw08_MapperInside.j0 k a1 a3 t230 true a0_0 a0_1 a0_2 a0_3 a0_4 a0_5) else (whirligiglaw08_MapperInside.j0 k a1 a3 t230 false a0_0 a0_1 a0_2 a0_3 a0_4 a0_5))))) else (if t232 ≥ 0 then (if t232 ≥ a2 then (whirligiglaw08_MapperInside.j0 k a1 a3 t230 true a0_0 a0_1 a0_2 a0_3 a0_4 a0_5) else (if a2 > 0 then (if ((decide (t231 ≥ 0)) != (decide (a1 < 32768))) = true then (whirligiglaw08_MapperInside.j0 k a1 a3 t230 true a0_0 a0_1 a0_2 a0_3 a0_4 a0_5) else (if a1 < 40960 then (whirligiglaw08_MapperInside.j0 k a1 a3 t230 true a0_0 a0_1 a0_2 a0_3 a0_4 a0_5) else (if a1 > 49151 then (whirligiglaw08_MapperInside.j0 k a1 a3 t230 true a0_0 a0_1 a0_2 a0_3 a0_4 a0_5) else (whirligiglaw08_MapperInside.j0 k a1 a3 t230 (decide (t233 > 0)) a0_0 a0_1 a0_2 a0_3 a0_4 a0_5)))) else (if ((decide (t231 ≥ 0)) != false) = true then (whirligiglaw08_MapperInside.j0 k a1 a3 t230 true a0_0 a0_1 a0_2 a0_3 a0_4 a0_5) else (if a1 < 40960 then (whirligiglaw08_MapperInside.j0 k a1 a3 t230 true a0_0 a0_1 a0_2 a0_3 a0_4 a0_5) else (if a1 > 49151 then (whirligiglaw08_MapperInside.j0 k a1 a3 t230 true a0_0 a0_1 a0_2 a0_3 a0_4 a0_5) else (whirligiglaw08_MapperInside.j0 k a1 a3 t230 (decide (t233 > 0)) a0_0 a0_1 a0_2 a0_3 a0_4 a0_5)))))) else (if a2 > 0 then (if ((decide (t231 ≥ 0)) != (decide (a1 < 32768))) = true then (whirligiglaw08_MapperInside.j0 k a1 a3 t230 true a0_0 a0_1 a0_2 a0_3 a0_4 a0_5) else (whirligiglaw08_MapperInside.j0 k a1 a3 t230 false a0_0 a0_1 a0_2 a0_3 a0_4 a0_5)) else (if ((decide (t231 ≥ 0)) != false) = true then (whirligiglaw08_MapperInside.j0 k a1 a3 t230 true a0_0 a0_1 a0_2 a0_3 a0_4 a0_5) else (whirligiglaw08_MapperInside.j0 k a1 a3 t230 false a0_0 a0_1 a0_2 a0_3 a0_4 a0_5))))))))))) = some r := h
  clear h
  replace H := Option.bind_eq_some_iff.mp H
  obtain ⟨t230, A50, H⟩ := H
  replace H : ((mapper_Rom.f a0_0 a0_1 a0_2 a0_3 a0_4 a0_5 a1 a2).bind fun t231 => ((mapper_Ram.f a0_0 a0_1 a0_2 a0_3 a0_4 a0_5 a1 a2).bind fun t232 => ((mapper_Reg.f a0_0 a0_1 a0_2 a0_3 a0_4 a0_5 a1).bind fun t233 => (if t231 < (-1) then (whirligiglaw08_MapperInside.j0 k a1 a3 t230 true a0_0 a0_1 a0_2 a0_3 a0_4 a0_5) else (if t232 < (-1) then (whirligiglaw08_MapperInside.j0 k a1 a3 t230 true a0_0 a0_1 a0_2 a0_3 a0_4 a0_5) else (if t231 ≥ 0 then (if t231 ≥ a2 then (whirligiglaw08_MapperInside.j0 k a1 a3 t230 true a0_0 a0_1 a0_2 a0_3 a0_4 a0_5) else (if t232 ≥ 0 then (if t232 ≥ a2 then (whirligiglaw08_MapperInside.j0 k a1 a3 t230 true a0_0 a0_1 a0_2 a0_3 a0_4 a0_5) else (if a2 > 0 then (if ((decide (t231 ≥ 0)) != (decide (a1 < 32768))) = true then (whirligiglaw08_MapperInside.j0 k a1 a3 t230 true a0_0 a0_1 a0_2 a0_3 a0_4 a0_5) else (if a1 < 40960 then (whirligiglaw08_MapperInside.j0 k a1 a3 t230 true a0_0 a0_1 a0_2 a0_3 a0_4 a0_5) else (if a1 > 49151 then (whirligiglaw08_MapperInside.j0 k a1 a3 t230 true a0_0 a0_1 a0_2 a0_3 a0_4 a0_5) else (whirligiglaw08_MapperInside.j0 k a1 a3 t230 (decide (t233 > 0)) a0_0 a0_1 a0_2 a0_3 a0_4 a0_5)))) else (if ((decide (t231 ≥ 0)) != false) = true then (whirligiglaw08_MapperInside.j0 k a1 a3 t230 true a0_0 a0_1 a0_2 a0_3 a0_4 a0_5) else (if a1 < 40960 then (whirligiglaw08_MapperInside.j0 k a1 a3 t230 true a0_0 a0_1 a0_2 a0_3 a0_4 a0_5) else (if a1 > 49151 then (whirligiglaw08_MapperInside.j0 k a1 a3 t230 true a0_0 a0_1 a0_2 a0_3 a0_4 a0_5) else (whirligiglaw08_MapperInside.j0 k a1 a3 t230 (decide (t233 > 0)) a0_0 a0_1 a0_2 a0_3 a0_4 a0_5)))))) else (if a2 > 0 then (if ((decide (t231 ≥ 0)) != (decide (a1 < 32768))) = true then (whirligiglaw08_MapperInside.j0 k a1 a3 t230 true a0_0 a0_1 a0_2 a0_3 a0_4 a0_5) else (whirligiglaw08_MapperInside.j0 k a1 a3 t230 false a0_0 a0_1 a0_2 a0_3 a0_4 a0_5)) else (if ((decide (t231 ≥ 0)) != false) = true then (whirligiglaw08_MapperInside.j0 k a1 a3 t230 true a0_0 a0_1 a0_2 a0_3 a0_4 a0_5) else (whirligiglaw08_MapperInside.j0 k a1 a3 t230 false a0_0 a0_1 a0_2 a0_3 a0_4 a0_5))))) else (if t232 ≥ 0 then (if t232 ≥ a2 then (whirligiglaw08_MapperInside.j0 k a1 a3 t230 true a0_0 a0_1 a0_2 a0_3 a0_4 a0_5) else (if a2 > 0 then (if ((decide (t231 ≥ 0)) != (decide (a1 < 32768))) = true then (whirligiglaw08_MapperInside.j0 k a1 a3 t230 true a0_0 a0_1 a0_2 a0_3 a0_4 a0_5) else (if a1 < 40960 then (whirligiglaw08_MapperInside.j0 k a1 a3 t230 true a0_0 a0_1 a0_2 a0_3 a0_4 a0_5) else (if a1 > 49151 then (whirligiglaw08_MapperInside.j0 k a1 a3 t230 true a0_0 a0_1 a0_2 a0_3 a0_4 a0_5) else (whirligiglaw08_MapperInside.j0 k a1 a3 t230 (decide (t233 > 0)) a0_0 a0_1 a0_2 a0_3 a0_4 a0_5)))) else (if ((decide (t231 ≥ 0)) != false) = true then (whirligiglaw08_MapperInside.j0 k a1 a3 t230 true a0_0 a0_1 a0_2 a0_3 a0_4 a0_5) else (if a1 < 40960 then (whirligiglaw08_MapperInside.j0 k a1 a3 t230 true a0_0 a0_1 a0_2 a0_3 a0_4 a0_5) else (if a1 > 49151 then (whirligiglaw08_MapperInside.j0 k a1 a3 t230 true a0_0 a0_1 a0_2 a0_3 a0_4 a0_5) else (whirligiglaw08_MapperInside.j0 k a1 a3 t230 (decide (t233 > 0)) a0_0 a0_1 a0_2 a0_3 a0_4 a0_5)))))) else (if a2 > 0 then (if ((decide (t231 ≥ 0)) != (decide (a1 < 32768))) = true then (whirligiglaw08_MapperInside.j0 k a1 a3 t230 true a0_0 a0_1 a0_2 a0_3 a0_4 a0_5) else (whirligiglaw08_MapperInside.j0 k a1 a3 t230 false a0_0 a0_1 a0_2 a0_3 a0_4 a0_5)) else (if ((decide (t231 ≥ 0)) != false) = true then (whirligiglaw08_MapperInside.j0 k a1 a3 t230 true a0_0 a0_1 a0_2 a0_3 a0_4 a0_5) else (whirligiglaw08_MapperInside.j0 k a1 a3 t230 false a0_0 a0_1 a0_2 a0_3 a0_4 a0_5)))))))))) = some r := H
  have A5 := Aside0.mk A50
  clear A50
  replace H := Option.bind_eq_some_iff.mp H
  obtain ⟨t231, A60, H⟩ := H
  replace H : ((mapper_Ram.f a0_0 a0_1 a0_2 a0_3 a0_4 a0_5 a1 a2).bind fun t232 => ((mapper_Reg.f a0_0 a0_1 a0_2 a0_3 a0_4 a0_5 a1).bind fun t233 => (if t231 < (-1) then (whirligiglaw08_MapperInside.j0 k a1 a3 t230 true a0_0 a0_1 a0_2 a0_3 a0_4 a0_5) else (if t232 < (-1) then (whirligiglaw08_MapperInside.j0 k a1 a3 t230 true a0_0 a0_1 a0_2 a0_3 a0_4 a0_5) else (if t231 ≥ 0 then (if t231 ≥ a2 then (whirligiglaw08_MapperInside.j0 k a1 a3 t230 true a0_0 a0_1 a0_2 a0_3 a0_4 a0_5) else (if t232 ≥ 0 then (if t232 ≥ a2 then (whirligiglaw08_MapperInside.j0 k a1 a3 t230 true a0_0 a0_1 a0_2 a0_3 a0_4 a0_5) else (if a2 > 0 then (if ((decide (t231 ≥ 0)) != (decide (a1 < 32768))) = true then (whirligiglaw08_MapperInside.j0 k a1 a3 t230 true a0_0 a0_1 a0_2 a0_3 a0_4 a0_5) else (if a1 < 40960 then (whirligiglaw08_MapperInside.j0 k a1 a3 t230 true a0_0 a0_1 a0_2 a0_3 a0_4 a0_5) else (if a1 > 49151 then (whirligiglaw08_MapperInside.j0 k a1 a3 t230 true a0_0 a0_1 a0_2 a0_3 a0_4 a0_5) else (whirligiglaw08_MapperInside.j0 k a1 a3 t230 (decide (t233 > 0)) a0_0 a0_1 a0_2 a0_3 a0_4 a0_5)))) else (if ((decide (t231 ≥ 0)) != false) = true then (whirligiglaw08_MapperInside.j0 k a1 a3 t230 true a0_0 a0_1 a0_2 a0_3 a0_4 a0_5) else (if a1 < 40960 then (whirligiglaw08_MapperInside.j0 k a1 a3 t230 true a0_0 a0_1 a0_2 a0_3 a0_4 a0_5) else (if a1 > 49151 then (whirligiglaw08_MapperInside.j0 k a1 a3 t230 true a0_0 a0_1 a0_2 a0_3 a0_4 a0_5) else (whirligiglaw08_MapperInside.j0 k a1 a3 t230 (decide (t233 > 0)) a0_0 a0_1 a0_2 a0_3 a0_4 a0_5)))))) else (if a2 > 0 then (if ((decide (t231 ≥ 0)) != (decide (a1 < 32768))) = true then (whirligiglaw08_MapperInside.j0 k a1 a3 t230 true a0_0 a0_1 a0_2 a0_3 a0_4 a0_5) else (whirligiglaw08_MapperInside.j0 k a1 a3 t230 false a0_0 a0_1 a0_2 a0_3 a0_4 a0_5)) else (if ((decide (t231 ≥ 0)) != false) = true then (whirligiglaw08_MapperInside.j0 k a1 a3 t230 true a0_0 a0_1 a0_2 a0_3 a0_4 a0_5) else (whirligiglaw08_MapperInside.j0 k a1 a3 t230 false a0_0 a0_1 a0_2 a0_3 a0_4 a0_5))))) else (if t232 ≥ 0 then (if t232 ≥ a2 then (whirligiglaw08_MapperInside.j0 k a1 a3 t230 true a0_0 a0_1 a0_2 a0_3 a0_4 a0_5) else (if a2 > 0 then (if ((decide (t231 ≥ 0)) != (decide (a1 < 32768))) = true then (whirligiglaw08_MapperInside.j0 k a1 a3 t230 true a0_0 a0_1 a0_2 a0_3 a0_4 a0_5) else (if a1 < 40960 then (whirligiglaw08_MapperInside.j0 k a1 a3 t230 true a0_0 a0_1 a0_2 a0_3 a0_4 a0_5) else (if a1 > 49151 then (whirligiglaw08_MapperInside.j0 k a1 a3 t230 true a0_0 a0_1 a0_2 a0_3 a0_4 a0_5) else (whirligiglaw08_MapperInside.j0 k a1 a3 t230 (decide (t233 > 0)) a0_0 a0_1 a0_2 a0_3 a0_4 a0_5)))) else (if ((decide (t231 ≥ 0)) != false) = true then (whirligiglaw08_MapperInside.j0 k a1 a3 t230 true a0_0 a0_1 a0_2 a0_3 a0_4 a0_5) else (if a1 < 40960 then (whirligiglaw08_MapperInside.j0 k a1 a3 t230 true a0_0 a0_1 a0_2 a0_3 a0_4 a0_5) else (if a1 > 49151 then (whirligiglaw08_MapperInside.j0 k a1 a3 t230 true a0_0 a0_1 a0_2 a0_3 a0_4 a0_5) else (whirligiglaw08_MapperInside.j0 k a1 a3 t230 (decide (t233 > 0)) a0_0 a0_1 a0_2 a0_3 a0_4 a0_5)))))) else (if a2 > 0 then (if ((decide (t231 ≥ 0)) != (decide (a1 < 32768))) = true then (whirligiglaw08_MapperInside.j0 k a1 a3 t230 true a0_0 a0_1 a0_2 a0_3 a0_4 a0_5) else (whirligiglaw08_MapperInside.j0 k a1 a3 t230 false a0_0 a0_1 a0_2 a0_3 a0_4 a0_5)) else (if ((decide (t231 ≥ 0)) != false) = true then (whirligiglaw08_MapperInside.j0 k a1 a3 t230 true a0_0 a0_1 a0_2 a0_3 a0_4 a0_5) else (whirligiglaw08_MapperInside.j0 k a1 a3 t230 false a0_0 a0_1 a0_2 a0_3 a0_4 a0_5))))))))) = some r := H
  have A6 := Aside0.mk A60
  clear A60
  replace H := Option.bind_eq_some_iff.mp H
  obtain ⟨t232, A70, H⟩ := H
  replace H : ((mapper_Reg.f a0_0 a0_1 a0_2 a0_3 a0_4 a0_5 a1).bind fun t233 => (if t231 < (-1) then (whirligiglaw08_MapperInside.j0 k a1 a3 t230 true a0_0 a0_1 a0_2 a0_3 a0_4 a0_5) else (if t232 < (-1) then (whirligiglaw08_MapperInside.j0 k a1 a3 t230 true a0_0 a0_1 a0_2 a0_3 a0_4 a0_5) else (if t231 ≥ 0 then (if t231 ≥ a2 then (whirligiglaw08_MapperInside.j0 k a1 a3 t230 true a0_0 a0_1 a0_2 a0_3 a0_4 a0_5) else (if t232 ≥ 0 then (if t232 ≥ a2 then (whirligiglaw08_MapperInside.j0 k a1 a3 t230 true a0_0 a0_1 a0_2 a0_3 a0_4 a0_5) else (if a2 > 0 then (if ((decide (t231 ≥ 0)) != (decide (a1 < 32768))) = true then (whirligiglaw08_MapperInside.j0 k a1 a3 t230 true a0_0 a0_1 a0_2 a0_3 a0_4 a0_5) else (if a1 < 40960 then (whirligiglaw08_MapperInside.j0 k a1 a3 t230 true a0_0 a0_1 a0_2 a0_3 a0_4 a0_5) else (if a1 > 49151 then (whirligiglaw08_MapperInside.j0 k a1 a3 t230 true a0_0 a0_1 a0_2 a0_3 a0_4 a0_5) else (whirligiglaw08_MapperInside.j0 k a1 a3 t230 (decide (t233 > 0)) a0_0 a0_1 a0_2 a0_3 a0_4 a0_5)))) else (if ((decide (t231 ≥ 0)) != false) = true then (whirligiglaw08_MapperInside.j0 k a1 a3 t230 true a0_0 a0_1 a0_2 a0_3 a0_4 a0_5) else (if a1 < 40960 then (whirligiglaw08_MapperInside.j0 k a1 a3 t230 true a0_0 a0_1 a0_2 a0_3 a0_4 a0_5) else (if a1 > 49151 then (whirligiglaw08_MapperInside.j0 k a1 a3 t230 true a0_0 a0_1 a0_2 a0_3 a0_4 a0_5) else (whirligiglaw08_MapperInside.j0 k a1 a3 t230 (decide (t233 > 0)) a0_0 a0_1 a0_2 a0_3 a0_4 a0_5)))))) else (if a2 > 0 then (if ((decide (t231 ≥ 0)) != (decide (a1 < 32768))) = true then (whirligiglaw08_MapperInside.j0 k a1 a3 t230 true a0_0 a0_1 a0_2 a0_3 a0_4 a0_5) else (whirligiglaw08_MapperInside.j0 k a1 a3 t230 false a0_0 a0_1 a0_2 a0_3 a0_4 a0_5)) else (if ((decide (t231 ≥ 0)) != false) = true then (whirligiglaw08_MapperInside.j0 k a1 a3 t230 true a0_0 a0_1 a0_2 a0_3 a0_4 a0_5) else (whirligiglaw08_MapperInside.j0 k a1 a3 t230 false a0_0 a0_1 a0_2 a0_3 a0_4 a0_5))))) else (if t232 ≥ 0 then (if t232 ≥ a2 then (whirligiglaw08_MapperInside.j0 k a1 a3 t230 true a0_0 a0_1 a0_2 a0_3 a0_4 a0_5) else (if a2 > 0 then (if ((decide (t231 ≥ 0)) != (decide (a1 < 32768))) = true then (whirligiglaw08_MapperInside.j0 k a1 a3 t230 true a0_0 a0_1 a0_2 a0_3 a0_4 a0_5) else (if a1 < 40960 then (whirligiglaw08_MapperInside.j0 k a1 a3 t230 true a0_0 a0_1 a0_2 a0_3 a0_4 a0_5) else (if a1 > 49151 then (whirligiglaw08_MapperInside.j0 k a1 a3 t230 true a0_0 a0_1 a0_2 a0_3 a0_4 a0_5) else (whirligiglaw08_MapperInside.j0 k a1 a3 t230 (decide (t233 > 0)) a0_0 a0_1 a0_2 a0_3 a0_4 a0_5)))) else (if ((decide (t231 ≥ 0)) != false) = true then (whirligiglaw08_MapperInside.j0 k a1 a3 t230 true a0_0 a0_1 a0_2 a0_3 a0_4 a0_5) else (if a1 < 40960 then (whirligiglaw08_MapperInside.j0 k a1 a3 t230 true a0_0 a0_1 a0_2 a0_3 a0_4 a0_5) else (if a1 > 49151 then (whirligiglaw08_MapperInside.j0 k a1 a3 t230 true a0_0 a0_1 a0_2 a0_3 a0_4 a0_5) else (whirligiglaw08_MapperInside.j0 k a1 a3 t230 (decide (t233 > 0)) a0_0 a0_1 a0_2 a0_3 a0_4 a0_5)))))) else (if a2 > 0 then (if ((decide (t231 ≥ 0)) != (decide (a1 < 32768))) = true then (whirligiglaw08_MapperInside.j0 k a1 a3 t230 true a0_0 a0_1 a0_2 a0_3 a0_4 a0_5) else (whirligiglaw08_MapperInside.j0 k a1 a3 t230 false a0_0 a0_1 a0_2 a0_3 a0_4 a0_5)) else (if ((decide (t231 ≥ 0)) != false) = true then (whirligiglaw08_MapperInside.j0 k a1 a3 t230 true a0_0 a0_1 a0_2 a0_3 a0_4 a0_5) else (whirligiglaw08_MapperInside.j0 k a1 a3 t230 false a0_0 a0_1 a0_2 a0_3 a0_4 a0_5)))))))) = some r := H
  have A7 := Aside0.mk A70
  clear A70
  replace H := Option.bind_eq_some_iff.mp H
  obtain ⟨t233, A80, H⟩ := H
  replace H : (if t231 < (-1) then (whirligiglaw08_MapperInside.j0 k a1 a3 t230 true a0_0 a0_1 a0_2 a0_3 a0_4 a0_5) else (if t232 < (-1) then (whirligiglaw08_MapperInside.j0 k a1 a3 t230 true a0_0 a0_1 a0_2 a0_3 a0_4 a0_5) else (if t231 ≥ 0 then (if t231 ≥ a2 then (whirligiglaw08_MapperInside.j0 k a1 a3 t230 true a0_0 a0_1 a0_2 a0_3 a0_4 a0_5) else (if t232 ≥ 0 then (if t232 ≥ a2 then (whirligiglaw08_MapperInside.j0 k a1 a3 t230 true a0_0 a0_1 a0_2 a0_3 a0_4 a0_5) else (if a2 > 0 then (if ((decide (t231 ≥ 0)) != (decide (a1 < 32768))) = true then (whirligiglaw08_MapperInside.j0 k a1 a3 t230 true a0_0 a0_1 a0_2 a0_3 a0_4 a0_5) else (if a1 < 40960 then (whirligiglaw08_MapperInside.j0 k a1 a3 t230 true a0_0 a0_1 a0_2 a0_3 a0_4 a0_5) else (if a1 > 49151 then (whirligiglaw08_MapperInside.j0 k a1 a3 t230 true a0_0 a0_1 a0_2 a0_3 a0_4 a0_5) else (whirligiglaw08_MapperInside.j0 k a1 a3 t230 (decide (t233 > 0)) a0_0 a0_1 a0_2 a0_3 a0_4 a0_5)))) else (if ((decide (t231 ≥ 0)) != false) = true then (whirligiglaw08_MapperInside.j0 k a1 a3 t230 true a0_0 a0_1 a0_2 a0_3 a0_4 a0_5) else (if a1 < 40960 then (whirligiglaw08_MapperInside.j0 k a1 a3 t230 true a0_0 a0_1 a0_2 a0_3 a0_4 a0_5) else (if a1 > 49151 then (whirligiglaw08_MapperInside.j0 k a1 a3 t230 true a0_0 a0_1 a0_2 a0_3 a0_4 a0_5) else (whirligiglaw08_MapperInside.j0 k a1 a3 t230 (decide (t233 > 0)) a0_0 a0_1 a0_2 a0_3 a0_4 a0_5)))))) else (if a2 > 0 then (if ((decide (t231 ≥ 0)) != (decide (a1 < 32768))) = true then (whirligiglaw08_MapperInside.j0 k a1 a3 t230 true a0_0 a0_1 a0_2 a0_3 a0_4 a0_5) else (whirligiglaw08_MapperInside.j0 k a1 a3 t230 false a0_0 a0_1 a0_2 a0_3 a0_4 a0_5)) else (if ((decide (t231 ≥ 0)) != false) = true then (whirligiglaw08_MapperInside.j0 k a1 a3 t230 true a0_0 a0_1 a0_2 a0_3 a0_4 a0_5) else (whirligiglaw08_MapperInside.j0 k a1 a3 t230 false a0_0 a0_1 a0_2 a0_3 a0_4 a0_5))))) else (if t232 ≥ 0 then (if t232 ≥ a2 then (whirligiglaw08_MapperInside.j0 k a1 a3 t230 true a0_0 a0_1 a0_2 a0_3 a0_4 a0_5) else (if a2 > 0 then (if ((decide (t231 ≥ 0)) != (decide (a1 < 32768))) = true then (whirligiglaw08_MapperInside.j0 k a1 a3 t230 true a0_0 a0_1 a0_2 a0_3 a0_4 a0_5) else (if a1 < 40960 then (whirligiglaw08_MapperInside.j0 k a1 a3 t230 true a0_0 a0_1 a0_2 a0_3 a0_4 a0_5) else (if a1 > 49151 then (whirligiglaw08_MapperInside.j0 k a1 a3 t230 true a0_0 a0_1 a0_2 a0_3 a0_4 a0_5) else (whirligiglaw08_MapperInside.j0 k a1 a3 t230 (decide (t233 > 0)) a0_0 a0_1 a0_2 a0_3 a0_4 a0_5)))) else (if ((decide (t231 ≥ 0)) != false) = true then (whirligiglaw08_MapperInside.j0 k a1 a3 t230 true a0_0 a0_1 a0_2 a0_3 a0_4 a0_5) else (if a1 < 40960 then (whirligiglaw08_MapperInside.j0 k a1 a3 t230 true a0_0 a0_1 a0_2 a0_3 a0_4 a0_5) else (if a1 > 49151 then (whirligiglaw08_MapperInside.j0 k a1 a3 t230 true a0_0 a0_1 a0_2 a0_3 a0_4 a0_5) else (whirligiglaw08_MapperInside.j0 k a1 a3 t230 (decide (t233 > 0)) a0_0 a0_1 a0_2 a0_3 a0_4 a0_5)))))) else (if a2 > 0 then (if ((decide (t231 ≥ 0)) != (decide (a1 < 32768))) = true then (whirligiglaw08_MapperInside.j0 k a1 a3 t230 true a0_0 a0_1 a0_2 a0_3 a0_4 a0_5) else (whirligiglaw08_MapperInside.j0 k a1 a3 t230 false a0_0 a0_1 a0_2 a0_3 a0_4 a0_5)) else (if ((decide (t231 ≥ 0)) != false) = true then (whirligiglaw08_MapperInside.j0 k a1 a3 t230 true a0_0 a0_1 a0_2 a0_3 a0_4 a0_5) else (whirligiglaw08_MapperInside.j0 k a1 a3 t230 false a0_0 a0_1 a0_2 a0_3 a0_4 a0_5))))))) = some r := H
  have A8 := Aside0.mk A80
  clear A80
  have HC9 := Aside0.mk H
  clear H
  go_enter Try.func9, Try.ntmps9
  go_upto_region 5 with (first | ((with_reducible refine gate_dst (N := 4) rfl ?_); refine box_event ?hg (N := 4) ?hd (cs := #[.int .i64 a0_0, .bool a0_1, .int .u8 a0_2, .int .u8 a0_3, .int .u8 a0_4, .bool a0_5]) (t := 24) ?hr ?_; (case hd => rfl); (case hg => rfl); (case hr => first | (go_simp; done) | (go_simp; rfl)); intro gb229 hg w10 hbox hb; have n0_ := Aside0.mk (below_step (by repeat (first | (with_reducible first | exact HB.out | apply below_alloc | apply pw_below_drewN | apply below_drew1) | exact HB.out)) hb); have n1_ := Aside0.mk (hbox); have n2_ := Aside0.mk ((by rw [hg]; exact (below_size (by repeat (first | (with_reducible first | exact HB.out | apply below_alloc | apply pw_below_drewN | apply below_drew1) | exact HB.out))) : w.heap.size ≤ gb229)); have n3_ := Aside0.mk ((by rw [hg]; exact (below_size (by repeat (first | (with_reducible first | exact HB.out | apply below_alloc | apply pw_below_drewN | apply below_drew1) | exact HB.out))) : w.heap.size ≤ gb229)); clear HB; have HB := n0_; have BK229 := n1_; have GW229 := n2_; have GE229 := n3_; clear n0_ n1_ n2_ n3_; clear hb hbox hg) | ((with_reducible refine gate_callee (f := 10) rfl ?_); refine goesL_ (some 15) rfl rfl Try.func10 (by kernel_rfl) rfl #[] rfl (by (try simp only [List.map_toArray, List.map_cons, List.map_nil]); first | done | rfl | (simp only [List.length_drop, List.length_take]; rfl)) ?_; (with_reducible refine (whirligiglaw08_shown.calls  t230 _ A5.out).mono ?_); rintro e w11 ⟨rfl, hb⟩; refine ⟨_, rfl, ?_⟩; have n0_ := Aside0.mk (blk_below (g := gb229) (o := .cells #[.int .i64 a0_0, .bool a0_1, .int .u8 a0_2, .int .u8 a0_3, .int .u8 a0_4, .bool a0_5] 24 (0, 0)) (by (with_reducible repeat (first | refine blk_drewN ?_ _ | refine blk_drew ?_ | refine blk_alloc ?_ _)); exact BK229.out) hb); have n1_ := Aside0.mk (below_step (by repeat (first | (with_reducible first | exact HB.out | apply below_alloc | apply pw_below_drewN | apply below_drew1 | refine below_set ?_ GE229.out) | exact HB.out)) hb); clear BK229; clear HB; have BK229 := n0_; have HB := n1_; clear n0_ n1_; (try clear hb); (try clear hb2); (try clear hk); (try clear hi); have hcz12_0 : w11.cell? ⟨gb229, 0, none⟩ = some (.int .i64 a0_0) := (blk_cell BK229.out 0).trans rfl; have hcz12_1 : w11.cell? ⟨gb229, 1, none⟩ = some (.bool a0_1) := (blk_cell BK229.out 1).trans rfl; have hcz12_2 : w11.cell? ⟨gb229, 2, none⟩ = some (.int .u8 a0_2) := (blk_cell BK229.out 2).trans rfl; have hcz12_3 : w11.cell? ⟨gb229, 3, none⟩ = some (.int .u8 a0_3) := (blk_cell BK229.out 3).trans rfl; have hcz12_4 : w11.cell? ⟨gb229, 4, none⟩ = some (.int .u8 a0_4) := (blk_cell BK229.out 4).trans rfl; have hcz12_5 : w11.cell? ⟨gb229, 5, none⟩ = some (.bool a0_5) := (blk_cell BK229.out 5).trans rfl; have hfz12_0 := blk_frozen BK229.out 0; have hfz12_1 := blk_frozen BK229.out 1; have hfz12_2 := blk_frozen BK229.out 2; have hfz12_3 := blk_frozen BK229.out 3; have hfz12_4 := blk_frozen BK229.out 4; have hfz12_5 := blk_frozen BK229.out 5) | ((with_reducible refine gate_callee (f := 21) rfl ?_); refine goesL_ (some 19) rfl rfl Try.func21 (by kernel_rfl) rfl #[.agg #[.int .i64 a0_0, .bool a0_1, .int .u8 a0_2, .int .u8 a0_3, .int .u8 a0_4, .bool a0_5], .int .u16 a1, .int .i64 a2] rfl (by (try simp only [List.map_toArray, List.map_cons, List.map_nil]); first | done | rfl | (simp only [List.length_drop, List.length_take]; rfl)) ?_; (with_reducible refine (mapper_Rom.calls a0_0 a0_1 a0_2 a0_3 a0_4 a0_5 a1 a2 t231 _ A6.out).mono ?_); rintro e w13 ⟨rfl, hb⟩; refine ⟨_, rfl, ?_⟩; have n0_ := Aside0.mk (blk_below (g := gb229) (o := .cells #[.int .i64 a0_0, .bool a0_1, .int .u8 a0_2, .int .u8 a0_3, .int .u8 a0_4, .bool a0_5] 24 (0, 0)) (by (with_reducible repeat (first | refine blk_drewN ?_ _ | refine blk_drew ?_ | refine blk_alloc ?_ _)); exact BK229.out) hb); have n1_ := Aside0.mk (below_step (by repeat (first | (with_reducible first | exact HB.out | apply below_alloc | apply pw_below_drewN | apply below_drew1 | refine below_set ?_ GE229.out) | exact HB.out)) hb); clear BK229; clear HB; have BK229 := n0_; have HB := n1_; clear n0_ n1_; (try clear hb); (try clear hb2); (try clear hk); (try clear hi); have hcz14_0 : w13.cell? ⟨gb229, 0, none⟩ = some (.int .i64 a0_0) := (blk_cell BK229.out 0).trans rfl; have hcz14_1 : w13.cell? ⟨gb229, 1, none⟩ = some (.bool a0_1) := (blk_cell BK229.out 1).trans rfl; have hcz14_2 : w13.cell? ⟨gb229, 2, none⟩ = some (.int .u8 a0_2) := (blk_cell BK229.out 2).trans rfl; have hcz14_3 : w13.cell? ⟨gb229, 3, none⟩ = some (.int .u8 a0_3) := (blk_cell BK229.out 3).trans rfl; have hcz14_4 : w13.cell? ⟨gb229, 4, none⟩ = some (.int .u8 a0_4) := (blk_cell BK229.out 4).trans rfl; have hcz14_5 : w13.cell? ⟨gb229, 5, none⟩ = some (.bool a0_5) := (blk_cell BK229.out 5).trans rfl; have hfz14_0 := blk_frozen BK229.out 0; have hfz14_1 := blk_frozen BK229.out 1; have hfz14_2 := blk_frozen BK229.out 2; have hfz14_3 := blk_frozen BK229.out 3; have hfz14_4 := blk_frozen BK229.out 4; have hfz14_5 := blk_frozen BK229.out 5) | ((with_reducible refine gate_callee (f := 17) rfl ?_); refine goesL_ (some 23) rfl rfl Try.func17 (by kernel_rfl) rfl #[.agg #[.int .i64 a0_0, .bool a0_1, .int .u8 a0_2, .int .u8 a0_3, .int .u8 a0_4, .bool a0_5], .int .u16 a1, .int .i64 a2] rfl (by (try simp only [List.map_toArray, List.map_cons, List.map_nil]); first | done | rfl | (simp only [List.length_drop, List.length_take]; rfl)) ?_; (with_reducible refine (mapper_Ram.calls a0_0 a0_1 a0_2 a0_3 a0_4 a0_5 a1 a2 t232 _ A7.out).mono ?_); rintro e w15 ⟨rfl, hb⟩; refine ⟨_, rfl, ?_⟩; have n0_ := Aside0.mk (blk_below (g := gb229) (o := .cells #[.int .i64 a0_0, .bool a0_1, .int .u8 a0_2, .int .u8 a0_3, .int .u8 a0_4, .bool a0_5] 24 (0, 0)) (by (with_reducible repeat (first | refine blk_drewN ?_ _ | refine blk_drew ?_ | refine blk_alloc ?_ _)); exact BK229.out) hb); have n1_ := Aside0.mk (below_step (by repeat (first | (with_reducible first | exact HB.out | apply below_alloc | apply pw_below_drewN | apply below_drew1 | refine below_set ?_ GE229.out) | exact HB.out)) hb); clear BK229; clear HB; have BK229 := n0_; have HB := n1_; clear n0_ n1_; (try clear hb); (try clear hb2); (try clear hk); (try clear hi); have hcz16_0 : w15.cell? ⟨gb229, 0, none⟩ = some (.int .i64 a0_0) := (blk_cell BK229.out 0).trans rfl; have hcz16_1 : w15.cell? ⟨gb229, 1, none⟩ = some (.bool a0_1) := (blk_cell BK229.out 1).trans rfl; have hcz16_2 : w15.cell? ⟨gb229, 2, none⟩ = some (.int .u8 a0_2) := (blk_cell BK229.out 2).trans rfl; have hcz16_3 : w15.cell? ⟨gb229, 3, none⟩ = some (.int .u8 a0_3) := (blk_cell BK229.out 3).trans rfl; have hcz16_4 : w15.cell? ⟨gb229, 4, none⟩ = some (.int .u8 a0_4) := (blk_cell BK229.out 4).trans rfl; have hcz16_5 : w15.cell? ⟨gb229, 5, none⟩ = some (.bool a0_5) := (blk_cell BK229.out 5).trans rfl; have hfz16_0 := blk_frozen BK229.out 0; have hfz16_1 := blk_frozen BK229.out 1; have hfz16_2 := blk_frozen BK229.out 2; have hfz16_3 := blk_frozen BK229.out 3; have hfz16_4 := blk_frozen BK229.out 4; have hfz16_5 := blk_frozen BK229.out 5) | ((with_reducible refine gate_callee (f := 19) rfl ?_); refine goesL_ (some 26) rfl rfl Try.func19 (by kernel_rfl) rfl #[.agg #[.int .i64 a0_0, .bool a0_1, .int .u8 a0_2, .int .u8 a0_3, .int .u8 a0_4, .bool a0_5], .int .u16 a1] rfl (by (try simp only [List.map_toArray, List.map_cons, List.map_nil]); first | done | rfl | (simp only [List.length_drop, List.length_take]; rfl)) ?_; (with_reducible refine (mapper_Reg.calls a0_0 a0_1 a0_2 a0_3 a0_4 a0_5 a1 t233 _ A8.out).mono ?_); rintro e w17 ⟨rfl, hb⟩; refine ⟨_, rfl, ?_⟩; have n0_ := Aside0.mk (blk_below (g := gb229) (o := .cells #[.int .i64 a0_0, .bool a0_1, .int .u8 a0_2, .int .u8 a0_3, .int .u8 a0_4, .bool a0_5] 24 (0, 0)) (by (with_reducible repeat (first | refine blk_drewN ?_ _ | refine blk_drew ?_ | refine blk_alloc ?_ _)); exact BK229.out) hb); have n1_ := Aside0.mk (below_step (by repeat (first | (with_reducible first | exact HB.out | apply below_alloc | apply pw_below_drewN | apply below_drew1 | refine below_set ?_ GE229.out) | exact HB.out)) hb); clear BK229; clear HB; have BK229 := n0_; have HB := n1_; clear n0_ n1_; (try clear hb); (try clear hb2); (try clear hk); (try clear hi)))
  (try simp only [Act.put, List.setIfInBounds_toArray, List.set_cons_zero, List.set_cons_succ])
  go_cut [81] (fun v81 wc => ∃ (kq : Nat) (x81_8 : Bool), v81 = .bool x81_8 ∧ Aside0 (whirligiglaw08_MapperInside.j0 kq a1 a3 t230 x81_8 a0_0 a0_1 a0_2 a0_3 a0_4 a0_5 = some r) ∧ Aside0 (kq ≤ k) ∧ Aside0 (wc.heap[gb229]? = some (.cells #[.int .i64 a0_0, .bool a0_1, .int .u8 a0_2, .int .u8 a0_3, .int .u8 a0_4, .bool a0_5] 24 (0, 0))) ∧ Aside0 (Below w.heap.size w wc))
  case first =>
    have H := HC9.out
    clear HC9
    by_cases c18 : t231 < (-1)
    · rw [if_pos c18] at H
      have c18b0 : decide (t231 < (-1)) = true := decide_eq_true c18
      clear c18
      (first | rw [c18b0] | (simp only [i64_w, i32_w]; rw [c18b0]) | skip)
      have H' := Aside0.mk H
      clear H
      go_wp2
      go_meet
      case rel => exact ⟨_, (true), (by first | rfl | (simp; done) | (simp [*]; done)), H', ⟨by first | omega | exact Nat.le_refl _⟩, ⟨by (with_reducible repeat (first | refine blk_drewN ?_ _ | refine blk_drew ?_ | refine blk_alloc ?_ _)); exact BK229.out⟩, ⟨by repeat (first | (with_reducible first | exact HB.out | apply below_alloc | apply pw_below_drewN | apply below_drew1 | refine below_set ?_ GE229.out) | exact HB.out)⟩⟩
    · rw [if_neg c18] at H
      have c18b0 : decide (t231 < (-1)) = false := decide_eq_false c18
      clear c18
      (first | rw [c18b0] | (simp only [i64_w, i32_w]; rw [c18b0]) | skip)
      by_cases c19 : t232 < (-1)
      · rw [if_pos c19] at H
        have c19b0 : decide (t232 < (-1)) = true := decide_eq_true c19
        clear c19
        have H' := Aside0.mk H
        clear H
        go_wp2
        go_meet
        case rel => exact ⟨_, (true), (by first | rfl | (simp; done) | (simp [*]; done)), H', ⟨by first | omega | exact Nat.le_refl _⟩, ⟨by (with_reducible repeat (first | refine blk_drewN ?_ _ | refine blk_drew ?_ | refine blk_alloc ?_ _)); exact BK229.out⟩, ⟨by repeat (first | (with_reducible first | exact HB.out | apply below_alloc | apply pw_below_drewN | apply below_drew1 | refine below_set ?_ GE229.out) | exact HB.out)⟩⟩
      · rw [if_neg c19] at H
        have c19b0 : decide (t232 < (-1)) = false := decide_eq_false c19
        clear c19
        by_cases c20 : t231 ≥ 0
        · rw [if_pos c20] at H
          have c20b0 : decide (0 ≤ t231) = true := decide_eq_true c20
          clear c20
          by_cases c21 : t231 ≥ a2
          · rw [if_pos c21] at H
            have c21b0 : decide (a2 ≤ t231) = true := decide_eq_true c21
            clear c21
            have H' := Aside0.mk H
            clear H
            go_wp2
            go_meet
            case rel => exact ⟨_, (true), (by first | rfl | (simp; done) | (simp [*]; done)), H', ⟨by first | omega | exact Nat.le_refl _⟩, ⟨by (with_reducible repeat (first | refine blk_drewN ?_ _ | refine blk_drew ?_ | refine blk_alloc ?_ _)); exact BK229.out⟩, ⟨by repeat (first | (with_reducible first | exact HB.out | apply below_alloc | apply pw_below_drewN | apply below_drew1 | refine below_set ?_ GE229.out) | exact HB.out)⟩⟩
          · rw [if_neg c21] at H
            have c21b0 : decide (a2 ≤ t231) = false := decide_eq_false c21
            clear c21
            by_cases c22 : t232 ≥ 0
            · rw [if_pos c22] at H
              have c22b0 : decide (0 ≤ t232) = true := decide_eq_true c22
              clear c22
              by_cases c23 : t232 ≥ a2
              · rw [if_pos c23] at H
                have c23b0 : decide (a2 ≤ t232) = true := decide_eq_true c23
                clear c23
                have H' := Aside0.mk H
                clear H
                go_wp2
                go_meet
                case rel => exact ⟨_, (true), (by first | rfl | (simp; done) | (simp [*]; done)), H', ⟨by first | omega | exact Nat.le_refl _⟩, ⟨by (with_reducible repeat (first | refine blk_drewN ?_ _ | refine blk_drew ?_ | refine blk_alloc ?_ _)); exact BK229.out⟩, ⟨by repeat (first | (with_reducible first | exact HB.out | apply below_alloc | apply pw_below_drewN | apply below_drew1 | refine below_set ?_ GE229.out) | exact HB.out)⟩⟩
              · rw [if_neg c23] at H
                have c23b0 : decide (a2 ≤ t232) = false := decide_eq_false c23
                clear c23
                by_cases c24 : a2 > 0
                · rw [if_pos c24] at H
                  have c24b0 : decide (0 < a2) = true := decide_eq_true c24
                  clear c24
                  by_cases c25 : ((decide (t231 ≥ 0)) != (decide (a1 < 32768))) = true
                  · rw [if_pos c25] at H
                    have c25b0 : ((decide (t231 ≥ 0)) != (decide (a1 < 32768))) = true := c25
                    (try (have c25y : 32768 ≤ a1 := (by (try simp only [ge_iff_le] at c25b0); simpa [*] using c25b0); have c25z : decide (a1 < 32768) = false := decide_eq_false (by omega); have c25v : decide (32768 ≤ a1) = true := decide_eq_true c25y))
                    (try (have c25b1 : decide ((decide (t231 ≥ 0)) = (decide (a1 < 32768))) = false := by simpa using c25))
                    (try (have c25b2 : ((decide (t231 ≥ 0)) == (decide (a1 < 32768))) = false := by simpa using c25))
                    (try (have c25b3 : ¬ ((decide (t231 ≥ 0)) = (decide (a1 < 32768))) := by simpa using c25))
                    clear c25
                    have H' := Aside0.mk H
                    clear H
                    go_wp2
                    go_meet
                    case rel => exact ⟨_, (true), (by first | rfl | (simp; done) | (simp [*]; done)), H', ⟨by first | omega | exact Nat.le_refl _⟩, ⟨by (with_reducible repeat (first | refine blk_drewN ?_ _ | refine blk_drew ?_ | refine blk_alloc ?_ _)); exact BK229.out⟩, ⟨by repeat (first | (with_reducible first | exact HB.out | apply below_alloc | apply pw_below_drewN | apply below_drew1 | refine below_set ?_ GE229.out) | exact HB.out)⟩⟩
                  · rw [if_neg c25] at H
                    have c25b0 : ((decide (t231 ≥ 0)) != (decide (a1 < 32768))) = false := by simpa using c25
                    (try (have c25y : a1 < 32768 := (by (try simp only [ge_iff_le] at c25b0); simpa [*] using c25b0); have c25z : decide (a1 < 32768) = true := decide_eq_true c25y; have c25v : decide (32768 ≤ a1) = false := decide_eq_false (by omega)))
                    (try (have c25b1 : decide ((decide (t231 ≥ 0)) = (decide (a1 < 32768))) = true := by simpa using c25))
                    (try (have c25b2 : ((decide (t231 ≥ 0)) == (decide (a1 < 32768))) = true := by simpa using c25))
                    clear c25
                    by_cases c26 : a1 < 40960
                    · rw [if_pos c26] at H
                      have c26b0 : decide (a1 < 40960) = true := decide_eq_true c26
                      clear c26
                      have H' := Aside0.mk H
                      clear H
                      go_wp2
                      go_meet
                      case rel => exact ⟨_, (true), (by first | rfl | (simp; done) | (simp [*]; done)), H', ⟨by first | omega | exact Nat.le_refl _⟩, ⟨by (with_reducible repeat (first | refine blk_drewN ?_ _ | refine blk_drew ?_ | refine blk_alloc ?_ _)); exact BK229.out⟩, ⟨by repeat (first | (with_reducible first | exact HB.out | apply below_alloc | apply pw_below_drewN | apply below_drew1 | refine below_set ?_ GE229.out) | exact HB.out)⟩⟩
                    · rw [if_neg c26] at H
                      have c26b0 : decide (a1 < 40960) = false := decide_eq_false c26
                      clear c26
                      by_cases c27 : a1 > 49151
                      · rw [if_pos c27] at H
                        have c27b0 : decide (49151 < a1) = true := decide_eq_true c27
                        clear c27
                        have H' := Aside0.mk H
                        clear H
                        go_wp2
                        go_meet
                        case rel => exact ⟨_, (true), (by first | rfl | (simp; done) | (simp [*]; done)), H', ⟨by first | omega | exact Nat.le_refl _⟩, ⟨by (with_reducible repeat (first | refine blk_drewN ?_ _ | refine blk_drew ?_ | refine blk_alloc ?_ _)); exact BK229.out⟩, ⟨by repeat (first | (with_reducible first | exact HB.out | apply below_alloc | apply pw_below_drewN | apply below_drew1 | refine below_set ?_ GE229.out) | exact HB.out)⟩⟩
                      · rw [if_neg c27] at H
                        have c27b0 : decide (49151 < a1) = false := decide_eq_false c27
                        clear c27
                        have H' := Aside0.mk H
                        clear H
                        go_wp2
                        go_meet
                        case rel => exact ⟨_, (decide (t233 > 0)), (by first | rfl | (simp; done) | (simp [*]; done)), H', ⟨by first | omega | exact Nat.le_refl _⟩, ⟨by (with_reducible repeat (first | refine blk_drewN ?_ _ | refine blk_drew ?_ | refine blk_alloc ?_ _)); exact BK229.out⟩, ⟨by repeat (first | (with_reducible first | exact HB.out | apply below_alloc | apply pw_below_drewN | apply below_drew1 | refine below_set ?_ GE229.out) | exact HB.out)⟩⟩
                · rw [if_neg c24] at H
                  have c24b0 : decide (0 < a2) = false := decide_eq_false c24
                  clear c24
                  by_cases c28 : ((decide (t231 ≥ 0)) != false) = true
                  · rw [if_pos c28] at H
                    have c28b0 : ((decide (t231 ≥ 0)) != false) = true := c28
                    (try (have c28b1 : decide ((decide (t231 ≥ 0)) = false) = false := by simpa using c28))
                    (try (have c28b2 : ((decide (t231 ≥ 0)) == false) = false := by simpa using c28))
                    (try (have c28b3 : ¬ ((decide (t231 ≥ 0)) = false) := by simpa using c28))
                    clear c28
                    have H' := Aside0.mk H
                    clear H
                    go_wp2
                    go_meet
                    case rel => exact ⟨_, (true), (by first | rfl | (simp; done) | (simp [*]; done)), H', ⟨by first | omega | exact Nat.le_refl _⟩, ⟨by (with_reducible repeat (first | refine blk_drewN ?_ _ | refine blk_drew ?_ | refine blk_alloc ?_ _)); exact BK229.out⟩, ⟨by repeat (first | (with_reducible first | exact HB.out | apply below_alloc | apply pw_below_drewN | apply below_drew1 | refine below_set ?_ GE229.out) | exact HB.out)⟩⟩
                  · rw [if_neg c28] at H
                    have c28b0 : ((decide (t231 ≥ 0)) != false) = false := by simpa using c28
                    exact absurd c28b0 (by have z : t231 ≥ 0 := (by simpa using c20b0); simp [z])
            · rw [if_neg c22] at H
              have c22b0 : decide (0 ≤ t232) = false := decide_eq_false c22
              clear c22
              by_cases c31 : a2 > 0
              · rw [if_pos c31] at H
                have c31b0 : decide (0 < a2) = true := decide_eq_true c31
                clear c31
                by_cases c32 : ((decide (t231 ≥ 0)) != (decide (a1 < 32768))) = true
                · rw [if_pos c32] at H
                  have c32b0 : ((decide (t231 ≥ 0)) != (decide (a1 < 32768))) = true := c32
                  (try (have c32y : 32768 ≤ a1 := (by (try simp only [ge_iff_le] at c32b0); simpa [*] using c32b0); have c32z : decide (a1 < 32768) = false := decide_eq_false (by omega); have c32v : decide (32768 ≤ a1) = true := decide_eq_true c32y))
                  (try (have c32b1 : decide ((decide (t231 ≥ 0)) = (decide (a1 < 32768))) = false := by simpa using c32))
                  (try (have c32b2 : ((decide (t231 ≥ 0)) == (decide (a1 < 32768))) = false := by simpa using c32))
                  (try (have c32b3 : ¬ ((decide (t231 ≥ 0)) = (decide (a1 < 32768))) := by simpa using c32))
                  clear c32
                  have H' := Aside0.mk H
                  clear H
                  go_wp2
                  go_meet
                  case rel => exact ⟨_, (true), (by first | rfl | (simp; done) | (simp [*]; done)), H', ⟨by first | omega | exact Nat.le_refl _⟩, ⟨by (with_reducible repeat (first | refine blk_drewN ?_ _ | refine blk_drew ?_ | refine blk_alloc ?_ _)); exact BK229.out⟩, ⟨by repeat (first | (with_reducible first | exact HB.out | apply below_alloc | apply pw_below_drewN | apply below_drew1 | refine below_set ?_ GE229.out) | exact HB.out)⟩⟩
                · rw [if_neg c32] at H
                  have c32b0 : ((decide (t231 ≥ 0)) != (decide (a1 < 32768))) = false := by simpa using c32
                  (try (have c32y : a1 < 32768 := (by (try simp only [ge_iff_le] at c32b0); simpa [*] using c32b0); have c32z : decide (a1 < 32768) = true := decide_eq_true c32y; have c32v : decide (32768 ≤ a1) = false := decide_eq_false (by omega)))
                  (try (have c32b1 : decide ((decide (t231 ≥ 0)) = (decide (a1 < 32768))) = true := by simpa using c32))
                  (try (have c32b2 : ((decide (t231 ≥ 0)) == (decide (a1 < 32768))) = true := by simpa using c32))
                  clear c32
                  have H' := Aside0.mk H
                  clear H
                  go_wp2
                  go_meet
                  case rel => exact ⟨_, (false), (by first | rfl | (simp; done) | (simp [*]; done)), H', ⟨by first | omega | exact Nat.le_refl _⟩, ⟨by (with_reducible repeat (first | refine blk_drewN ?_ _ | refine blk_drew ?_ | refine blk_alloc ?_ _)); exact BK229.out⟩, ⟨by repeat (first | (with_reducible first | exact HB.out | apply below_alloc | apply pw_below_drewN | apply below_drew1 | refine below_set ?_ GE229.out) | exact HB.out)⟩⟩
              · rw [if_neg c31] at H
                have c31b0 : decide (0 < a2) = false := decide_eq_false c31
                clear c31
                by_cases c33 : ((decide (t231 ≥ 0)) != false) = true
                · rw [if_pos c33] at H
                  have c33b0 : ((decide (t231 ≥ 0)) != false) = true := c33
                  (try (have c33b1 : decide ((decide (t231 ≥ 0)) = false) = false := by simpa using c33))
                  (try (have c33b2 : ((decide (t231 ≥ 0)) == false) = false := by simpa using c33))
                  (try (have c33b3 : ¬ ((decide (t231 ≥ 0)) = false) := by simpa using c33))
                  clear c33
                  have H' := Aside0.mk H
                  clear H
                  go_wp2
                  go_meet
                  case rel => exact ⟨_, (true), (by first | rfl | (simp; done) | (simp [*]; done)), H', ⟨by first | omega | exact Nat.le_refl _⟩, ⟨by (with_reducible repeat (first | refine blk_drewN ?_ _ | refine blk_drew ?_ | refine blk_alloc ?_ _)); exact BK229.out⟩, ⟨by repeat (first | (with_reducible first | exact HB.out | apply below_alloc | apply pw_below_drewN | apply below_drew1 | refine below_set ?_ GE229.out) | exact HB.out)⟩⟩
                · rw [if_neg c33] at H
                  have c33b0 : ((decide (t231 ≥ 0)) != false) = false := by simpa using c33
                  exact absurd c33b0 (by have z : t231 ≥ 0 := (by simpa using c20b0); simp [z])
        · rw [if_neg c20] at H
          have c20b0 : decide (0 ≤ t231) = false := decide_eq_false c20
          clear c20
          by_cases c34 : t232 ≥ 0
          · rw [if_pos c34] at H
            have c34b0 : decide (0 ≤ t232) = true := decide_eq_true c34
            clear c34
            by_cases c35 : t232 ≥ a2
            · rw [if_pos c35] at H
              have c35b0 : decide (a2 ≤ t232) = true := decide_eq_true c35
              clear c35
              have H' := Aside0.mk H
              clear H
              go_wp2
              go_meet
              case rel => exact ⟨_, (true), (by first | rfl | (simp; done) | (simp [*]; done)), H', ⟨by first | omega | exact Nat.le_refl _⟩, ⟨by (with_reducible repeat (first | refine blk_drewN ?_ _ | refine blk_drew ?_ | refine blk_alloc ?_ _)); exact BK229.out⟩, ⟨by repeat (first | (with_reducible first | exact HB.out | apply below_alloc | apply pw_below_drewN | apply below_drew1 | refine below_set ?_ GE229.out) | exact HB.out)⟩⟩
            · rw [if_neg c35] at H
              have c35b0 : decide (a2 ≤ t232) = false := decide_eq_false c35
              clear c35
              by_cases c36 : a2 > 0
              · rw [if_pos c36] at H
                have c36b0 : decide (0 < a2) = true := decide_eq_true c36
                clear c36
                by_cases c37 : ((decide (t231 ≥ 0)) != (decide (a1 < 32768))) = true
                · rw [if_pos c37] at H
                  have c37b0 : ((decide (t231 ≥ 0)) != (decide (a1 < 32768))) = true := c37
                  (try (have c37y : a1 < 32768 := (by (try simp only [ge_iff_le] at c37b0); simpa [*] using c37b0); have c37z : decide (a1 < 32768) = true := decide_eq_true c37y; have c37v : decide (32768 ≤ a1) = false := decide_eq_false (by omega)))
                  (try (have c37b1 : decide ((decide (t231 ≥ 0)) = (decide (a1 < 32768))) = false := by simpa using c37))
                  (try (have c37b2 : ((decide (t231 ≥ 0)) == (decide (a1 < 32768))) = false := by simpa using c37))
                  (try (have c37b3 : ¬ ((decide (t231 ≥ 0)) = (decide (a1 < 32768))) := by simpa using c37))
                  clear c37
                  have H' := Aside0.mk H
                  clear H
                  go_wp2
                  go_meet
                  case rel => exact ⟨_, (true), (by first | rfl | (simp; done) | (simp [*]; done)), H', ⟨by first | omega | exact Nat.le_refl _⟩, ⟨by (with_reducible repeat (first | refine blk_drewN ?_ _ | refine blk_drew ?_ | refine blk_alloc ?_ _)); exact BK229.out⟩, ⟨by repeat (first | (with_reducible first | exact HB.out | apply below_alloc | apply pw_below_drewN | apply below_drew1 | refine below_set ?_ GE229.out) | exact HB.out)⟩⟩
                · rw [if_neg c37] at H
                  have c37b0 : ((decide (t231 ≥ 0)) != (decide (a1 < 32768))) = false := by simpa using c37
                  (try (have c37y : 32768 ≤ a1 := (by (try simp only [ge_iff_le] at c37b0); simpa [*] using c37b0); have c37z : decide (a1 < 32768) = false := decide_eq_false (by omega); have c37v : decide (32768 ≤ a1) = true := decide_eq_true c37y))
                  (try (have c37b1 : decide ((decide (t231 ≥ 0)) = (decide (a1 < 32768))) = true := by simpa using c37))
                  (try (have c37b2 : ((decide (t231 ≥ 0)) == (decide (a1 < 32768))) = true := by simpa using c37))
                  clear c37
                  by_cases c38 : a1 < 40960
                  · rw [if_pos c38] at H
                    have c38b0 : decide (a1 < 40960) = true := decide_eq_true c38
                    clear c38
                    have H' := Aside0.mk H
                    clear H
                    go_wp2
                    go_meet
                    case rel => exact ⟨_, (true), (by first | rfl | (simp; done) | (simp [*]; done)), H', ⟨by first | omega | exact Nat.le_refl _⟩, ⟨by (with_reducible repeat (first | refine blk_drewN ?_ _ | refine blk_drew ?_ | refine blk_alloc ?_ _)); exact BK229.out⟩, ⟨by repeat (first | (with_reducible first | exact HB.out | apply below_alloc | apply pw_below_drewN | apply below_drew1 | refine below_set ?_ GE229.out) | exact HB.out)⟩⟩
                  · rw [if_neg c38] at H
                    have c38b0 : decide (a1 < 40960) = false := decide_eq_false c38
                    clear c38
                    by_cases c39 : a1 > 49151
                    · rw [if_pos c39] at H
                      have c39b0 : decide (49151 < a1) = true := decide_eq_true c39
                      clear c39
                      have H' := Aside0.mk H
                      clear H
                      go_wp2
                      go_meet
                      case rel => exact ⟨_, (true), (by first | rfl | (simp; done) | (simp [*]; done)), H', ⟨by first | omega | exact Nat.le_refl _⟩, ⟨by (with_reducible repeat (first | refine blk_drewN ?_ _ | refine blk_drew ?_ | refine blk_alloc ?_ _)); exact BK229.out⟩, ⟨by repeat (first | (with_reducible first | exact HB.out | apply below_alloc | apply pw_below_drewN | apply below_drew1 | refine below_set ?_ GE229.out) | exact HB.out)⟩⟩
                    · rw [if_neg c39] at H
                      have c39b0 : decide (49151 < a1) = false := decide_eq_false c39
                      clear c39
                      have H' := Aside0.mk H
                      clear H
                      go_wp2
                      go_meet
                      case rel => exact ⟨_, (decide (t233 > 0)), (by first | rfl | (simp; done) | (simp [*]; done)), H', ⟨by first | omega | exact Nat.le_refl _⟩, ⟨by (with_reducible repeat (first | refine blk_drewN ?_ _ | refine blk_drew ?_ | refine blk_alloc ?_ _)); exact BK229.out⟩, ⟨by repeat (first | (with_reducible first | exact HB.out | apply below_alloc | apply pw_below_drewN | apply below_drew1 | refine below_set ?_ GE229.out) | exact HB.out)⟩⟩
              · rw [if_neg c36] at H
                have c36b0 : decide (0 < a2) = false := decide_eq_false c36
                clear c36
                by_cases c40 : ((decide (t231 ≥ 0)) != false) = true
                · rw [if_pos c40] at H
                  have c40b0 : ((decide (t231 ≥ 0)) != false) = true := c40
                  exact absurd c40b0 (by have z : ¬ t231 ≥ 0 := (by simpa using c20b0); simp [z])
                · rw [if_neg c40] at H
                  have c40b0 : ((decide (t231 ≥ 0)) != false) = false := by simpa using c40
                  (try (have c40b1 : decide ((decide (t231 ≥ 0)) = false) = true := by simpa using c40))
                  (try (have c40b2 : ((decide (t231 ≥ 0)) == false) = true := by simpa using c40))
                  clear c40
                  by_cases c41 : a1 < 40960
                  · rw [if_pos c41] at H
                    have c41b0 : decide (a1 < 40960) = true := decide_eq_true c41
                    clear c41
                    have H' := Aside0.mk H
                    clear H
                    go_wp2
                    go_meet
                    case rel => exact ⟨_, (true), (by first | rfl | (simp; done) | (simp [*]; done)), H', ⟨by first | omega | exact Nat.le_refl _⟩, ⟨by (with_reducible repeat (first | refine blk_drewN ?_ _ | refine blk_drew ?_ | refine blk_alloc ?_ _)); exact BK229.out⟩, ⟨by repeat (first | (with_reducible first | exact HB.out | apply below_alloc | apply pw_below_drewN | apply below_drew1 | refine below_set ?_ GE229.out) | exact HB.out)⟩⟩
                  · rw [if_neg c41] at H
                    have c41b0 : decide (a1 < 40960) = false := decide_eq_false c41
                    clear c41
                    by_cases c42 : a1 > 49151
                    · rw [if_pos c42] at H
                      have c42b0 : decide (49151 < a1) = true := decide_eq_true c42
                      clear c42
                      have H' := Aside0.mk H
                      clear H
                      go_wp2
                      go_meet
                      case rel => exact ⟨_, (true), (by first | rfl | (simp; done) | (simp [*]; done)), H', ⟨by first | omega | exact Nat.le_refl _⟩, ⟨by (with_reducible repeat (first | refine blk_drewN ?_ _ | refine blk_drew ?_ | refine blk_alloc ?_ _)); exact BK229.out⟩, ⟨by repeat (first | (with_reducible first | exact HB.out | apply below_alloc | apply pw_below_drewN | apply below_drew1 | refine below_set ?_ GE229.out) | exact HB.out)⟩⟩
                    · rw [if_neg c42] at H
                      have c42b0 : decide (49151 < a1) = false := decide_eq_false c42
                      clear c42
                      have H' := Aside0.mk H
                      clear H
                      go_wp2
                      go_meet
                      case rel => exact ⟨_, (decide (t233 > 0)), (by first | rfl | (simp; done) | (simp [*]; done)), H', ⟨by first | omega | exact Nat.le_refl _⟩, ⟨by (with_reducible repeat (first | refine blk_drewN ?_ _ | refine blk_drew ?_ | refine blk_alloc ?_ _)); exact BK229.out⟩, ⟨by repeat (first | (with_reducible first | exact HB.out | apply below_alloc | apply pw_below_drewN | apply below_drew1 | refine below_set ?_ GE229.out) | exact HB.out)⟩⟩
          · rw [if_neg c34] at H
            have c34b0 : decide (0 ≤ t232) = false := decide_eq_false c34
            clear c34
            by_cases c43 : a2 > 0
            · rw [if_pos c43] at H
              have c43b0 : decide (0 < a2) = true := decide_eq_true c43
              clear c43
              by_cases c44 : ((decide (t231 ≥ 0)) != (decide (a1 < 32768))) = true
              · rw [if_pos c44] at H
                have c44b0 : ((decide (t231 ≥ 0)) != (decide (a1 < 32768))) = true := c44
                (try (have c44y : a1 < 32768 := (by (try simp only [ge_iff_le] at c44b0); simpa [*] using c44b0); have c44z : decide (a1 < 32768) = true := decide_eq_true c44y; have c44v : decide (32768 ≤ a1) = false := decide_eq_false (by omega)))
                (try (have c44b1 : decide ((decide (t231 ≥ 0)) = (decide (a1 < 32768))) = false := by simpa using c44))
                (try (have c44b2 : ((decide (t231 ≥ 0)) == (decide (a1 < 32768))) = false := by simpa using c44))
                (try (have c44b3 : ¬ ((decide (t231 ≥ 0)) = (decide (a1 < 32768))) := by simpa using c44))
                clear c44
                have H' := Aside0.mk H
                clear H
                go_wp2
                go_meet
                case rel => exact ⟨_, (true), (by first | rfl | (simp; done) | (simp [*]; done)), H', ⟨by first | omega | exact Nat.le_refl _⟩, ⟨by (with_reducible repeat (first | refine blk_drewN ?_ _ | refine blk_drew ?_ | refine blk_alloc ?_ _)); exact BK229.out⟩, ⟨by repeat (first | (with_reducible first | exact HB.out | apply below_alloc | apply pw_below_drewN | apply below_drew1 | refine below_set ?_ GE229.out) | exact HB.out)⟩⟩
              · rw [if_neg c44] at H
                have c44b0 : ((decide (t231 ≥ 0)) != (decide (a1 < 32768))) = false := by simpa using c44
                (try (have c44y : 32768 ≤ a1 := (by (try simp only [ge_iff_le] at c44b0); simpa [*] using c44b0); have c44z : decide (a1 < 32768) = false := decide_eq_false (by omega); have c44v : decide (32768 ≤ a1) = true := decide_eq_true c44y))
                (try (have c44b1 : decide ((decide (t231 ≥ 0)) = (decide (a1 < 32768))) = true := by simpa using c44))
                (try (have c44b2 : ((decide (t231 ≥ 0)) == (decide (a1 < 32768))) = true := by simpa using c44))
                clear c44
                have H' := Aside0.mk H
                clear H
                go_wp2
                go_meet
                case rel => exact ⟨_, (false), (by first | rfl | (simp; done) | (simp [*]; done)), H', ⟨by first | omega | exact Nat.le_refl _⟩, ⟨by (with_reducible repeat (first | refine blk_drewN ?_ _ | refine blk_drew ?_ | refine blk_alloc ?_ _)); exact BK229.out⟩, ⟨by repeat (first | (with_reducible first | exact HB.out | apply below_alloc | apply pw_below_drewN | apply below_drew1 | refine below_set ?_ GE229.out) | exact HB.out)⟩⟩
            · rw [if_neg c43] at H
              have c43b0 : decide (0 < a2) = false := decide_eq_false c43
              clear c43
              by_cases c45 : ((decide (t231 ≥ 0)) != false) = true
              · rw [if_pos c45] at H
                have c45b0 : ((decide (t231 ≥ 0)) != false) = true := c45
                exact absurd c45b0 (by have z : ¬ t231 ≥ 0 := (by simpa using c20b0); simp [z])
              · rw [if_neg c45] at H
                have c45b0 : ((decide (t231 ≥ 0)) != false) = false := by simpa using c45
                (try (have c45b1 : decide ((decide (t231 ≥ 0)) = false) = true := by simpa using c45))
                (try (have c45b2 : ((decide (t231 ≥ 0)) == false) = true := by simpa using c45))
                clear c45
                have H' := Aside0.mk H
                clear H
                go_wp2
                go_meet
                case rel => exact ⟨_, (false), (by first | rfl | (simp; done) | (simp [*]; done)), H', ⟨by first | omega | exact Nat.le_refl _⟩, ⟨by (with_reducible repeat (first | refine blk_drewN ?_ _ | refine blk_drew ?_ | refine blk_alloc ?_ _)); exact BK229.out⟩, ⟨by repeat (first | (with_reducible first | exact HB.out | apply below_alloc | apply pw_below_drewN | apply below_drew1 | refine below_set ?_ GE229.out) | exact HB.out)⟩⟩
  case rest =>
    clear HC9
    try clear c1
    try clear c2
    try clear p2
    try clear c3
    try clear c4
    try clear c9
    try clear c10
    try clear c17
    try clear c18
    try clear c18b0
    try clear c19
    try clear c19b0
    try clear c20
    try clear c20b0
    try clear c21
    try clear c21b0
    try clear c22
    try clear c22b0
    try clear c23
    try clear c23b0
    try clear c24
    try clear c24b0
    try clear c25
    try clear c25b0
    try clear c25b1
    try clear c25b2
    try clear c26
    try clear c26b0
    try clear c27
    try clear c27b0
    try clear c28
    try clear c28b0
    try clear c28b1
    try clear c28b2
    try clear c29
    try clear c29b0
    try clear c30
    try clear c30b0
    try clear c31
    try clear c31b0
    try clear c32
    try clear c32b0
    try clear c32b1
    try clear c32b2
    try clear c33
    try clear c33b0
    try clear c33b1
    try clear c33b2
    try clear c34
    try clear c34b0
    try clear c35
    try clear c35b0
    try clear c36
    try clear c36b0
    try clear c37
    try clear c37b0
    try clear c37b1
    try clear c37b2
    try clear c38
    try clear c38b0
    try clear c39
    try clear c39b0
    try clear c40
    try clear c40b0
    try clear c40b1
    try clear c40b2
    try clear c41
    try clear c41b0
    try clear c42
    try clear c42b0
    try clear c43
    try clear c43b0
    try clear c44
    try clear c44b0
    try clear c44b1
    try clear c44b2
    try clear c45
    try clear c45b0
    try clear c45b1
    try clear c45b2
    try clear hcz12_0
    try clear hcz12_1
    try clear hcz12_2
    try clear hcz12_3
    try clear hcz12_4
    try clear hcz12_5
    try clear hcz14_0
    try clear hcz14_1
    try clear hcz14_2
    try clear hcz14_3
    try clear hcz14_4
    try clear hcz14_5
    try clear hcz16_0
    try clear hcz16_1
    try clear hcz16_2
    try clear hcz16_3
    try clear hcz16_4
    try clear hcz16_5
    try clear hfz12_0
    try clear hfz12_1
    try clear hfz12_2
    try clear hfz12_3
    try clear hfz12_4
    try clear hfz12_5
    try clear hfz14_0
    try clear hfz14_1
    try clear hfz14_2
    try clear hfz14_3
    try clear hfz14_4
    try clear hfz14_5
    try clear hfz16_0
    try clear hfz16_1
    try clear hfz16_2
    try clear hfz16_3
    try clear hfz16_4
    try clear hfz16_5
    obtain ⟨kq, x81_8, rfl, HA, HJ8, BK229, HB⟩ := hcut
    cases kq with
    | zero => exact absurd HA.out (by simp [whirligiglaw08_MapperInside.j0])
    | succ kj8 =>
      have H := HA.out
      clear HA
      simp only [whirligiglaw08_MapperInside.j0] at H
      by_cases c46 : x81_8 = true
      · subst c46
        have H1 : (some false) = some r := by rw [if_pos rfl] at H; exact H
        clear H
        have H := H1
        clear H1
        obtain rfl := Option.some.inj H
        go_wp2
        go_ret
        exact ⟨by first | rfl | (simp [errW_none, errW_some] <;> rfl) | (simp [*, errW_none, errW_some] <;> rfl), by repeat (first | (with_reducible first | exact HB.out | apply below_alloc | apply pw_below_drewN | apply below_drew1 | refine below_set ?_ GE229.out) | exact HB.out)⟩
      · replace c46 := Bool.eq_false_iff.mpr c46
        subst c46
        have H1 : (if 0 ≤ (Int.tmod a3 10) then ((mapper_Rom.f a0_0 a0_1 a0_2 a0_3 a0_4 a0_5 a1 (wrap64 ((shl .i64 1 (Int.tmod a3 10)) * 16384))).bind fun t234 => (if t230 = true then (if a1 > 32767 then (some true) else ((mapper_Bank.f a0_0 a0_1 a0_2 a0_3 a0_4 a0_5 a1).bind fun t235 => (if (shl .i64 1 (Int.tmod a3 10)) = 0 then (none) else (if (wrap64 (Int.tdiv t234 16384)) = (Int.tmod t235 (shl .i64 1 (Int.tmod a3 10))) then (some ((Int.tmod t234 16384) == (Int.tmod (wrap64 (a1)) 16384))) else (some false))))) else (some false))) else (none)) = some r := by rw [if_neg (show ¬ (false = true) by decide)] at H; exact H
        clear H
        have H := H1
        clear H1
        obtain ⟨ji47, hji47⟩ : ∃ j_ : Int, (Int.tmod a3 10) = j_ := ⟨_, rfl⟩
        replace H : (if 0 ≤ (ji47) then ((mapper_Rom.f a0_0 a0_1 a0_2 a0_3 a0_4 a0_5 a1 (wrap64 ((shl .i64 1 (ji47)) * 16384))).bind fun t234 => (if t230 = true then (if a1 > 32767 then (some true) else ((mapper_Bank.f a0_0 a0_1 a0_2 a0_3 a0_4 a0_5 a1).bind fun t235 => (if (shl .i64 1 (ji47)) = 0 then (none) else (if (wrap64 (Int.tdiv t234 16384)) = (Int.tmod t235 (shl .i64 1 (ji47))) then (some ((Int.tmod t234 16384) == (Int.tmod (wrap64 (a1)) 16384))) else (some false))))) else (some false))) else (none)) = some r := by first | (rw [hji47] at H; exact H) | (simp only [hji47] at H ⊢; exact H)
        by_cases c48 : 0 ≤ (ji47)
        · rw [if_pos c48] at H
          have c48b0 := eq_true c48
          have c48b1 : decide (0 ≤ (ji47)) = true := decide_eq_true c48
          clear c48
          obtain ⟨ji49, hji49⟩ : ∃ j_ : Int, (shl .i64 1 (ji47)) = j_ := ⟨_, rfl⟩
          replace H : ((mapper_Rom.f a0_0 a0_1 a0_2 a0_3 a0_4 a0_5 a1 (wrap64 ((ji49) * 16384))).bind fun t234 => (if t230 = true then (if a1 > 32767 then (some true) else ((mapper_Bank.f a0_0 a0_1 a0_2 a0_3 a0_4 a0_5 a1).bind fun t235 => (if (ji49) = 0 then (none) else (if (wrap64 (Int.tdiv t234 16384)) = (Int.tmod t235 (ji49)) then (some ((Int.tmod t234 16384) == (Int.tmod (wrap64 (a1)) 16384))) else (some false))))) else (some false))) = some r := by first | (rw [hji49] at H; exact H) | (simp only [hji49] at H ⊢; exact H)
          have hji49_ : (IntKind.i64.wrap (1 * 2 ^ min (ji47).toNat 64)) = ji49 := hji49
          have hji49z : (ji47) ≤ 64 → (IntKind.i64.wrap (1 * 2 ^ (ji47).toNat)) = ji49 := shl_small hji49
          have hji49u : (IntKind.i64.wrap (2 ^ min (ji47).toNat 64)) = ji49 := by have h_ := hji49_; rw [Int.one_mul] at h_; exact h_
          have hji49v : (ji47) ≤ 64 → (IntKind.i64.wrap (2 ^ (ji47).toNat)) = ji49 := fun hle_ => by have h_ := hji49z hle_; rw [Int.one_mul] at h_; exact h_
          have hji49y : (wrap64 (1 * 2 ^ min (ji47).toNat 64)) = ji49 := (i64_w _).symm.trans hji49_
          have hji49x : (ji47) ≤ 64 → (wrap64 (1 * 2 ^ (ji47).toNat)) = ji49 := fun h_ => (i64_w _).symm.trans (hji49z h_)
          replace H := Option.bind_eq_some_iff.mp H
          obtain ⟨t234, A500, H⟩ := H
          replace H : (if t230 = true then (if a1 > 32767 then (some true) else ((mapper_Bank.f a0_0 a0_1 a0_2 a0_3 a0_4 a0_5 a1).bind fun t235 => (if (ji49) = 0 then (none) else (if (wrap64 (Int.tdiv t234 16384)) = (Int.tmod t235 (ji49)) then (some ((Int.tmod t234 16384) == (Int.tmod (wrap64 (a1)) 16384))) else (some false))))) else (some false)) = some r := H
          have A50 := Aside0.mk A500
          clear A500
          by_cases c51 : t230 = true
          · subst c51
            have H1 : (if a1 > 32767 then (some true) else ((mapper_Bank.f a0_0 a0_1 a0_2 a0_3 a0_4 a0_5 a1).bind fun t235 => (if (ji49) = 0 then (none) else (if (wrap64 (Int.tdiv t234 16384)) = (Int.tmod t235 (ji49)) then (some ((Int.tmod t234 16384) == (Int.tmod (wrap64 (a1)) 16384))) else (some false))))) = some r := by rw [if_pos rfl] at H; exact H
            clear H
            have H := H1
            clear H1
            by_cases c52 : a1 > 32767
            · rw [if_pos c52] at H
              have c52b0 : decide (32767 < a1) = true := decide_eq_true c52
              clear c52
              obtain rfl := Option.some.inj H
              have hcz53_0 : wc.cell? ⟨gb229, 0, none⟩ = some (.int .i64 a0_0) := (blk_cell BK229.out 0).trans rfl
              have hcz53_1 : wc.cell? ⟨gb229, 1, none⟩ = some (.bool a0_1) := (blk_cell BK229.out 1).trans rfl
              have hcz53_2 : wc.cell? ⟨gb229, 2, none⟩ = some (.int .u8 a0_2) := (blk_cell BK229.out 2).trans rfl
              have hcz53_3 : wc.cell? ⟨gb229, 3, none⟩ = some (.int .u8 a0_3) := (blk_cell BK229.out 3).trans rfl
              have hcz53_4 : wc.cell? ⟨gb229, 4, none⟩ = some (.int .u8 a0_4) := (blk_cell BK229.out 4).trans rfl
              have hcz53_5 : wc.cell? ⟨gb229, 5, none⟩ = some (.bool a0_5) := (blk_cell BK229.out 5).trans rfl
              have hfz53_0 := blk_frozen BK229.out 0
              have hfz53_1 := blk_frozen BK229.out 1
              have hfz53_2 := blk_frozen BK229.out 2
              have hfz53_3 := blk_frozen BK229.out 3
              have hfz53_4 := blk_frozen BK229.out 4
              have hfz53_5 := blk_frozen BK229.out 5
              go_wp2_with (first | ((with_reducible refine gate_callee (f := 21) rfl ?_); refine goesL_ (some 89) rfl rfl Try.func21 (by kernel_rfl) rfl #[.agg #[.int .i64 a0_0, .bool a0_1, .int .u8 a0_2, .int .u8 a0_3, .int .u8 a0_4, .bool a0_5], .int .u16 a1, .int .i64 (wrap64 ((ji49) * 16384))] rfl (by (try simp only [List.map_toArray, List.map_cons, List.map_nil]); first | done | (simp only [hji49]; rfl) | rfl | (simp only [List.length_drop, List.length_take]; rfl)) ?_; (with_reducible refine (mapper_Rom.calls a0_0 a0_1 a0_2 a0_3 a0_4 a0_5 a1 (wrap64 ((ji49) * 16384)) t234 _ A50.out).mono ?_); rintro e w54 ⟨rfl, hb⟩; refine ⟨_, rfl, ?_⟩; have n0_ := Aside0.mk (blk_below (g := gb229) (o := .cells #[.int .i64 a0_0, .bool a0_1, .int .u8 a0_2, .int .u8 a0_3, .int .u8 a0_4, .bool a0_5] 24 (0, 0)) (by (with_reducible repeat (first | refine blk_drewN ?_ _ | refine blk_drew ?_ | refine blk_alloc ?_ _)); exact BK229.out) hb); have n1_ := Aside0.mk (below_step (by repeat (first | (with_reducible first | exact HB.out | apply below_alloc | apply pw_below_drewN | apply below_drew1 | refine below_set ?_ GE229.out) | exact HB.out)) hb); clear BK229; clear HB; have BK229 := n0_; have HB := n1_; clear n0_ n1_; (try clear hb); (try clear hb2); (try clear hk); (try clear hi)))
              go_ret
              exact ⟨by first | rfl | (simp [errW_none, errW_some] <;> rfl) | (simp only [← hji47, ← hji49]; first | rfl | (simp [errW_none, errW_some] <;> rfl)) | (simp [*, errW_none, errW_some] <;> rfl), by repeat (first | (with_reducible first | exact HB.out | apply below_alloc | apply pw_below_drewN | apply below_drew1 | refine below_set ?_ GE229.out) | exact HB.out)⟩
            · rw [if_neg c52] at H
              have c52b0 : decide (32767 < a1) = false := decide_eq_false c52
              clear c52
              replace H := Option.bind_eq_some_iff.mp H
              obtain ⟨t235, A550, H⟩ := H
              replace H : (if (ji49) = 0 then (none) else (if (wrap64 (Int.tdiv t234 16384)) = (Int.tmod t235 (ji49)) then (some ((Int.tmod t234 16384) == (Int.tmod (wrap64 (a1)) 16384))) else (some false))) = some r := H
              have A55 := Aside0.mk A550
              clear A550
              by_cases c56 : (ji49) = 0
              · rw [if_pos c56] at H
                exact absurd H (by simp)
              · rw [if_neg c56] at H
                have c56b0 : ((ji49) == 0) = false := beq_eq_false_iff_ne.mpr c56
                have c56b1 : ((ji49) != 0) = true := bne_iff_ne.mpr c56
                by_cases c57 : (wrap64 (Int.tdiv t234 16384)) = (Int.tmod t235 (ji49))
                · rw [if_pos c57] at H
                  have c57b0 : ((wrap64 (Int.tdiv t234 16384)) == (Int.tmod t235 (ji49))) = true := beq_iff_eq.mpr c57
                  have c57b1 : ((wrap64 (Int.tdiv t234 16384)) != (Int.tmod t235 (ji49))) = false := bne_eq_false_iff_eq.mpr c57
                  clear c57
                  obtain rfl := Option.some.inj H
                  have hcz58_0 : wc.cell? ⟨gb229, 0, none⟩ = some (.int .i64 a0_0) := (blk_cell BK229.out 0).trans rfl
                  have hcz58_1 : wc.cell? ⟨gb229, 1, none⟩ = some (.bool a0_1) := (blk_cell BK229.out 1).trans rfl
                  have hcz58_2 : wc.cell? ⟨gb229, 2, none⟩ = some (.int .u8 a0_2) := (blk_cell BK229.out 2).trans rfl
                  have hcz58_3 : wc.cell? ⟨gb229, 3, none⟩ = some (.int .u8 a0_3) := (blk_cell BK229.out 3).trans rfl
                  have hcz58_4 : wc.cell? ⟨gb229, 4, none⟩ = some (.int .u8 a0_4) := (blk_cell BK229.out 4).trans rfl
                  have hcz58_5 : wc.cell? ⟨gb229, 5, none⟩ = some (.bool a0_5) := (blk_cell BK229.out 5).trans rfl
                  have hfz58_0 := blk_frozen BK229.out 0
                  have hfz58_1 := blk_frozen BK229.out 1
                  have hfz58_2 := blk_frozen BK229.out 2
                  have hfz58_3 := blk_frozen BK229.out 3
                  have hfz58_4 := blk_frozen BK229.out 4
                  have hfz58_5 := blk_frozen BK229.out 5
                  go_wp2_with (first | ((with_reducible refine gate_callee (f := 21) rfl ?_); refine goesL_ (some 89) rfl rfl Try.func21 (by kernel_rfl) rfl #[.agg #[.int .i64 a0_0, .bool a0_1, .int .u8 a0_2, .int .u8 a0_3, .int .u8 a0_4, .bool a0_5], .int .u16 a1, .int .i64 (wrap64 ((ji49) * 16384))] rfl (by (try simp only [List.map_toArray, List.map_cons, List.map_nil]); first | done | (simp only [hji49]; rfl) | rfl | (simp only [List.length_drop, List.length_take]; rfl)) ?_; (with_reducible refine (mapper_Rom.calls a0_0 a0_1 a0_2 a0_3 a0_4 a0_5 a1 (wrap64 ((ji49) * 16384)) t234 _ A50.out).mono ?_); rintro e w59 ⟨rfl, hb⟩; refine ⟨_, rfl, ?_⟩; have n0_ := Aside0.mk (blk_below (g := gb229) (o := .cells #[.int .i64 a0_0, .bool a0_1, .int .u8 a0_2, .int .u8 a0_3, .int .u8 a0_4, .bool a0_5] 24 (0, 0)) (by (with_reducible repeat (first | refine blk_drewN ?_ _ | refine blk_drew ?_ | refine blk_alloc ?_ _)); exact BK229.out) hb); have n1_ := Aside0.mk (below_step (by repeat (first | (with_reducible first | exact HB.out | apply below_alloc | apply pw_below_drewN | apply below_drew1 | refine below_set ?_ GE229.out) | exact HB.out)) hb); clear BK229; clear HB; have BK229 := n0_; have HB := n1_; clear n0_ n1_; (try clear hb); (try clear hb2); (try clear hk); (try clear hi); have hcz60_0 : w59.cell? ⟨gb229, 0, none⟩ = some (.int .i64 a0_0) := (blk_cell BK229.out 0).trans rfl; have hcz60_1 : w59.cell? ⟨gb229, 1, none⟩ = some (.bool a0_1) := (blk_cell BK229.out 1).trans rfl; have hcz60_2 : w59.cell? ⟨gb229, 2, none⟩ = some (.int .u8 a0_2) := (blk_cell BK229.out 2).trans rfl; have hcz60_3 : w59.cell? ⟨gb229, 3, none⟩ = some (.int .u8 a0_3) := (blk_cell BK229.out 3).trans rfl; have hcz60_4 : w59.cell? ⟨gb229, 4, none⟩ = some (.int .u8 a0_4) := (blk_cell BK229.out 4).trans rfl; have hcz60_5 : w59.cell? ⟨gb229, 5, none⟩ = some (.bool a0_5) := (blk_cell BK229.out 5).trans rfl; have hfz60_0 := blk_frozen BK229.out 0; have hfz60_1 := blk_frozen BK229.out 1; have hfz60_2 := blk_frozen BK229.out 2; have hfz60_3 := blk_frozen BK229.out 3; have hfz60_4 := blk_frozen BK229.out 4; have hfz60_5 := blk_frozen BK229.out 5) | (go_at_call 15; (with_reducible refine (mapper_Bank.calls a0_0 a0_1 a0_2 a0_3 a0_4 a0_5 a1 t235 _ A55.out).mono ?_); rintro e w61 ⟨rfl, hb⟩; have n0_ := Aside0.mk (blk_below (g := gb229) (o := .cells #[.int .i64 a0_0, .bool a0_1, .int .u8 a0_2, .int .u8 a0_3, .int .u8 a0_4, .bool a0_5] 24 (0, 0)) (by (with_reducible repeat (first | refine blk_drewN ?_ _ | refine blk_drew ?_ | refine blk_alloc ?_ _)); exact BK229.out) hb); have n1_ := Aside0.mk (below_step (by repeat (first | (with_reducible first | exact HB.out | apply below_alloc | apply pw_below_drewN | apply below_drew1 | refine below_set ?_ GE229.out) | exact HB.out)) hb); clear BK229; clear HB; have BK229 := n0_; have HB := n1_; clear n0_ n1_; (try clear hb); (try clear hb2); (try clear hk); (try clear hi)))
                  go_ret
                  exact ⟨by first | rfl | (simp [errW_none, errW_some] <;> rfl) | (simp only [← hji47, ← hji49]; first | rfl | (simp [errW_none, errW_some] <;> rfl)) | (simp [*, errW_none, errW_some] <;> rfl), by repeat (first | (with_reducible first | exact HB.out | apply below_alloc | apply pw_below_drewN | apply below_drew1 | refine below_set ?_ GE229.out) | exact HB.out)⟩
                · rw [if_neg c57] at H
                  have c57b0 : ((wrap64 (Int.tdiv t234 16384)) == (Int.tmod t235 (ji49))) = false := beq_eq_false_iff_ne.mpr c57
                  have c57b1 : ((wrap64 (Int.tdiv t234 16384)) != (Int.tmod t235 (ji49))) = true := bne_iff_ne.mpr c57
                  obtain rfl := Option.some.inj H
                  have hcz62_0 : wc.cell? ⟨gb229, 0, none⟩ = some (.int .i64 a0_0) := (blk_cell BK229.out 0).trans rfl
                  have hcz62_1 : wc.cell? ⟨gb229, 1, none⟩ = some (.bool a0_1) := (blk_cell BK229.out 1).trans rfl
                  have hcz62_2 : wc.cell? ⟨gb229, 2, none⟩ = some (.int .u8 a0_2) := (blk_cell BK229.out 2).trans rfl
                  have hcz62_3 : wc.cell? ⟨gb229, 3, none⟩ = some (.int .u8 a0_3) := (blk_cell BK229.out 3).trans rfl
                  have hcz62_4 : wc.cell? ⟨gb229, 4, none⟩ = some (.int .u8 a0_4) := (blk_cell BK229.out 4).trans rfl
                  have hcz62_5 : wc.cell? ⟨gb229, 5, none⟩ = some (.bool a0_5) := (blk_cell BK229.out 5).trans rfl
                  have hfz62_0 := blk_frozen BK229.out 0
                  have hfz62_1 := blk_frozen BK229.out 1
                  have hfz62_2 := blk_frozen BK229.out 2
                  have hfz62_3 := blk_frozen BK229.out 3
                  have hfz62_4 := blk_frozen BK229.out 4
                  have hfz62_5 := blk_frozen BK229.out 5
                  go_wp2_with (first | ((with_reducible refine gate_callee (f := 21) rfl ?_); refine goesL_ (some 89) rfl rfl Try.func21 (by kernel_rfl) rfl #[.agg #[.int .i64 a0_0, .bool a0_1, .int .u8 a0_2, .int .u8 a0_3, .int .u8 a0_4, .bool a0_5], .int .u16 a1, .int .i64 (wrap64 ((ji49) * 16384))] rfl (by (try simp only [List.map_toArray, List.map_cons, List.map_nil]); first | done | (simp only [hji49]; rfl) | rfl | (simp only [List.length_drop, List.length_take]; rfl)) ?_; (with_reducible refine (mapper_Rom.calls a0_0 a0_1 a0_2 a0_3 a0_4 a0_5 a1 (wrap64 ((ji49) * 16384)) t234 _ A50.out).mono ?_); rintro e w63 ⟨rfl, hb⟩; refine ⟨_, rfl, ?_⟩; have n0_ := Aside0.mk (blk_below (g := gb229) (o := .cells #[.int .i64 a0_0, .bool a0_1, .int .u8 a0_2, .int .u8 a0_3, .int .u8 a0_4, .bool a0_5] 24 (0, 0)) (by (with_reducible repeat (first | refine blk_drewN ?_ _ | refine blk_drew ?_ | refine blk_alloc ?_ _)); exact BK229.out) hb); have n1_ := Aside0.mk (below_step (by repeat (first | (with_reducible first | exact HB.out | apply below_alloc | apply pw_below_drewN | apply below_drew1 | refine below_set ?_ GE229.out) | exact HB.out)) hb); clear BK229; clear HB; have BK229 := n0_; have HB := n1_; clear n0_ n1_; (try clear hb); (try clear hb2); (try clear hk); (try clear hi); have hcz64_0 : w63.cell? ⟨gb229, 0, none⟩ = some (.int .i64 a0_0) := (blk_cell BK229.out 0).trans rfl; have hcz64_1 : w63.cell? ⟨gb229, 1, none⟩ = some (.bool a0_1) := (blk_cell BK229.out 1).trans rfl; have hcz64_2 : w63.cell? ⟨gb229, 2, none⟩ = some (.int .u8 a0_2) := (blk_cell BK229.out 2).trans rfl; have hcz64_3 : w63.cell? ⟨gb229, 3, none⟩ = some (.int .u8 a0_3) := (blk_cell BK229.out 3).trans rfl; have hcz64_4 : w63.cell? ⟨gb229, 4, none⟩ = some (.int .u8 a0_4) := (blk_cell BK229.out 4).trans rfl; have hcz64_5 : w63.cell? ⟨gb229, 5, none⟩ = some (.bool a0_5) := (blk_cell BK229.out 5).trans rfl; have hfz64_0 := blk_frozen BK229.out 0; have hfz64_1 := blk_frozen BK229.out 1; have hfz64_2 := blk_frozen BK229.out 2; have hfz64_3 := blk_frozen BK229.out 3; have hfz64_4 := blk_frozen BK229.out 4; have hfz64_5 := blk_frozen BK229.out 5) | (go_at_call 15; (with_reducible refine (mapper_Bank.calls a0_0 a0_1 a0_2 a0_3 a0_4 a0_5 a1 t235 _ A55.out).mono ?_); rintro e w65 ⟨rfl, hb⟩; have n0_ := Aside0.mk (blk_below (g := gb229) (o := .cells #[.int .i64 a0_0, .bool a0_1, .int .u8 a0_2, .int .u8 a0_3, .int .u8 a0_4, .bool a0_5] 24 (0, 0)) (by (with_reducible repeat (first | refine blk_drewN ?_ _ | refine blk_drew ?_ | refine blk_alloc ?_ _)); exact BK229.out) hb); have n1_ := Aside0.mk (below_step (by repeat (first | (with_reducible first | exact HB.out | apply below_alloc | apply pw_below_drewN | apply below_drew1 | refine below_set ?_ GE229.out) | exact HB.out)) hb); clear BK229; clear HB; have BK229 := n0_; have HB := n1_; clear n0_ n1_; (try clear hb); (try clear hb2); (try clear hk); (try clear hi)))
                  go_ret
                  exact ⟨by first | rfl | (simp [errW_none, errW_some] <;> rfl) | (simp only [← hji47, ← hji49]; first | rfl | (simp [errW_none, errW_some] <;> rfl)) | (simp [*, errW_none, errW_some] <;> rfl), by repeat (first | (with_reducible first | exact HB.out | apply below_alloc | apply pw_below_drewN | apply below_drew1 | refine below_set ?_ GE229.out) | exact HB.out)⟩
          · replace c51 := Bool.eq_false_iff.mpr c51
            subst c51
            have H1 : (some false) = some r := by rw [if_neg (show ¬ (false = true) by decide)] at H; exact H
            clear H
            have H := H1
            clear H1
            obtain rfl := Option.some.inj H
            have hcz66_0 : wc.cell? ⟨gb229, 0, none⟩ = some (.int .i64 a0_0) := (blk_cell BK229.out 0).trans rfl
            have hcz66_1 : wc.cell? ⟨gb229, 1, none⟩ = some (.bool a0_1) := (blk_cell BK229.out 1).trans rfl
            have hcz66_2 : wc.cell? ⟨gb229, 2, none⟩ = some (.int .u8 a0_2) := (blk_cell BK229.out 2).trans rfl
            have hcz66_3 : wc.cell? ⟨gb229, 3, none⟩ = some (.int .u8 a0_3) := (blk_cell BK229.out 3).trans rfl
            have hcz66_4 : wc.cell? ⟨gb229, 4, none⟩ = some (.int .u8 a0_4) := (blk_cell BK229.out 4).trans rfl
            have hcz66_5 : wc.cell? ⟨gb229, 5, none⟩ = some (.bool a0_5) := (blk_cell BK229.out 5).trans rfl
            have hfz66_0 := blk_frozen BK229.out 0
            have hfz66_1 := blk_frozen BK229.out 1
            have hfz66_2 := blk_frozen BK229.out 2
            have hfz66_3 := blk_frozen BK229.out 3
            have hfz66_4 := blk_frozen BK229.out 4
            have hfz66_5 := blk_frozen BK229.out 5
            go_wp2_with (first | ((with_reducible refine gate_callee (f := 21) rfl ?_); refine goesL_ (some 89) rfl rfl Try.func21 (by kernel_rfl) rfl #[.agg #[.int .i64 a0_0, .bool a0_1, .int .u8 a0_2, .int .u8 a0_3, .int .u8 a0_4, .bool a0_5], .int .u16 a1, .int .i64 (wrap64 ((ji49) * 16384))] rfl (by (try simp only [List.map_toArray, List.map_cons, List.map_nil]); first | done | (simp only [hji49]; rfl) | rfl | (simp only [List.length_drop, List.length_take]; rfl)) ?_; (with_reducible refine (mapper_Rom.calls a0_0 a0_1 a0_2 a0_3 a0_4 a0_5 a1 (wrap64 ((ji49) * 16384)) t234 _ A50.out).mono ?_); rintro e w67 ⟨rfl, hb⟩; refine ⟨_, rfl, ?_⟩; have n0_ := Aside0.mk (blk_below (g := gb229) (o := .cells #[.int .i64 a0_0, .bool a0_1, .int .u8 a0_2, .int .u8 a0_3, .int .u8 a0_4, .bool a0_5] 24 (0, 0)) (by (with_reducible repeat (first | refine blk_drewN ?_ _ | refine blk_drew ?_ | refine blk_alloc ?_ _)); exact BK229.out) hb); have n1_ := Aside0.mk (below_step (by repeat (first | (with_reducible first | exact HB.out | apply below_alloc | apply pw_below_drewN | apply below_drew1 | refine below_set ?_ GE229.out) | exact HB.out)) hb); clear BK229; clear HB; have BK229 := n0_; have HB := n1_; clear n0_ n1_; (try clear hb); (try clear hb2); (try clear hk); (try clear hi)))
            go_ret
            exact ⟨by first | rfl | (simp [errW_none, errW_some] <;> rfl) | (simp only [← hji47, ← hji49]; first | rfl | (simp [errW_none, errW_some] <;> rfl)) | (simp [*, errW_none, errW_some] <;> rfl), by repeat (first | (with_reducible first | exact HB.out | apply below_alloc | apply pw_below_drewN | apply below_drew1 | refine below_set ?_ GE229.out) | exact HB.out)⟩
        · rw [if_neg c48] at H
          exact absurd H (by simp)

end Go.Proofs.Ytkogdocpldfmnaa.G
