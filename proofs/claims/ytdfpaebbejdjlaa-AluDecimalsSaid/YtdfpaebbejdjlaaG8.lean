/- Written by a program of this session, after the kit's print: Go functions as Lean functions, each with the proof that the Go text comes to it. -/
import Derived.Test.YtdfpaebbejdjlaaG0
import Derived.Test.YtdfpaebbejdjlaaG3
import Derived.Test.YtdfpaebbejdjlaaG4
import Derived.Test.YtdfpaebbejdjlaaG6
import Derived.Test.YtdfpaebbejdjlaaG7
namespace Go.Proofs.Ytdfpaebbejdjlaa.G
open Go.RowKit Go.Proofs.YtdfpaebbejdjlaaW.PrintWords Go.Proofs.YtdfpaebbejdjlaaW.PrintLast Go.Proofs.YtdfpaebbejdjlaaW.PrintMore
attribute [local go_sem] max2_int min2_int max_two min_two max_three min_three max_four min_four   -- for this text's walks alone
set_option linter.unusedVariables false
set_option linter.unusedSimpArgs false

/-! ### whirligiglaw02_AluDecimals: function 6 -/
def whirligiglaw02_AluDecimals.f (k : Nat) (a0 : Int) (a1 : Int) (a2_0 : Bool) (a2_1 : Bool) (a2_2 : Bool) (a2_3 : Bool) : Option (Bool) := (whirligiglaw02_shown.f k).bind fun t181 => (if a2_3 = true then ((whirligiglaw02_decimal.f (wrap64 (Int.tmod a0 100))).bind fun t182 => ((whirligiglaw02_decimal.f (wrap64 (Int.tmod a1 100))).bind fun t183 => ((alu_Do.f 1 t182 t183 a2_0 a2_1 a2_2 a2_3).bind fun bt184 => ((alu_Daa.f k bt184.1 bt184.2.1 bt184.2.2.1 bt184.2.2.2.1 bt184.2.2.2.2).bind fun bt190 => ((whirligiglaw02_decimal.f (wrap64 (Int.tmod a0 100))).bind fun t196 => ((whirligiglaw02_decimal.f (wrap64 (Int.tmod a1 100))).bind fun t197 => ((alu_Do.f 3 t196 t197 a2_0 a2_1 a2_2 a2_3).bind fun bt198 => ((alu_Daa.f k bt198.1 bt198.2.1 bt198.2.2.1 bt198.2.2.2.1 bt198.2.2.2.2).bind fun bt204 => (if t181 = true then ((whirligiglaw02_decimal.f (Int.tmod (wrap64 ((wrap64 ((wrap64 (Int.tmod a0 100)) + (wrap64 (Int.tmod a1 100)))) + 1)) 100)).bind fun t210 => (if bt190.1 = t210 then (if (bt190.2.2.2.2 == (decide ((wrap64 ((wrap64 ((wrap64 (Int.tmod a0 100)) + (wrap64 (Int.tmod a1 100)))) + 1)) > 99))) = true then ((whirligiglaw02_decimal.f (Int.tmod (wrap64 ((wrap64 ((wrap64 ((wrap64 (Int.tmod a0 100)) - (wrap64 (Int.tmod a1 100)))) - 1)) + 200)) 100)).bind fun t211 => (if bt204.1 = t211 then (some (bt204.2.2.2.2 == (decide ((wrap64 (Int.tmod a0 100)) < (wrap64 ((wrap64 (Int.tmod a1 100)) + 1)))))) else (some false))) else (some false)) else (some false))) else (some false)))))))))) else ((whirligiglaw02_decimal.f (wrap64 (Int.tmod a0 100))).bind fun t212 => ((whirligiglaw02_decimal.f (wrap64 (Int.tmod a1 100))).bind fun t213 => ((alu_Do.f 1 t212 t213 a2_0 a2_1 a2_2 a2_3).bind fun bt214 => ((alu_Daa.f k bt214.1 bt214.2.1 bt214.2.2.1 bt214.2.2.2.1 bt214.2.2.2.2).bind fun bt220 => ((whirligiglaw02_decimal.f (wrap64 (Int.tmod a0 100))).bind fun t226 => ((whirligiglaw02_decimal.f (wrap64 (Int.tmod a1 100))).bind fun t227 => ((alu_Do.f 3 t226 t227 a2_0 a2_1 a2_2 a2_3).bind fun bt228 => ((alu_Daa.f k bt228.1 bt228.2.1 bt228.2.2.1 bt228.2.2.2.1 bt228.2.2.2.2).bind fun bt234 => (if t181 = true then ((whirligiglaw02_decimal.f (Int.tmod (wrap64 ((wrap64 ((wrap64 (Int.tmod a0 100)) + (wrap64 (Int.tmod a1 100)))))) 100)).bind fun t240 => (if bt220.1 = t240 then (if (bt220.2.2.2.2 == (decide ((wrap64 ((wrap64 ((wrap64 (Int.tmod a0 100)) + (wrap64 (Int.tmod a1 100)))))) > 99))) = true then ((whirligiglaw02_decimal.f (Int.tmod (wrap64 ((wrap64 ((wrap64 ((wrap64 (Int.tmod a0 100)) - (wrap64 (Int.tmod a1 100)))))) + 200)) 100)).bind fun t241 => (if bt234.1 = t241 then (some (bt234.2.2.2.2 == (decide ((wrap64 (Int.tmod a0 100)) < (wrap64 ((wrap64 (Int.tmod a1 100)))))))) else (some false))) else (some false)) else (some false))) else (some false)))))))))))
theorem whirligiglaw02_AluDecimals.mono : ∀ a0 a1 a2 a3 a4 a5 k, LeO (whirligiglaw02_AluDecimals.f k a0 a1 a2 a3 a4 a5) (whirligiglaw02_AluDecimals.f (k + 1) a0 a1 a2 a3 a4 a5) := by
 intro a0 a1 a2 a3 a4 a5 k
 unfold whirligiglaw02_AluDecimals.f
 repeat' first
   | (with_reducible exact alu_Daa.mono _ _ _ _ _ _)
   | (with_reducible exact whirligiglaw02_shown.mono _)
   | (with_reducible exact LeO.refl _)
   | (with_reducible exact LeO.none _)
   | (with_reducible refine LeO.ite ?_ ?_)
   | (with_reducible refine LeO.bind ?_ (fun _ => ?_))
   | exact alu_Daa.mono _ _ _ _ _ _
   | exact whirligiglaw02_shown.mono _
   | exact LeO.none _
   | refine LeO.ite ?_ ?_
   | refine LeO.bind ?_ (fun _ => ?_)
def whirligiglaw02_AluDecimals.T7 : Bool × List (List Nat × List Nat) := (true, [([], []), ([0], [0]), ([], []), ([2, 1], [2]), ([], []), ([1, 3, 4, 3], [1, 3, 4]), ([5], [5]), ([6], [6]), ([6], [6]), ([], []), ([7, 5, 0, 1, 2, 3, 4, 5, 6, 7, 9], [7]), ([9, 8, 10, 0, 1, 2, 3, 4, 5, 6, 7, 8, 9, 10], [8, 9])])
def whirligiglaw02_AluDecimals.B7 : List Nat := [0, 1, 0, 7, 0, 31, 63, 127, 127, 0, 767, 2047]
theorem whirligiglaw02_AluDecimals.tab7 : rtab .any (opsOf Try.f6 7) = whirligiglaw02_AluDecimals.T7 := by kernel_rfl
theorem whirligiglaw02_AluDecimals.bits7 : waitsOk whirligiglaw02_AluDecimals.T7.2 whirligiglaw02_AluDecimals.B7 = true := by kernel_rfl
def whirligiglaw02_AluDecimals.T9 : Bool × List (List Nat × List Nat) := (true, [([], []), ([0], [0]), ([], []), ([2, 1], [2]), ([], []), ([1, 3, 4, 3], [1, 3, 4]), ([5], [5]), ([6], [6]), ([6], [6]), ([], []), ([7, 5, 0, 1, 2, 3, 4, 5, 6, 7, 9], [7]), ([9, 8, 10, 0, 1, 2, 3, 4, 5, 6, 7, 8, 9, 10], [8, 9])])
def whirligiglaw02_AluDecimals.B9 : List Nat := [0, 1, 0, 7, 0, 31, 63, 127, 127, 0, 767, 2047]
theorem whirligiglaw02_AluDecimals.tab9 : rtab .any (opsOf Try.f6 9) = whirligiglaw02_AluDecimals.T9 := by kernel_rfl
theorem whirligiglaw02_AluDecimals.bits9 : waitsOk whirligiglaw02_AluDecimals.T9.2 whirligiglaw02_AluDecimals.B9 = true := by kernel_rfl
set_option maxHeartbeats 8000000 in
set_option maxRecDepth 100000 in
theorem whirligiglaw02_AluDecimals.calls (k : Nat) (a0 : Int) (a1 : Int) (a2_0 : Bool) (a2_1 : Bool) (a2_2 : Bool) (a2_3 : Bool) (r : Bool) (w : World) (h : whirligiglaw02_AluDecimals.f k a0 a1 a2_0 a2_1 a2_2 a2_3 = some r) (ht : r = true) :
  Calls Try.prog 6 #[.int .u8 a0, .int .u8 a1, .agg #[.bool a2_0, .bool a2_1, .bool a2_2, .bool a2_3]] w fun e w' => e = .returned (.bool r) ∧ Below w.heap.size w w' := by
 have HT := Aside0.mk ht
 clear ht
 have hu23 := Try.underlying23
 have HB := Aside0.mk (Below.refl w.heap.size w)
 have H : ((whirligiglaw02_shown.f k).bind fun t181 => (if a2_3 = true then ((whirligiglaw02_decimal.f (wrap64 (Int.tmod a0 100))).bind fun t182 => ((whirligiglaw02_decimal.f (wrap64 (Int.tmod a1 100))).bind fun t183 => ((alu_Do.f 1 t182 t183 a2_0 a2_1 a2_2 a2_3).bind fun bt184 => ((alu_Daa.f k bt184.1 bt184.2.1 bt184.2.2.1 bt184.2.2.2.1 bt184.2.2.2.2).bind fun bt190 => ((whirligiglaw02_decimal.f (wrap64 (Int.tmod a0 100))).bind fun t196 => ((whirligiglaw02_decimal.f (wrap64 (Int.tmod a1 100))).bind fun t197 => ((alu_Do.f 3 t196 t197 a2_0 a2_1 a2_2 a2_3).bind fun bt198 => ((alu_Daa.f k bt198.1 bt198.2.1 bt198.2.2.1 bt198.2.2.2.1 bt198.2.2.2.2).bind fun bt204 => (if t181 = true then ((whirligiglaw02_decimal.f (Int.tmod (wrap64 ((wrap64 ((wrap64 (Int.tmod a0 100)) + (wrap64 (Int.tmod a1 100)))) + 1)) 100)).bind fun t210 => (if bt190.1 = t210 then (if (bt190.2.2.2.2 == (decide ((wrap64 ((wrap64 ((wrap64 (Int.tmod a0 100)) + (wrap64 (Int.tmod a1 100)))) + 1)) > 99))) = true then ((whirligiglaw02_decimal.f (Int.tmod (wrap64 ((wrap64 ((wrap64 ((wrap64 (Int.tmod a0 100)) - (wrap64 (Int.tmod a1 100)))) - 1)) + 200)) 100)).bind fun t211 => (if bt204.1 = t211 then (some (bt204.2.2.2.2 == (decide ((wrap64 (Int.tmod a0 100)) < (wrap64 ((wrap64 (Int.tmod a1 100)) + 1)))))) else (some false))) else (some false)) else (some false))) else (some false)))))))))) else ((whirligiglaw02_decimal.f (wrap64 (Int.tmod a0 100))).bind fun t212 => ((whirligiglaw02_decimal.f (wrap64 (Int.tmod a1 100))).bind fun t213 => ((alu_Do.f 1 t212 t213 a2_0 a2_1 a2_2 a2_3).bind fun bt214 => ((alu_Daa.f k bt214.1 bt214.2.1 bt214.2.2.1 bt214.2.2.2.1 bt214.2.2.2.2).bind fun bt220 => ((whirligiglaw02_decimal.f (wrap64 (Int.tmod a0 100))).bind fun t226 => ((whirligiglaw02_decimal.f (wrap64 (Int.tmod a1 100))).bind fun t227 => ((alu_Do.f 3 t226 t227 a2_0 a2_1 a2_2 a2_3).bind fun bt228 => ((alu_Daa.f k bt228.1 bt228.2.1 bt228.2.2.1 bt228.2.2.2.1 bt228.2.2.2.2).bind fun bt234 => (if t181 = true then ((whirligiglaw02_decimal.f (Int.tmod (wrap64 ((wrap64 ((wrap64 (Int.tmod a0 100)) + (wrap64 (Int.tmod a1 100)))))) 100)).bind fun t240 => (if bt220.1 = t240 then (if (bt220.2.2.2.2 == (decide ((wrap64 ((wrap64 ((wrap64 (Int.tmod a0 100)) + (wrap64 (Int.tmod a1 100)))))) > 99))) = true then ((whirligiglaw02_decimal.f (Int.tmod (wrap64 ((wrap64 ((wrap64 ((wrap64 (Int.tmod a0 100)) - (wrap64 (Int.tmod a1 100)))))) + 200)) 100)).bind fun t241 => (if bt234.1 = t241 then (some (bt234.2.2.2.2 == (decide ((wrap64 (Int.tmod a0 100)) < (wrap64 ((wrap64 (Int.tmod a1 100)))))))) else (some false))) else (some false)) else (some false))) else (some false)))))))))))) = some r := h
 clear h
 replace H := Option.bind_eq_some_iff.mp H
 obtain ⟨t181, A40, H⟩ := H
 replace H : (if a2_3 = true then ((whirligiglaw02_decimal.f (wrap64 (Int.tmod a0 100))).bind fun t182 => ((whirligiglaw02_decimal.f (wrap64 (Int.tmod a1 100))).bind fun t183 => ((alu_Do.f 1 t182 t183 a2_0 a2_1 a2_2 a2_3).bind fun bt184 => ((alu_Daa.f k bt184.1 bt184.2.1 bt184.2.2.1 bt184.2.2.2.1 bt184.2.2.2.2).bind fun bt190 => ((whirligiglaw02_decimal.f (wrap64 (Int.tmod a0 100))).bind fun t196 => ((whirligiglaw02_decimal.f (wrap64 (Int.tmod a1 100))).bind fun t197 => ((alu_Do.f 3 t196 t197 a2_0 a2_1 a2_2 a2_3).bind fun bt198 => ((alu_Daa.f k bt198.1 bt198.2.1 bt198.2.2.1 bt198.2.2.2.1 bt198.2.2.2.2).bind fun bt204 => (if t181 = true then ((whirligiglaw02_decimal.f (Int.tmod (wrap64 ((wrap64 ((wrap64 (Int.tmod a0 100)) + (wrap64 (Int.tmod a1 100)))) + 1)) 100)).bind fun t210 => (if bt190.1 = t210 then (if (bt190.2.2.2.2 == (decide ((wrap64 ((wrap64 ((wrap64 (Int.tmod a0 100)) + (wrap64 (Int.tmod a1 100)))) + 1)) > 99))) = true then ((whirligiglaw02_decimal.f (Int.tmod (wrap64 ((wrap64 ((wrap64 ((wrap64 (Int.tmod a0 100)) - (wrap64 (Int.tmod a1 100)))) - 1)) + 200)) 100)).bind fun t211 => (if bt204.1 = t211 then (some (bt204.2.2.2.2 == (decide ((wrap64 (Int.tmod a0 100)) < (wrap64 ((wrap64 (Int.tmod a1 100)) + 1)))))) else (some false))) else (some false)) else (some false))) else (some false)))))))))) else ((whirligiglaw02_decimal.f (wrap64 (Int.tmod a0 100))).bind fun t212 => ((whirligiglaw02_decimal.f (wrap64 (Int.tmod a1 100))).bind fun t213 => ((alu_Do.f 1 t212 t213 a2_0 a2_1 a2_2 a2_3).bind fun bt214 => ((alu_Daa.f k bt214.1 bt214.2.1 bt214.2.2.1 bt214.2.2.2.1 bt214.2.2.2.2).bind fun bt220 => ((whirligiglaw02_decimal.f (wrap64 (Int.tmod a0 100))).bind fun t226 => ((whirligiglaw02_decimal.f (wrap64 (Int.tmod a1 100))).bind fun t227 => ((alu_Do.f 3 t226 t227 a2_0 a2_1 a2_2 a2_3).bind fun bt228 => ((alu_Daa.f k bt228.1 bt228.2.1 bt228.2.2.1 bt228.2.2.2.1 bt228.2.2.2.2).bind fun bt234 => (if t181 = true then ((whirligiglaw02_decimal.f (Int.tmod (wrap64 ((wrap64 ((wrap64 (Int.tmod a0 100)) + (wrap64 (Int.tmod a1 100)))))) 100)).bind fun t240 => (if bt220.1 = t240 then (if (bt220.2.2.2.2 == (decide ((wrap64 ((wrap64 ((wrap64 (Int.tmod a0 100)) + (wrap64 (Int.tmod a1 100)))))) > 99))) = true then ((whirligiglaw02_decimal.f (Int.tmod (wrap64 ((wrap64 ((wrap64 ((wrap64 (Int.tmod a0 100)) - (wrap64 (Int.tmod a1 100)))))) + 200)) 100)).bind fun t241 => (if bt234.1 = t241 then (some (bt234.2.2.2.2 == (decide ((wrap64 (Int.tmod a0 100)) < (wrap64 ((wrap64 (Int.tmod a1 100)))))))) else (some false))) else (some false)) else (some false))) else (some false))))))))))) = some r := H
 have A4 := Aside0.mk A40
 clear A40
 by_cases c5 : a2_3 = true
 ·subst c5
  have H1 : ((whirligiglaw02_decimal.f (wrap64 (Int.tmod a0 100))).bind fun t182 => ((whirligiglaw02_decimal.f (wrap64 (Int.tmod a1 100))).bind fun t183 => ((alu_Do.f 1 t182 t183 a2_0 a2_1 a2_2 true).bind fun bt184 => ((alu_Daa.f k bt184.1 bt184.2.1 bt184.2.2.1 bt184.2.2.2.1 bt184.2.2.2.2).bind fun bt190 => ((whirligiglaw02_decimal.f (wrap64 (Int.tmod a0 100))).bind fun t196 => ((whirligiglaw02_decimal.f (wrap64 (Int.tmod a1 100))).bind fun t197 => ((alu_Do.f 3 t196 t197 a2_0 a2_1 a2_2 true).bind fun bt198 => ((alu_Daa.f k bt198.1 bt198.2.1 bt198.2.2.1 bt198.2.2.2.1 bt198.2.2.2.2).bind fun bt204 => (if t181 = true then ((whirligiglaw02_decimal.f (Int.tmod (wrap64 ((wrap64 ((wrap64 (Int.tmod a0 100)) + (wrap64 (Int.tmod a1 100)))) + 1)) 100)).bind fun t210 => (if bt190.1 = t210 then (if (bt190.2.2.2.2 == (decide ((wrap64 ((wrap64 ((wrap64 (Int.tmod a0 100)) + (wrap64 (Int.tmod a1 100)))) + 1)) > 99))) = true then ((whirligiglaw02_decimal.f (Int.tmod (wrap64 ((wrap64 ((wrap64 ((wrap64 (Int.tmod a0 100)) - (wrap64 (Int.tmod a1 100)))) - 1)) + 200)) 100)).bind fun t211 => (if bt204.1 = t211 then (some (bt204.2.2.2.2 == (decide ((wrap64 (Int.tmod a0 100)) < (wrap64 ((wrap64 (Int.tmod a1 100)) + 1)))))) else (some false))) else (some false)) else (some false))) else (some false)))))))))) = some r := by rw [if_pos rfl] at H; exact H
  clear H
  have H := H1
  clear H1
  replace H := Option.bind_eq_some_iff.mp H
  obtain ⟨t182, A60, H⟩ := H
  replace H : ((whirligiglaw02_decimal.f (wrap64 (Int.tmod a1 100))).bind fun t183 => ((alu_Do.f 1 t182 t183 a2_0 a2_1 a2_2 true).bind fun bt184 => ((alu_Daa.f k bt184.1 bt184.2.1 bt184.2.2.1 bt184.2.2.2.1 bt184.2.2.2.2).bind fun bt190 => ((whirligiglaw02_decimal.f (wrap64 (Int.tmod a0 100))).bind fun t196 => ((whirligiglaw02_decimal.f (wrap64 (Int.tmod a1 100))).bind fun t197 => ((alu_Do.f 3 t196 t197 a2_0 a2_1 a2_2 true).bind fun bt198 => ((alu_Daa.f k bt198.1 bt198.2.1 bt198.2.2.1 bt198.2.2.2.1 bt198.2.2.2.2).bind fun bt204 => (if t181 = true then ((whirligiglaw02_decimal.f (Int.tmod (wrap64 ((wrap64 ((wrap64 (Int.tmod a0 100)) + (wrap64 (Int.tmod a1 100)))) + 1)) 100)).bind fun t210 => (if bt190.1 = t210 then (if (bt190.2.2.2.2 == (decide ((wrap64 ((wrap64 ((wrap64 (Int.tmod a0 100)) + (wrap64 (Int.tmod a1 100)))) + 1)) > 99))) = true then ((whirligiglaw02_decimal.f (Int.tmod (wrap64 ((wrap64 ((wrap64 ((wrap64 (Int.tmod a0 100)) - (wrap64 (Int.tmod a1 100)))) - 1)) + 200)) 100)).bind fun t211 => (if bt204.1 = t211 then (some (bt204.2.2.2.2 == (decide ((wrap64 (Int.tmod a0 100)) < (wrap64 ((wrap64 (Int.tmod a1 100)) + 1)))))) else (some false))) else (some false)) else (some false))) else (some false))))))))) = some r := H
  have A6 := Aside0.mk A60
  clear A60
  replace H := Option.bind_eq_some_iff.mp H
  obtain ⟨t183, A70, H⟩ := H
  replace H : ((alu_Do.f 1 t182 t183 a2_0 a2_1 a2_2 true).bind fun bt184 => ((alu_Daa.f k bt184.1 bt184.2.1 bt184.2.2.1 bt184.2.2.2.1 bt184.2.2.2.2).bind fun bt190 => ((whirligiglaw02_decimal.f (wrap64 (Int.tmod a0 100))).bind fun t196 => ((whirligiglaw02_decimal.f (wrap64 (Int.tmod a1 100))).bind fun t197 => ((alu_Do.f 3 t196 t197 a2_0 a2_1 a2_2 true).bind fun bt198 => ((alu_Daa.f k bt198.1 bt198.2.1 bt198.2.2.1 bt198.2.2.2.1 bt198.2.2.2.2).bind fun bt204 => (if t181 = true then ((whirligiglaw02_decimal.f (Int.tmod (wrap64 ((wrap64 ((wrap64 (Int.tmod a0 100)) + (wrap64 (Int.tmod a1 100)))) + 1)) 100)).bind fun t210 => (if bt190.1 = t210 then (if (bt190.2.2.2.2 == (decide ((wrap64 ((wrap64 ((wrap64 (Int.tmod a0 100)) + (wrap64 (Int.tmod a1 100)))) + 1)) > 99))) = true then ((whirligiglaw02_decimal.f (Int.tmod (wrap64 ((wrap64 ((wrap64 ((wrap64 (Int.tmod a0 100)) - (wrap64 (Int.tmod a1 100)))) - 1)) + 200)) 100)).bind fun t211 => (if bt204.1 = t211 then (some (bt204.2.2.2.2 == (decide ((wrap64 (Int.tmod a0 100)) < (wrap64 ((wrap64 (Int.tmod a1 100)) + 1)))))) else (some false))) else (some false)) else (some false))) else (some false)))))))) = some r := H
  have A7 := Aside0.mk A70
  clear A70
  replace H := Option.bind_eq_some_iff.mp H
  obtain ⟨⟨t184, t185, t186, t187, t188⟩, A80, H⟩ := H
  replace H : ((alu_Daa.f k t184 t185 t186 t187 t188).bind fun bt190 => ((whirligiglaw02_decimal.f (wrap64 (Int.tmod a0 100))).bind fun t196 => ((whirligiglaw02_decimal.f (wrap64 (Int.tmod a1 100))).bind fun t197 => ((alu_Do.f 3 t196 t197 a2_0 a2_1 a2_2 true).bind fun bt198 => ((alu_Daa.f k bt198.1 bt198.2.1 bt198.2.2.1 bt198.2.2.2.1 bt198.2.2.2.2).bind fun bt204 => (if t181 = true then ((whirligiglaw02_decimal.f (Int.tmod (wrap64 ((wrap64 ((wrap64 (Int.tmod a0 100)) + (wrap64 (Int.tmod a1 100)))) + 1)) 100)).bind fun t210 => (if bt190.1 = t210 then (if (bt190.2.2.2.2 == (decide ((wrap64 ((wrap64 ((wrap64 (Int.tmod a0 100)) + (wrap64 (Int.tmod a1 100)))) + 1)) > 99))) = true then ((whirligiglaw02_decimal.f (Int.tmod (wrap64 ((wrap64 ((wrap64 ((wrap64 (Int.tmod a0 100)) - (wrap64 (Int.tmod a1 100)))) - 1)) + 200)) 100)).bind fun t211 => (if bt204.1 = t211 then (some (bt204.2.2.2.2 == (decide ((wrap64 (Int.tmod a0 100)) < (wrap64 ((wrap64 (Int.tmod a1 100)) + 1)))))) else (some false))) else (some false)) else (some false))) else (some false))))))) = some r := H
  have A8 := Aside0.mk A80
  clear A80
  replace H := Option.bind_eq_some_iff.mp H
  obtain ⟨⟨t190, t191, t192, t193, t194⟩, A90, H⟩ := H
  replace H : ((whirligiglaw02_decimal.f (wrap64 (Int.tmod a0 100))).bind fun t196 => ((whirligiglaw02_decimal.f (wrap64 (Int.tmod a1 100))).bind fun t197 => ((alu_Do.f 3 t196 t197 a2_0 a2_1 a2_2 true).bind fun bt198 => ((alu_Daa.f k bt198.1 bt198.2.1 bt198.2.2.1 bt198.2.2.2.1 bt198.2.2.2.2).bind fun bt204 => (if t181 = true then ((whirligiglaw02_decimal.f (Int.tmod (wrap64 ((wrap64 ((wrap64 (Int.tmod a0 100)) + (wrap64 (Int.tmod a1 100)))) + 1)) 100)).bind fun t210 => (if t190 = t210 then (if (t194 == (decide ((wrap64 ((wrap64 ((wrap64 (Int.tmod a0 100)) + (wrap64 (Int.tmod a1 100)))) + 1)) > 99))) = true then ((whirligiglaw02_decimal.f (Int.tmod (wrap64 ((wrap64 ((wrap64 ((wrap64 (Int.tmod a0 100)) - (wrap64 (Int.tmod a1 100)))) - 1)) + 200)) 100)).bind fun t211 => (if bt204.1 = t211 then (some (bt204.2.2.2.2 == (decide ((wrap64 (Int.tmod a0 100)) < (wrap64 ((wrap64 (Int.tmod a1 100)) + 1)))))) else (some false))) else (some false)) else (some false))) else (some false)))))) = some r := H
  have A9 := Aside0.mk A90
  clear A90
  replace H := Option.bind_eq_some_iff.mp H
  obtain ⟨t196, A100, H⟩ := H
  replace H : ((whirligiglaw02_decimal.f (wrap64 (Int.tmod a1 100))).bind fun t197 => ((alu_Do.f 3 t196 t197 a2_0 a2_1 a2_2 true).bind fun bt198 => ((alu_Daa.f k bt198.1 bt198.2.1 bt198.2.2.1 bt198.2.2.2.1 bt198.2.2.2.2).bind fun bt204 => (if t181 = true then ((whirligiglaw02_decimal.f (Int.tmod (wrap64 ((wrap64 ((wrap64 (Int.tmod a0 100)) + (wrap64 (Int.tmod a1 100)))) + 1)) 100)).bind fun t210 => (if t190 = t210 then (if (t194 == (decide ((wrap64 ((wrap64 ((wrap64 (Int.tmod a0 100)) + (wrap64 (Int.tmod a1 100)))) + 1)) > 99))) = true then ((whirligiglaw02_decimal.f (Int.tmod (wrap64 ((wrap64 ((wrap64 ((wrap64 (Int.tmod a0 100)) - (wrap64 (Int.tmod a1 100)))) - 1)) + 200)) 100)).bind fun t211 => (if bt204.1 = t211 then (some (bt204.2.2.2.2 == (decide ((wrap64 (Int.tmod a0 100)) < (wrap64 ((wrap64 (Int.tmod a1 100)) + 1)))))) else (some false))) else (some false)) else (some false))) else (some false))))) = some r := H
  have A10 := Aside0.mk A100
  clear A100
  replace H := Option.bind_eq_some_iff.mp H
  obtain ⟨t197, A110, H⟩ := H
  replace H : ((alu_Do.f 3 t196 t197 a2_0 a2_1 a2_2 true).bind fun bt198 => ((alu_Daa.f k bt198.1 bt198.2.1 bt198.2.2.1 bt198.2.2.2.1 bt198.2.2.2.2).bind fun bt204 => (if t181 = true then ((whirligiglaw02_decimal.f (Int.tmod (wrap64 ((wrap64 ((wrap64 (Int.tmod a0 100)) + (wrap64 (Int.tmod a1 100)))) + 1)) 100)).bind fun t210 => (if t190 = t210 then (if (t194 == (decide ((wrap64 ((wrap64 ((wrap64 (Int.tmod a0 100)) + (wrap64 (Int.tmod a1 100)))) + 1)) > 99))) = true then ((whirligiglaw02_decimal.f (Int.tmod (wrap64 ((wrap64 ((wrap64 ((wrap64 (Int.tmod a0 100)) - (wrap64 (Int.tmod a1 100)))) - 1)) + 200)) 100)).bind fun t211 => (if bt204.1 = t211 then (some (bt204.2.2.2.2 == (decide ((wrap64 (Int.tmod a0 100)) < (wrap64 ((wrap64 (Int.tmod a1 100)) + 1)))))) else (some false))) else (some false)) else (some false))) else (some false)))) = some r := H
  have A11 := Aside0.mk A110
  clear A110
  replace H := Option.bind_eq_some_iff.mp H
  obtain ⟨⟨t198, t199, t200, t201, t202⟩, A120, H⟩ := H
  replace H : ((alu_Daa.f k t198 t199 t200 t201 t202).bind fun bt204 => (if t181 = true then ((whirligiglaw02_decimal.f (Int.tmod (wrap64 ((wrap64 ((wrap64 (Int.tmod a0 100)) + (wrap64 (Int.tmod a1 100)))) + 1)) 100)).bind fun t210 => (if t190 = t210 then (if (t194 == (decide ((wrap64 ((wrap64 ((wrap64 (Int.tmod a0 100)) + (wrap64 (Int.tmod a1 100)))) + 1)) > 99))) = true then ((whirligiglaw02_decimal.f (Int.tmod (wrap64 ((wrap64 ((wrap64 ((wrap64 (Int.tmod a0 100)) - (wrap64 (Int.tmod a1 100)))) - 1)) + 200)) 100)).bind fun t211 => (if bt204.1 = t211 then (some (bt204.2.2.2.2 == (decide ((wrap64 (Int.tmod a0 100)) < (wrap64 ((wrap64 (Int.tmod a1 100)) + 1)))))) else (some false))) else (some false)) else (some false))) else (some false))) = some r := H
  have A12 := Aside0.mk A120
  clear A120
  replace H := Option.bind_eq_some_iff.mp H
  obtain ⟨⟨t204, t205, t206, t207, t208⟩, A130, H⟩ := H
  replace H : (if t181 = true then ((whirligiglaw02_decimal.f (Int.tmod (wrap64 ((wrap64 ((wrap64 (Int.tmod a0 100)) + (wrap64 (Int.tmod a1 100)))) + 1)) 100)).bind fun t210 => (if t190 = t210 then (if (t194 == (decide ((wrap64 ((wrap64 ((wrap64 (Int.tmod a0 100)) + (wrap64 (Int.tmod a1 100)))) + 1)) > 99))) = true then ((whirligiglaw02_decimal.f (Int.tmod (wrap64 ((wrap64 ((wrap64 ((wrap64 (Int.tmod a0 100)) - (wrap64 (Int.tmod a1 100)))) - 1)) + 200)) 100)).bind fun t211 => (if t204 = t211 then (some (t208 == (decide ((wrap64 (Int.tmod a0 100)) < (wrap64 ((wrap64 (Int.tmod a1 100)) + 1)))))) else (some false))) else (some false)) else (some false))) else (some false)) = some r := H
  have A13 := Aside0.mk A130
  clear A130
  by_cases c14 : t181 = true
  ·subst c14
   have H1 : ((whirligiglaw02_decimal.f (Int.tmod (wrap64 ((wrap64 ((wrap64 (Int.tmod a0 100)) + (wrap64 (Int.tmod a1 100)))) + 1)) 100)).bind fun t210 => (if t190 = t210 then (if (t194 == (decide ((wrap64 ((wrap64 ((wrap64 (Int.tmod a0 100)) + (wrap64 (Int.tmod a1 100)))) + 1)) > 99))) = true then ((whirligiglaw02_decimal.f (Int.tmod (wrap64 ((wrap64 ((wrap64 ((wrap64 (Int.tmod a0 100)) - (wrap64 (Int.tmod a1 100)))) - 1)) + 200)) 100)).bind fun t211 => (if t204 = t211 then (some (t208 == (decide ((wrap64 (Int.tmod a0 100)) < (wrap64 ((wrap64 (Int.tmod a1 100)) + 1)))))) else (some false))) else (some false)) else (some false))) = some r := by rw [if_pos rfl] at H; exact H
   clear H
   have H := H1
   clear H1
   replace H := Option.bind_eq_some_iff.mp H
   obtain ⟨t210, A150, H⟩ := H
   replace H : (if t190 = t210 then (if (t194 == (decide ((wrap64 ((wrap64 ((wrap64 (Int.tmod a0 100)) + (wrap64 (Int.tmod a1 100)))) + 1)) > 99))) = true then ((whirligiglaw02_decimal.f (Int.tmod (wrap64 ((wrap64 ((wrap64 ((wrap64 (Int.tmod a0 100)) - (wrap64 (Int.tmod a1 100)))) - 1)) + 200)) 100)).bind fun t211 => (if t204 = t211 then (some (t208 == (decide ((wrap64 (Int.tmod a0 100)) < (wrap64 ((wrap64 (Int.tmod a1 100)) + 1)))))) else (some false))) else (some false)) else (some false)) = some r := H
   have A15 := Aside0.mk A150
   clear A150
   by_cases c16 : t190 = t210
   ·rw [if_pos c16] at H
    have c16b0 : (t190 == t210) = true := beq_iff_eq.mpr c16
    have c16b1 : (t190 != t210) = false := bne_eq_false_iff_eq.mpr c16
    clear c16
    by_cases c17 : (t194 == (decide ((wrap64 ((wrap64 ((wrap64 (Int.tmod a0 100)) + (wrap64 (Int.tmod a1 100)))) + 1)) > 99))) = true
    ·rw [if_pos c17] at H
     have c17b0 : (t194 == (decide ((wrap64 ((wrap64 ((wrap64 (Int.tmod a0 100)) + (wrap64 (Int.tmod a1 100)))) + 1)) > 99))) = true := c17
     (try (have c17b1 : decide (t194 = (decide ((wrap64 ((wrap64 ((wrap64 (Int.tmod a0 100)) + (wrap64 (Int.tmod a1 100)))) + 1)) > 99))) = true := by simpa using c17))
     (try (have c17b2 : (t194 == (decide ((wrap64 ((wrap64 ((wrap64 (Int.tmod a0 100)) + (wrap64 (Int.tmod a1 100)))) + 1)) > 99))) = true := by simpa using c17))
     clear c17
     replace H := Option.bind_eq_some_iff.mp H
     obtain ⟨t211, A180, H⟩ := H
     replace H : (if t204 = t211 then (some (t208 == (decide ((wrap64 (Int.tmod a0 100)) < (wrap64 ((wrap64 (Int.tmod a1 100)) + 1)))))) else (some false)) = some r := H
     have A18 := Aside0.mk A180
     clear A180
     by_cases c19 : t204 = t211
     ·rw [if_pos c19] at H
      have c19b0 : (t204 == t211) = true := beq_iff_eq.mpr c19
      have c19b1 : (t204 != t211) = false := bne_eq_false_iff_eq.mpr c19
      clear c19
      obtain rfl := Option.some.inj H
      go_enter Try.func6, Try.ntmps6
      try go_wp2_with (first | ((with_reducible refine gate_dst (N := 5) rfl ?_); refine box_event ?hg (N := 5) ?hd (cs := #[.bool a2_0, .bool a2_1, .bool a2_2, .bool true]) (t := 23) ?hr ?_; (case hd => rfl); (case hg => rfl); (case hr => first | (go_simp; done) | (go_simp; rfl)); intro gb180 hg w20 hbox hb; have n0_ := Aside0.mk (below_step (by repeat (first | (with_reducible first | exact HB.out | apply below_alloc | apply pw_below_drewN | apply below_drew1) | exact HB.out)) hb); have n1_ := Aside0.mk (hbox); have n2_ := Aside0.mk ((by rw [hg]; exact (below_size (by repeat (first | (with_reducible first | exact HB.out | apply below_alloc | apply pw_below_drewN | apply below_drew1) | exact HB.out))) : w.heap.size ≤ gb180)); have n3_ := Aside0.mk ((by rw [hg]; exact (below_size (by repeat (first | (with_reducible first | exact HB.out | apply below_alloc | apply pw_below_drewN | apply below_drew1) | exact HB.out))) : w.heap.size ≤ gb180)); clear HB; have HB := n0_; have BK180 := n1_; have GW180 := n2_; have GE180 := n3_; clear n0_ n1_ n2_ n3_; clear hb hbox hg) | ((with_reducible refine gate_callee (f := 11) rfl ?_); refine goesL_ (some 19) rfl rfl Try.func11 (by kernel_rfl) rfl #[] rfl (by (try simp only [List.map_toArray, List.map_cons, List.map_nil]); first | done | rfl | (simp only [List.length_drop, List.length_take]; rfl)) ?_; (with_reducible refine (whirligiglaw02_shown.calls k  true _ A4.out rfl).mono ?_); rintro e w21 ⟨rfl, hb⟩; refine ⟨_, rfl, ?_⟩; have n0_ := Aside0.mk (blk_below (g := gb180) (o := .cells #[.bool a2_0, .bool a2_1, .bool a2_2, .bool true] 23 (0, 0)) (by (with_reducible repeat (first | refine blk_drewN ?_ _ | refine blk_drew ?_ | refine blk_alloc ?_ _)); exact BK180.out) hb); have n1_ := Aside0.mk (below_step (by repeat (first | (with_reducible first | exact HB.out | apply below_alloc | apply pw_below_drewN | apply below_drew1 | refine below_set ?_ GE180.out) | exact HB.out)) hb); clear BK180; clear HB; have BK180 := n0_; have HB := n1_; clear n0_ n1_; (try clear hb); (try clear hb2); (try clear hk); (try clear hi); have hcz22_0 : w21.cell? ⟨gb180, 0, none⟩ = some (.bool a2_0) := (blk_cell BK180.out 0).trans rfl; have hcz22_1 : w21.cell? ⟨gb180, 1, none⟩ = some (.bool a2_1) := (blk_cell BK180.out 1).trans rfl; have hcz22_2 : w21.cell? ⟨gb180, 2, none⟩ = some (.bool a2_2) := (blk_cell BK180.out 2).trans rfl; have hcz22_3 : w21.cell? ⟨gb180, 3, none⟩ = some (.bool true) := (blk_cell BK180.out 3).trans rfl; have hfz22_0 := blk_frozen BK180.out 0; have hfz22_1 := blk_frozen BK180.out 1; have hfz22_2 := blk_frozen BK180.out 2; have hfz22_3 := blk_frozen BK180.out 3))
      have n0_ := Aside0.mk (blk_drew BK180.out)
      have n1_ := Aside0.mk (below_drew1 HB.out)
      clear BK180
      clear HB
      have BK180 := n0_
      have HB := n1_
      clear n0_ n1_
      refine start_ (n := 12) (S := fun w' => w'.cell? ⟨gb180, 0, none⟩ = some (.bool a2_0) ∧ w'.cell? ⟨gb180, 1, none⟩ = some (.bool a2_1) ∧ w'.cell? ⟨gb180, 2, none⟩ = some (.bool a2_2) ∧ w'.cell? ⟨gb180, 3, none⟩ = some (.bool true)) (ds := []) #[false, false, false, false, false, false, false, false, false, false, false, false] (by kernel_rfl) rfl rfl ⟨(blk_cell BK180.out 0).trans rfl, (blk_cell BK180.out 1).trans rfl, (blk_cell BK180.out 2).trans rfl, (blk_cell BK180.out 3).trans rfl⟩ (fun hHeld => ?_); refine with_tabW whirligiglaw02_AluDecimals.tab7 whirligiglaw02_AluDecimals.bits7 (fun HT_ HW_ => ?_)
      generalize w21.drew = w23 at BK180 HB hHeld ⊢
      refine pure_ (i := 0) (N := some 29) (v := ?_) (a' := ?_) #[true, false, false, false, false, false, false, false, false, false, false, false] rfl rfl (any_of HT_.out (by kernel_rfl)) (fun _ _ _ h => h) (Or.inl ⟨by rfl, ?_⟩) ?_ ?_
      rotate_left
      ·intro w'
       go_simp
       with_reducible rfl
      rotate_left
      ·simp only [Act.put, List.setIfInBounds_toArray, List.set_cons_zero, List.set_cons_succ, i64_w, i32_w]
       rfl
      refine pure_ (i := 2) (N := some 31) (v := ?_) (a' := ?_) #[true, false, true, false, false, false, false, false, false, false, false, false] rfl rfl (any_of HT_.out (by kernel_rfl)) (fun _ _ _ h => h) (Or.inl ⟨by rfl, ?_⟩) ?_ ?_
      rotate_left
      ·intro w'
       go_simp
       with_reducible rfl
      rotate_left
      ·simp only [Act.put, List.setIfInBounds_toArray, List.set_cons_zero, List.set_cons_succ, i64_w, i32_w]
       rfl
      refine take_ (i := 4) (N := some 33) (v := ?_) (a' := ?_) #[true, false, true, false, true, false, false, false, false, false, false, false] rfl rfl (take_ofW HT_.out HW_.out (by kernel_rfl)) (fun _ _ _ h => h) (Or.inl ⟨by rfl, ?_⟩) hHeld ?_ ?_
      rotate_left
      ·rintro w' ⟨s0, s1, s2, s3⟩
       go_simp
       with_reducible rfl
      rotate_left
      ·simp only [Act.put, List.setIfInBounds_toArray, List.set_cons_zero, List.set_cons_succ, i64_w, i32_w]
       rfl
      refine join_ (σ := Nat) 2 #[true, true, true, true, true, true, true, true, true, true, false, false] (fun s_ => [(30, .int .u8 t182), (32, .int .u8 t183), (34, .tuple #[.int .u8 t184, .agg #[.bool t185, .bool t186, .bool t187, .bool t188]]), (12, .pointer (some ⟨s_, 0, none⟩)), (28, .tuple #[.int .u8 t184, .agg #[.bool t185, .bool t186, .bool t187, .bool t188]]), (35, .int .u8 t184), (36, .agg #[.bool t185, .bool t186, .bool t187, .bool t188])]) (fun s_ w' => (w'.cell? ⟨gb180, 0, none⟩ = some (.bool a2_0) ∧ w'.cell? ⟨gb180, 1, none⟩ = some (.bool a2_1) ∧ w'.cell? ⟨gb180, 2, none⟩ = some (.bool a2_2) ∧ w'.cell? ⟨gb180, 3, none⟩ = some (.bool true)) ∧ (w'.heap[gb180]? = some (.cells #[.bool a2_0, .bool a2_1, .bool a2_2, .bool true] 23 (0, 0))) ∧ (w'.heap[s_]? = some (.cells #[.bool false, .bool false, .bool false, .bool false] 23 (0, 0))) ∧ (w.heap.size ≤ s_) ∧ (w.heap.size ≤ s_) ∧ (gb180 ≠ s_) ∧ (s_ ≠ gb180) ∧ (Below w.heap.size w w')) ?_ ?_
      rotate_left
      ·intro hCont
       refine two_ (i := 1) (j := 9) (Ni := some 30) (Nj := some 12) #[true, true, true, false, true, false, false, false, false, false, false, false] #[true, false, true, false, true, false, false, false, false, true, false, false] rfl rfl rfl rfl (two_of HT_.out (by kernel_rfl)) (by decide) (by decide) (fun K hK => ?_) (fun K hK => ?_)
       ·skip
        refine goes_ Try.func20 (by kernel_rfl) rfl #[.int .i64 (wrap64 (Int.tmod a0 100))] (by rfl) rfl rfl (by (try simp only [List.map_toArray, List.map_cons, List.map_nil]); first | done | rfl | (simp only [List.length_drop, List.length_take]; rfl)) ?_
        with_reducible refine (whirligiglaw02_decimal.calls (wrap64 (Int.tmod a0 100)) t182 _ A6.out).mono ?_
        rintro e w' ⟨rfl, ⟨nd, rfl⟩⟩
        refine ⟨_, rfl, ?_⟩
        refine hK.out _ _ ⟨(blk_cell BK180.out 0).trans rfl, (blk_cell BK180.out 1).trans rfl, (blk_cell BK180.out 2).trans rfl, (blk_cell BK180.out 3).trans rfl⟩ (fun hHeld => ?_)
        clear hK K
        refine norm_ (a' := ?_) ?_ ?_
        rotate_left
        ·show Act.put _ (some 30) _ = _
         simp only [Act.put, List.setIfInBounds_toArray, List.set_cons_zero, List.set_cons_succ, i64_w, i32_w]
         rfl
        refine two_ (i := 3) (j := 9) (Ni := some 32) (Nj := some 12) #[true, true, true, true, true, false, false, false, false, false, false, false] #[true, true, true, false, true, false, false, false, false, true, false, false] rfl rfl rfl rfl (two_of HT_.out (by kernel_rfl)) (by decide) (by decide) (fun K hK => ?_) (fun K hK => ?_)
        ·skip
         refine goes_ Try.func20 (by kernel_rfl) rfl #[.int .i64 (wrap64 (Int.tmod a1 100))] (by rfl) rfl rfl (by (try simp only [List.map_toArray, List.map_cons, List.map_nil]); first | done | rfl | (simp only [List.length_drop, List.length_take]; rfl)) ?_
         with_reducible refine (whirligiglaw02_decimal.calls (wrap64 (Int.tmod a1 100)) t183 _ A7.out).mono ?_
         rintro e w' ⟨rfl, ⟨nd, rfl⟩⟩
         refine ⟨_, rfl, ?_⟩
         refine hK.out _ _ ⟨(blk_cell BK180.out 0).trans rfl, (blk_cell BK180.out 1).trans rfl, (blk_cell BK180.out 2).trans rfl, (blk_cell BK180.out 3).trans rfl⟩ (fun hHeld => ?_)
         clear hK K
         refine norm_ (a' := ?_) ?_ ?_
         rotate_left
         ·show Act.put _ (some 32) _ = _
          simp only [Act.put, List.setIfInBounds_toArray, List.set_cons_zero, List.set_cons_succ, i64_w, i32_w]
          rfl
         refine two_ (i := 5) (j := 9) (Ni := some 34) (Nj := some 12) #[true, true, true, true, true, true, false, false, false, false, false, false] #[true, true, true, true, true, false, false, false, false, true, false, false] rfl rfl rfl rfl (two_of HT_.out (by kernel_rfl)) (by decide) (by decide) (fun K hK => ?_) (fun K hK => ?_)
         ·skip
          refine goes_ Try.func12 (by kernel_rfl) rfl #[.int .i64 1, .int .u8 t182, .int .u8 t183, .agg #[.bool a2_0, .bool a2_1, .bool a2_2, .bool true]] (by rfl) rfl rfl (by (try simp only [List.map_toArray, List.map_cons, List.map_nil]); first | done | rfl | (simp only [List.length_drop, List.length_take]; rfl)) ?_
          with_reducible refine (alu_Do.calls 1 t182 t183 a2_0 a2_1 a2_2 true t184 t185 t186 t187 t188 _ A8.out).mono ?_
          rintro e w24 ⟨rfl, hb⟩
          refine ⟨_, rfl, ?_⟩
          have n0_ := Aside0.mk (blk_below (g := gb180) (o := .cells #[.bool a2_0, .bool a2_1, .bool a2_2, .bool true] 23 (0, 0)) (by (with_reducible repeat (first | refine blk_drewN ?_ _ | refine blk_drew ?_ | refine blk_alloc ?_ _)); exact BK180.out) hb)
          have n1_ := Aside0.mk (below_step (by repeat (first | (with_reducible first | exact HB.out | apply below_alloc | apply pw_below_drewN | apply below_drew1 | refine below_set ?_ GE180.out) | exact HB.out)) hb)
          clear BK180
          clear HB
          have BK180 := n0_
          have HB := n1_
          clear n0_ n1_
          (try clear hb)
          (try clear hb2)
          (try clear hk)
          (try clear hi)
          refine hK.out _ _ ⟨(blk_cell BK180.out 0).trans rfl, (blk_cell BK180.out 1).trans rfl, (blk_cell BK180.out 2).trans rfl, (blk_cell BK180.out 3).trans rfl⟩ (fun hHeld => ?_)
          clear hK K
          refine norm_ (a' := ?_) ?_ ?_
          rotate_left
          ·show Act.put _ (some 34) _ = _
           simp only [Act.put, List.setIfInBounds_toArray, List.set_cons_zero, List.set_cons_succ, i64_w, i32_w]
           rfl
          refine pure_ (i := 6) (N := some 28) (v := ?_) (a' := ?_) #[true, true, true, true, true, true, true, false, false, false, false, false] rfl rfl (any_of HT_.out (by kernel_rfl)) (fun _ _ _ h => h) (Or.inl ⟨by rfl, ?_⟩) ?_ ?_
          rotate_left
          ·intro w'
           go_simp
           with_reducible rfl
          rotate_left
          ·simp only [Act.put, List.setIfInBounds_toArray, List.set_cons_zero, List.set_cons_succ, i64_w, i32_w]
           rfl
          refine pure_ (i := 7) (N := some 35) (v := ?_) (a' := ?_) #[true, true, true, true, true, true, true, true, false, false, false, false] rfl rfl (any_of HT_.out (by kernel_rfl)) (fun _ _ _ h => h) (Or.inl ⟨by rfl, ?_⟩) ?_ ?_
          rotate_left
          ·intro w'
           go_simp
           with_reducible rfl
          rotate_left
          ·simp only [Act.put, List.setIfInBounds_toArray, List.set_cons_zero, List.set_cons_succ, i64_w, i32_w]
           rfl
          refine pure_ (i := 8) (N := some 36) (v := ?_) (a' := ?_) #[true, true, true, true, true, true, true, true, true, false, false, false] rfl rfl (any_of HT_.out (by kernel_rfl)) (fun _ _ _ h => h) (Or.inl ⟨by rfl, ?_⟩) ?_ ?_
          rotate_left
          ·intro w'
           go_simp
           with_reducible rfl
          rotate_left
          ·simp only [Act.put, List.setIfInBounds_toArray, List.set_cons_zero, List.set_cons_succ, i64_w, i32_w]
           rfl
          refine one_ (i := 9) (N := some 12) #[true, true, true, true, true, true, true, true, true, true, false, false] rfl rfl (one_of HT_.out (by kernel_rfl)) (by decide) (fun K hK => ?_)
          refine box_step ?hg (N := 12) ?hd (cs := #[.bool false, .bool false, .bool false, .bool false]) (t := 23) ?hr ?_; (case hd => rfl); (case hg => rfl); (case hr => first | (go_simp; done) | (go_simp; rfl))
          intro gb189 hg w25 hbox hb
          have n0_ := Aside0.mk (blk_below (g := gb180) (o := .cells #[.bool a2_0, .bool a2_1, .bool a2_2, .bool true] 23 (0, 0)) (by (with_reducible repeat (first | refine blk_drewN ?_ _ | refine blk_drew ?_ | refine blk_alloc ?_ _)); exact BK180.out) hb)
          have n1_ := Aside0.mk (below_step (by repeat (first | (with_reducible first | exact HB.out | apply below_alloc | apply pw_below_drewN | apply below_drew1 | refine below_set ?_ GE180.out) | exact HB.out)) hb)
          have n2_ := Aside0.mk (hbox)
          have n3_ := Aside0.mk ((by rw [hg]; exact (below_size (by repeat (first | (with_reducible first | exact HB.out | apply below_alloc | apply pw_below_drewN | apply below_drew1 | refine below_set ?_ GE180.out) | exact HB.out))) : w.heap.size ≤ gb189))
          have n4_ := Aside0.mk ((by rw [hg]; exact (below_size (by repeat (first | (with_reducible first | exact HB.out | apply below_alloc | apply pw_below_drewN | apply below_drew1 | refine below_set ?_ GE180.out) | exact HB.out))) : w.heap.size ≤ gb189))
          have n5_ := Aside0.mk ((by rw [hg]; exact Nat.ne_of_lt (blk_lt (g := gb180) (o := .cells #[.bool a2_0, .bool a2_1, .bool a2_2, .bool true] 23 (0, 0)) (by (with_reducible repeat (first | refine blk_drewN ?_ _ | refine blk_drew ?_ | refine blk_alloc ?_ _)); exact BK180.out)) : gb180 ≠ gb189))
          have n6_ := Aside0.mk ((by rw [hg]; exact Nat.ne_of_gt (blk_lt (g := gb180) (o := .cells #[.bool a2_0, .bool a2_1, .bool a2_2, .bool true] 23 (0, 0)) (by (with_reducible repeat (first | refine blk_drewN ?_ _ | refine blk_drew ?_ | refine blk_alloc ?_ _)); exact BK180.out)) : gb189 ≠ gb180))
          clear BK180
          clear HB
          have BK180 := n0_
          have HB := n1_
          have BK189 := n2_
          have GW189 := n3_
          have GE189 := n4_
          have NB180_189 := n5_
          have NB189_180 := n6_
          clear n0_ n1_ n2_ n3_ n4_ n5_ n6_
          clear hb hbox hg
          refine hK.out _ _ ⟨(blk_cell BK180.out 0).trans rfl, (blk_cell BK180.out 1).trans rfl, (blk_cell BK180.out 2).trans rfl, (blk_cell BK180.out 3).trans rfl⟩ (fun hHeld => ?_)
          clear hK K
          refine norm_ (a' := ?_) ?_ ?_
          rotate_left
          ·show Act.put _ (some 12) _ = _
           simp only [Act.put, List.setIfInBounds_toArray, List.set_cons_zero, List.set_cons_succ, i64_w, i32_w]
           rfl
          exact norm_ (by simp only [putAll, Act.put, List.setIfInBounds_toArray, List.set_cons_zero, List.set_cons_succ]) (hCont (gb189) _ ⟨hHeld, (by (with_reducible repeat (first | refine blk_drewN ?_ _ | refine blk_drew ?_ | refine blk_alloc ?_ _)); exact BK180.out), (by (with_reducible repeat (first | refine blk_drewN ?_ _ | refine blk_drew ?_ | refine blk_alloc ?_ _)); exact BK189.out), GW189.out, GE189.out, NB180_189.out, NB189_180.out, (by repeat (first | (with_reducible first | exact HB.out | apply below_alloc | apply pw_below_drewN | apply below_drew1 | refine below_set ?_ GE180.out | refine below_set ?_ GE189.out) | exact HB.out))⟩)
         ·skip
          refine box_step ?hg (N := 12) ?hd (cs := #[.bool false, .bool false, .bool false, .bool false]) (t := 23) ?hr ?_; (case hd => rfl); (case hg => rfl); (case hr => first | (go_simp; done) | (go_simp; rfl))
          intro gb189 hg w24 hbox hb
          have n0_ := Aside0.mk (blk_below (g := gb180) (o := .cells #[.bool a2_0, .bool a2_1, .bool a2_2, .bool true] 23 (0, 0)) (by (with_reducible repeat (first | refine blk_drewN ?_ _ | refine blk_drew ?_ | refine blk_alloc ?_ _)); exact BK180.out) hb)
          have n1_ := Aside0.mk (below_step (by repeat (first | (with_reducible first | exact HB.out | apply below_alloc | apply pw_below_drewN | apply below_drew1 | refine below_set ?_ GE180.out) | exact HB.out)) hb)
          have n2_ := Aside0.mk (hbox)
          have n3_ := Aside0.mk ((by rw [hg]; exact (below_size (by repeat (first | (with_reducible first | exact HB.out | apply below_alloc | apply pw_below_drewN | apply below_drew1 | refine below_set ?_ GE180.out) | exact HB.out))) : w.heap.size ≤ gb189))
          have n4_ := Aside0.mk ((by rw [hg]; exact (below_size (by repeat (first | (with_reducible first | exact HB.out | apply below_alloc | apply pw_below_drewN | apply below_drew1 | refine below_set ?_ GE180.out) | exact HB.out))) : w.heap.size ≤ gb189))
          have n5_ := Aside0.mk ((by rw [hg]; exact Nat.ne_of_lt (blk_lt (g := gb180) (o := .cells #[.bool a2_0, .bool a2_1, .bool a2_2, .bool true] 23 (0, 0)) (by (with_reducible repeat (first | refine blk_drewN ?_ _ | refine blk_drew ?_ | refine blk_alloc ?_ _)); exact BK180.out)) : gb180 ≠ gb189))
          have n6_ := Aside0.mk ((by rw [hg]; exact Nat.ne_of_gt (blk_lt (g := gb180) (o := .cells #[.bool a2_0, .bool a2_1, .bool a2_2, .bool true] 23 (0, 0)) (by (with_reducible repeat (first | refine blk_drewN ?_ _ | refine blk_drew ?_ | refine blk_alloc ?_ _)); exact BK180.out)) : gb189 ≠ gb180))
          clear BK180
          clear HB
          have BK180 := n0_
          have HB := n1_
          have BK189 := n2_
          have GW189 := n3_
          have GE189 := n4_
          have NB180_189 := n5_
          have NB189_180 := n6_
          clear n0_ n1_ n2_ n3_ n4_ n5_ n6_
          clear hb hbox hg
          refine hK.out _ _ ⟨(blk_cell BK180.out 0).trans rfl, (blk_cell BK180.out 1).trans rfl, (blk_cell BK180.out 2).trans rfl, (blk_cell BK180.out 3).trans rfl⟩ (fun hHeld => ?_)
          clear hK K
          refine norm_ (a' := ?_) ?_ ?_
          rotate_left
          ·show Act.put _ (some 12) _ = _
           simp only [Act.put, List.setIfInBounds_toArray, List.set_cons_zero, List.set_cons_succ, i64_w, i32_w]
           rfl
          refine one_ (i := 5) (N := some 34) #[true, true, true, true, true, true, false, false, false, true, false, false] rfl rfl (one_of HT_.out (by kernel_rfl)) (by decide) (fun K hK => ?_)
          refine goes_ Try.func12 (by kernel_rfl) rfl #[.int .i64 1, .int .u8 t182, .int .u8 t183, .agg #[.bool a2_0, .bool a2_1, .bool a2_2, .bool true]] (by rfl) rfl rfl (by (try simp only [List.map_toArray, List.map_cons, List.map_nil]); first | done | rfl | (simp only [List.length_drop, List.length_take]; rfl)) ?_
          with_reducible refine (alu_Do.calls 1 t182 t183 a2_0 a2_1 a2_2 true t184 t185 t186 t187 t188 _ A8.out).mono ?_
          rintro e w25 ⟨rfl, hb⟩
          refine ⟨_, rfl, ?_⟩
          have n0_ := Aside0.mk (blk_below (g := gb180) (o := .cells #[.bool a2_0, .bool a2_1, .bool a2_2, .bool true] 23 (0, 0)) (by (with_reducible repeat (first | refine blk_drewN ?_ _ | refine blk_drew ?_ | refine blk_alloc ?_ _)); exact BK180.out) hb)
          have n1_ := Aside0.mk (blk_below (g := gb189) (o := .cells #[.bool false, .bool false, .bool false, .bool false] 23 (0, 0)) (by (with_reducible repeat (first | refine blk_drewN ?_ _ | refine blk_drew ?_ | refine blk_alloc ?_ _)); exact BK189.out) hb)
          have n2_ := Aside0.mk (below_step (by repeat (first | (with_reducible first | exact HB.out | apply below_alloc | apply pw_below_drewN | apply below_drew1 | refine below_set ?_ GE180.out | refine below_set ?_ GE189.out) | exact HB.out)) hb)
          clear BK180
          clear BK189
          clear HB
          have BK180 := n0_
          have BK189 := n1_
          have HB := n2_
          clear n0_ n1_ n2_
          (try clear hb)
          (try clear hb2)
          (try clear hk)
          (try clear hi)
          refine hK.out _ _ ⟨(blk_cell BK180.out 0).trans rfl, (blk_cell BK180.out 1).trans rfl, (blk_cell BK180.out 2).trans rfl, (blk_cell BK180.out 3).trans rfl⟩ (fun hHeld => ?_)
          clear hK K
          refine norm_ (a' := ?_) ?_ ?_
          rotate_left
          ·show Act.put _ (some 34) _ = _
           simp only [Act.put, List.setIfInBounds_toArray, List.set_cons_zero, List.set_cons_succ, i64_w, i32_w]
           rfl
          refine pure_ (i := 6) (N := some 28) (v := ?_) (a' := ?_) #[true, true, true, true, true, true, true, false, false, true, false, false] rfl rfl (any_of HT_.out (by kernel_rfl)) (fun _ _ _ h => h) (Or.inl ⟨by rfl, ?_⟩) ?_ ?_
          rotate_left
          ·intro w'
           go_simp
           with_reducible rfl
          rotate_left
          ·simp only [Act.put, List.setIfInBounds_toArray, List.set_cons_zero, List.set_cons_succ, i64_w, i32_w]
           rfl
          refine pure_ (i := 7) (N := some 35) (v := ?_) (a' := ?_) #[true, true, true, true, true, true, true, true, false, true, false, false] rfl rfl (any_of HT_.out (by kernel_rfl)) (fun _ _ _ h => h) (Or.inl ⟨by rfl, ?_⟩) ?_ ?_
          rotate_left
          ·intro w'
           go_simp
           with_reducible rfl
          rotate_left
          ·simp only [Act.put, List.setIfInBounds_toArray, List.set_cons_zero, List.set_cons_succ, i64_w, i32_w]
           rfl
          refine pure_ (i := 8) (N := some 36) (v := ?_) (a' := ?_) #[true, true, true, true, true, true, true, true, true, true, false, false] rfl rfl (any_of HT_.out (by kernel_rfl)) (fun _ _ _ h => h) (Or.inl ⟨by rfl, ?_⟩) ?_ ?_
          rotate_left
          ·intro w'
           go_simp
           with_reducible rfl
          rotate_left
          ·simp only [Act.put, List.setIfInBounds_toArray, List.set_cons_zero, List.set_cons_succ, i64_w, i32_w]
           rfl
          exact norm_ (by simp only [putAll, Act.put, List.setIfInBounds_toArray, List.set_cons_zero, List.set_cons_succ]) (hCont (gb189) _ ⟨hHeld, (by (with_reducible repeat (first | refine blk_drewN ?_ _ | refine blk_drew ?_ | refine blk_alloc ?_ _)); exact BK180.out), (by (with_reducible repeat (first | refine blk_drewN ?_ _ | refine blk_drew ?_ | refine blk_alloc ?_ _)); exact BK189.out), GW189.out, GE189.out, NB180_189.out, NB189_180.out, (by repeat (first | (with_reducible first | exact HB.out | apply below_alloc | apply pw_below_drewN | apply below_drew1 | refine below_set ?_ GE180.out | refine below_set ?_ GE189.out) | exact HB.out))⟩)
        ·skip
         refine box_step ?hg (N := 12) ?hd (cs := #[.bool false, .bool false, .bool false, .bool false]) (t := 23) ?hr ?_; (case hd => rfl); (case hg => rfl); (case hr => first | (go_simp; done) | (go_simp; rfl))
         intro gb189 hg w24 hbox hb
         have n0_ := Aside0.mk (blk_below (g := gb180) (o := .cells #[.bool a2_0, .bool a2_1, .bool a2_2, .bool true] 23 (0, 0)) (by (with_reducible repeat (first | refine blk_drewN ?_ _ | refine blk_drew ?_ | refine blk_alloc ?_ _)); exact BK180.out) hb)
         have n1_ := Aside0.mk (below_step (by repeat (first | (with_reducible first | exact HB.out | apply below_alloc | apply pw_below_drewN | apply below_drew1 | refine below_set ?_ GE180.out) | exact HB.out)) hb)
         have n2_ := Aside0.mk (hbox)
         have n3_ := Aside0.mk ((by rw [hg]; exact (below_size (by repeat (first | (with_reducible first | exact HB.out | apply below_alloc | apply pw_below_drewN | apply below_drew1 | refine below_set ?_ GE180.out) | exact HB.out))) : w.heap.size ≤ gb189))
         have n4_ := Aside0.mk ((by rw [hg]; exact (below_size (by repeat (first | (with_reducible first | exact HB.out | apply below_alloc | apply pw_below_drewN | apply below_drew1 | refine below_set ?_ GE180.out) | exact HB.out))) : w.heap.size ≤ gb189))
         have n5_ := Aside0.mk ((by rw [hg]; exact Nat.ne_of_lt (blk_lt (g := gb180) (o := .cells #[.bool a2_0, .bool a2_1, .bool a2_2, .bool true] 23 (0, 0)) (by (with_reducible repeat (first | refine blk_drewN ?_ _ | refine blk_drew ?_ | refine blk_alloc ?_ _)); exact BK180.out)) : gb180 ≠ gb189))
         have n6_ := Aside0.mk ((by rw [hg]; exact Nat.ne_of_gt (blk_lt (g := gb180) (o := .cells #[.bool a2_0, .bool a2_1, .bool a2_2, .bool true] 23 (0, 0)) (by (with_reducible repeat (first | refine blk_drewN ?_ _ | refine blk_drew ?_ | refine blk_alloc ?_ _)); exact BK180.out)) : gb189 ≠ gb180))
         clear BK180
         clear HB
         have BK180 := n0_
         have HB := n1_
         have BK189 := n2_
         have GW189 := n3_
         have GE189 := n4_
         have NB180_189 := n5_
         have NB189_180 := n6_
         clear n0_ n1_ n2_ n3_ n4_ n5_ n6_
         clear hb hbox hg
         refine hK.out _ _ ⟨(blk_cell BK180.out 0).trans rfl, (blk_cell BK180.out 1).trans rfl, (blk_cell BK180.out 2).trans rfl, (blk_cell BK180.out 3).trans rfl⟩ (fun hHeld => ?_)
         clear hK K
         refine norm_ (a' := ?_) ?_ ?_
         rotate_left
         ·show Act.put _ (some 12) _ = _
          simp only [Act.put, List.setIfInBounds_toArray, List.set_cons_zero, List.set_cons_succ, i64_w, i32_w]
          rfl
         refine one_ (i := 3) (N := some 32) #[true, true, true, true, true, false, false, false, false, true, false, false] rfl rfl (one_of HT_.out (by kernel_rfl)) (by decide) (fun K hK => ?_)
         refine goes_ Try.func20 (by kernel_rfl) rfl #[.int .i64 (wrap64 (Int.tmod a1 100))] (by rfl) rfl rfl (by (try simp only [List.map_toArray, List.map_cons, List.map_nil]); first | done | rfl | (simp only [List.length_drop, List.length_take]; rfl)) ?_
         with_reducible refine (whirligiglaw02_decimal.calls (wrap64 (Int.tmod a1 100)) t183 _ A7.out).mono ?_
         rintro e w' ⟨rfl, ⟨nd, rfl⟩⟩
         refine ⟨_, rfl, ?_⟩
         refine hK.out _ _ ⟨(blk_cell BK180.out 0).trans rfl, (blk_cell BK180.out 1).trans rfl, (blk_cell BK180.out 2).trans rfl, (blk_cell BK180.out 3).trans rfl⟩ (fun hHeld => ?_)
         clear hK K
         refine norm_ (a' := ?_) ?_ ?_
         rotate_left
         ·show Act.put _ (some 32) _ = _
          simp only [Act.put, List.setIfInBounds_toArray, List.set_cons_zero, List.set_cons_succ, i64_w, i32_w]
          rfl
         refine one_ (i := 5) (N := some 34) #[true, true, true, true, true, true, false, false, false, true, false, false] rfl rfl (one_of HT_.out (by kernel_rfl)) (by decide) (fun K hK => ?_)
         refine goes_ Try.func12 (by kernel_rfl) rfl #[.int .i64 1, .int .u8 t182, .int .u8 t183, .agg #[.bool a2_0, .bool a2_1, .bool a2_2, .bool true]] (by rfl) rfl rfl (by (try simp only [List.map_toArray, List.map_cons, List.map_nil]); first | done | rfl | (simp only [List.length_drop, List.length_take]; rfl)) ?_
         with_reducible refine (alu_Do.calls 1 t182 t183 a2_0 a2_1 a2_2 true t184 t185 t186 t187 t188 _ A8.out).mono ?_
         rintro e w25 ⟨rfl, hb⟩
         refine ⟨_, rfl, ?_⟩
         have n0_ := Aside0.mk (blk_below (g := gb180) (o := .cells #[.bool a2_0, .bool a2_1, .bool a2_2, .bool true] 23 (0, 0)) (by (with_reducible repeat (first | refine blk_drewN ?_ _ | refine blk_drew ?_ | refine blk_alloc ?_ _)); exact BK180.out) hb)
         have n1_ := Aside0.mk (blk_below (g := gb189) (o := .cells #[.bool false, .bool false, .bool false, .bool false] 23 (0, 0)) (by (with_reducible repeat (first | refine blk_drewN ?_ _ | refine blk_drew ?_ | refine blk_alloc ?_ _)); exact BK189.out) hb)
         have n2_ := Aside0.mk (below_step (by repeat (first | (with_reducible first | exact HB.out | apply below_alloc | apply pw_below_drewN | apply below_drew1 | refine below_set ?_ GE180.out | refine below_set ?_ GE189.out) | exact HB.out)) hb)
         clear BK180
         clear BK189
         clear HB
         have BK180 := n0_
         have BK189 := n1_
         have HB := n2_
         clear n0_ n1_ n2_
         (try clear hb)
         (try clear hb2)
         (try clear hk)
         (try clear hi)
         refine hK.out _ _ ⟨(blk_cell BK180.out 0).trans rfl, (blk_cell BK180.out 1).trans rfl, (blk_cell BK180.out 2).trans rfl, (blk_cell BK180.out 3).trans rfl⟩ (fun hHeld => ?_)
         clear hK K
         refine norm_ (a' := ?_) ?_ ?_
         rotate_left
         ·show Act.put _ (some 34) _ = _
          simp only [Act.put, List.setIfInBounds_toArray, List.set_cons_zero, List.set_cons_succ, i64_w, i32_w]
          rfl
         refine pure_ (i := 6) (N := some 28) (v := ?_) (a' := ?_) #[true, true, true, true, true, true, true, false, false, true, false, false] rfl rfl (any_of HT_.out (by kernel_rfl)) (fun _ _ _ h => h) (Or.inl ⟨by rfl, ?_⟩) ?_ ?_
         rotate_left
         ·intro w'
          go_simp
          with_reducible rfl
         rotate_left
         ·simp only [Act.put, List.setIfInBounds_toArray, List.set_cons_zero, List.set_cons_succ, i64_w, i32_w]
          rfl
         refine pure_ (i := 7) (N := some 35) (v := ?_) (a' := ?_) #[true, true, true, true, true, true, true, true, false, true, false, false] rfl rfl (any_of HT_.out (by kernel_rfl)) (fun _ _ _ h => h) (Or.inl ⟨by rfl, ?_⟩) ?_ ?_
         rotate_left
         ·intro w'
          go_simp
          with_reducible rfl
         rotate_left
         ·simp only [Act.put, List.setIfInBounds_toArray, List.set_cons_zero, List.set_cons_succ, i64_w, i32_w]
          rfl
         refine pure_ (i := 8) (N := some 36) (v := ?_) (a' := ?_) #[true, true, true, true, true, true, true, true, true, true, false, false] rfl rfl (any_of HT_.out (by kernel_rfl)) (fun _ _ _ h => h) (Or.inl ⟨by rfl, ?_⟩) ?_ ?_
         rotate_left
         ·intro w'
          go_simp
          with_reducible rfl
         rotate_left
         ·simp only [Act.put, List.setIfInBounds_toArray, List.set_cons_zero, List.set_cons_succ, i64_w, i32_w]
          rfl
         exact norm_ (by simp only [putAll, Act.put, List.setIfInBounds_toArray, List.set_cons_zero, List.set_cons_succ]) (hCont (gb189) _ ⟨hHeld, (by (with_reducible repeat (first | refine blk_drewN ?_ _ | refine blk_drew ?_ | refine blk_alloc ?_ _)); exact BK180.out), (by (with_reducible repeat (first | refine blk_drewN ?_ _ | refine blk_drew ?_ | refine blk_alloc ?_ _)); exact BK189.out), GW189.out, GE189.out, NB180_189.out, NB189_180.out, (by repeat (first | (with_reducible first | exact HB.out | apply below_alloc | apply pw_below_drewN | apply below_drew1 | refine below_set ?_ GE180.out | refine below_set ?_ GE189.out) | exact HB.out))⟩)
       ·skip
        refine box_step ?hg (N := 12) ?hd (cs := #[.bool false, .bool false, .bool false, .bool false]) (t := 23) ?hr ?_; (case hd => rfl); (case hg => rfl); (case hr => first | (go_simp; done) | (go_simp; rfl))
        intro gb189 hg w24 hbox hb
        have n0_ := Aside0.mk (blk_below (g := gb180) (o := .cells #[.bool a2_0, .bool a2_1, .bool a2_2, .bool true] 23 (0, 0)) (by (with_reducible repeat (first | refine blk_drewN ?_ _ | refine blk_drew ?_ | refine blk_alloc ?_ _)); exact BK180.out) hb)
        have n1_ := Aside0.mk (below_step (by repeat (first | (with_reducible first | exact HB.out | apply below_alloc | apply pw_below_drewN | apply below_drew1 | refine below_set ?_ GE180.out) | exact HB.out)) hb)
        have n2_ := Aside0.mk (hbox)
        have n3_ := Aside0.mk ((by rw [hg]; exact (below_size (by repeat (first | (with_reducible first | exact HB.out | apply below_alloc | apply pw_below_drewN | apply below_drew1 | refine below_set ?_ GE180.out) | exact HB.out))) : w.heap.size ≤ gb189))
        have n4_ := Aside0.mk ((by rw [hg]; exact (below_size (by repeat (first | (with_reducible first | exact HB.out | apply below_alloc | apply pw_below_drewN | apply below_drew1 | refine below_set ?_ GE180.out) | exact HB.out))) : w.heap.size ≤ gb189))
        have n5_ := Aside0.mk ((by rw [hg]; exact Nat.ne_of_lt (blk_lt (g := gb180) (o := .cells #[.bool a2_0, .bool a2_1, .bool a2_2, .bool true] 23 (0, 0)) (by (with_reducible repeat (first | refine blk_drewN ?_ _ | refine blk_drew ?_ | refine blk_alloc ?_ _)); exact BK180.out)) : gb180 ≠ gb189))
        have n6_ := Aside0.mk ((by rw [hg]; exact Nat.ne_of_gt (blk_lt (g := gb180) (o := .cells #[.bool a2_0, .bool a2_1, .bool a2_2, .bool true] 23 (0, 0)) (by (with_reducible repeat (first | refine blk_drewN ?_ _ | refine blk_drew ?_ | refine blk_alloc ?_ _)); exact BK180.out)) : gb189 ≠ gb180))
        clear BK180
        clear HB
        have BK180 := n0_
        have HB := n1_
        have BK189 := n2_
        have GW189 := n3_
        have GE189 := n4_
        have NB180_189 := n5_
        have NB189_180 := n6_
        clear n0_ n1_ n2_ n3_ n4_ n5_ n6_
        clear hb hbox hg
        refine hK.out _ _ ⟨(blk_cell BK180.out 0).trans rfl, (blk_cell BK180.out 1).trans rfl, (blk_cell BK180.out 2).trans rfl, (blk_cell BK180.out 3).trans rfl⟩ (fun hHeld => ?_)
        clear hK K
        refine norm_ (a' := ?_) ?_ ?_
        rotate_left
        ·show Act.put _ (some 12) _ = _
         simp only [Act.put, List.setIfInBounds_toArray, List.set_cons_zero, List.set_cons_succ, i64_w, i32_w]
         rfl
        refine one_ (i := 1) (N := some 30) #[true, true, true, false, true, false, false, false, false, true, false, false] rfl rfl (one_of HT_.out (by kernel_rfl)) (by decide) (fun K hK => ?_)
        refine goes_ Try.func20 (by kernel_rfl) rfl #[.int .i64 (wrap64 (Int.tmod a0 100))] (by rfl) rfl rfl (by (try simp only [List.map_toArray, List.map_cons, List.map_nil]); first | done | rfl | (simp only [List.length_drop, List.length_take]; rfl)) ?_
        with_reducible refine (whirligiglaw02_decimal.calls (wrap64 (Int.tmod a0 100)) t182 _ A6.out).mono ?_
        rintro e w' ⟨rfl, ⟨nd, rfl⟩⟩
        refine ⟨_, rfl, ?_⟩
        refine hK.out _ _ ⟨(blk_cell BK180.out 0).trans rfl, (blk_cell BK180.out 1).trans rfl, (blk_cell BK180.out 2).trans rfl, (blk_cell BK180.out 3).trans rfl⟩ (fun hHeld => ?_)
        clear hK K
        refine norm_ (a' := ?_) ?_ ?_
        rotate_left
        ·show Act.put _ (some 30) _ = _
         simp only [Act.put, List.setIfInBounds_toArray, List.set_cons_zero, List.set_cons_succ, i64_w, i32_w]
         rfl
        refine one_ (i := 3) (N := some 32) #[true, true, true, true, true, false, false, false, false, true, false, false] rfl rfl (one_of HT_.out (by kernel_rfl)) (by decide) (fun K hK => ?_)
        refine goes_ Try.func20 (by kernel_rfl) rfl #[.int .i64 (wrap64 (Int.tmod a1 100))] (by rfl) rfl rfl (by (try simp only [List.map_toArray, List.map_cons, List.map_nil]); first | done | rfl | (simp only [List.length_drop, List.length_take]; rfl)) ?_
        with_reducible refine (whirligiglaw02_decimal.calls (wrap64 (Int.tmod a1 100)) t183 _ A7.out).mono ?_
        rintro e w' ⟨rfl, ⟨nd, rfl⟩⟩
        refine ⟨_, rfl, ?_⟩
        refine hK.out _ _ ⟨(blk_cell BK180.out 0).trans rfl, (blk_cell BK180.out 1).trans rfl, (blk_cell BK180.out 2).trans rfl, (blk_cell BK180.out 3).trans rfl⟩ (fun hHeld => ?_)
        clear hK K
        refine norm_ (a' := ?_) ?_ ?_
        rotate_left
        ·show Act.put _ (some 32) _ = _
         simp only [Act.put, List.setIfInBounds_toArray, List.set_cons_zero, List.set_cons_succ, i64_w, i32_w]
         rfl
        refine one_ (i := 5) (N := some 34) #[true, true, true, true, true, true, false, false, false, true, false, false] rfl rfl (one_of HT_.out (by kernel_rfl)) (by decide) (fun K hK => ?_)
        refine goes_ Try.func12 (by kernel_rfl) rfl #[.int .i64 1, .int .u8 t182, .int .u8 t183, .agg #[.bool a2_0, .bool a2_1, .bool a2_2, .bool true]] (by rfl) rfl rfl (by (try simp only [List.map_toArray, List.map_cons, List.map_nil]); first | done | rfl | (simp only [List.length_drop, List.length_take]; rfl)) ?_
        with_reducible refine (alu_Do.calls 1 t182 t183 a2_0 a2_1 a2_2 true t184 t185 t186 t187 t188 _ A8.out).mono ?_
        rintro e w25 ⟨rfl, hb⟩
        refine ⟨_, rfl, ?_⟩
        have n0_ := Aside0.mk (blk_below (g := gb180) (o := .cells #[.bool a2_0, .bool a2_1, .bool a2_2, .bool true] 23 (0, 0)) (by (with_reducible repeat (first | refine blk_drewN ?_ _ | refine blk_drew ?_ | refine blk_alloc ?_ _)); exact BK180.out) hb)
        have n1_ := Aside0.mk (blk_below (g := gb189) (o := .cells #[.bool false, .bool false, .bool false, .bool false] 23 (0, 0)) (by (with_reducible repeat (first | refine blk_drewN ?_ _ | refine blk_drew ?_ | refine blk_alloc ?_ _)); exact BK189.out) hb)
        have n2_ := Aside0.mk (below_step (by repeat (first | (with_reducible first | exact HB.out | apply below_alloc | apply pw_below_drewN | apply below_drew1 | refine below_set ?_ GE180.out | refine below_set ?_ GE189.out) | exact HB.out)) hb)
        clear BK180
        clear BK189
        clear HB
        have BK180 := n0_
        have BK189 := n1_
        have HB := n2_
        clear n0_ n1_ n2_
        (try clear hb)
        (try clear hb2)
        (try clear hk)
        (try clear hi)
        refine hK.out _ _ ⟨(blk_cell BK180.out 0).trans rfl, (blk_cell BK180.out 1).trans rfl, (blk_cell BK180.out 2).trans rfl, (blk_cell BK180.out 3).trans rfl⟩ (fun hHeld => ?_)
        clear hK K
        refine norm_ (a' := ?_) ?_ ?_
        rotate_left
        ·show Act.put _ (some 34) _ = _
         simp only [Act.put, List.setIfInBounds_toArray, List.set_cons_zero, List.set_cons_succ, i64_w, i32_w]
         rfl
        refine pure_ (i := 6) (N := some 28) (v := ?_) (a' := ?_) #[true, true, true, true, true, true, true, false, false, true, false, false] rfl rfl (any_of HT_.out (by kernel_rfl)) (fun _ _ _ h => h) (Or.inl ⟨by rfl, ?_⟩) ?_ ?_
        rotate_left
        ·intro w'
         go_simp
         with_reducible rfl
        rotate_left
        ·simp only [Act.put, List.setIfInBounds_toArray, List.set_cons_zero, List.set_cons_succ, i64_w, i32_w]
         rfl
        refine pure_ (i := 7) (N := some 35) (v := ?_) (a' := ?_) #[true, true, true, true, true, true, true, true, false, true, false, false] rfl rfl (any_of HT_.out (by kernel_rfl)) (fun _ _ _ h => h) (Or.inl ⟨by rfl, ?_⟩) ?_ ?_
        rotate_left
        ·intro w'
         go_simp
         with_reducible rfl
        rotate_left
        ·simp only [Act.put, List.setIfInBounds_toArray, List.set_cons_zero, List.set_cons_succ, i64_w, i32_w]
         rfl
        refine pure_ (i := 8) (N := some 36) (v := ?_) (a' := ?_) #[true, true, true, true, true, true, true, true, true, true, false, false] rfl rfl (any_of HT_.out (by kernel_rfl)) (fun _ _ _ h => h) (Or.inl ⟨by rfl, ?_⟩) ?_ ?_
        rotate_left
        ·intro w'
         go_simp
         with_reducible rfl
        rotate_left
        ·simp only [Act.put, List.setIfInBounds_toArray, List.set_cons_zero, List.set_cons_succ, i64_w, i32_w]
         rfl
        exact norm_ (by simp only [putAll, Act.put, List.setIfInBounds_toArray, List.set_cons_zero, List.set_cons_succ]) (hCont (gb189) _ ⟨hHeld, (by (with_reducible repeat (first | refine blk_drewN ?_ _ | refine blk_drew ?_ | refine blk_alloc ?_ _)); exact BK180.out), (by (with_reducible repeat (first | refine blk_drewN ?_ _ | refine blk_drew ?_ | refine blk_alloc ?_ _)); exact BK189.out), GW189.out, GE189.out, NB180_189.out, NB189_180.out, (by repeat (first | (with_reducible first | exact HB.out | apply below_alloc | apply pw_below_drewN | apply below_drew1 | refine below_set ?_ GE180.out | refine below_set ?_ GE189.out) | exact HB.out))⟩)
      rintro gb189 w26 ⟨hS_, h0_, h1_, h2_, h3_, h4_, h5_, h6_⟩
      have n0_ : Aside0 (w26.heap[gb180]? = some (.cells #[.bool a2_0, .bool a2_1, .bool a2_2, .bool true] 23 (0, 0))) := ⟨h0_⟩
      have n1_ : Aside0 (w26.heap[gb189]? = some (.cells #[.bool false, .bool false, .bool false, .bool false] 23 (0, 0))) := ⟨h1_⟩
      have n2_ : Aside0 (w.heap.size ≤ gb189) := ⟨h2_⟩
      have n3_ : Aside0 (w.heap.size ≤ gb189) := ⟨h3_⟩
      have n4_ : Aside0 (gb180 ≠ gb189) := ⟨h4_⟩
      have n5_ : Aside0 (gb189 ≠ gb180) := ⟨h5_⟩
      have n6_ : Aside0 (Below w.heap.size w w26) := ⟨h6_⟩
      clear BK180
      clear HB
      clear h0_ h1_ h2_ h3_ h4_ h5_ h6_
      have BK180 := n0_
      have BK189 := n1_
      have GW189 := n2_
      have GE189 := n3_
      have NB180_189 := n4_
      have NB189_180 := n5_
      have HB := n6_
      clear n0_ n1_ n2_ n3_ n4_ n5_ n6_
      have hHeld : w26.cell? ⟨gb180, 0, none⟩ = some (.bool a2_0) ∧ w26.cell? ⟨gb180, 1, none⟩ = some (.bool a2_1) ∧ w26.cell? ⟨gb180, 2, none⟩ = some (.bool a2_2) ∧ w26.cell? ⟨gb180, 3, none⟩ = some (.bool true) := hS_
      refine norm_ (a' := ?_) ?_ ?_
      rotate_left
      ·simp only [putAll, Act.put, List.setIfInBounds_toArray, List.set_cons_zero, List.set_cons_succ]
       rfl
      refine pure_ (i := 10) (N := some 11) (v := ?_) (a' := ?_) #[true, true, true, true, true, true, true, true, true, true, true, false] rfl rfl (any_of HT_.out (by kernel_rfl)) (fun _ _ _ h => h) (Or.inl ⟨by rfl, ?_⟩) ?_ ?_
      rotate_left
      ·intro w'
       go_simp
       with_reducible rfl
      rotate_left
      ·simp only [Act.put, List.setIfInBounds_toArray, List.set_cons_zero, List.set_cons_succ, i64_w, i32_w]
       rfl
      refine one_ (i := 11) (N := none) #[true, true, true, true, true, true, true, true, true, true, true, true] rfl rfl (one_of HT_.out (by kernel_rfl)) (by decide) (fun K hK => ?_)
      have hs27 : w26.cell? ⟨gb189, 0, none⟩ = some (.bool false) := (blk_cell BK189.out 0).trans rfl
      have hfs27 := blk_frozen BK189.out 0
      have hns27_0 := NB180_189.out
      have hms27_0 := NB189_180.out
      have hs28 : w26.cell? ⟨gb189, 1, none⟩ = some (.bool false) := (blk_cell BK189.out 1).trans rfl
      have hfs28 := blk_frozen BK189.out 1
      have hns28_0 := NB180_189.out
      have hms28_0 := NB189_180.out
      have hs29 : w26.cell? ⟨gb189, 2, none⟩ = some (.bool false) := (blk_cell BK189.out 2).trans rfl
      have hfs29 := blk_frozen BK189.out 2
      have hns29_0 := NB180_189.out
      have hms29_0 := NB189_180.out
      have hs30 : w26.cell? ⟨gb189, 3, none⟩ = some (.bool false) := (blk_cell BK189.out 3).trans rfl
      have hfs30 := blk_frozen BK189.out 3
      have hns30_0 := NB180_189.out
      have hms30_0 := NB189_180.out
      refine skip_ (w1 := ?_) (by rfl) rfl ?_ ?_
      rotate_left
      ·go_simp
       rfl
      refine hK.out _ _ ⟨((cell_far (p := ⟨gb189, _, none⟩) NB180_189.out _).trans (((cell_far (p := ⟨gb189, _, none⟩) NB180_189.out _).trans (((cell_far (p := ⟨gb189, _, none⟩) NB180_189.out _).trans (((cell_far (p := ⟨gb189, _, none⟩) NB180_189.out _).trans (hHeld.1)))))))), ((cell_far (p := ⟨gb189, _, none⟩) NB180_189.out _).trans (((cell_far (p := ⟨gb189, _, none⟩) NB180_189.out _).trans (((cell_far (p := ⟨gb189, _, none⟩) NB180_189.out _).trans (((cell_far (p := ⟨gb189, _, none⟩) NB180_189.out _).trans (hHeld.2.1)))))))), ((cell_far (p := ⟨gb189, _, none⟩) NB180_189.out _).trans (((cell_far (p := ⟨gb189, _, none⟩) NB180_189.out _).trans (((cell_far (p := ⟨gb189, _, none⟩) NB180_189.out _).trans (((cell_far (p := ⟨gb189, _, none⟩) NB180_189.out _).trans (hHeld.2.2.1)))))))), ((cell_far (p := ⟨gb189, _, none⟩) NB180_189.out _).trans (((cell_far (p := ⟨gb189, _, none⟩) NB180_189.out _).trans (((cell_far (p := ⟨gb189, _, none⟩) NB180_189.out _).trans (((cell_far (p := ⟨gb189, _, none⟩) NB180_189.out _).trans (hHeld.2.2.2))))))))⟩ (fun hHeld => ?_)
      clear hK K
      refine done_ (done_of HT_.out (by kernel_rfl)) ?_
      have hnb31 := NB189_180.out
      have hnc31 := NB180_189.out
      have hcz32_0 : w26.cell? ⟨gb189, 0, none⟩ = some (.bool false) := (blk_cell BK189.out 0).trans rfl
      have hcz32_1 : w26.cell? ⟨gb189, 1, none⟩ = some (.bool false) := (blk_cell BK189.out 1).trans rfl
      have hcz32_2 : w26.cell? ⟨gb189, 2, none⟩ = some (.bool false) := (blk_cell BK189.out 2).trans rfl
      have hcz32_3 : w26.cell? ⟨gb189, 3, none⟩ = some (.bool false) := (blk_cell BK189.out 3).trans rfl
      have hfz32_0 := blk_frozen BK189.out 0
      have hfz32_1 := blk_frozen BK189.out 1
      have hfz32_2 := blk_frozen BK189.out 2
      have hfz32_3 := blk_frozen BK189.out 3
      try go_wp2_with (first | ((with_reducible refine gate_callee (f := 14) rfl ?_); refine goesL_ (some 40) rfl rfl Try.func14 (by kernel_rfl) rfl #[.int .u8 t184, .agg #[.bool t185, .bool t186, .bool t187, .bool t188]] rfl (by (try simp only [List.map_toArray, List.map_cons, List.map_nil]); first | done | rfl | (simp only [List.length_drop, List.length_take]; rfl)) ?_; (with_reducible refine (alu_Daa.calls k t184 t185 t186 t187 t188 t190 t191 t192 t193 t194 _ A9.out).mono ?_); rintro e w33 ⟨rfl, hb⟩; refine ⟨_, rfl, ?_⟩; have n0_ := Aside0.mk (blk_below (g := gb180) (o := .cells #[.bool a2_0, .bool a2_1, .bool a2_2, .bool true] 23 (0, 0)) (by (with_reducible repeat (first | refine blk_drewN ?_ _ | refine blk_drew ?_ | refine blk_alloc ?_ _)); refine blk_far ?_ NB180_189.out _; (with_reducible repeat (first | refine blk_drewN ?_ _ | refine blk_drew ?_ | refine blk_alloc ?_ _)); refine blk_far ?_ NB180_189.out _; (with_reducible repeat (first | refine blk_drewN ?_ _ | refine blk_drew ?_ | refine blk_alloc ?_ _)); refine blk_far ?_ NB180_189.out _; (with_reducible repeat (first | refine blk_drewN ?_ _ | refine blk_drew ?_ | refine blk_alloc ?_ _)); refine blk_far ?_ NB180_189.out _; (with_reducible repeat (first | refine blk_drewN ?_ _ | refine blk_drew ?_ | refine blk_alloc ?_ _)); exact BK180.out) hb); have n1_ := Aside0.mk (blk_below (g := gb189) (o := .cells #[.bool t185, .bool t186, .bool t187, .bool t188] 23 (0, 0)) (by (with_reducible repeat (first | refine blk_drewN ?_ _ | refine blk_drew ?_ | refine blk_alloc ?_ _)); refine blk_put (cs := #[.bool t185, .bool t186, .bool t187, .bool false]) ?_ 3 _ rfl; (with_reducible repeat (first | refine blk_drewN ?_ _ | refine blk_drew ?_ | refine blk_alloc ?_ _)); refine blk_put (cs := #[.bool t185, .bool t186, .bool false, .bool false]) ?_ 2 _ rfl; (with_reducible repeat (first | refine blk_drewN ?_ _ | refine blk_drew ?_ | refine blk_alloc ?_ _)); refine blk_put (cs := #[.bool t185, .bool false, .bool false, .bool false]) ?_ 1 _ rfl; (with_reducible repeat (first | refine blk_drewN ?_ _ | refine blk_drew ?_ | refine blk_alloc ?_ _)); refine blk_put (cs := #[.bool false, .bool false, .bool false, .bool false]) ?_ 0 _ rfl; (with_reducible repeat (first | refine blk_drewN ?_ _ | refine blk_drew ?_ | refine blk_alloc ?_ _)); exact BK189.out) hb); have n2_ := Aside0.mk (below_step (by repeat (first | (with_reducible first | exact HB.out | apply below_alloc | apply pw_below_drewN | apply below_drew1 | refine below_set ?_ GE180.out | refine below_set ?_ GE189.out) | exact HB.out)) hb); clear BK180; clear BK189; clear HB; have BK180 := n0_; have BK189 := n1_; have HB := n2_; clear n0_ n1_ n2_; (try clear hb); (try clear hb2); (try clear hk); (try clear hi)) | ((with_reducible refine gate_dst (N := 14) rfl ?_); refine box_event ?hg (N := 14) ?hd (cs := #[.bool false, .bool false, .bool false, .bool false]) (t := 23) ?hr ?_; (case hd => rfl); (case hg => rfl); (case hr => first | (go_simp; done) | (go_simp; rfl)); intro gb195 hg w34 hbox hb; have n0_ := Aside0.mk (blk_below (g := gb180) (o := .cells #[.bool a2_0, .bool a2_1, .bool a2_2, .bool true] 23 (0, 0)) (by (with_reducible repeat (first | refine blk_drewN ?_ _ | refine blk_drew ?_ | refine blk_alloc ?_ _)); exact BK180.out) hb); have n1_ := Aside0.mk (blk_below (g := gb189) (o := .cells #[.bool t185, .bool t186, .bool t187, .bool t188] 23 (0, 0)) (by (with_reducible repeat (first | refine blk_drewN ?_ _ | refine blk_drew ?_ | refine blk_alloc ?_ _)); exact BK189.out) hb); have n2_ := Aside0.mk (below_step (by repeat (first | (with_reducible first | exact HB.out | apply below_alloc | apply pw_below_drewN | apply below_drew1 | refine below_set ?_ GE180.out | refine below_set ?_ GE189.out) | exact HB.out)) hb); have n3_ := Aside0.mk (hbox); have n4_ := Aside0.mk ((by rw [hg]; exact (below_size (by repeat (first | (with_reducible first | exact HB.out | apply below_alloc | apply pw_below_drewN | apply below_drew1 | refine below_set ?_ GE180.out | refine below_set ?_ GE189.out) | exact HB.out))) : w.heap.size ≤ gb195)); have n5_ := Aside0.mk ((by rw [hg]; exact (below_size (by repeat (first | (with_reducible first | exact HB.out | apply below_alloc | apply pw_below_drewN | apply below_drew1 | refine below_set ?_ GE180.out | refine below_set ?_ GE189.out) | exact HB.out))) : w.heap.size ≤ gb195)); have n6_ := Aside0.mk ((by rw [hg]; exact Nat.ne_of_lt (blk_lt (g := gb180) (o := .cells #[.bool a2_0, .bool a2_1, .bool a2_2, .bool true] 23 (0, 0)) (by (with_reducible repeat (first | refine blk_drewN ?_ _ | refine blk_drew ?_ | refine blk_alloc ?_ _)); exact BK180.out)) : gb180 ≠ gb195)); have n7_ := Aside0.mk ((by rw [hg]; exact Nat.ne_of_gt (blk_lt (g := gb180) (o := .cells #[.bool a2_0, .bool a2_1, .bool a2_2, .bool true] 23 (0, 0)) (by (with_reducible repeat (first | refine blk_drewN ?_ _ | refine blk_drew ?_ | refine blk_alloc ?_ _)); exact BK180.out)) : gb195 ≠ gb180)); have n8_ := Aside0.mk ((by rw [hg]; exact Nat.ne_of_lt (blk_lt (g := gb189) (o := .cells #[.bool t185, .bool t186, .bool t187, .bool t188] 23 (0, 0)) (by (with_reducible repeat (first | refine blk_drewN ?_ _ | refine blk_drew ?_ | refine blk_alloc ?_ _)); exact BK189.out)) : gb189 ≠ gb195)); have n9_ := Aside0.mk ((by rw [hg]; exact Nat.ne_of_gt (blk_lt (g := gb189) (o := .cells #[.bool t185, .bool t186, .bool t187, .bool t188] 23 (0, 0)) (by (with_reducible repeat (first | refine blk_drewN ?_ _ | refine blk_drew ?_ | refine blk_alloc ?_ _)); exact BK189.out)) : gb195 ≠ gb189)); clear BK180; clear BK189; clear HB; have BK180 := n0_; have BK189 := n1_; have HB := n2_; have BK195 := n3_; have GW195 := n4_; have GE195 := n5_; have NB180_195 := n6_; have NB195_180 := n7_; have NB189_195 := n8_; have NB195_189 := n9_; clear n0_ n1_ n2_ n3_ n4_ n5_ n6_ n7_ n8_ n9_; clear hb hbox hg; have hnb35 := NB195_180.out; have hnc35 := NB180_195.out; have hnb36 := NB195_189.out; have hnc36 := NB189_195.out; have hcz37_0 : w34.cell? ⟨gb195, 0, none⟩ = some (.bool false) := (blk_cell BK195.out 0).trans rfl; have hcz37_1 : w34.cell? ⟨gb195, 1, none⟩ = some (.bool false) := (blk_cell BK195.out 1).trans rfl; have hcz37_2 : w34.cell? ⟨gb195, 2, none⟩ = some (.bool false) := (blk_cell BK195.out 2).trans rfl; have hcz37_3 : w34.cell? ⟨gb195, 3, none⟩ = some (.bool false) := (blk_cell BK195.out 3).trans rfl; have hfz37_0 := blk_frozen BK195.out 0; have hfz37_1 := blk_frozen BK195.out 1; have hfz37_2 := blk_frozen BK195.out 2; have hfz37_3 := blk_frozen BK195.out 3))
      have n0_ : Aside0 (((((w34.setCell ⟨gb195, 0, none⟩ (.bool t191)).setCell ⟨gb195, 1, none⟩ (.bool t192)).setCell ⟨gb195, 2, none⟩ (.bool t193)).setCell ⟨gb195, 3, none⟩ (.bool t194)).heap[gb180]? = some (.cells #[.bool a2_0, .bool a2_1, .bool a2_2, .bool true] 23 (0, 0))) := ⟨by (with_reducible repeat (first | refine blk_drewN ?_ _ | refine blk_drew ?_ | refine blk_alloc ?_ _)); refine blk_far ?_ NB180_195.out _; (with_reducible repeat (first | refine blk_drewN ?_ _ | refine blk_drew ?_ | refine blk_alloc ?_ _)); refine blk_far ?_ NB180_195.out _; (with_reducible repeat (first | refine blk_drewN ?_ _ | refine blk_drew ?_ | refine blk_alloc ?_ _)); refine blk_far ?_ NB180_195.out _; (with_reducible repeat (first | refine blk_drewN ?_ _ | refine blk_drew ?_ | refine blk_alloc ?_ _)); refine blk_far ?_ NB180_195.out _; (with_reducible repeat (first | refine blk_drewN ?_ _ | refine blk_drew ?_ | refine blk_alloc ?_ _)); exact BK180.out⟩
      have n1_ : Aside0 (((((w34.setCell ⟨gb195, 0, none⟩ (.bool t191)).setCell ⟨gb195, 1, none⟩ (.bool t192)).setCell ⟨gb195, 2, none⟩ (.bool t193)).setCell ⟨gb195, 3, none⟩ (.bool t194)).heap[gb189]? = some (.cells #[.bool t185, .bool t186, .bool t187, .bool t188] 23 (0, 0))) := ⟨by (with_reducible repeat (first | refine blk_drewN ?_ _ | refine blk_drew ?_ | refine blk_alloc ?_ _)); refine blk_far ?_ NB189_195.out _; (with_reducible repeat (first | refine blk_drewN ?_ _ | refine blk_drew ?_ | refine blk_alloc ?_ _)); refine blk_far ?_ NB189_195.out _; (with_reducible repeat (first | refine blk_drewN ?_ _ | refine blk_drew ?_ | refine blk_alloc ?_ _)); refine blk_far ?_ NB189_195.out _; (with_reducible repeat (first | refine blk_drewN ?_ _ | refine blk_drew ?_ | refine blk_alloc ?_ _)); refine blk_far ?_ NB189_195.out _; (with_reducible repeat (first | refine blk_drewN ?_ _ | refine blk_drew ?_ | refine blk_alloc ?_ _)); exact BK189.out⟩
      have n2_ : Aside0 (((((w34.setCell ⟨gb195, 0, none⟩ (.bool t191)).setCell ⟨gb195, 1, none⟩ (.bool t192)).setCell ⟨gb195, 2, none⟩ (.bool t193)).setCell ⟨gb195, 3, none⟩ (.bool t194)).heap[gb195]? = some (.cells #[.bool t191, .bool t192, .bool t193, .bool t194] 23 (0, 0))) := ⟨by (with_reducible repeat (first | refine blk_drewN ?_ _ | refine blk_drew ?_ | refine blk_alloc ?_ _)); refine blk_put (cs := #[.bool t191, .bool t192, .bool t193, .bool false]) ?_ 3 _ rfl; (with_reducible repeat (first | refine blk_drewN ?_ _ | refine blk_drew ?_ | refine blk_alloc ?_ _)); refine blk_put (cs := #[.bool t191, .bool t192, .bool false, .bool false]) ?_ 2 _ rfl; (with_reducible repeat (first | refine blk_drewN ?_ _ | refine blk_drew ?_ | refine blk_alloc ?_ _)); refine blk_put (cs := #[.bool t191, .bool false, .bool false, .bool false]) ?_ 1 _ rfl; (with_reducible repeat (first | refine blk_drewN ?_ _ | refine blk_drew ?_ | refine blk_alloc ?_ _)); refine blk_put (cs := #[.bool false, .bool false, .bool false, .bool false]) ?_ 0 _ rfl; (with_reducible repeat (first | refine blk_drewN ?_ _ | refine blk_drew ?_ | refine blk_alloc ?_ _)); exact BK195.out⟩
      have n3_ : Aside0 (Below w.heap.size w ((((w34.setCell ⟨gb195, 0, none⟩ (.bool t191)).setCell ⟨gb195, 1, none⟩ (.bool t192)).setCell ⟨gb195, 2, none⟩ (.bool t193)).setCell ⟨gb195, 3, none⟩ (.bool t194))) := ⟨by repeat (first | (with_reducible first | exact HB.out | apply below_alloc | apply pw_below_drewN | apply below_drew1 | refine below_set ?_ GE180.out | refine below_set ?_ GE189.out | refine below_set ?_ GE195.out) | exact HB.out)⟩
      (try clear BK180)
      (try clear BK189)
      (try clear BK195)
      (try clear HB)
      generalize ((((w34.setCell ⟨gb195, 0, none⟩ (.bool t191)).setCell ⟨gb195, 1, none⟩ (.bool t192)).setCell ⟨gb195, 2, none⟩ (.bool t193)).setCell ⟨gb195, 3, none⟩ (.bool t194)) = w38 at n0_ n1_ n2_ n3_ ⊢
      have BK180 := n0_
      have BK189 := n1_
      have BK195 := n2_
      have HB := n3_
      clear n0_ n1_ n2_ n3_
      have n0_ := Aside0.mk (blk_drew BK180.out)
      have n1_ := Aside0.mk (blk_drew BK189.out)
      have n2_ := Aside0.mk (blk_drew BK195.out)
      have n3_ := Aside0.mk (below_drew1 HB.out)
      clear BK180
      clear BK189
      clear BK195
      clear HB
      have BK180 := n0_
      have BK189 := n1_
      have BK195 := n2_
      have HB := n3_
      clear n0_ n1_ n2_ n3_
      refine start_ (n := 12) (S := fun w' => w'.cell? ⟨gb180, 0, none⟩ = some (.bool a2_0) ∧ w'.cell? ⟨gb180, 1, none⟩ = some (.bool a2_1) ∧ w'.cell? ⟨gb180, 2, none⟩ = some (.bool a2_2) ∧ w'.cell? ⟨gb180, 3, none⟩ = some (.bool true)) (ds := []) #[false, false, false, false, false, false, false, false, false, false, false, false] (by kernel_rfl) rfl rfl ⟨(blk_cell BK180.out 0).trans rfl, (blk_cell BK180.out 1).trans rfl, (blk_cell BK180.out 2).trans rfl, (blk_cell BK180.out 3).trans rfl⟩ (fun hHeld => ?_); refine with_tabW whirligiglaw02_AluDecimals.tab9 whirligiglaw02_AluDecimals.bits9 (fun HT_ HW_ => ?_)
      generalize w38.drew = w39 at BK180 BK189 BK195 HB hHeld ⊢
      refine pure_ (i := 0) (N := some 44) (v := ?_) (a' := ?_) #[true, false, false, false, false, false, false, false, false, false, false, false] rfl rfl (any_of HT_.out (by kernel_rfl)) (fun _ _ _ h => h) (Or.inl ⟨by rfl, ?_⟩) ?_ ?_
      rotate_left
      ·intro w'
       go_simp
       with_reducible rfl
      rotate_left
      ·simp only [Act.put, List.setIfInBounds_toArray, List.set_cons_zero, List.set_cons_succ, i64_w, i32_w]
       rfl
      refine pure_ (i := 2) (N := some 46) (v := ?_) (a' := ?_) #[true, false, true, false, false, false, false, false, false, false, false, false] rfl rfl (any_of HT_.out (by kernel_rfl)) (fun _ _ _ h => h) (Or.inl ⟨by rfl, ?_⟩) ?_ ?_
      rotate_left
      ·intro w'
       go_simp
       with_reducible rfl
      rotate_left
      ·simp only [Act.put, List.setIfInBounds_toArray, List.set_cons_zero, List.set_cons_succ, i64_w, i32_w]
       rfl
      refine take_ (i := 4) (N := some 48) (v := ?_) (a' := ?_) #[true, false, true, false, true, false, false, false, false, false, false, false] rfl rfl (take_ofW HT_.out HW_.out (by kernel_rfl)) (fun _ _ _ h => h) (Or.inl ⟨by rfl, ?_⟩) hHeld ?_ ?_
      rotate_left
      ·rintro w' ⟨s0, s1, s2, s3⟩
       go_simp
       with_reducible rfl
      rotate_left
      ·simp only [Act.put, List.setIfInBounds_toArray, List.set_cons_zero, List.set_cons_succ, i64_w, i32_w]
       rfl
      refine join_ (σ := Nat) 2 #[true, true, true, true, true, true, true, true, true, true, false, false] (fun s_ => [(45, .int .u8 t196), (47, .int .u8 t197), (49, .tuple #[.int .u8 t198, .agg #[.bool t199, .bool t200, .bool t201, .bool t202]]), (16, .pointer (some ⟨s_, 0, none⟩)), (43, .tuple #[.int .u8 t198, .agg #[.bool t199, .bool t200, .bool t201, .bool t202]]), (50, .int .u8 t198), (51, .agg #[.bool t199, .bool t200, .bool t201, .bool t202])]) (fun s_ w' => (w'.cell? ⟨gb180, 0, none⟩ = some (.bool a2_0) ∧ w'.cell? ⟨gb180, 1, none⟩ = some (.bool a2_1) ∧ w'.cell? ⟨gb180, 2, none⟩ = some (.bool a2_2) ∧ w'.cell? ⟨gb180, 3, none⟩ = some (.bool true)) ∧ (w'.heap[gb180]? = some (.cells #[.bool a2_0, .bool a2_1, .bool a2_2, .bool true] 23 (0, 0))) ∧ (w'.heap[gb189]? = some (.cells #[.bool t185, .bool t186, .bool t187, .bool t188] 23 (0, 0))) ∧ (w'.heap[gb195]? = some (.cells #[.bool t191, .bool t192, .bool t193, .bool t194] 23 (0, 0))) ∧ (w'.heap[s_]? = some (.cells #[.bool false, .bool false, .bool false, .bool false] 23 (0, 0))) ∧ (w.heap.size ≤ s_) ∧ (w.heap.size ≤ s_) ∧ (gb180 ≠ s_) ∧ (s_ ≠ gb180) ∧ (gb189 ≠ s_) ∧ (s_ ≠ gb189) ∧ (gb195 ≠ s_) ∧ (s_ ≠ gb195) ∧ (Below w.heap.size w w')) ?_ ?_
      rotate_left
      ·intro hCont
       refine two_ (i := 1) (j := 9) (Ni := some 45) (Nj := some 16) #[true, true, true, false, true, false, false, false, false, false, false, false] #[true, false, true, false, true, false, false, false, false, true, false, false] rfl rfl rfl rfl (two_of HT_.out (by kernel_rfl)) (by decide) (by decide) (fun K hK => ?_) (fun K hK => ?_)
       ·skip
        refine goes_ Try.func20 (by kernel_rfl) rfl #[.int .i64 (wrap64 (Int.tmod a0 100))] (by rfl) rfl rfl (by (try simp only [List.map_toArray, List.map_cons, List.map_nil]); first | done | rfl | (simp only [List.length_drop, List.length_take]; rfl)) ?_
        with_reducible refine (whirligiglaw02_decimal.calls (wrap64 (Int.tmod a0 100)) t196 _ A10.out).mono ?_
        rintro e w' ⟨rfl, ⟨nd, rfl⟩⟩
        refine ⟨_, rfl, ?_⟩
        refine hK.out _ _ ⟨(blk_cell BK180.out 0).trans rfl, (blk_cell BK180.out 1).trans rfl, (blk_cell BK180.out 2).trans rfl, (blk_cell BK180.out 3).trans rfl⟩ (fun hHeld => ?_)
        clear hK K
        refine norm_ (a' := ?_) ?_ ?_
        rotate_left
        ·show Act.put _ (some 45) _ = _
         simp only [Act.put, List.setIfInBounds_toArray, List.set_cons_zero, List.set_cons_succ, i64_w, i32_w]
         rfl
        refine two_ (i := 3) (j := 9) (Ni := some 47) (Nj := some 16) #[true, true, true, true, true, false, false, false, false, false, false, false] #[true, true, true, false, true, false, false, false, false, true, false, false] rfl rfl rfl rfl (two_of HT_.out (by kernel_rfl)) (by decide) (by decide) (fun K hK => ?_) (fun K hK => ?_)
        ·skip
         refine goes_ Try.func20 (by kernel_rfl) rfl #[.int .i64 (wrap64 (Int.tmod a1 100))] (by rfl) rfl rfl (by (try simp only [List.map_toArray, List.map_cons, List.map_nil]); first | done | rfl | (simp only [List.length_drop, List.length_take]; rfl)) ?_
         with_reducible refine (whirligiglaw02_decimal.calls (wrap64 (Int.tmod a1 100)) t197 _ A11.out).mono ?_
         rintro e w' ⟨rfl, ⟨nd, rfl⟩⟩
         refine ⟨_, rfl, ?_⟩
         refine hK.out _ _ ⟨(blk_cell BK180.out 0).trans rfl, (blk_cell BK180.out 1).trans rfl, (blk_cell BK180.out 2).trans rfl, (blk_cell BK180.out 3).trans rfl⟩ (fun hHeld => ?_)
         clear hK K
         refine norm_ (a' := ?_) ?_ ?_
         rotate_left
         ·show Act.put _ (some 47) _ = _
          simp only [Act.put, List.setIfInBounds_toArray, List.set_cons_zero, List.set_cons_succ, i64_w, i32_w]
          rfl
         refine two_ (i := 5) (j := 9) (Ni := some 49) (Nj := some 16) #[true, true, true, true, true, true, false, false, false, false, false, false] #[true, true, true, true, true, false, false, false, false, true, false, false] rfl rfl rfl rfl (two_of HT_.out (by kernel_rfl)) (by decide) (by decide) (fun K hK => ?_) (fun K hK => ?_)
         ·skip
          refine goes_ Try.func12 (by kernel_rfl) rfl #[.int .i64 3, .int .u8 t196, .int .u8 t197, .agg #[.bool a2_0, .bool a2_1, .bool a2_2, .bool true]] (by rfl) rfl rfl (by (try simp only [List.map_toArray, List.map_cons, List.map_nil]); first | done | rfl | (simp only [List.length_drop, List.length_take]; rfl)) ?_
          with_reducible refine (alu_Do.calls 3 t196 t197 a2_0 a2_1 a2_2 true t198 t199 t200 t201 t202 _ A12.out).mono ?_
          rintro e w40 ⟨rfl, hb⟩
          refine ⟨_, rfl, ?_⟩
          have n0_ := Aside0.mk (blk_below (g := gb180) (o := .cells #[.bool a2_0, .bool a2_1, .bool a2_2, .bool true] 23 (0, 0)) (by (with_reducible repeat (first | refine blk_drewN ?_ _ | refine blk_drew ?_ | refine blk_alloc ?_ _)); exact BK180.out) hb)
          have n1_ := Aside0.mk (blk_below (g := gb189) (o := .cells #[.bool t185, .bool t186, .bool t187, .bool t188] 23 (0, 0)) (by (with_reducible repeat (first | refine blk_drewN ?_ _ | refine blk_drew ?_ | refine blk_alloc ?_ _)); exact BK189.out) hb)
          have n2_ := Aside0.mk (blk_below (g := gb195) (o := .cells #[.bool t191, .bool t192, .bool t193, .bool t194] 23 (0, 0)) (by (with_reducible repeat (first | refine blk_drewN ?_ _ | refine blk_drew ?_ | refine blk_alloc ?_ _)); exact BK195.out) hb)
          have n3_ := Aside0.mk (below_step (by repeat (first | (with_reducible first | exact HB.out | apply below_alloc | apply pw_below_drewN | apply below_drew1 | refine below_set ?_ GE180.out | refine below_set ?_ GE189.out | refine below_set ?_ GE195.out) | exact HB.out)) hb)
          clear BK180
          clear BK189
          clear BK195
          clear HB
          have BK180 := n0_
          have BK189 := n1_
          have BK195 := n2_
          have HB := n3_
          clear n0_ n1_ n2_ n3_
          (try clear hb)
          (try clear hb2)
          (try clear hk)
          (try clear hi)
          refine hK.out _ _ ⟨(blk_cell BK180.out 0).trans rfl, (blk_cell BK180.out 1).trans rfl, (blk_cell BK180.out 2).trans rfl, (blk_cell BK180.out 3).trans rfl⟩ (fun hHeld => ?_)
          clear hK K
          refine norm_ (a' := ?_) ?_ ?_
          rotate_left
          ·show Act.put _ (some 49) _ = _
           simp only [Act.put, List.setIfInBounds_toArray, List.set_cons_zero, List.set_cons_succ, i64_w, i32_w]
           rfl
          refine pure_ (i := 6) (N := some 43) (v := ?_) (a' := ?_) #[true, true, true, true, true, true, true, false, false, false, false, false] rfl rfl (any_of HT_.out (by kernel_rfl)) (fun _ _ _ h => h) (Or.inl ⟨by rfl, ?_⟩) ?_ ?_
          rotate_left
          ·intro w'
           go_simp
           with_reducible rfl
          rotate_left
          ·simp only [Act.put, List.setIfInBounds_toArray, List.set_cons_zero, List.set_cons_succ, i64_w, i32_w]
           rfl
          refine pure_ (i := 7) (N := some 50) (v := ?_) (a' := ?_) #[true, true, true, true, true, true, true, true, false, false, false, false] rfl rfl (any_of HT_.out (by kernel_rfl)) (fun _ _ _ h => h) (Or.inl ⟨by rfl, ?_⟩) ?_ ?_
          rotate_left
          ·intro w'
           go_simp
           with_reducible rfl
          rotate_left
          ·simp only [Act.put, List.setIfInBounds_toArray, List.set_cons_zero, List.set_cons_succ, i64_w, i32_w]
           rfl
          refine pure_ (i := 8) (N := some 51) (v := ?_) (a' := ?_) #[true, true, true, true, true, true, true, true, true, false, false, false] rfl rfl (any_of HT_.out (by kernel_rfl)) (fun _ _ _ h => h) (Or.inl ⟨by rfl, ?_⟩) ?_ ?_
          rotate_left
          ·intro w'
           go_simp
           with_reducible rfl
          rotate_left
          ·simp only [Act.put, List.setIfInBounds_toArray, List.set_cons_zero, List.set_cons_succ, i64_w, i32_w]
           rfl
          refine one_ (i := 9) (N := some 16) #[true, true, true, true, true, true, true, true, true, true, false, false] rfl rfl (one_of HT_.out (by kernel_rfl)) (by decide) (fun K hK => ?_)
          refine box_step ?hg (N := 16) ?hd (cs := #[.bool false, .bool false, .bool false, .bool false]) (t := 23) ?hr ?_; (case hd => rfl); (case hg => rfl); (case hr => first | (go_simp; done) | (go_simp; rfl))
          intro gb203 hg w41 hbox hb
          have n0_ := Aside0.mk (blk_below (g := gb180) (o := .cells #[.bool a2_0, .bool a2_1, .bool a2_2, .bool true] 23 (0, 0)) (by (with_reducible repeat (first | refine blk_drewN ?_ _ | refine blk_drew ?_ | refine blk_alloc ?_ _)); exact BK180.out) hb)
          have n1_ := Aside0.mk (blk_below (g := gb189) (o := .cells #[.bool t185, .bool t186, .bool t187, .bool t188] 23 (0, 0)) (by (with_reducible repeat (first | refine blk_drewN ?_ _ | refine blk_drew ?_ | refine blk_alloc ?_ _)); exact BK189.out) hb)
          have n2_ := Aside0.mk (blk_below (g := gb195) (o := .cells #[.bool t191, .bool t192, .bool t193, .bool t194] 23 (0, 0)) (by (with_reducible repeat (first | refine blk_drewN ?_ _ | refine blk_drew ?_ | refine blk_alloc ?_ _)); exact BK195.out) hb)
          have n3_ := Aside0.mk (below_step (by repeat (first | (with_reducible first | exact HB.out | apply below_alloc | apply pw_below_drewN | apply below_drew1 | refine below_set ?_ GE180.out | refine below_set ?_ GE189.out | refine below_set ?_ GE195.out) | exact HB.out)) hb)
          have n4_ := Aside0.mk (hbox)
          have n5_ := Aside0.mk ((by rw [hg]; exact (below_size (by repeat (first | (with_reducible first | exact HB.out | apply below_alloc | apply pw_below_drewN | apply below_drew1 | refine below_set ?_ GE180.out | refine below_set ?_ GE189.out | refine below_set ?_ GE195.out) | exact HB.out))) : w.heap.size ≤ gb203))
          have n6_ := Aside0.mk ((by rw [hg]; exact (below_size (by repeat (first | (with_reducible first | exact HB.out | apply below_alloc | apply pw_below_drewN | apply below_drew1 | refine below_set ?_ GE180.out | refine below_set ?_ GE189.out | refine below_set ?_ GE195.out) | exact HB.out))) : w.heap.size ≤ gb203))
          have n7_ := Aside0.mk ((by rw [hg]; exact Nat.ne_of_lt (blk_lt (g := gb180) (o := .cells #[.bool a2_0, .bool a2_1, .bool a2_2, .bool true] 23 (0, 0)) (by (with_reducible repeat (first | refine blk_drewN ?_ _ | refine blk_drew ?_ | refine blk_alloc ?_ _)); exact BK180.out)) : gb180 ≠ gb203))
          have n8_ := Aside0.mk ((by rw [hg]; exact Nat.ne_of_gt (blk_lt (g := gb180) (o := .cells #[.bool a2_0, .bool a2_1, .bool a2_2, .bool true] 23 (0, 0)) (by (with_reducible repeat (first | refine blk_drewN ?_ _ | refine blk_drew ?_ | refine blk_alloc ?_ _)); exact BK180.out)) : gb203 ≠ gb180))
          have n9_ := Aside0.mk ((by rw [hg]; exact Nat.ne_of_lt (blk_lt (g := gb189) (o := .cells #[.bool t185, .bool t186, .bool t187, .bool t188] 23 (0, 0)) (by (with_reducible repeat (first | refine blk_drewN ?_ _ | refine blk_drew ?_ | refine blk_alloc ?_ _)); exact BK189.out)) : gb189 ≠ gb203))
          have n10_ := Aside0.mk ((by rw [hg]; exact Nat.ne_of_gt (blk_lt (g := gb189) (o := .cells #[.bool t185, .bool t186, .bool t187, .bool t188] 23 (0, 0)) (by (with_reducible repeat (first | refine blk_drewN ?_ _ | refine blk_drew ?_ | refine blk_alloc ?_ _)); exact BK189.out)) : gb203 ≠ gb189))
          have n11_ := Aside0.mk ((by rw [hg]; exact Nat.ne_of_lt (blk_lt (g := gb195) (o := .cells #[.bool t191, .bool t192, .bool t193, .bool t194] 23 (0, 0)) (by (with_reducible repeat (first | refine blk_drewN ?_ _ | refine blk_drew ?_ | refine blk_alloc ?_ _)); exact BK195.out)) : gb195 ≠ gb203))
          have n12_ := Aside0.mk ((by rw [hg]; exact Nat.ne_of_gt (blk_lt (g := gb195) (o := .cells #[.bool t191, .bool t192, .bool t193, .bool t194] 23 (0, 0)) (by (with_reducible repeat (first | refine blk_drewN ?_ _ | refine blk_drew ?_ | refine blk_alloc ?_ _)); exact BK195.out)) : gb203 ≠ gb195))
          clear BK180
          clear BK189
          clear BK195
          clear HB
          have BK180 := n0_
          have BK189 := n1_
          have BK195 := n2_
          have HB := n3_
          have BK203 := n4_
          have GW203 := n5_
          have GE203 := n6_
          have NB180_203 := n7_
          have NB203_180 := n8_
          have NB189_203 := n9_
          have NB203_189 := n10_
          have NB195_203 := n11_
          have NB203_195 := n12_
          clear n0_ n1_ n2_ n3_ n4_ n5_ n6_ n7_ n8_ n9_ n10_ n11_ n12_
          clear hb hbox hg
          refine hK.out _ _ ⟨(blk_cell BK180.out 0).trans rfl, (blk_cell BK180.out 1).trans rfl, (blk_cell BK180.out 2).trans rfl, (blk_cell BK180.out 3).trans rfl⟩ (fun hHeld => ?_)
          clear hK K
          refine norm_ (a' := ?_) ?_ ?_
          rotate_left
          ·show Act.put _ (some 16) _ = _
           simp only [Act.put, List.setIfInBounds_toArray, List.set_cons_zero, List.set_cons_succ, i64_w, i32_w]
           rfl
          exact norm_ (by simp only [putAll, Act.put, List.setIfInBounds_toArray, List.set_cons_zero, List.set_cons_succ]) (hCont (gb203) _ ⟨hHeld, (by (with_reducible repeat (first | refine blk_drewN ?_ _ | refine blk_drew ?_ | refine blk_alloc ?_ _)); exact BK180.out), (by (with_reducible repeat (first | refine blk_drewN ?_ _ | refine blk_drew ?_ | refine blk_alloc ?_ _)); exact BK189.out), (by (with_reducible repeat (first | refine blk_drewN ?_ _ | refine blk_drew ?_ | refine blk_alloc ?_ _)); exact BK195.out), (by (with_reducible repeat (first | refine blk_drewN ?_ _ | refine blk_drew ?_ | refine blk_alloc ?_ _)); exact BK203.out), GW203.out, GE203.out, NB180_203.out, NB203_180.out, NB189_203.out, NB203_189.out, NB195_203.out, NB203_195.out, (by repeat (first | (with_reducible first | exact HB.out | apply below_alloc | apply pw_below_drewN | apply below_drew1 | refine below_set ?_ GE180.out | refine below_set ?_ GE189.out | refine below_set ?_ GE195.out | refine below_set ?_ GE203.out) | exact HB.out))⟩)
         ·skip
          refine box_step ?hg (N := 16) ?hd (cs := #[.bool false, .bool false, .bool false, .bool false]) (t := 23) ?hr ?_; (case hd => rfl); (case hg => rfl); (case hr => first | (go_simp; done) | (go_simp; rfl))
          intro gb203 hg w40 hbox hb
          have n0_ := Aside0.mk (blk_below (g := gb180) (o := .cells #[.bool a2_0, .bool a2_1, .bool a2_2, .bool true] 23 (0, 0)) (by (with_reducible repeat (first | refine blk_drewN ?_ _ | refine blk_drew ?_ | refine blk_alloc ?_ _)); exact BK180.out) hb)
          have n1_ := Aside0.mk (blk_below (g := gb189) (o := .cells #[.bool t185, .bool t186, .bool t187, .bool t188] 23 (0, 0)) (by (with_reducible repeat (first | refine blk_drewN ?_ _ | refine blk_drew ?_ | refine blk_alloc ?_ _)); exact BK189.out) hb)
          have n2_ := Aside0.mk (blk_below (g := gb195) (o := .cells #[.bool t191, .bool t192, .bool t193, .bool t194] 23 (0, 0)) (by (with_reducible repeat (first | refine blk_drewN ?_ _ | refine blk_drew ?_ | refine blk_alloc ?_ _)); exact BK195.out) hb)
          have n3_ := Aside0.mk (below_step (by repeat (first | (with_reducible first | exact HB.out | apply below_alloc | apply pw_below_drewN | apply below_drew1 | refine below_set ?_ GE180.out | refine below_set ?_ GE189.out | refine below_set ?_ GE195.out) | exact HB.out)) hb)
          have n4_ := Aside0.mk (hbox)
          have n5_ := Aside0.mk ((by rw [hg]; exact (below_size (by repeat (first | (with_reducible first | exact HB.out | apply below_alloc | apply pw_below_drewN | apply below_drew1 | refine below_set ?_ GE180.out | refine below_set ?_ GE189.out | refine below_set ?_ GE195.out) | exact HB.out))) : w.heap.size ≤ gb203))
          have n6_ := Aside0.mk ((by rw [hg]; exact (below_size (by repeat (first | (with_reducible first | exact HB.out | apply below_alloc | apply pw_below_drewN | apply below_drew1 | refine below_set ?_ GE180.out | refine below_set ?_ GE189.out | refine below_set ?_ GE195.out) | exact HB.out))) : w.heap.size ≤ gb203))
          have n7_ := Aside0.mk ((by rw [hg]; exact Nat.ne_of_lt (blk_lt (g := gb180) (o := .cells #[.bool a2_0, .bool a2_1, .bool a2_2, .bool true] 23 (0, 0)) (by (with_reducible repeat (first | refine blk_drewN ?_ _ | refine blk_drew ?_ | refine blk_alloc ?_ _)); exact BK180.out)) : gb180 ≠ gb203))
          have n8_ := Aside0.mk ((by rw [hg]; exact Nat.ne_of_gt (blk_lt (g := gb180) (o := .cells #[.bool a2_0, .bool a2_1, .bool a2_2, .bool true] 23 (0, 0)) (by (with_reducible repeat (first | refine blk_drewN ?_ _ | refine blk_drew ?_ | refine blk_alloc ?_ _)); exact BK180.out)) : gb203 ≠ gb180))
          have n9_ := Aside0.mk ((by rw [hg]; exact Nat.ne_of_lt (blk_lt (g := gb189) (o := .cells #[.bool t185, .bool t186, .bool t187, .bool t188] 23 (0, 0)) (by (with_reducible repeat (first | refine blk_drewN ?_ _ | refine blk_drew ?_ | refine blk_alloc ?_ _)); exact BK189.out)) : gb189 ≠ gb203))
          have n10_ := Aside0.mk ((by rw [hg]; exact Nat.ne_of_gt (blk_lt (g := gb189) (o := .cells #[.bool t185, .bool t186, .bool t187, .bool t188] 23 (0, 0)) (by (with_reducible repeat (first | refine blk_drewN ?_ _ | refine blk_drew ?_ | refine blk_alloc ?_ _)); exact BK189.out)) : gb203 ≠ gb189))
          have n11_ := Aside0.mk ((by rw [hg]; exact Nat.ne_of_lt (blk_lt (g := gb195) (o := .cells #[.bool t191, .bool t192, .bool t193, .bool t194] 23 (0, 0)) (by (with_reducible repeat (first | refine blk_drewN ?_ _ | refine blk_drew ?_ | refine blk_alloc ?_ _)); exact BK195.out)) : gb195 ≠ gb203))
          have n12_ := Aside0.mk ((by rw [hg]; exact Nat.ne_of_gt (blk_lt (g := gb195) (o := .cells #[.bool t191, .bool t192, .bool t193, .bool t194] 23 (0, 0)) (by (with_reducible repeat (first | refine blk_drewN ?_ _ | refine blk_drew ?_ | refine blk_alloc ?_ _)); exact BK195.out)) : gb203 ≠ gb195))
          clear BK180
          clear BK189
          clear BK195
          clear HB
          have BK180 := n0_
          have BK189 := n1_
          have BK195 := n2_
          have HB := n3_
          have BK203 := n4_
          have GW203 := n5_
          have GE203 := n6_
          have NB180_203 := n7_
          have NB203_180 := n8_
          have NB189_203 := n9_
          have NB203_189 := n10_
          have NB195_203 := n11_
          have NB203_195 := n12_
          clear n0_ n1_ n2_ n3_ n4_ n5_ n6_ n7_ n8_ n9_ n10_ n11_ n12_
          clear hb hbox hg
          refine hK.out _ _ ⟨(blk_cell BK180.out 0).trans rfl, (blk_cell BK180.out 1).trans rfl, (blk_cell BK180.out 2).trans rfl, (blk_cell BK180.out 3).trans rfl⟩ (fun hHeld => ?_)
          clear hK K
          refine norm_ (a' := ?_) ?_ ?_
          rotate_left
          ·show Act.put _ (some 16) _ = _
           simp only [Act.put, List.setIfInBounds_toArray, List.set_cons_zero, List.set_cons_succ, i64_w, i32_w]
           rfl
          refine one_ (i := 5) (N := some 49) #[true, true, true, true, true, true, false, false, false, true, false, false] rfl rfl (one_of HT_.out (by kernel_rfl)) (by decide) (fun K hK => ?_)
          refine goes_ Try.func12 (by kernel_rfl) rfl #[.int .i64 3, .int .u8 t196, .int .u8 t197, .agg #[.bool a2_0, .bool a2_1, .bool a2_2, .bool true]] (by rfl) rfl rfl (by (try simp only [List.map_toArray, List.map_cons, List.map_nil]); first | done | rfl | (simp only [List.length_drop, List.length_take]; rfl)) ?_
          with_reducible refine (alu_Do.calls 3 t196 t197 a2_0 a2_1 a2_2 true t198 t199 t200 t201 t202 _ A12.out).mono ?_
          rintro e w41 ⟨rfl, hb⟩
          refine ⟨_, rfl, ?_⟩
          have n0_ := Aside0.mk (blk_below (g := gb180) (o := .cells #[.bool a2_0, .bool a2_1, .bool a2_2, .bool true] 23 (0, 0)) (by (with_reducible repeat (first | refine blk_drewN ?_ _ | refine blk_drew ?_ | refine blk_alloc ?_ _)); exact BK180.out) hb)
          have n1_ := Aside0.mk (blk_below (g := gb189) (o := .cells #[.bool t185, .bool t186, .bool t187, .bool t188] 23 (0, 0)) (by (with_reducible repeat (first | refine blk_drewN ?_ _ | refine blk_drew ?_ | refine blk_alloc ?_ _)); exact BK189.out) hb)
          have n2_ := Aside0.mk (blk_below (g := gb195) (o := .cells #[.bool t191, .bool t192, .bool t193, .bool t194] 23 (0, 0)) (by (with_reducible repeat (first | refine blk_drewN ?_ _ | refine blk_drew ?_ | refine blk_alloc ?_ _)); exact BK195.out) hb)
          have n3_ := Aside0.mk (blk_below (g := gb203) (o := .cells #[.bool false, .bool false, .bool false, .bool false] 23 (0, 0)) (by (with_reducible repeat (first | refine blk_drewN ?_ _ | refine blk_drew ?_ | refine blk_alloc ?_ _)); exact BK203.out) hb)
          have n4_ := Aside0.mk (below_step (by repeat (first | (with_reducible first | exact HB.out | apply below_alloc | apply pw_below_drewN | apply below_drew1 | refine below_set ?_ GE180.out | refine below_set ?_ GE189.out | refine below_set ?_ GE195.out | refine below_set ?_ GE203.out) | exact HB.out)) hb)
          clear BK180
          clear BK189
          clear BK195
          clear BK203
          clear HB
          have BK180 := n0_
          have BK189 := n1_
          have BK195 := n2_
          have BK203 := n3_
          have HB := n4_
          clear n0_ n1_ n2_ n3_ n4_
          (try clear hb)
          (try clear hb2)
          (try clear hk)
          (try clear hi)
          refine hK.out _ _ ⟨(blk_cell BK180.out 0).trans rfl, (blk_cell BK180.out 1).trans rfl, (blk_cell BK180.out 2).trans rfl, (blk_cell BK180.out 3).trans rfl⟩ (fun hHeld => ?_)
          clear hK K
          refine norm_ (a' := ?_) ?_ ?_
          rotate_left
          ·show Act.put _ (some 49) _ = _
           simp only [Act.put, List.setIfInBounds_toArray, List.set_cons_zero, List.set_cons_succ, i64_w, i32_w]
           rfl
          refine pure_ (i := 6) (N := some 43) (v := ?_) (a' := ?_) #[true, true, true, true, true, true, true, false, false, true, false, false] rfl rfl (any_of HT_.out (by kernel_rfl)) (fun _ _ _ h => h) (Or.inl ⟨by rfl, ?_⟩) ?_ ?_
          rotate_left
          ·intro w'
           go_simp
           with_reducible rfl
          rotate_left
          ·simp only [Act.put, List.setIfInBounds_toArray, List.set_cons_zero, List.set_cons_succ, i64_w, i32_w]
           rfl
          refine pure_ (i := 7) (N := some 50) (v := ?_) (a' := ?_) #[true, true, true, true, true, true, true, true, false, true, false, false] rfl rfl (any_of HT_.out (by kernel_rfl)) (fun _ _ _ h => h) (Or.inl ⟨by rfl, ?_⟩) ?_ ?_
          rotate_left
          ·intro w'
           go_simp
           with_reducible rfl
          rotate_left
          ·simp only [Act.put, List.setIfInBounds_toArray, List.set_cons_zero, List.set_cons_succ, i64_w, i32_w]
           rfl
          refine pure_ (i := 8) (N := some 51) (v := ?_) (a' := ?_) #[true, true, true, true, true, true, true, true, true, true, false, false] rfl rfl (any_of HT_.out (by kernel_rfl)) (fun _ _ _ h => h) (Or.inl ⟨by rfl, ?_⟩) ?_ ?_
          rotate_left
          ·intro w'
           go_simp
           with_reducible rfl
          rotate_left
          ·simp only [Act.put, List.setIfInBounds_toArray, List.set_cons_zero, List.set_cons_succ, i64_w, i32_w]
           rfl
          exact norm_ (by simp only [putAll, Act.put, List.setIfInBounds_toArray, List.set_cons_zero, List.set_cons_succ]) (hCont (gb203) _ ⟨hHeld, (by (with_reducible repeat (first | refine blk_drewN ?_ _ | refine blk_drew ?_ | refine blk_alloc ?_ _)); exact BK180.out), (by (with_reducible repeat (first | refine blk_drewN ?_ _ | refine blk_drew ?_ | refine blk_alloc ?_ _)); exact BK189.out), (by (with_reducible repeat (first | refine blk_drewN ?_ _ | refine blk_drew ?_ | refine blk_alloc ?_ _)); exact BK195.out), (by (with_reducible repeat (first | refine blk_drewN ?_ _ | refine blk_drew ?_ | refine blk_alloc ?_ _)); exact BK203.out), GW203.out, GE203.out, NB180_203.out, NB203_180.out, NB189_203.out, NB203_189.out, NB195_203.out, NB203_195.out, (by repeat (first | (with_reducible first | exact HB.out | apply below_alloc | apply pw_below_drewN | apply below_drew1 | refine below_set ?_ GE180.out | refine below_set ?_ GE189.out | refine below_set ?_ GE195.out | refine below_set ?_ GE203.out) | exact HB.out))⟩)
        ·skip
         refine box_step ?hg (N := 16) ?hd (cs := #[.bool false, .bool false, .bool false, .bool false]) (t := 23) ?hr ?_; (case hd => rfl); (case hg => rfl); (case hr => first | (go_simp; done) | (go_simp; rfl))
         intro gb203 hg w40 hbox hb
         have n0_ := Aside0.mk (blk_below (g := gb180) (o := .cells #[.bool a2_0, .bool a2_1, .bool a2_2, .bool true] 23 (0, 0)) (by (with_reducible repeat (first | refine blk_drewN ?_ _ | refine blk_drew ?_ | refine blk_alloc ?_ _)); exact BK180.out) hb)
         have n1_ := Aside0.mk (blk_below (g := gb189) (o := .cells #[.bool t185, .bool t186, .bool t187, .bool t188] 23 (0, 0)) (by (with_reducible repeat (first | refine blk_drewN ?_ _ | refine blk_drew ?_ | refine blk_alloc ?_ _)); exact BK189.out) hb)
         have n2_ := Aside0.mk (blk_below (g := gb195) (o := .cells #[.bool t191, .bool t192, .bool t193, .bool t194] 23 (0, 0)) (by (with_reducible repeat (first | refine blk_drewN ?_ _ | refine blk_drew ?_ | refine blk_alloc ?_ _)); exact BK195.out) hb)
         have n3_ := Aside0.mk (below_step (by repeat (first | (with_reducible first | exact HB.out | apply below_alloc | apply pw_below_drewN | apply below_drew1 | refine below_set ?_ GE180.out | refine below_set ?_ GE189.out | refine below_set ?_ GE195.out) | exact HB.out)) hb)
         have n4_ := Aside0.mk (hbox)
         have n5_ := Aside0.mk ((by rw [hg]; exact (below_size (by repeat (first | (with_reducible first | exact HB.out | apply below_alloc | apply pw_below_drewN | apply below_drew1 | refine below_set ?_ GE180.out | refine below_set ?_ GE189.out | refine below_set ?_ GE195.out) | exact HB.out))) : w.heap.size ≤ gb203))
         have n6_ := Aside0.mk ((by rw [hg]; exact (below_size (by repeat (first | (with_reducible first | exact HB.out | apply below_alloc | apply pw_below_drewN | apply below_drew1 | refine below_set ?_ GE180.out | refine below_set ?_ GE189.out | refine below_set ?_ GE195.out) | exact HB.out))) : w.heap.size ≤ gb203))
         have n7_ := Aside0.mk ((by rw [hg]; exact Nat.ne_of_lt (blk_lt (g := gb180) (o := .cells #[.bool a2_0, .bool a2_1, .bool a2_2, .bool true] 23 (0, 0)) (by (with_reducible repeat (first | refine blk_drewN ?_ _ | refine blk_drew ?_ | refine blk_alloc ?_ _)); exact BK180.out)) : gb180 ≠ gb203))
         have n8_ := Aside0.mk ((by rw [hg]; exact Nat.ne_of_gt (blk_lt (g := gb180) (o := .cells #[.bool a2_0, .bool a2_1, .bool a2_2, .bool true] 23 (0, 0)) (by (with_reducible repeat (first | refine blk_drewN ?_ _ | refine blk_drew ?_ | refine blk_alloc ?_ _)); exact BK180.out)) : gb203 ≠ gb180))
         have n9_ := Aside0.mk ((by rw [hg]; exact Nat.ne_of_lt (blk_lt (g := gb189) (o := .cells #[.bool t185, .bool t186, .bool t187, .bool t188] 23 (0, 0)) (by (with_reducible repeat (first | refine blk_drewN ?_ _ | refine blk_drew ?_ | refine blk_alloc ?_ _)); exact BK189.out)) : gb189 ≠ gb203))
         have n10_ := Aside0.mk ((by rw [hg]; exact Nat.ne_of_gt (blk_lt (g := gb189) (o := .cells #[.bool t185, .bool t186, .bool t187, .bool t188] 23 (0, 0)) (by (with_reducible repeat (first | refine blk_drewN ?_ _ | refine blk_drew ?_ | refine blk_alloc ?_ _)); exact BK189.out)) : gb203 ≠ gb189))
         have n11_ := Aside0.mk ((by rw [hg]; exact Nat.ne_of_lt (blk_lt (g := gb195) (o := .cells #[.bool t191, .bool t192, .bool t193, .bool t194] 23 (0, 0)) (by (with_reducible repeat (first | refine blk_drewN ?_ _ | refine blk_drew ?_ | refine blk_alloc ?_ _)); exact BK195.out)) : gb195 ≠ gb203))
         have n12_ := Aside0.mk ((by rw [hg]; exact Nat.ne_of_gt (blk_lt (g := gb195) (o := .cells #[.bool t191, .bool t192, .bool t193, .bool t194] 23 (0, 0)) (by (with_reducible repeat (first | refine blk_drewN ?_ _ | refine blk_drew ?_ | refine blk_alloc ?_ _)); exact BK195.out)) : gb203 ≠ gb195))
         clear BK180
         clear BK189
         clear BK195
         clear HB
         have BK180 := n0_
         have BK189 := n1_
         have BK195 := n2_
         have HB := n3_
         have BK203 := n4_
         have GW203 := n5_
         have GE203 := n6_
         have NB180_203 := n7_
         have NB203_180 := n8_
         have NB189_203 := n9_
         have NB203_189 := n10_
         have NB195_203 := n11_
         have NB203_195 := n12_
         clear n0_ n1_ n2_ n3_ n4_ n5_ n6_ n7_ n8_ n9_ n10_ n11_ n12_
         clear hb hbox hg
         refine hK.out _ _ ⟨(blk_cell BK180.out 0).trans rfl, (blk_cell BK180.out 1).trans rfl, (blk_cell BK180.out 2).trans rfl, (blk_cell BK180.out 3).trans rfl⟩ (fun hHeld => ?_)
         clear hK K
         refine norm_ (a' := ?_) ?_ ?_
         rotate_left
         ·show Act.put _ (some 16) _ = _
          simp only [Act.put, List.setIfInBounds_toArray, List.set_cons_zero, List.set_cons_succ, i64_w, i32_w]
          rfl
         refine one_ (i := 3) (N := some 47) #[true, true, true, true, true, false, false, false, false, true, false, false] rfl rfl (one_of HT_.out (by kernel_rfl)) (by decide) (fun K hK => ?_)
         refine goes_ Try.func20 (by kernel_rfl) rfl #[.int .i64 (wrap64 (Int.tmod a1 100))] (by rfl) rfl rfl (by (try simp only [List.map_toArray, List.map_cons, List.map_nil]); first | done | rfl | (simp only [List.length_drop, List.length_take]; rfl)) ?_
         with_reducible refine (whirligiglaw02_decimal.calls (wrap64 (Int.tmod a1 100)) t197 _ A11.out).mono ?_
         rintro e w' ⟨rfl, ⟨nd, rfl⟩⟩
         refine ⟨_, rfl, ?_⟩
         refine hK.out _ _ ⟨(blk_cell BK180.out 0).trans rfl, (blk_cell BK180.out 1).trans rfl, (blk_cell BK180.out 2).trans rfl, (blk_cell BK180.out 3).trans rfl⟩ (fun hHeld => ?_)
         clear hK K
         refine norm_ (a' := ?_) ?_ ?_
         rotate_left
         ·show Act.put _ (some 47) _ = _
          simp only [Act.put, List.setIfInBounds_toArray, List.set_cons_zero, List.set_cons_succ, i64_w, i32_w]
          rfl
         refine one_ (i := 5) (N := some 49) #[true, true, true, true, true, true, false, false, false, true, false, false] rfl rfl (one_of HT_.out (by kernel_rfl)) (by decide) (fun K hK => ?_)
         refine goes_ Try.func12 (by kernel_rfl) rfl #[.int .i64 3, .int .u8 t196, .int .u8 t197, .agg #[.bool a2_0, .bool a2_1, .bool a2_2, .bool true]] (by rfl) rfl rfl (by (try simp only [List.map_toArray, List.map_cons, List.map_nil]); first | done | rfl | (simp only [List.length_drop, List.length_take]; rfl)) ?_
         with_reducible refine (alu_Do.calls 3 t196 t197 a2_0 a2_1 a2_2 true t198 t199 t200 t201 t202 _ A12.out).mono ?_
         rintro e w41 ⟨rfl, hb⟩
         refine ⟨_, rfl, ?_⟩
         have n0_ := Aside0.mk (blk_below (g := gb180) (o := .cells #[.bool a2_0, .bool a2_1, .bool a2_2, .bool true] 23 (0, 0)) (by (with_reducible repeat (first | refine blk_drewN ?_ _ | refine blk_drew ?_ | refine blk_alloc ?_ _)); exact BK180.out) hb)
         have n1_ := Aside0.mk (blk_below (g := gb189) (o := .cells #[.bool t185, .bool t186, .bool t187, .bool t188] 23 (0, 0)) (by (with_reducible repeat (first | refine blk_drewN ?_ _ | refine blk_drew ?_ | refine blk_alloc ?_ _)); exact BK189.out) hb)
         have n2_ := Aside0.mk (blk_below (g := gb195) (o := .cells #[.bool t191, .bool t192, .bool t193, .bool t194] 23 (0, 0)) (by (with_reducible repeat (first | refine blk_drewN ?_ _ | refine blk_drew ?_ | refine blk_alloc ?_ _)); exact BK195.out) hb)
         have n3_ := Aside0.mk (blk_below (g := gb203) (o := .cells #[.bool false, .bool false, .bool false, .bool false] 23 (0, 0)) (by (with_reducible repeat (first | refine blk_drewN ?_ _ | refine blk_drew ?_ | refine blk_alloc ?_ _)); exact BK203.out) hb)
         have n4_ := Aside0.mk (below_step (by repeat (first | (with_reducible first | exact HB.out | apply below_alloc | apply pw_below_drewN | apply below_drew1 | refine below_set ?_ GE180.out | refine below_set ?_ GE189.out | refine below_set ?_ GE195.out | refine below_set ?_ GE203.out) | exact HB.out)) hb)
         clear BK180
         clear BK189
         clear BK195
         clear BK203
         clear HB
         have BK180 := n0_
         have BK189 := n1_
         have BK195 := n2_
         have BK203 := n3_
         have HB := n4_
         clear n0_ n1_ n2_ n3_ n4_
         (try clear hb)
         (try clear hb2)
         (try clear hk)
         (try clear hi)
         refine hK.out _ _ ⟨(blk_cell BK180.out 0).trans rfl, (blk_cell BK180.out 1).trans rfl, (blk_cell BK180.out 2).trans rfl, (blk_cell BK180.out 3).trans rfl⟩ (fun hHeld => ?_)
         clear hK K
         refine norm_ (a' := ?_) ?_ ?_
         rotate_left
         ·show Act.put _ (some 49) _ = _
          simp only [Act.put, List.setIfInBounds_toArray, List.set_cons_zero, List.set_cons_succ, i64_w, i32_w]
          rfl
         refine pure_ (i := 6) (N := some 43) (v := ?_) (a' := ?_) #[true, true, true, true, true, true, true, false, false, true, false, false] rfl rfl (any_of HT_.out (by kernel_rfl)) (fun _ _ _ h => h) (Or.inl ⟨by rfl, ?_⟩) ?_ ?_
         rotate_left
         ·intro w'
          go_simp
          with_reducible rfl
         rotate_left
         ·simp only [Act.put, List.setIfInBounds_toArray, List.set_cons_zero, List.set_cons_succ, i64_w, i32_w]
          rfl
         refine pure_ (i := 7) (N := some 50) (v := ?_) (a' := ?_) #[true, true, true, true, true, true, true, true, false, true, false, false] rfl rfl (any_of HT_.out (by kernel_rfl)) (fun _ _ _ h => h) (Or.inl ⟨by rfl, ?_⟩) ?_ ?_
         rotate_left
         ·intro w'
          go_simp
          with_reducible rfl
         rotate_left
         ·simp only [Act.put, List.setIfInBounds_toArray, List.set_cons_zero, List.set_cons_succ, i64_w, i32_w]
          rfl
         refine pure_ (i := 8) (N := some 51) (v := ?_) (a' := ?_) #[true, true, true, true, true, true, true, true, true, true, false, false] rfl rfl (any_of HT_.out (by kernel_rfl)) (fun _ _ _ h => h) (Or.inl ⟨by rfl, ?_⟩) ?_ ?_
         rotate_left
         ·intro w'
          go_simp
          with_reducible rfl
         rotate_left
         ·simp only [Act.put, List.setIfInBounds_toArray, List.set_cons_zero, List.set_cons_succ, i64_w, i32_w]
          rfl
         exact norm_ (by simp only [putAll, Act.put, List.setIfInBounds_toArray, List.set_cons_zero, List.set_cons_succ]) (hCont (gb203) _ ⟨hHeld, (by (with_reducible repeat (first | refine blk_drewN ?_ _ | refine blk_drew ?_ | refine blk_alloc ?_ _)); exact BK180.out), (by (with_reducible repeat (first | refine blk_drewN ?_ _ | refine blk_drew ?_ | refine blk_alloc ?_ _)); exact BK189.out), (by (with_reducible repeat (first | refine blk_drewN ?_ _ | refine blk_drew ?_ | refine blk_alloc ?_ _)); exact BK195.out), (by (with_reducible repeat (first | refine blk_drewN ?_ _ | refine blk_drew ?_ | refine blk_alloc ?_ _)); exact BK203.out), GW203.out, GE203.out, NB180_203.out, NB203_180.out, NB189_203.out, NB203_189.out, NB195_203.out, NB203_195.out, (by repeat (first | (with_reducible first | exact HB.out | apply below_alloc | apply pw_below_drewN | apply below_drew1 | refine below_set ?_ GE180.out | refine below_set ?_ GE189.out | refine below_set ?_ GE195.out | refine below_set ?_ GE203.out) | exact HB.out))⟩)
       ·skip
        refine box_step ?hg (N := 16) ?hd (cs := #[.bool false, .bool false, .bool false, .bool false]) (t := 23) ?hr ?_; (case hd => rfl); (case hg => rfl); (case hr => first | (go_simp; done) | (go_simp; rfl))
        intro gb203 hg w40 hbox hb
        have n0_ := Aside0.mk (blk_below (g := gb180) (o := .cells #[.bool a2_0, .bool a2_1, .bool a2_2, .bool true] 23 (0, 0)) (by (with_reducible repeat (first | refine blk_drewN ?_ _ | refine blk_drew ?_ | refine blk_alloc ?_ _)); exact BK180.out) hb)
        have n1_ := Aside0.mk (blk_below (g := gb189) (o := .cells #[.bool t185, .bool t186, .bool t187, .bool t188] 23 (0, 0)) (by (with_reducible repeat (first | refine blk_drewN ?_ _ | refine blk_drew ?_ | refine blk_alloc ?_ _)); exact BK189.out) hb)
        have n2_ := Aside0.mk (blk_below (g := gb195) (o := .cells #[.bool t191, .bool t192, .bool t193, .bool t194] 23 (0, 0)) (by (with_reducible repeat (first | refine blk_drewN ?_ _ | refine blk_drew ?_ | refine blk_alloc ?_ _)); exact BK195.out) hb)
        have n3_ := Aside0.mk (below_step (by repeat (first | (with_reducible first | exact HB.out | apply below_alloc | apply pw_below_drewN | apply below_drew1 | refine below_set ?_ GE180.out | refine below_set ?_ GE189.out | refine below_set ?_ GE195.out) | exact HB.out)) hb)
        have n4_ := Aside0.mk (hbox)
        have n5_ := Aside0.mk ((by rw [hg]; exact (below_size (by repeat (first | (with_reducible first | exact HB.out | apply below_alloc | apply pw_below_drewN | apply below_drew1 | refine below_set ?_ GE180.out | refine below_set ?_ GE189.out | refine below_set ?_ GE195.out) | exact HB.out))) : w.heap.size ≤ gb203))
        have n6_ := Aside0.mk ((by rw [hg]; exact (below_size (by repeat (first | (with_reducible first | exact HB.out | apply below_alloc | apply pw_below_drewN | apply below_drew1 | refine below_set ?_ GE180.out | refine below_set ?_ GE189.out | refine below_set ?_ GE195.out) | exact HB.out))) : w.heap.size ≤ gb203))
        have n7_ := Aside0.mk ((by rw [hg]; exact Nat.ne_of_lt (blk_lt (g := gb180) (o := .cells #[.bool a2_0, .bool a2_1, .bool a2_2, .bool true] 23 (0, 0)) (by (with_reducible repeat (first | refine blk_drewN ?_ _ | refine blk_drew ?_ | refine blk_alloc ?_ _)); exact BK180.out)) : gb180 ≠ gb203))
        have n8_ := Aside0.mk ((by rw [hg]; exact Nat.ne_of_gt (blk_lt (g := gb180) (o := .cells #[.bool a2_0, .bool a2_1, .bool a2_2, .bool true] 23 (0, 0)) (by (with_reducible repeat (first | refine blk_drewN ?_ _ | refine blk_drew ?_ | refine blk_alloc ?_ _)); exact BK180.out)) : gb203 ≠ gb180))
        have n9_ := Aside0.mk ((by rw [hg]; exact Nat.ne_of_lt (blk_lt (g := gb189) (o := .cells #[.bool t185, .bool t186, .bool t187, .bool t188] 23 (0, 0)) (by (with_reducible repeat (first | refine blk_drewN ?_ _ | refine blk_drew ?_ | refine blk_alloc ?_ _)); exact BK189.out)) : gb189 ≠ gb203))
        have n10_ := Aside0.mk ((by rw [hg]; exact Nat.ne_of_gt (blk_lt (g := gb189) (o := .cells #[.bool t185, .bool t186, .bool t187, .bool t188] 23 (0, 0)) (by (with_reducible repeat (first | refine blk_drewN ?_ _ | refine blk_drew ?_ | refine blk_alloc ?_ _)); exact BK189.out)) : gb203 ≠ gb189))
        have n11_ := Aside0.mk ((by rw [hg]; exact Nat.ne_of_lt (blk_lt (g := gb195) (o := .cells #[.bool t191, .bool t192, .bool t193, .bool t194] 23 (0, 0)) (by (with_reducible repeat (first | refine blk_drewN ?_ _ | refine blk_drew ?_ | refine blk_alloc ?_ _)); exact BK195.out)) : gb195 ≠ gb203))
        have n12_ := Aside0.mk ((by rw [hg]; exact Nat.ne_of_gt (blk_lt (g := gb195) (o := .cells #[.bool t191, .bool t192, .bool t193, .bool t194] 23 (0, 0)) (by (with_reducible repeat (first | refine blk_drewN ?_ _ | refine blk_drew ?_ | refine blk_alloc ?_ _)); exact BK195.out)) : gb203 ≠ gb195))
        clear BK180
        clear BK189
        clear BK195
        clear HB
        have BK180 := n0_
        have BK189 := n1_
        have BK195 := n2_
        have HB := n3_
        have BK203 := n4_
        have GW203 := n5_
        have GE203 := n6_
        have NB180_203 := n7_
        have NB203_180 := n8_
        have NB189_203 := n9_
        have NB203_189 := n10_
        have NB195_203 := n11_
        have NB203_195 := n12_
        clear n0_ n1_ n2_ n3_ n4_ n5_ n6_ n7_ n8_ n9_ n10_ n11_ n12_
        clear hb hbox hg
        refine hK.out _ _ ⟨(blk_cell BK180.out 0).trans rfl, (blk_cell BK180.out 1).trans rfl, (blk_cell BK180.out 2).trans rfl, (blk_cell BK180.out 3).trans rfl⟩ (fun hHeld => ?_)
        clear hK K
        refine norm_ (a' := ?_) ?_ ?_
        rotate_left
        ·show Act.put _ (some 16) _ = _
         simp only [Act.put, List.setIfInBounds_toArray, List.set_cons_zero, List.set_cons_succ, i64_w, i32_w]
         rfl
        refine one_ (i := 1) (N := some 45) #[true, true, true, false, true, false, false, false, false, true, false, false] rfl rfl (one_of HT_.out (by kernel_rfl)) (by decide) (fun K hK => ?_)
        refine goes_ Try.func20 (by kernel_rfl) rfl #[.int .i64 (wrap64 (Int.tmod a0 100))] (by rfl) rfl rfl (by (try simp only [List.map_toArray, List.map_cons, List.map_nil]); first | done | rfl | (simp only [List.length_drop, List.length_take]; rfl)) ?_
        with_reducible refine (whirligiglaw02_decimal.calls (wrap64 (Int.tmod a0 100)) t196 _ A10.out).mono ?_
        rintro e w' ⟨rfl, ⟨nd, rfl⟩⟩
        refine ⟨_, rfl, ?_⟩
        refine hK.out _ _ ⟨(blk_cell BK180.out 0).trans rfl, (blk_cell BK180.out 1).trans rfl, (blk_cell BK180.out 2).trans rfl, (blk_cell BK180.out 3).trans rfl⟩ (fun hHeld => ?_)
        clear hK K
        refine norm_ (a' := ?_) ?_ ?_
        rotate_left
        ·show Act.put _ (some 45) _ = _
         simp only [Act.put, List.setIfInBounds_toArray, List.set_cons_zero, List.set_cons_succ, i64_w, i32_w]
         rfl
        refine one_ (i := 3) (N := some 47) #[true, true, true, true, true, false, false, false, false, true, false, false] rfl rfl (one_of HT_.out (by kernel_rfl)) (by decide) (fun K hK => ?_)
        refine goes_ Try.func20 (by kernel_rfl) rfl #[.int .i64 (wrap64 (Int.tmod a1 100))] (by rfl) rfl rfl (by (try simp only [List.map_toArray, List.map_cons, List.map_nil]); first | done | rfl | (simp only [List.length_drop, List.length_take]; rfl)) ?_
        with_reducible refine (whirligiglaw02_decimal.calls (wrap64 (Int.tmod a1 100)) t197 _ A11.out).mono ?_
        rintro e w' ⟨rfl, ⟨nd, rfl⟩⟩
        refine ⟨_, rfl, ?_⟩
        refine hK.out _ _ ⟨(blk_cell BK180.out 0).trans rfl, (blk_cell BK180.out 1).trans rfl, (blk_cell BK180.out 2).trans rfl, (blk_cell BK180.out 3).trans rfl⟩ (fun hHeld => ?_)
        clear hK K
        refine norm_ (a' := ?_) ?_ ?_
        rotate_left
        ·show Act.put _ (some 47) _ = _
         simp only [Act.put, List.setIfInBounds_toArray, List.set_cons_zero, List.set_cons_succ, i64_w, i32_w]
         rfl
        refine one_ (i := 5) (N := some 49) #[true, true, true, true, true, true, false, false, false, true, false, false] rfl rfl (one_of HT_.out (by kernel_rfl)) (by decide) (fun K hK => ?_)
        refine goes_ Try.func12 (by kernel_rfl) rfl #[.int .i64 3, .int .u8 t196, .int .u8 t197, .agg #[.bool a2_0, .bool a2_1, .bool a2_2, .bool true]] (by rfl) rfl rfl (by (try simp only [List.map_toArray, List.map_cons, List.map_nil]); first | done | rfl | (simp only [List.length_drop, List.length_take]; rfl)) ?_
        with_reducible refine (alu_Do.calls 3 t196 t197 a2_0 a2_1 a2_2 true t198 t199 t200 t201 t202 _ A12.out).mono ?_
        rintro e w41 ⟨rfl, hb⟩
        refine ⟨_, rfl, ?_⟩
        have n0_ := Aside0.mk (blk_below (g := gb180) (o := .cells #[.bool a2_0, .bool a2_1, .bool a2_2, .bool true] 23 (0, 0)) (by (with_reducible repeat (first | refine blk_drewN ?_ _ | refine blk_drew ?_ | refine blk_alloc ?_ _)); exact BK180.out) hb)
        have n1_ := Aside0.mk (blk_below (g := gb189) (o := .cells #[.bool t185, .bool t186, .bool t187, .bool t188] 23 (0, 0)) (by (with_reducible repeat (first | refine blk_drewN ?_ _ | refine blk_drew ?_ | refine blk_alloc ?_ _)); exact BK189.out) hb)
        have n2_ := Aside0.mk (blk_below (g := gb195) (o := .cells #[.bool t191, .bool t192, .bool t193, .bool t194] 23 (0, 0)) (by (with_reducible repeat (first | refine blk_drewN ?_ _ | refine blk_drew ?_ | refine blk_alloc ?_ _)); exact BK195.out) hb)
        have n3_ := Aside0.mk (blk_below (g := gb203) (o := .cells #[.bool false, .bool false, .bool false, .bool false] 23 (0, 0)) (by (with_reducible repeat (first | refine blk_drewN ?_ _ | refine blk_drew ?_ | refine blk_alloc ?_ _)); exact BK203.out) hb)
        have n4_ := Aside0.mk (below_step (by repeat (first | (with_reducible first | exact HB.out | apply below_alloc | apply pw_below_drewN | apply below_drew1 | refine below_set ?_ GE180.out | refine below_set ?_ GE189.out | refine below_set ?_ GE195.out | refine below_set ?_ GE203.out) | exact HB.out)) hb)
        clear BK180
        clear BK189
        clear BK195
        clear BK203
        clear HB
        have BK180 := n0_
        have BK189 := n1_
        have BK195 := n2_
        have BK203 := n3_
        have HB := n4_
        clear n0_ n1_ n2_ n3_ n4_
        (try clear hb)
        (try clear hb2)
        (try clear hk)
        (try clear hi)
        refine hK.out _ _ ⟨(blk_cell BK180.out 0).trans rfl, (blk_cell BK180.out 1).trans rfl, (blk_cell BK180.out 2).trans rfl, (blk_cell BK180.out 3).trans rfl⟩ (fun hHeld => ?_)
        clear hK K
        refine norm_ (a' := ?_) ?_ ?_
        rotate_left
        ·show Act.put _ (some 49) _ = _
         simp only [Act.put, List.setIfInBounds_toArray, List.set_cons_zero, List.set_cons_succ, i64_w, i32_w]
         rfl
        refine pure_ (i := 6) (N := some 43) (v := ?_) (a' := ?_) #[true, true, true, true, true, true, true, false, false, true, false, false] rfl rfl (any_of HT_.out (by kernel_rfl)) (fun _ _ _ h => h) (Or.inl ⟨by rfl, ?_⟩) ?_ ?_
        rotate_left
        ·intro w'
         go_simp
         with_reducible rfl
        rotate_left
        ·simp only [Act.put, List.setIfInBounds_toArray, List.set_cons_zero, List.set_cons_succ, i64_w, i32_w]
         rfl
        refine pure_ (i := 7) (N := some 50) (v := ?_) (a' := ?_) #[true, true, true, true, true, true, true, true, false, true, false, false] rfl rfl (any_of HT_.out (by kernel_rfl)) (fun _ _ _ h => h) (Or.inl ⟨by rfl, ?_⟩) ?_ ?_
        rotate_left
        ·intro w'
         go_simp
         with_reducible rfl
        rotate_left
        ·simp only [Act.put, List.setIfInBounds_toArray, List.set_cons_zero, List.set_cons_succ, i64_w, i32_w]
         rfl
        refine pure_ (i := 8) (N := some 51) (v := ?_) (a' := ?_) #[true, true, true, true, true, true, true, true, true, true, false, false] rfl rfl (any_of HT_.out (by kernel_rfl)) (fun _ _ _ h => h) (Or.inl ⟨by rfl, ?_⟩) ?_ ?_
        rotate_left
        ·intro w'
         go_simp
         with_reducible rfl
        rotate_left
        ·simp only [Act.put, List.setIfInBounds_toArray, List.set_cons_zero, List.set_cons_succ, i64_w, i32_w]
         rfl
        exact norm_ (by simp only [putAll, Act.put, List.setIfInBounds_toArray, List.set_cons_zero, List.set_cons_succ]) (hCont (gb203) _ ⟨hHeld, (by (with_reducible repeat (first | refine blk_drewN ?_ _ | refine blk_drew ?_ | refine blk_alloc ?_ _)); exact BK180.out), (by (with_reducible repeat (first | refine blk_drewN ?_ _ | refine blk_drew ?_ | refine blk_alloc ?_ _)); exact BK189.out), (by (with_reducible repeat (first | refine blk_drewN ?_ _ | refine blk_drew ?_ | refine blk_alloc ?_ _)); exact BK195.out), (by (with_reducible repeat (first | refine blk_drewN ?_ _ | refine blk_drew ?_ | refine blk_alloc ?_ _)); exact BK203.out), GW203.out, GE203.out, NB180_203.out, NB203_180.out, NB189_203.out, NB203_189.out, NB195_203.out, NB203_195.out, (by repeat (first | (with_reducible first | exact HB.out | apply below_alloc | apply pw_below_drewN | apply below_drew1 | refine below_set ?_ GE180.out | refine below_set ?_ GE189.out | refine below_set ?_ GE195.out | refine below_set ?_ GE203.out) | exact HB.out))⟩)
      rintro gb203 w42 ⟨hS_, h0_, h1_, h2_, h3_, h4_, h5_, h6_, h7_, h8_, h9_, h10_, h11_, h12_⟩
      have n0_ : Aside0 (w42.heap[gb180]? = some (.cells #[.bool a2_0, .bool a2_1, .bool a2_2, .bool true] 23 (0, 0))) := ⟨h0_⟩
      have n1_ : Aside0 (w42.heap[gb189]? = some (.cells #[.bool t185, .bool t186, .bool t187, .bool t188] 23 (0, 0))) := ⟨h1_⟩
      have n2_ : Aside0 (w42.heap[gb195]? = some (.cells #[.bool t191, .bool t192, .bool t193, .bool t194] 23 (0, 0))) := ⟨h2_⟩
      have n3_ : Aside0 (w42.heap[gb203]? = some (.cells #[.bool false, .bool false, .bool false, .bool false] 23 (0, 0))) := ⟨h3_⟩
      have n4_ : Aside0 (w.heap.size ≤ gb203) := ⟨h4_⟩
      have n5_ : Aside0 (w.heap.size ≤ gb203) := ⟨h5_⟩
      have n6_ : Aside0 (gb180 ≠ gb203) := ⟨h6_⟩
      have n7_ : Aside0 (gb203 ≠ gb180) := ⟨h7_⟩
      have n8_ : Aside0 (gb189 ≠ gb203) := ⟨h8_⟩
      have n9_ : Aside0 (gb203 ≠ gb189) := ⟨h9_⟩
      have n10_ : Aside0 (gb195 ≠ gb203) := ⟨h10_⟩
      have n11_ : Aside0 (gb203 ≠ gb195) := ⟨h11_⟩
      have n12_ : Aside0 (Below w.heap.size w w42) := ⟨h12_⟩
      clear BK180
      clear BK189
      clear BK195
      clear HB
      clear h0_ h1_ h2_ h3_ h4_ h5_ h6_ h7_ h8_ h9_ h10_ h11_ h12_
      have BK180 := n0_
      have BK189 := n1_
      have BK195 := n2_
      have BK203 := n3_
      have GW203 := n4_
      have GE203 := n5_
      have NB180_203 := n6_
      have NB203_180 := n7_
      have NB189_203 := n8_
      have NB203_189 := n9_
      have NB195_203 := n10_
      have NB203_195 := n11_
      have HB := n12_
      clear n0_ n1_ n2_ n3_ n4_ n5_ n6_ n7_ n8_ n9_ n10_ n11_ n12_
      have hHeld : w42.cell? ⟨gb180, 0, none⟩ = some (.bool a2_0) ∧ w42.cell? ⟨gb180, 1, none⟩ = some (.bool a2_1) ∧ w42.cell? ⟨gb180, 2, none⟩ = some (.bool a2_2) ∧ w42.cell? ⟨gb180, 3, none⟩ = some (.bool true) := hS_
      refine norm_ (a' := ?_) ?_ ?_
      rotate_left
      ·simp only [putAll, Act.put, List.setIfInBounds_toArray, List.set_cons_zero, List.set_cons_succ]
       rfl
      refine pure_ (i := 10) (N := some 15) (v := ?_) (a' := ?_) #[true, true, true, true, true, true, true, true, true, true, true, false] rfl rfl (any_of HT_.out (by kernel_rfl)) (fun _ _ _ h => h) (Or.inl ⟨by rfl, ?_⟩) ?_ ?_
      rotate_left
      ·intro w'
       go_simp
       with_reducible rfl
      rotate_left
      ·simp only [Act.put, List.setIfInBounds_toArray, List.set_cons_zero, List.set_cons_succ, i64_w, i32_w]
       rfl
      refine one_ (i := 11) (N := none) #[true, true, true, true, true, true, true, true, true, true, true, true] rfl rfl (one_of HT_.out (by kernel_rfl)) (by decide) (fun K hK => ?_)
      have hs43 : w42.cell? ⟨gb203, 0, none⟩ = some (.bool false) := (blk_cell BK203.out 0).trans rfl
      have hfs43 := blk_frozen BK203.out 0
      have hns43_0 := NB180_203.out
      have hns43_1 := NB189_203.out
      have hns43_2 := NB195_203.out
      have hms43_0 := NB203_180.out
      have hms43_1 := NB203_189.out
      have hms43_2 := NB203_195.out
      have hs44 : w42.cell? ⟨gb203, 1, none⟩ = some (.bool false) := (blk_cell BK203.out 1).trans rfl
      have hfs44 := blk_frozen BK203.out 1
      have hns44_0 := NB180_203.out
      have hns44_1 := NB189_203.out
      have hns44_2 := NB195_203.out
      have hms44_0 := NB203_180.out
      have hms44_1 := NB203_189.out
      have hms44_2 := NB203_195.out
      have hs45 : w42.cell? ⟨gb203, 2, none⟩ = some (.bool false) := (blk_cell BK203.out 2).trans rfl
      have hfs45 := blk_frozen BK203.out 2
      have hns45_0 := NB180_203.out
      have hns45_1 := NB189_203.out
      have hns45_2 := NB195_203.out
      have hms45_0 := NB203_180.out
      have hms45_1 := NB203_189.out
      have hms45_2 := NB203_195.out
      have hs46 : w42.cell? ⟨gb203, 3, none⟩ = some (.bool false) := (blk_cell BK203.out 3).trans rfl
      have hfs46 := blk_frozen BK203.out 3
      have hns46_0 := NB180_203.out
      have hns46_1 := NB189_203.out
      have hns46_2 := NB195_203.out
      have hms46_0 := NB203_180.out
      have hms46_1 := NB203_189.out
      have hms46_2 := NB203_195.out
      refine skip_ (w1 := ?_) (by rfl) rfl ?_ ?_
      rotate_left
      ·go_simp
       rfl
      refine hK.out _ _ ⟨((cell_far (p := ⟨gb203, _, none⟩) NB180_203.out _).trans (((cell_far (p := ⟨gb203, _, none⟩) NB180_203.out _).trans (((cell_far (p := ⟨gb203, _, none⟩) NB180_203.out _).trans (((cell_far (p := ⟨gb203, _, none⟩) NB180_203.out _).trans (hHeld.1)))))))), ((cell_far (p := ⟨gb203, _, none⟩) NB180_203.out _).trans (((cell_far (p := ⟨gb203, _, none⟩) NB180_203.out _).trans (((cell_far (p := ⟨gb203, _, none⟩) NB180_203.out _).trans (((cell_far (p := ⟨gb203, _, none⟩) NB180_203.out _).trans (hHeld.2.1)))))))), ((cell_far (p := ⟨gb203, _, none⟩) NB180_203.out _).trans (((cell_far (p := ⟨gb203, _, none⟩) NB180_203.out _).trans (((cell_far (p := ⟨gb203, _, none⟩) NB180_203.out _).trans (((cell_far (p := ⟨gb203, _, none⟩) NB180_203.out _).trans (hHeld.2.2.1)))))))), ((cell_far (p := ⟨gb203, _, none⟩) NB180_203.out _).trans (((cell_far (p := ⟨gb203, _, none⟩) NB180_203.out _).trans (((cell_far (p := ⟨gb203, _, none⟩) NB180_203.out _).trans (((cell_far (p := ⟨gb203, _, none⟩) NB180_203.out _).trans (hHeld.2.2.2))))))))⟩ (fun hHeld => ?_)
      clear hK K
      refine done_ (done_of HT_.out (by kernel_rfl)) ?_
      have hnb47 := NB203_180.out
      have hnc47 := NB180_203.out
      have hnb48 := NB203_189.out
      have hnc48 := NB189_203.out
      have hnb49 := NB203_195.out
      have hnc49 := NB195_203.out
      have hcz50_0 : w42.cell? ⟨gb203, 0, none⟩ = some (.bool false) := (blk_cell BK203.out 0).trans rfl
      have hcz50_1 : w42.cell? ⟨gb203, 1, none⟩ = some (.bool false) := (blk_cell BK203.out 1).trans rfl
      have hcz50_2 : w42.cell? ⟨gb203, 2, none⟩ = some (.bool false) := (blk_cell BK203.out 2).trans rfl
      have hcz50_3 : w42.cell? ⟨gb203, 3, none⟩ = some (.bool false) := (blk_cell BK203.out 3).trans rfl
      have hfz50_0 := blk_frozen BK203.out 0
      have hfz50_1 := blk_frozen BK203.out 1
      have hfz50_2 := blk_frozen BK203.out 2
      have hfz50_3 := blk_frozen BK203.out 3
      try go_wp2_with (first | ((with_reducible refine gate_callee (f := 14) rfl ?_); refine goesL_ (some 55) rfl rfl Try.func14 (by kernel_rfl) rfl #[.int .u8 t198, .agg #[.bool t199, .bool t200, .bool t201, .bool t202]] rfl (by (try simp only [List.map_toArray, List.map_cons, List.map_nil]); first | done | rfl | (simp only [List.length_drop, List.length_take]; rfl)) ?_; (with_reducible refine (alu_Daa.calls k t198 t199 t200 t201 t202 t204 t205 t206 t207 t208 _ A13.out).mono ?_); rintro e w51 ⟨rfl, hb⟩; refine ⟨_, rfl, ?_⟩; have n0_ := Aside0.mk (blk_below (g := gb180) (o := .cells #[.bool a2_0, .bool a2_1, .bool a2_2, .bool true] 23 (0, 0)) (by (with_reducible repeat (first | refine blk_drewN ?_ _ | refine blk_drew ?_ | refine blk_alloc ?_ _)); refine blk_far ?_ NB180_203.out _; (with_reducible repeat (first | refine blk_drewN ?_ _ | refine blk_drew ?_ | refine blk_alloc ?_ _)); refine blk_far ?_ NB180_203.out _; (with_reducible repeat (first | refine blk_drewN ?_ _ | refine blk_drew ?_ | refine blk_alloc ?_ _)); refine blk_far ?_ NB180_203.out _; (with_reducible repeat (first | refine blk_drewN ?_ _ | refine blk_drew ?_ | refine blk_alloc ?_ _)); refine blk_far ?_ NB180_203.out _; (with_reducible repeat (first | refine blk_drewN ?_ _ | refine blk_drew ?_ | refine blk_alloc ?_ _)); exact BK180.out) hb); have n1_ := Aside0.mk (blk_below (g := gb189) (o := .cells #[.bool t185, .bool t186, .bool t187, .bool t188] 23 (0, 0)) (by (with_reducible repeat (first | refine blk_drewN ?_ _ | refine blk_drew ?_ | refine blk_alloc ?_ _)); refine blk_far ?_ NB189_203.out _; (with_reducible repeat (first | refine blk_drewN ?_ _ | refine blk_drew ?_ | refine blk_alloc ?_ _)); refine blk_far ?_ NB189_203.out _; (with_reducible repeat (first | refine blk_drewN ?_ _ | refine blk_drew ?_ | refine blk_alloc ?_ _)); refine blk_far ?_ NB189_203.out _; (with_reducible repeat (first | refine blk_drewN ?_ _ | refine blk_drew ?_ | refine blk_alloc ?_ _)); refine blk_far ?_ NB189_203.out _; (with_reducible repeat (first | refine blk_drewN ?_ _ | refine blk_drew ?_ | refine blk_alloc ?_ _)); exact BK189.out) hb); have n2_ := Aside0.mk (blk_below (g := gb195) (o := .cells #[.bool t191, .bool t192, .bool t193, .bool t194] 23 (0, 0)) (by (with_reducible repeat (first | refine blk_drewN ?_ _ | refine blk_drew ?_ | refine blk_alloc ?_ _)); refine blk_far ?_ NB195_203.out _; (with_reducible repeat (first | refine blk_drewN ?_ _ | refine blk_drew ?_ | refine blk_alloc ?_ _)); refine blk_far ?_ NB195_203.out _; (with_reducible repeat (first | refine blk_drewN ?_ _ | refine blk_drew ?_ | refine blk_alloc ?_ _)); refine blk_far ?_ NB195_203.out _; (with_reducible repeat (first | refine blk_drewN ?_ _ | refine blk_drew ?_ | refine blk_alloc ?_ _)); refine blk_far ?_ NB195_203.out _; (with_reducible repeat (first | refine blk_drewN ?_ _ | refine blk_drew ?_ | refine blk_alloc ?_ _)); exact BK195.out) hb); have n3_ := Aside0.mk (blk_below (g := gb203) (o := .cells #[.bool t199, .bool t200, .bool t201, .bool t202] 23 (0, 0)) (by (with_reducible repeat (first | refine blk_drewN ?_ _ | refine blk_drew ?_ | refine blk_alloc ?_ _)); refine blk_put (cs := #[.bool t199, .bool t200, .bool t201, .bool false]) ?_ 3 _ rfl; (with_reducible repeat (first | refine blk_drewN ?_ _ | refine blk_drew ?_ | refine blk_alloc ?_ _)); refine blk_put (cs := #[.bool t199, .bool t200, .bool false, .bool false]) ?_ 2 _ rfl; (with_reducible repeat (first | refine blk_drewN ?_ _ | refine blk_drew ?_ | refine blk_alloc ?_ _)); refine blk_put (cs := #[.bool t199, .bool false, .bool false, .bool false]) ?_ 1 _ rfl; (with_reducible repeat (first | refine blk_drewN ?_ _ | refine blk_drew ?_ | refine blk_alloc ?_ _)); refine blk_put (cs := #[.bool false, .bool false, .bool false, .bool false]) ?_ 0 _ rfl; (with_reducible repeat (first | refine blk_drewN ?_ _ | refine blk_drew ?_ | refine blk_alloc ?_ _)); exact BK203.out) hb); have n4_ := Aside0.mk (below_step (by repeat (first | (with_reducible first | exact HB.out | apply below_alloc | apply pw_below_drewN | apply below_drew1 | refine below_set ?_ GE180.out | refine below_set ?_ GE189.out | refine below_set ?_ GE195.out | refine below_set ?_ GE203.out) | exact HB.out)) hb); clear BK180; clear BK189; clear BK195; clear BK203; clear HB; have BK180 := n0_; have BK189 := n1_; have BK195 := n2_; have BK203 := n3_; have HB := n4_; clear n0_ n1_ n2_ n3_ n4_; (try clear hb); (try clear hb2); (try clear hk); (try clear hi)) | ((with_reducible refine gate_dst (N := 18) rfl ?_); refine box_event ?hg (N := 18) ?hd (cs := #[.bool false, .bool false, .bool false, .bool false]) (t := 23) ?hr ?_; (case hd => rfl); (case hg => rfl); (case hr => first | (go_simp; done) | (go_simp; rfl)); intro gb209 hg w52 hbox hb; have n0_ := Aside0.mk (blk_below (g := gb180) (o := .cells #[.bool a2_0, .bool a2_1, .bool a2_2, .bool true] 23 (0, 0)) (by (with_reducible repeat (first | refine blk_drewN ?_ _ | refine blk_drew ?_ | refine blk_alloc ?_ _)); exact BK180.out) hb); have n1_ := Aside0.mk (blk_below (g := gb189) (o := .cells #[.bool t185, .bool t186, .bool t187, .bool t188] 23 (0, 0)) (by (with_reducible repeat (first | refine blk_drewN ?_ _ | refine blk_drew ?_ | refine blk_alloc ?_ _)); exact BK189.out) hb); have n2_ := Aside0.mk (blk_below (g := gb195) (o := .cells #[.bool t191, .bool t192, .bool t193, .bool t194] 23 (0, 0)) (by (with_reducible repeat (first | refine blk_drewN ?_ _ | refine blk_drew ?_ | refine blk_alloc ?_ _)); exact BK195.out) hb); have n3_ := Aside0.mk (blk_below (g := gb203) (o := .cells #[.bool t199, .bool t200, .bool t201, .bool t202] 23 (0, 0)) (by (with_reducible repeat (first | refine blk_drewN ?_ _ | refine blk_drew ?_ | refine blk_alloc ?_ _)); exact BK203.out) hb); have n4_ := Aside0.mk (below_step (by repeat (first | (with_reducible first | exact HB.out | apply below_alloc | apply pw_below_drewN | apply below_drew1 | refine below_set ?_ GE180.out | refine below_set ?_ GE189.out | refine below_set ?_ GE195.out | refine below_set ?_ GE203.out) | exact HB.out)) hb); have n5_ := Aside0.mk (hbox); have n6_ := Aside0.mk ((by rw [hg]; exact (below_size (by repeat (first | (with_reducible first | exact HB.out | apply below_alloc | apply pw_below_drewN | apply below_drew1 | refine below_set ?_ GE180.out | refine below_set ?_ GE189.out | refine below_set ?_ GE195.out | refine below_set ?_ GE203.out) | exact HB.out))) : w.heap.size ≤ gb209)); have n7_ := Aside0.mk ((by rw [hg]; exact (below_size (by repeat (first | (with_reducible first | exact HB.out | apply below_alloc | apply pw_below_drewN | apply below_drew1 | refine below_set ?_ GE180.out | refine below_set ?_ GE189.out | refine below_set ?_ GE195.out | refine below_set ?_ GE203.out) | exact HB.out))) : w.heap.size ≤ gb209)); have n8_ := Aside0.mk ((by rw [hg]; exact Nat.ne_of_lt (blk_lt (g := gb180) (o := .cells #[.bool a2_0, .bool a2_1, .bool a2_2, .bool true] 23 (0, 0)) (by (with_reducible repeat (first | refine blk_drewN ?_ _ | refine blk_drew ?_ | refine blk_alloc ?_ _)); exact BK180.out)) : gb180 ≠ gb209)); have n9_ := Aside0.mk ((by rw [hg]; exact Nat.ne_of_gt (blk_lt (g := gb180) (o := .cells #[.bool a2_0, .bool a2_1, .bool a2_2, .bool true] 23 (0, 0)) (by (with_reducible repeat (first | refine blk_drewN ?_ _ | refine blk_drew ?_ | refine blk_alloc ?_ _)); exact BK180.out)) : gb209 ≠ gb180)); have n10_ := Aside0.mk ((by rw [hg]; exact Nat.ne_of_lt (blk_lt (g := gb189) (o := .cells #[.bool t185, .bool t186, .bool t187, .bool t188] 23 (0, 0)) (by (with_reducible repeat (first | refine blk_drewN ?_ _ | refine blk_drew ?_ | refine blk_alloc ?_ _)); exact BK189.out)) : gb189 ≠ gb209)); have n11_ := Aside0.mk ((by rw [hg]; exact Nat.ne_of_gt (blk_lt (g := gb189) (o := .cells #[.bool t185, .bool t186, .bool t187, .bool t188] 23 (0, 0)) (by (with_reducible repeat (first | refine blk_drewN ?_ _ | refine blk_drew ?_ | refine blk_alloc ?_ _)); exact BK189.out)) : gb209 ≠ gb189)); have n12_ := Aside0.mk ((by rw [hg]; exact Nat.ne_of_lt (blk_lt (g := gb195) (o := .cells #[.bool t191, .bool t192, .bool t193, .bool t194] 23 (0, 0)) (by (with_reducible repeat (first | refine blk_drewN ?_ _ | refine blk_drew ?_ | refine blk_alloc ?_ _)); exact BK195.out)) : gb195 ≠ gb209)); have n13_ := Aside0.mk ((by rw [hg]; exact Nat.ne_of_gt (blk_lt (g := gb195) (o := .cells #[.bool t191, .bool t192, .bool t193, .bool t194] 23 (0, 0)) (by (with_reducible repeat (first | refine blk_drewN ?_ _ | refine blk_drew ?_ | refine blk_alloc ?_ _)); exact BK195.out)) : gb209 ≠ gb195)); have n14_ := Aside0.mk ((by rw [hg]; exact Nat.ne_of_lt (blk_lt (g := gb203) (o := .cells #[.bool t199, .bool t200, .bool t201, .bool t202] 23 (0, 0)) (by (with_reducible repeat (first | refine blk_drewN ?_ _ | refine blk_drew ?_ | refine blk_alloc ?_ _)); exact BK203.out)) : gb203 ≠ gb209)); have n15_ := Aside0.mk ((by rw [hg]; exact Nat.ne_of_gt (blk_lt (g := gb203) (o := .cells #[.bool t199, .bool t200, .bool t201, .bool t202] 23 (0, 0)) (by (with_reducible repeat (first | refine blk_drewN ?_ _ | refine blk_drew ?_ | refine blk_alloc ?_ _)); exact BK203.out)) : gb209 ≠ gb203)); clear BK180; clear BK189; clear BK195; clear BK203; clear HB; have BK180 := n0_; have BK189 := n1_; have BK195 := n2_; have BK203 := n3_; have HB := n4_; have BK209 := n5_; have GW209 := n6_; have GE209 := n7_; have NB180_209 := n8_; have NB209_180 := n9_; have NB189_209 := n10_; have NB209_189 := n11_; have NB195_209 := n12_; have NB209_195 := n13_; have NB203_209 := n14_; have NB209_203 := n15_; clear n0_ n1_ n2_ n3_ n4_ n5_ n6_ n7_ n8_ n9_ n10_ n11_ n12_ n13_ n14_ n15_; clear hb hbox hg; have hnb53 := NB209_180.out; have hnc53 := NB180_209.out; have hnb54 := NB209_189.out; have hnc54 := NB189_209.out; have hnb55 := NB209_195.out; have hnc55 := NB195_209.out; have hnb56 := NB209_203.out; have hnc56 := NB203_209.out; have hcz57_0 : w52.cell? ⟨gb209, 0, none⟩ = some (.bool false) := (blk_cell BK209.out 0).trans rfl; have hcz57_1 : w52.cell? ⟨gb209, 1, none⟩ = some (.bool false) := (blk_cell BK209.out 1).trans rfl; have hcz57_2 : w52.cell? ⟨gb209, 2, none⟩ = some (.bool false) := (blk_cell BK209.out 2).trans rfl; have hcz57_3 : w52.cell? ⟨gb209, 3, none⟩ = some (.bool false) := (blk_cell BK209.out 3).trans rfl; have hfz57_0 := blk_frozen BK209.out 0; have hfz57_1 := blk_frozen BK209.out 1; have hfz57_2 := blk_frozen BK209.out 2; have hfz57_3 := blk_frozen BK209.out 3) | (go_at_call 20; (with_reducible refine (whirligiglaw02_decimal.calls (Int.tmod (wrap64 ((wrap64 ((wrap64 (Int.tmod a0 100)) + (wrap64 (Int.tmod a1 100)))) + 1)) 100) t210 _ A15.out).mono ?_); rintro e w' ⟨rfl, ⟨nd, rfl⟩⟩; have hcz58_0 : w52.cell? ⟨gb195, 0, none⟩ = some (.bool t191) := (blk_cell BK195.out 0).trans rfl; have hcz58_1 : w52.cell? ⟨gb195, 1, none⟩ = some (.bool t192) := (blk_cell BK195.out 1).trans rfl; have hcz58_2 : w52.cell? ⟨gb195, 2, none⟩ = some (.bool t193) := (blk_cell BK195.out 2).trans rfl; have hcz58_3 : w52.cell? ⟨gb195, 3, none⟩ = some (.bool t194) := (blk_cell BK195.out 3).trans rfl; have hfz58_0 := blk_frozen BK195.out 0; have hfz58_1 := blk_frozen BK195.out 1; have hfz58_2 := blk_frozen BK195.out 2; have hfz58_3 := blk_frozen BK195.out 3) | (go_at_call 20; (with_reducible refine (whirligiglaw02_decimal.calls (Int.tmod (wrap64 ((wrap64 ((wrap64 ((wrap64 (Int.tmod a0 100)) - (wrap64 (Int.tmod a1 100)))) - 1)) + 200)) 100) t211 _ A18.out).mono ?_); rintro e w' ⟨rfl, ⟨nd, rfl⟩⟩))
      go_ret
      exact ⟨by first | rfl | (simp [errW_none, errW_some] <;> rfl) | (simp [*, errW_none, errW_some] <;> rfl), by repeat (first | (with_reducible first | exact HB.out | apply below_alloc | apply pw_below_drewN | apply below_drew1 | refine below_set ?_ GE180.out | refine below_set ?_ GE189.out | refine below_set ?_ GE195.out | refine below_set ?_ GE203.out | refine below_set ?_ GE209.out) | exact HB.out)⟩
     ·rw [if_neg c19] at H
      have c19b0 : (t204 == t211) = false := beq_eq_false_iff_ne.mpr c19
      have c19b1 : (t204 != t211) = true := bne_iff_ne.mpr c19
      exact absurd ((Option.some.inj H).trans HT.out) (by simp)
    ·rw [if_neg c17] at H
     have c17b0 : (t194 == (decide ((wrap64 ((wrap64 ((wrap64 (Int.tmod a0 100)) + (wrap64 (Int.tmod a1 100)))) + 1)) > 99))) = false := by simpa using c17
     (try (have c17b1 : decide (t194 = (decide ((wrap64 ((wrap64 ((wrap64 (Int.tmod a0 100)) + (wrap64 (Int.tmod a1 100)))) + 1)) > 99))) = false := by simpa using c17))
     (try (have c17b2 : (t194 == (decide ((wrap64 ((wrap64 ((wrap64 (Int.tmod a0 100)) + (wrap64 (Int.tmod a1 100)))) + 1)) > 99))) = false := by simpa using c17))
     (try (have c17b3 : ¬ (t194 = (decide ((wrap64 ((wrap64 ((wrap64 (Int.tmod a0 100)) + (wrap64 (Int.tmod a1 100)))) + 1)) > 99))) := by simpa using c17))
     clear c17
     exact absurd ((Option.some.inj H).trans HT.out) (by simp)
   ·rw [if_neg c16] at H
    have c16b0 : (t190 == t210) = false := beq_eq_false_iff_ne.mpr c16
    have c16b1 : (t190 != t210) = true := bne_iff_ne.mpr c16
    exact absurd ((Option.some.inj H).trans HT.out) (by simp)
  ·replace c14 := Bool.eq_false_iff.mpr c14
   subst c14
   have H1 : (some false) = some r := by rw [if_neg (show ¬ (false = true) by decide)] at H; exact H
   clear H
   have H := H1
   clear H1
   exact absurd ((Option.some.inj H).trans HT.out) (by simp)
 ·replace c5 := Bool.eq_false_iff.mpr c5
  subst c5
  have H1 : ((whirligiglaw02_decimal.f (wrap64 (Int.tmod a0 100))).bind fun t212 => ((whirligiglaw02_decimal.f (wrap64 (Int.tmod a1 100))).bind fun t213 => ((alu_Do.f 1 t212 t213 a2_0 a2_1 a2_2 false).bind fun bt214 => ((alu_Daa.f k bt214.1 bt214.2.1 bt214.2.2.1 bt214.2.2.2.1 bt214.2.2.2.2).bind fun bt220 => ((whirligiglaw02_decimal.f (wrap64 (Int.tmod a0 100))).bind fun t226 => ((whirligiglaw02_decimal.f (wrap64 (Int.tmod a1 100))).bind fun t227 => ((alu_Do.f 3 t226 t227 a2_0 a2_1 a2_2 false).bind fun bt228 => ((alu_Daa.f k bt228.1 bt228.2.1 bt228.2.2.1 bt228.2.2.2.1 bt228.2.2.2.2).bind fun bt234 => (if t181 = true then ((whirligiglaw02_decimal.f (Int.tmod (wrap64 ((wrap64 ((wrap64 (Int.tmod a0 100)) + (wrap64 (Int.tmod a1 100)))))) 100)).bind fun t240 => (if bt220.1 = t240 then (if (bt220.2.2.2.2 == (decide ((wrap64 ((wrap64 ((wrap64 (Int.tmod a0 100)) + (wrap64 (Int.tmod a1 100)))))) > 99))) = true then ((whirligiglaw02_decimal.f (Int.tmod (wrap64 ((wrap64 ((wrap64 ((wrap64 (Int.tmod a0 100)) - (wrap64 (Int.tmod a1 100)))))) + 200)) 100)).bind fun t241 => (if bt234.1 = t241 then (some (bt234.2.2.2.2 == (decide ((wrap64 (Int.tmod a0 100)) < (wrap64 ((wrap64 (Int.tmod a1 100)))))))) else (some false))) else (some false)) else (some false))) else (some false)))))))))) = some r := by rw [if_neg (show ¬ (false = true) by decide)] at H; exact H
  clear H
  have H := H1
  clear H1
  replace H := Option.bind_eq_some_iff.mp H
  obtain ⟨t212, A2130, H⟩ := H
  replace H : ((whirligiglaw02_decimal.f (wrap64 (Int.tmod a1 100))).bind fun t213 => ((alu_Do.f 1 t212 t213 a2_0 a2_1 a2_2 false).bind fun bt214 => ((alu_Daa.f k bt214.1 bt214.2.1 bt214.2.2.1 bt214.2.2.2.1 bt214.2.2.2.2).bind fun bt220 => ((whirligiglaw02_decimal.f (wrap64 (Int.tmod a0 100))).bind fun t226 => ((whirligiglaw02_decimal.f (wrap64 (Int.tmod a1 100))).bind fun t227 => ((alu_Do.f 3 t226 t227 a2_0 a2_1 a2_2 false).bind fun bt228 => ((alu_Daa.f k bt228.1 bt228.2.1 bt228.2.2.1 bt228.2.2.2.1 bt228.2.2.2.2).bind fun bt234 => (if t181 = true then ((whirligiglaw02_decimal.f (Int.tmod (wrap64 ((wrap64 ((wrap64 (Int.tmod a0 100)) + (wrap64 (Int.tmod a1 100)))))) 100)).bind fun t240 => (if bt220.1 = t240 then (if (bt220.2.2.2.2 == (decide ((wrap64 ((wrap64 ((wrap64 (Int.tmod a0 100)) + (wrap64 (Int.tmod a1 100)))))) > 99))) = true then ((whirligiglaw02_decimal.f (Int.tmod (wrap64 ((wrap64 ((wrap64 ((wrap64 (Int.tmod a0 100)) - (wrap64 (Int.tmod a1 100)))))) + 200)) 100)).bind fun t241 => (if bt234.1 = t241 then (some (bt234.2.2.2.2 == (decide ((wrap64 (Int.tmod a0 100)) < (wrap64 ((wrap64 (Int.tmod a1 100)))))))) else (some false))) else (some false)) else (some false))) else (some false))))))))) = some r := H
  have A213 := Aside0.mk A2130
  clear A2130
  replace H := Option.bind_eq_some_iff.mp H
  obtain ⟨t213, A2140, H⟩ := H
  replace H : ((alu_Do.f 1 t212 t213 a2_0 a2_1 a2_2 false).bind fun bt214 => ((alu_Daa.f k bt214.1 bt214.2.1 bt214.2.2.1 bt214.2.2.2.1 bt214.2.2.2.2).bind fun bt220 => ((whirligiglaw02_decimal.f (wrap64 (Int.tmod a0 100))).bind fun t226 => ((whirligiglaw02_decimal.f (wrap64 (Int.tmod a1 100))).bind fun t227 => ((alu_Do.f 3 t226 t227 a2_0 a2_1 a2_2 false).bind fun bt228 => ((alu_Daa.f k bt228.1 bt228.2.1 bt228.2.2.1 bt228.2.2.2.1 bt228.2.2.2.2).bind fun bt234 => (if t181 = true then ((whirligiglaw02_decimal.f (Int.tmod (wrap64 ((wrap64 ((wrap64 (Int.tmod a0 100)) + (wrap64 (Int.tmod a1 100)))))) 100)).bind fun t240 => (if bt220.1 = t240 then (if (bt220.2.2.2.2 == (decide ((wrap64 ((wrap64 ((wrap64 (Int.tmod a0 100)) + (wrap64 (Int.tmod a1 100)))))) > 99))) = true then ((whirligiglaw02_decimal.f (Int.tmod (wrap64 ((wrap64 ((wrap64 ((wrap64 (Int.tmod a0 100)) - (wrap64 (Int.tmod a1 100)))))) + 200)) 100)).bind fun t241 => (if bt234.1 = t241 then (some (bt234.2.2.2.2 == (decide ((wrap64 (Int.tmod a0 100)) < (wrap64 ((wrap64 (Int.tmod a1 100)))))))) else (some false))) else (some false)) else (some false))) else (some false)))))))) = some r := H
  have A214 := Aside0.mk A2140
  clear A2140
  replace H := Option.bind_eq_some_iff.mp H
  obtain ⟨⟨t214, t215, t216, t217, t218⟩, A2150, H⟩ := H
  replace H : ((alu_Daa.f k t214 t215 t216 t217 t218).bind fun bt220 => ((whirligiglaw02_decimal.f (wrap64 (Int.tmod a0 100))).bind fun t226 => ((whirligiglaw02_decimal.f (wrap64 (Int.tmod a1 100))).bind fun t227 => ((alu_Do.f 3 t226 t227 a2_0 a2_1 a2_2 false).bind fun bt228 => ((alu_Daa.f k bt228.1 bt228.2.1 bt228.2.2.1 bt228.2.2.2.1 bt228.2.2.2.2).bind fun bt234 => (if t181 = true then ((whirligiglaw02_decimal.f (Int.tmod (wrap64 ((wrap64 ((wrap64 (Int.tmod a0 100)) + (wrap64 (Int.tmod a1 100)))))) 100)).bind fun t240 => (if bt220.1 = t240 then (if (bt220.2.2.2.2 == (decide ((wrap64 ((wrap64 ((wrap64 (Int.tmod a0 100)) + (wrap64 (Int.tmod a1 100)))))) > 99))) = true then ((whirligiglaw02_decimal.f (Int.tmod (wrap64 ((wrap64 ((wrap64 ((wrap64 (Int.tmod a0 100)) - (wrap64 (Int.tmod a1 100)))))) + 200)) 100)).bind fun t241 => (if bt234.1 = t241 then (some (bt234.2.2.2.2 == (decide ((wrap64 (Int.tmod a0 100)) < (wrap64 ((wrap64 (Int.tmod a1 100)))))))) else (some false))) else (some false)) else (some false))) else (some false))))))) = some r := H
  have A215 := Aside0.mk A2150
  clear A2150
  replace H := Option.bind_eq_some_iff.mp H
  obtain ⟨⟨t220, t221, t222, t223, t224⟩, A2160, H⟩ := H
  replace H : ((whirligiglaw02_decimal.f (wrap64 (Int.tmod a0 100))).bind fun t226 => ((whirligiglaw02_decimal.f (wrap64 (Int.tmod a1 100))).bind fun t227 => ((alu_Do.f 3 t226 t227 a2_0 a2_1 a2_2 false).bind fun bt228 => ((alu_Daa.f k bt228.1 bt228.2.1 bt228.2.2.1 bt228.2.2.2.1 bt228.2.2.2.2).bind fun bt234 => (if t181 = true then ((whirligiglaw02_decimal.f (Int.tmod (wrap64 ((wrap64 ((wrap64 (Int.tmod a0 100)) + (wrap64 (Int.tmod a1 100)))))) 100)).bind fun t240 => (if t220 = t240 then (if (t224 == (decide ((wrap64 ((wrap64 ((wrap64 (Int.tmod a0 100)) + (wrap64 (Int.tmod a1 100)))))) > 99))) = true then ((whirligiglaw02_decimal.f (Int.tmod (wrap64 ((wrap64 ((wrap64 ((wrap64 (Int.tmod a0 100)) - (wrap64 (Int.tmod a1 100)))))) + 200)) 100)).bind fun t241 => (if bt234.1 = t241 then (some (bt234.2.2.2.2 == (decide ((wrap64 (Int.tmod a0 100)) < (wrap64 ((wrap64 (Int.tmod a1 100)))))))) else (some false))) else (some false)) else (some false))) else (some false)))))) = some r := H
  have A216 := Aside0.mk A2160
  clear A2160
  replace H := Option.bind_eq_some_iff.mp H
  obtain ⟨t226, A2170, H⟩ := H
  replace H : ((whirligiglaw02_decimal.f (wrap64 (Int.tmod a1 100))).bind fun t227 => ((alu_Do.f 3 t226 t227 a2_0 a2_1 a2_2 false).bind fun bt228 => ((alu_Daa.f k bt228.1 bt228.2.1 bt228.2.2.1 bt228.2.2.2.1 bt228.2.2.2.2).bind fun bt234 => (if t181 = true then ((whirligiglaw02_decimal.f (Int.tmod (wrap64 ((wrap64 ((wrap64 (Int.tmod a0 100)) + (wrap64 (Int.tmod a1 100)))))) 100)).bind fun t240 => (if t220 = t240 then (if (t224 == (decide ((wrap64 ((wrap64 ((wrap64 (Int.tmod a0 100)) + (wrap64 (Int.tmod a1 100)))))) > 99))) = true then ((whirligiglaw02_decimal.f (Int.tmod (wrap64 ((wrap64 ((wrap64 ((wrap64 (Int.tmod a0 100)) - (wrap64 (Int.tmod a1 100)))))) + 200)) 100)).bind fun t241 => (if bt234.1 = t241 then (some (bt234.2.2.2.2 == (decide ((wrap64 (Int.tmod a0 100)) < (wrap64 ((wrap64 (Int.tmod a1 100)))))))) else (some false))) else (some false)) else (some false))) else (some false))))) = some r := H
  have A217 := Aside0.mk A2170
  clear A2170
  replace H := Option.bind_eq_some_iff.mp H
  obtain ⟨t227, A2180, H⟩ := H
  replace H : ((alu_Do.f 3 t226 t227 a2_0 a2_1 a2_2 false).bind fun bt228 => ((alu_Daa.f k bt228.1 bt228.2.1 bt228.2.2.1 bt228.2.2.2.1 bt228.2.2.2.2).bind fun bt234 => (if t181 = true then ((whirligiglaw02_decimal.f (Int.tmod (wrap64 ((wrap64 ((wrap64 (Int.tmod a0 100)) + (wrap64 (Int.tmod a1 100)))))) 100)).bind fun t240 => (if t220 = t240 then (if (t224 == (decide ((wrap64 ((wrap64 ((wrap64 (Int.tmod a0 100)) + (wrap64 (Int.tmod a1 100)))))) > 99))) = true then ((whirligiglaw02_decimal.f (Int.tmod (wrap64 ((wrap64 ((wrap64 ((wrap64 (Int.tmod a0 100)) - (wrap64 (Int.tmod a1 100)))))) + 200)) 100)).bind fun t241 => (if bt234.1 = t241 then (some (bt234.2.2.2.2 == (decide ((wrap64 (Int.tmod a0 100)) < (wrap64 ((wrap64 (Int.tmod a1 100)))))))) else (some false))) else (some false)) else (some false))) else (some false)))) = some r := H
  have A218 := Aside0.mk A2180
  clear A2180
  replace H := Option.bind_eq_some_iff.mp H
  obtain ⟨⟨t228, t229, t230, t231, t232⟩, A2190, H⟩ := H
  replace H : ((alu_Daa.f k t228 t229 t230 t231 t232).bind fun bt234 => (if t181 = true then ((whirligiglaw02_decimal.f (Int.tmod (wrap64 ((wrap64 ((wrap64 (Int.tmod a0 100)) + (wrap64 (Int.tmod a1 100)))))) 100)).bind fun t240 => (if t220 = t240 then (if (t224 == (decide ((wrap64 ((wrap64 ((wrap64 (Int.tmod a0 100)) + (wrap64 (Int.tmod a1 100)))))) > 99))) = true then ((whirligiglaw02_decimal.f (Int.tmod (wrap64 ((wrap64 ((wrap64 ((wrap64 (Int.tmod a0 100)) - (wrap64 (Int.tmod a1 100)))))) + 200)) 100)).bind fun t241 => (if bt234.1 = t241 then (some (bt234.2.2.2.2 == (decide ((wrap64 (Int.tmod a0 100)) < (wrap64 ((wrap64 (Int.tmod a1 100)))))))) else (some false))) else (some false)) else (some false))) else (some false))) = some r := H
  have A219 := Aside0.mk A2190
  clear A2190
  replace H := Option.bind_eq_some_iff.mp H
  obtain ⟨⟨t234, t235, t236, t237, t238⟩, A2200, H⟩ := H
  replace H : (if t181 = true then ((whirligiglaw02_decimal.f (Int.tmod (wrap64 ((wrap64 ((wrap64 (Int.tmod a0 100)) + (wrap64 (Int.tmod a1 100)))))) 100)).bind fun t240 => (if t220 = t240 then (if (t224 == (decide ((wrap64 ((wrap64 ((wrap64 (Int.tmod a0 100)) + (wrap64 (Int.tmod a1 100)))))) > 99))) = true then ((whirligiglaw02_decimal.f (Int.tmod (wrap64 ((wrap64 ((wrap64 ((wrap64 (Int.tmod a0 100)) - (wrap64 (Int.tmod a1 100)))))) + 200)) 100)).bind fun t241 => (if t234 = t241 then (some (t238 == (decide ((wrap64 (Int.tmod a0 100)) < (wrap64 ((wrap64 (Int.tmod a1 100)))))))) else (some false))) else (some false)) else (some false))) else (some false)) = some r := H
  have A220 := Aside0.mk A2200
  clear A2200
  by_cases c221 : t181 = true
  ·subst c221
   have H1 : ((whirligiglaw02_decimal.f (Int.tmod (wrap64 ((wrap64 ((wrap64 (Int.tmod a0 100)) + (wrap64 (Int.tmod a1 100)))))) 100)).bind fun t240 => (if t220 = t240 then (if (t224 == (decide ((wrap64 ((wrap64 ((wrap64 (Int.tmod a0 100)) + (wrap64 (Int.tmod a1 100)))))) > 99))) = true then ((whirligiglaw02_decimal.f (Int.tmod (wrap64 ((wrap64 ((wrap64 ((wrap64 (Int.tmod a0 100)) - (wrap64 (Int.tmod a1 100)))))) + 200)) 100)).bind fun t241 => (if t234 = t241 then (some (t238 == (decide ((wrap64 (Int.tmod a0 100)) < (wrap64 ((wrap64 (Int.tmod a1 100)))))))) else (some false))) else (some false)) else (some false))) = some r := by rw [if_pos rfl] at H; exact H
   clear H
   have H := H1
   clear H1
   replace H := Option.bind_eq_some_iff.mp H
   obtain ⟨t240, A2220, H⟩ := H
   replace H : (if t220 = t240 then (if (t224 == (decide ((wrap64 ((wrap64 ((wrap64 (Int.tmod a0 100)) + (wrap64 (Int.tmod a1 100)))))) > 99))) = true then ((whirligiglaw02_decimal.f (Int.tmod (wrap64 ((wrap64 ((wrap64 ((wrap64 (Int.tmod a0 100)) - (wrap64 (Int.tmod a1 100)))))) + 200)) 100)).bind fun t241 => (if t234 = t241 then (some (t238 == (decide ((wrap64 (Int.tmod a0 100)) < (wrap64 ((wrap64 (Int.tmod a1 100)))))))) else (some false))) else (some false)) else (some false)) = some r := H
   have A222 := Aside0.mk A2220
   clear A2220
   by_cases c223 : t220 = t240
   ·rw [if_pos c223] at H
    have c223b0 : (t220 == t240) = true := beq_iff_eq.mpr c223
    have c223b1 : (t220 != t240) = false := bne_eq_false_iff_eq.mpr c223
    clear c223
    by_cases c224 : (t224 == (decide ((wrap64 ((wrap64 ((wrap64 (Int.tmod a0 100)) + (wrap64 (Int.tmod a1 100)))))) > 99))) = true
    ·rw [if_pos c224] at H
     have c224b0 : (t224 == (decide ((wrap64 ((wrap64 ((wrap64 (Int.tmod a0 100)) + (wrap64 (Int.tmod a1 100)))))) > 99))) = true := c224
     (try (have c224b1 : decide (t224 = (decide ((wrap64 ((wrap64 ((wrap64 (Int.tmod a0 100)) + (wrap64 (Int.tmod a1 100)))))) > 99))) = true := by simpa using c224))
     (try (have c224b2 : (t224 == (decide ((wrap64 ((wrap64 ((wrap64 (Int.tmod a0 100)) + (wrap64 (Int.tmod a1 100)))))) > 99))) = true := by simpa using c224))
     clear c224
     replace H := Option.bind_eq_some_iff.mp H
     obtain ⟨t241, A2250, H⟩ := H
     replace H : (if t234 = t241 then (some (t238 == (decide ((wrap64 (Int.tmod a0 100)) < (wrap64 ((wrap64 (Int.tmod a1 100)))))))) else (some false)) = some r := H
     have A225 := Aside0.mk A2250
     clear A2250
     by_cases c226 : t234 = t241
     ·rw [if_pos c226] at H
      have c226b0 : (t234 == t241) = true := beq_iff_eq.mpr c226
      have c226b1 : (t234 != t241) = false := bne_eq_false_iff_eq.mpr c226
      clear c226
      obtain rfl := Option.some.inj H
      go_enter Try.func6, Try.ntmps6
      try go_wp2_with (first | ((with_reducible refine gate_dst (N := 5) rfl ?_); refine box_event ?hg (N := 5) ?hd (cs := #[.bool a2_0, .bool a2_1, .bool a2_2, .bool false]) (t := 23) ?hr ?_; (case hd => rfl); (case hg => rfl); (case hr => first | (go_simp; done) | (go_simp; rfl)); intro gb180 hg w227 hbox hb; have n0_ := Aside0.mk (below_step (by repeat (first | (with_reducible first | exact HB.out | apply below_alloc | apply pw_below_drewN | apply below_drew1) | exact HB.out)) hb); have n1_ := Aside0.mk (hbox); have n2_ := Aside0.mk ((by rw [hg]; exact (below_size (by repeat (first | (with_reducible first | exact HB.out | apply below_alloc | apply pw_below_drewN | apply below_drew1) | exact HB.out))) : w.heap.size ≤ gb180)); have n3_ := Aside0.mk ((by rw [hg]; exact (below_size (by repeat (first | (with_reducible first | exact HB.out | apply below_alloc | apply pw_below_drewN | apply below_drew1) | exact HB.out))) : w.heap.size ≤ gb180)); clear HB; have HB := n0_; have BK180 := n1_; have GW180 := n2_; have GE180 := n3_; clear n0_ n1_ n2_ n3_; clear hb hbox hg) | ((with_reducible refine gate_callee (f := 11) rfl ?_); refine goesL_ (some 19) rfl rfl Try.func11 (by kernel_rfl) rfl #[] rfl (by (try simp only [List.map_toArray, List.map_cons, List.map_nil]); first | done | rfl | (simp only [List.length_drop, List.length_take]; rfl)) ?_; (with_reducible refine (whirligiglaw02_shown.calls k  true _ A4.out rfl).mono ?_); rintro e w228 ⟨rfl, hb⟩; refine ⟨_, rfl, ?_⟩; have n0_ := Aside0.mk (blk_below (g := gb180) (o := .cells #[.bool a2_0, .bool a2_1, .bool a2_2, .bool false] 23 (0, 0)) (by (with_reducible repeat (first | refine blk_drewN ?_ _ | refine blk_drew ?_ | refine blk_alloc ?_ _)); exact BK180.out) hb); have n1_ := Aside0.mk (below_step (by repeat (first | (with_reducible first | exact HB.out | apply below_alloc | apply pw_below_drewN | apply below_drew1 | refine below_set ?_ GE180.out) | exact HB.out)) hb); clear BK180; clear HB; have BK180 := n0_; have HB := n1_; clear n0_ n1_; (try clear hb); (try clear hb2); (try clear hk); (try clear hi); have hcz229_0 : w228.cell? ⟨gb180, 0, none⟩ = some (.bool a2_0) := (blk_cell BK180.out 0).trans rfl; have hcz229_1 : w228.cell? ⟨gb180, 1, none⟩ = some (.bool a2_1) := (blk_cell BK180.out 1).trans rfl; have hcz229_2 : w228.cell? ⟨gb180, 2, none⟩ = some (.bool a2_2) := (blk_cell BK180.out 2).trans rfl; have hcz229_3 : w228.cell? ⟨gb180, 3, none⟩ = some (.bool false) := (blk_cell BK180.out 3).trans rfl; have hfz229_0 := blk_frozen BK180.out 0; have hfz229_1 := blk_frozen BK180.out 1; have hfz229_2 := blk_frozen BK180.out 2; have hfz229_3 := blk_frozen BK180.out 3))
      have n0_ := Aside0.mk (blk_drew BK180.out)
      have n1_ := Aside0.mk (below_drew1 HB.out)
      clear BK180
      clear HB
      have BK180 := n0_
      have HB := n1_
      clear n0_ n1_
      refine start_ (n := 12) (S := fun w' => w'.cell? ⟨gb180, 0, none⟩ = some (.bool a2_0) ∧ w'.cell? ⟨gb180, 1, none⟩ = some (.bool a2_1) ∧ w'.cell? ⟨gb180, 2, none⟩ = some (.bool a2_2) ∧ w'.cell? ⟨gb180, 3, none⟩ = some (.bool false)) (ds := []) #[false, false, false, false, false, false, false, false, false, false, false, false] (by kernel_rfl) rfl rfl ⟨(blk_cell BK180.out 0).trans rfl, (blk_cell BK180.out 1).trans rfl, (blk_cell BK180.out 2).trans rfl, (blk_cell BK180.out 3).trans rfl⟩ (fun hHeld => ?_); refine with_tabW whirligiglaw02_AluDecimals.tab7 whirligiglaw02_AluDecimals.bits7 (fun HT_ HW_ => ?_)
      generalize w228.drew = w230 at BK180 HB hHeld ⊢
      refine pure_ (i := 0) (N := some 29) (v := ?_) (a' := ?_) #[true, false, false, false, false, false, false, false, false, false, false, false] rfl rfl (any_of HT_.out (by kernel_rfl)) (fun _ _ _ h => h) (Or.inl ⟨by rfl, ?_⟩) ?_ ?_
      rotate_left
      ·intro w'
       go_simp
       with_reducible rfl
      rotate_left
      ·simp only [Act.put, List.setIfInBounds_toArray, List.set_cons_zero, List.set_cons_succ, i64_w, i32_w]
       rfl
      refine pure_ (i := 2) (N := some 31) (v := ?_) (a' := ?_) #[true, false, true, false, false, false, false, false, false, false, false, false] rfl rfl (any_of HT_.out (by kernel_rfl)) (fun _ _ _ h => h) (Or.inl ⟨by rfl, ?_⟩) ?_ ?_
      rotate_left
      ·intro w'
       go_simp
       with_reducible rfl
      rotate_left
      ·simp only [Act.put, List.setIfInBounds_toArray, List.set_cons_zero, List.set_cons_succ, i64_w, i32_w]
       rfl
      refine take_ (i := 4) (N := some 33) (v := ?_) (a' := ?_) #[true, false, true, false, true, false, false, false, false, false, false, false] rfl rfl (take_ofW HT_.out HW_.out (by kernel_rfl)) (fun _ _ _ h => h) (Or.inl ⟨by rfl, ?_⟩) hHeld ?_ ?_
      rotate_left
      ·rintro w' ⟨s0, s1, s2, s3⟩
       go_simp
       with_reducible rfl
      rotate_left
      ·simp only [Act.put, List.setIfInBounds_toArray, List.set_cons_zero, List.set_cons_succ, i64_w, i32_w]
       rfl
      refine join_ (σ := Nat) 2 #[true, true, true, true, true, true, true, true, true, true, false, false] (fun s_ => [(30, .int .u8 t212), (32, .int .u8 t213), (34, .tuple #[.int .u8 t214, .agg #[.bool t215, .bool t216, .bool t217, .bool t218]]), (12, .pointer (some ⟨s_, 0, none⟩)), (28, .tuple #[.int .u8 t214, .agg #[.bool t215, .bool t216, .bool t217, .bool t218]]), (35, .int .u8 t214), (36, .agg #[.bool t215, .bool t216, .bool t217, .bool t218])]) (fun s_ w' => (w'.cell? ⟨gb180, 0, none⟩ = some (.bool a2_0) ∧ w'.cell? ⟨gb180, 1, none⟩ = some (.bool a2_1) ∧ w'.cell? ⟨gb180, 2, none⟩ = some (.bool a2_2) ∧ w'.cell? ⟨gb180, 3, none⟩ = some (.bool false)) ∧ (w'.heap[gb180]? = some (.cells #[.bool a2_0, .bool a2_1, .bool a2_2, .bool false] 23 (0, 0))) ∧ (w'.heap[s_]? = some (.cells #[.bool false, .bool false, .bool false, .bool false] 23 (0, 0))) ∧ (w.heap.size ≤ s_) ∧ (w.heap.size ≤ s_) ∧ (gb180 ≠ s_) ∧ (s_ ≠ gb180) ∧ (Below w.heap.size w w')) ?_ ?_
      rotate_left
      ·intro hCont
       refine two_ (i := 1) (j := 9) (Ni := some 30) (Nj := some 12) #[true, true, true, false, true, false, false, false, false, false, false, false] #[true, false, true, false, true, false, false, false, false, true, false, false] rfl rfl rfl rfl (two_of HT_.out (by kernel_rfl)) (by decide) (by decide) (fun K hK => ?_) (fun K hK => ?_)
       ·skip
        refine goes_ Try.func20 (by kernel_rfl) rfl #[.int .i64 (wrap64 (Int.tmod a0 100))] (by rfl) rfl rfl (by (try simp only [List.map_toArray, List.map_cons, List.map_nil]); first | done | rfl | (simp only [List.length_drop, List.length_take]; rfl)) ?_
        with_reducible refine (whirligiglaw02_decimal.calls (wrap64 (Int.tmod a0 100)) t212 _ A213.out).mono ?_
        rintro e w' ⟨rfl, ⟨nd, rfl⟩⟩
        refine ⟨_, rfl, ?_⟩
        refine hK.out _ _ ⟨(blk_cell BK180.out 0).trans rfl, (blk_cell BK180.out 1).trans rfl, (blk_cell BK180.out 2).trans rfl, (blk_cell BK180.out 3).trans rfl⟩ (fun hHeld => ?_)
        clear hK K
        refine norm_ (a' := ?_) ?_ ?_
        rotate_left
        ·show Act.put _ (some 30) _ = _
         simp only [Act.put, List.setIfInBounds_toArray, List.set_cons_zero, List.set_cons_succ, i64_w, i32_w]
         rfl
        refine two_ (i := 3) (j := 9) (Ni := some 32) (Nj := some 12) #[true, true, true, true, true, false, false, false, false, false, false, false] #[true, true, true, false, true, false, false, false, false, true, false, false] rfl rfl rfl rfl (two_of HT_.out (by kernel_rfl)) (by decide) (by decide) (fun K hK => ?_) (fun K hK => ?_)
        ·skip
         refine goes_ Try.func20 (by kernel_rfl) rfl #[.int .i64 (wrap64 (Int.tmod a1 100))] (by rfl) rfl rfl (by (try simp only [List.map_toArray, List.map_cons, List.map_nil]); first | done | rfl | (simp only [List.length_drop, List.length_take]; rfl)) ?_
         with_reducible refine (whirligiglaw02_decimal.calls (wrap64 (Int.tmod a1 100)) t213 _ A214.out).mono ?_
         rintro e w' ⟨rfl, ⟨nd, rfl⟩⟩
         refine ⟨_, rfl, ?_⟩
         refine hK.out _ _ ⟨(blk_cell BK180.out 0).trans rfl, (blk_cell BK180.out 1).trans rfl, (blk_cell BK180.out 2).trans rfl, (blk_cell BK180.out 3).trans rfl⟩ (fun hHeld => ?_)
         clear hK K
         refine norm_ (a' := ?_) ?_ ?_
         rotate_left
         ·show Act.put _ (some 32) _ = _
          simp only [Act.put, List.setIfInBounds_toArray, List.set_cons_zero, List.set_cons_succ, i64_w, i32_w]
          rfl
         refine two_ (i := 5) (j := 9) (Ni := some 34) (Nj := some 12) #[true, true, true, true, true, true, false, false, false, false, false, false] #[true, true, true, true, true, false, false, false, false, true, false, false] rfl rfl rfl rfl (two_of HT_.out (by kernel_rfl)) (by decide) (by decide) (fun K hK => ?_) (fun K hK => ?_)
         ·skip
          refine goes_ Try.func12 (by kernel_rfl) rfl #[.int .i64 1, .int .u8 t212, .int .u8 t213, .agg #[.bool a2_0, .bool a2_1, .bool a2_2, .bool false]] (by rfl) rfl rfl (by (try simp only [List.map_toArray, List.map_cons, List.map_nil]); first | done | rfl | (simp only [List.length_drop, List.length_take]; rfl)) ?_
          with_reducible refine (alu_Do.calls 1 t212 t213 a2_0 a2_1 a2_2 false t214 t215 t216 t217 t218 _ A215.out).mono ?_
          rintro e w231 ⟨rfl, hb⟩
          refine ⟨_, rfl, ?_⟩
          have n0_ := Aside0.mk (blk_below (g := gb180) (o := .cells #[.bool a2_0, .bool a2_1, .bool a2_2, .bool false] 23 (0, 0)) (by (with_reducible repeat (first | refine blk_drewN ?_ _ | refine blk_drew ?_ | refine blk_alloc ?_ _)); exact BK180.out) hb)
          have n1_ := Aside0.mk (below_step (by repeat (first | (with_reducible first | exact HB.out | apply below_alloc | apply pw_below_drewN | apply below_drew1 | refine below_set ?_ GE180.out) | exact HB.out)) hb)
          clear BK180
          clear HB
          have BK180 := n0_
          have HB := n1_
          clear n0_ n1_
          (try clear hb)
          (try clear hb2)
          (try clear hk)
          (try clear hi)
          refine hK.out _ _ ⟨(blk_cell BK180.out 0).trans rfl, (blk_cell BK180.out 1).trans rfl, (blk_cell BK180.out 2).trans rfl, (blk_cell BK180.out 3).trans rfl⟩ (fun hHeld => ?_)
          clear hK K
          refine norm_ (a' := ?_) ?_ ?_
          rotate_left
          ·show Act.put _ (some 34) _ = _
           simp only [Act.put, List.setIfInBounds_toArray, List.set_cons_zero, List.set_cons_succ, i64_w, i32_w]
           rfl
          refine pure_ (i := 6) (N := some 28) (v := ?_) (a' := ?_) #[true, true, true, true, true, true, true, false, false, false, false, false] rfl rfl (any_of HT_.out (by kernel_rfl)) (fun _ _ _ h => h) (Or.inl ⟨by rfl, ?_⟩) ?_ ?_
          rotate_left
          ·intro w'
           go_simp
           with_reducible rfl
          rotate_left
          ·simp only [Act.put, List.setIfInBounds_toArray, List.set_cons_zero, List.set_cons_succ, i64_w, i32_w]
           rfl
          refine pure_ (i := 7) (N := some 35) (v := ?_) (a' := ?_) #[true, true, true, true, true, true, true, true, false, false, false, false] rfl rfl (any_of HT_.out (by kernel_rfl)) (fun _ _ _ h => h) (Or.inl ⟨by rfl, ?_⟩) ?_ ?_
          rotate_left
          ·intro w'
           go_simp
           with_reducible rfl
          rotate_left
          ·simp only [Act.put, List.setIfInBounds_toArray, List.set_cons_zero, List.set_cons_succ, i64_w, i32_w]
           rfl
          refine pure_ (i := 8) (N := some 36) (v := ?_) (a' := ?_) #[true, true, true, true, true, true, true, true, true, false, false, false] rfl rfl (any_of HT_.out (by kernel_rfl)) (fun _ _ _ h => h) (Or.inl ⟨by rfl, ?_⟩) ?_ ?_
          rotate_left
          ·intro w'
           go_simp
           with_reducible rfl
          rotate_left
          ·simp only [Act.put, List.setIfInBounds_toArray, List.set_cons_zero, List.set_cons_succ, i64_w, i32_w]
           rfl
          refine one_ (i := 9) (N := some 12) #[true, true, true, true, true, true, true, true, true, true, false, false] rfl rfl (one_of HT_.out (by kernel_rfl)) (by decide) (fun K hK => ?_)
          refine box_step ?hg (N := 12) ?hd (cs := #[.bool false, .bool false, .bool false, .bool false]) (t := 23) ?hr ?_; (case hd => rfl); (case hg => rfl); (case hr => first | (go_simp; done) | (go_simp; rfl))
          intro gb219 hg w232 hbox hb
          have n0_ := Aside0.mk (blk_below (g := gb180) (o := .cells #[.bool a2_0, .bool a2_1, .bool a2_2, .bool false] 23 (0, 0)) (by (with_reducible repeat (first | refine blk_drewN ?_ _ | refine blk_drew ?_ | refine blk_alloc ?_ _)); exact BK180.out) hb)
          have n1_ := Aside0.mk (below_step (by repeat (first | (with_reducible first | exact HB.out | apply below_alloc | apply pw_below_drewN | apply below_drew1 | refine below_set ?_ GE180.out) | exact HB.out)) hb)
          have n2_ := Aside0.mk (hbox)
          have n3_ := Aside0.mk ((by rw [hg]; exact (below_size (by repeat (first | (with_reducible first | exact HB.out | apply below_alloc | apply pw_below_drewN | apply below_drew1 | refine below_set ?_ GE180.out) | exact HB.out))) : w.heap.size ≤ gb219))
          have n4_ := Aside0.mk ((by rw [hg]; exact (below_size (by repeat (first | (with_reducible first | exact HB.out | apply below_alloc | apply pw_below_drewN | apply below_drew1 | refine below_set ?_ GE180.out) | exact HB.out))) : w.heap.size ≤ gb219))
          have n5_ := Aside0.mk ((by rw [hg]; exact Nat.ne_of_lt (blk_lt (g := gb180) (o := .cells #[.bool a2_0, .bool a2_1, .bool a2_2, .bool false] 23 (0, 0)) (by (with_reducible repeat (first | refine blk_drewN ?_ _ | refine blk_drew ?_ | refine blk_alloc ?_ _)); exact BK180.out)) : gb180 ≠ gb219))
          have n6_ := Aside0.mk ((by rw [hg]; exact Nat.ne_of_gt (blk_lt (g := gb180) (o := .cells #[.bool a2_0, .bool a2_1, .bool a2_2, .bool false] 23 (0, 0)) (by (with_reducible repeat (first | refine blk_drewN ?_ _ | refine blk_drew ?_ | refine blk_alloc ?_ _)); exact BK180.out)) : gb219 ≠ gb180))
          clear BK180
          clear HB
          have BK180 := n0_
          have HB := n1_
          have BK219 := n2_
          have GW219 := n3_
          have GE219 := n4_
          have NB180_219 := n5_
          have NB219_180 := n6_
          clear n0_ n1_ n2_ n3_ n4_ n5_ n6_
          clear hb hbox hg
          refine hK.out _ _ ⟨(blk_cell BK180.out 0).trans rfl, (blk_cell BK180.out 1).trans rfl, (blk_cell BK180.out 2).trans rfl, (blk_cell BK180.out 3).trans rfl⟩ (fun hHeld => ?_)
          clear hK K
          refine norm_ (a' := ?_) ?_ ?_
          rotate_left
          ·show Act.put _ (some 12) _ = _
           simp only [Act.put, List.setIfInBounds_toArray, List.set_cons_zero, List.set_cons_succ, i64_w, i32_w]
           rfl
          exact norm_ (by simp only [putAll, Act.put, List.setIfInBounds_toArray, List.set_cons_zero, List.set_cons_succ]) (hCont (gb219) _ ⟨hHeld, (by (with_reducible repeat (first | refine blk_drewN ?_ _ | refine blk_drew ?_ | refine blk_alloc ?_ _)); exact BK180.out), (by (with_reducible repeat (first | refine blk_drewN ?_ _ | refine blk_drew ?_ | refine blk_alloc ?_ _)); exact BK219.out), GW219.out, GE219.out, NB180_219.out, NB219_180.out, (by repeat (first | (with_reducible first | exact HB.out | apply below_alloc | apply pw_below_drewN | apply below_drew1 | refine below_set ?_ GE180.out | refine below_set ?_ GE219.out) | exact HB.out))⟩)
         ·skip
          refine box_step ?hg (N := 12) ?hd (cs := #[.bool false, .bool false, .bool false, .bool false]) (t := 23) ?hr ?_; (case hd => rfl); (case hg => rfl); (case hr => first | (go_simp; done) | (go_simp; rfl))
          intro gb219 hg w231 hbox hb
          have n0_ := Aside0.mk (blk_below (g := gb180) (o := .cells #[.bool a2_0, .bool a2_1, .bool a2_2, .bool false] 23 (0, 0)) (by (with_reducible repeat (first | refine blk_drewN ?_ _ | refine blk_drew ?_ | refine blk_alloc ?_ _)); exact BK180.out) hb)
          have n1_ := Aside0.mk (below_step (by repeat (first | (with_reducible first | exact HB.out | apply below_alloc | apply pw_below_drewN | apply below_drew1 | refine below_set ?_ GE180.out) | exact HB.out)) hb)
          have n2_ := Aside0.mk (hbox)
          have n3_ := Aside0.mk ((by rw [hg]; exact (below_size (by repeat (first | (with_reducible first | exact HB.out | apply below_alloc | apply pw_below_drewN | apply below_drew1 | refine below_set ?_ GE180.out) | exact HB.out))) : w.heap.size ≤ gb219))
          have n4_ := Aside0.mk ((by rw [hg]; exact (below_size (by repeat (first | (with_reducible first | exact HB.out | apply below_alloc | apply pw_below_drewN | apply below_drew1 | refine below_set ?_ GE180.out) | exact HB.out))) : w.heap.size ≤ gb219))
          have n5_ := Aside0.mk ((by rw [hg]; exact Nat.ne_of_lt (blk_lt (g := gb180) (o := .cells #[.bool a2_0, .bool a2_1, .bool a2_2, .bool false] 23 (0, 0)) (by (with_reducible repeat (first | refine blk_drewN ?_ _ | refine blk_drew ?_ | refine blk_alloc ?_ _)); exact BK180.out)) : gb180 ≠ gb219))
          have n6_ := Aside0.mk ((by rw [hg]; exact Nat.ne_of_gt (blk_lt (g := gb180) (o := .cells #[.bool a2_0, .bool a2_1, .bool a2_2, .bool false] 23 (0, 0)) (by (with_reducible repeat (first | refine blk_drewN ?_ _ | refine blk_drew ?_ | refine blk_alloc ?_ _)); exact BK180.out)) : gb219 ≠ gb180))
          clear BK180
          clear HB
          have BK180 := n0_
          have HB := n1_
          have BK219 := n2_
          have GW219 := n3_
          have GE219 := n4_
          have NB180_219 := n5_
          have NB219_180 := n6_
          clear n0_ n1_ n2_ n3_ n4_ n5_ n6_
          clear hb hbox hg
          refine hK.out _ _ ⟨(blk_cell BK180.out 0).trans rfl, (blk_cell BK180.out 1).trans rfl, (blk_cell BK180.out 2).trans rfl, (blk_cell BK180.out 3).trans rfl⟩ (fun hHeld => ?_)
          clear hK K
          refine norm_ (a' := ?_) ?_ ?_
          rotate_left
          ·show Act.put _ (some 12) _ = _
           simp only [Act.put, List.setIfInBounds_toArray, List.set_cons_zero, List.set_cons_succ, i64_w, i32_w]
           rfl
          refine one_ (i := 5) (N := some 34) #[true, true, true, true, true, true, false, false, false, true, false, false] rfl rfl (one_of HT_.out (by kernel_rfl)) (by decide) (fun K hK => ?_)
          refine goes_ Try.func12 (by kernel_rfl) rfl #[.int .i64 1, .int .u8 t212, .int .u8 t213, .agg #[.bool a2_0, .bool a2_1, .bool a2_2, .bool false]] (by rfl) rfl rfl (by (try simp only [List.map_toArray, List.map_cons, List.map_nil]); first | done | rfl | (simp only [List.length_drop, List.length_take]; rfl)) ?_
          with_reducible refine (alu_Do.calls 1 t212 t213 a2_0 a2_1 a2_2 false t214 t215 t216 t217 t218 _ A215.out).mono ?_
          rintro e w232 ⟨rfl, hb⟩
          refine ⟨_, rfl, ?_⟩
          have n0_ := Aside0.mk (blk_below (g := gb180) (o := .cells #[.bool a2_0, .bool a2_1, .bool a2_2, .bool false] 23 (0, 0)) (by (with_reducible repeat (first | refine blk_drewN ?_ _ | refine blk_drew ?_ | refine blk_alloc ?_ _)); exact BK180.out) hb)
          have n1_ := Aside0.mk (blk_below (g := gb219) (o := .cells #[.bool false, .bool false, .bool false, .bool false] 23 (0, 0)) (by (with_reducible repeat (first | refine blk_drewN ?_ _ | refine blk_drew ?_ | refine blk_alloc ?_ _)); exact BK219.out) hb)
          have n2_ := Aside0.mk (below_step (by repeat (first | (with_reducible first | exact HB.out | apply below_alloc | apply pw_below_drewN | apply below_drew1 | refine below_set ?_ GE180.out | refine below_set ?_ GE219.out) | exact HB.out)) hb)
          clear BK180
          clear BK219
          clear HB
          have BK180 := n0_
          have BK219 := n1_
          have HB := n2_
          clear n0_ n1_ n2_
          (try clear hb)
          (try clear hb2)
          (try clear hk)
          (try clear hi)
          refine hK.out _ _ ⟨(blk_cell BK180.out 0).trans rfl, (blk_cell BK180.out 1).trans rfl, (blk_cell BK180.out 2).trans rfl, (blk_cell BK180.out 3).trans rfl⟩ (fun hHeld => ?_)
          clear hK K
          refine norm_ (a' := ?_) ?_ ?_
          rotate_left
          ·show Act.put _ (some 34) _ = _
           simp only [Act.put, List.setIfInBounds_toArray, List.set_cons_zero, List.set_cons_succ, i64_w, i32_w]
           rfl
          refine pure_ (i := 6) (N := some 28) (v := ?_) (a' := ?_) #[true, true, true, true, true, true, true, false, false, true, false, false] rfl rfl (any_of HT_.out (by kernel_rfl)) (fun _ _ _ h => h) (Or.inl ⟨by rfl, ?_⟩) ?_ ?_
          rotate_left
          ·intro w'
           go_simp
           with_reducible rfl
          rotate_left
          ·simp only [Act.put, List.setIfInBounds_toArray, List.set_cons_zero, List.set_cons_succ, i64_w, i32_w]
           rfl
          refine pure_ (i := 7) (N := some 35) (v := ?_) (a' := ?_) #[true, true, true, true, true, true, true, true, false, true, false, false] rfl rfl (any_of HT_.out (by kernel_rfl)) (fun _ _ _ h => h) (Or.inl ⟨by rfl, ?_⟩) ?_ ?_
          rotate_left
          ·intro w'
           go_simp
           with_reducible rfl
          rotate_left
          ·simp only [Act.put, List.setIfInBounds_toArray, List.set_cons_zero, List.set_cons_succ, i64_w, i32_w]
           rfl
          refine pure_ (i := 8) (N := some 36) (v := ?_) (a' := ?_) #[true, true, true, true, true, true, true, true, true, true, false, false] rfl rfl (any_of HT_.out (by kernel_rfl)) (fun _ _ _ h => h) (Or.inl ⟨by rfl, ?_⟩) ?_ ?_
          rotate_left
          ·intro w'
           go_simp
           with_reducible rfl
          rotate_left
          ·simp only [Act.put, List.setIfInBounds_toArray, List.set_cons_zero, List.set_cons_succ, i64_w, i32_w]
           rfl
          exact norm_ (by simp only [putAll, Act.put, List.setIfInBounds_toArray, List.set_cons_zero, List.set_cons_succ]) (hCont (gb219) _ ⟨hHeld, (by (with_reducible repeat (first | refine blk_drewN ?_ _ | refine blk_drew ?_ | refine blk_alloc ?_ _)); exact BK180.out), (by (with_reducible repeat (first | refine blk_drewN ?_ _ | refine blk_drew ?_ | refine blk_alloc ?_ _)); exact BK219.out), GW219.out, GE219.out, NB180_219.out, NB219_180.out, (by repeat (first | (with_reducible first | exact HB.out | apply below_alloc | apply pw_below_drewN | apply below_drew1 | refine below_set ?_ GE180.out | refine below_set ?_ GE219.out) | exact HB.out))⟩)
        ·skip
         refine box_step ?hg (N := 12) ?hd (cs := #[.bool false, .bool false, .bool false, .bool false]) (t := 23) ?hr ?_; (case hd => rfl); (case hg => rfl); (case hr => first | (go_simp; done) | (go_simp; rfl))
         intro gb219 hg w231 hbox hb
         have n0_ := Aside0.mk (blk_below (g := gb180) (o := .cells #[.bool a2_0, .bool a2_1, .bool a2_2, .bool false] 23 (0, 0)) (by (with_reducible repeat (first | refine blk_drewN ?_ _ | refine blk_drew ?_ | refine blk_alloc ?_ _)); exact BK180.out) hb)
         have n1_ := Aside0.mk (below_step (by repeat (first | (with_reducible first | exact HB.out | apply below_alloc | apply pw_below_drewN | apply below_drew1 | refine below_set ?_ GE180.out) | exact HB.out)) hb)
         have n2_ := Aside0.mk (hbox)
         have n3_ := Aside0.mk ((by rw [hg]; exact (below_size (by repeat (first | (with_reducible first | exact HB.out | apply below_alloc | apply pw_below_drewN | apply below_drew1 | refine below_set ?_ GE180.out) | exact HB.out))) : w.heap.size ≤ gb219))
         have n4_ := Aside0.mk ((by rw [hg]; exact (below_size (by repeat (first | (with_reducible first | exact HB.out | apply below_alloc | apply pw_below_drewN | apply below_drew1 | refine below_set ?_ GE180.out) | exact HB.out))) : w.heap.size ≤ gb219))
         have n5_ := Aside0.mk ((by rw [hg]; exact Nat.ne_of_lt (blk_lt (g := gb180) (o := .cells #[.bool a2_0, .bool a2_1, .bool a2_2, .bool false] 23 (0, 0)) (by (with_reducible repeat (first | refine blk_drewN ?_ _ | refine blk_drew ?_ | refine blk_alloc ?_ _)); exact BK180.out)) : gb180 ≠ gb219))
         have n6_ := Aside0.mk ((by rw [hg]; exact Nat.ne_of_gt (blk_lt (g := gb180) (o := .cells #[.bool a2_0, .bool a2_1, .bool a2_2, .bool false] 23 (0, 0)) (by (with_reducible repeat (first | refine blk_drewN ?_ _ | refine blk_drew ?_ | refine blk_alloc ?_ _)); exact BK180.out)) : gb219 ≠ gb180))
         clear BK180
         clear HB
         have BK180 := n0_
         have HB := n1_
         have BK219 := n2_
         have GW219 := n3_
         have GE219 := n4_
         have NB180_219 := n5_
         have NB219_180 := n6_
         clear n0_ n1_ n2_ n3_ n4_ n5_ n6_
         clear hb hbox hg
         refine hK.out _ _ ⟨(blk_cell BK180.out 0).trans rfl, (blk_cell BK180.out 1).trans rfl, (blk_cell BK180.out 2).trans rfl, (blk_cell BK180.out 3).trans rfl⟩ (fun hHeld => ?_)
         clear hK K
         refine norm_ (a' := ?_) ?_ ?_
         rotate_left
         ·show Act.put _ (some 12) _ = _
          simp only [Act.put, List.setIfInBounds_toArray, List.set_cons_zero, List.set_cons_succ, i64_w, i32_w]
          rfl
         refine one_ (i := 3) (N := some 32) #[true, true, true, true, true, false, false, false, false, true, false, false] rfl rfl (one_of HT_.out (by kernel_rfl)) (by decide) (fun K hK => ?_)
         refine goes_ Try.func20 (by kernel_rfl) rfl #[.int .i64 (wrap64 (Int.tmod a1 100))] (by rfl) rfl rfl (by (try simp only [List.map_toArray, List.map_cons, List.map_nil]); first | done | rfl | (simp only [List.length_drop, List.length_take]; rfl)) ?_
         with_reducible refine (whirligiglaw02_decimal.calls (wrap64 (Int.tmod a1 100)) t213 _ A214.out).mono ?_
         rintro e w' ⟨rfl, ⟨nd, rfl⟩⟩
         refine ⟨_, rfl, ?_⟩
         refine hK.out _ _ ⟨(blk_cell BK180.out 0).trans rfl, (blk_cell BK180.out 1).trans rfl, (blk_cell BK180.out 2).trans rfl, (blk_cell BK180.out 3).trans rfl⟩ (fun hHeld => ?_)
         clear hK K
         refine norm_ (a' := ?_) ?_ ?_
         rotate_left
         ·show Act.put _ (some 32) _ = _
          simp only [Act.put, List.setIfInBounds_toArray, List.set_cons_zero, List.set_cons_succ, i64_w, i32_w]
          rfl
         refine one_ (i := 5) (N := some 34) #[true, true, true, true, true, true, false, false, false, true, false, false] rfl rfl (one_of HT_.out (by kernel_rfl)) (by decide) (fun K hK => ?_)
         refine goes_ Try.func12 (by kernel_rfl) rfl #[.int .i64 1, .int .u8 t212, .int .u8 t213, .agg #[.bool a2_0, .bool a2_1, .bool a2_2, .bool false]] (by rfl) rfl rfl (by (try simp only [List.map_toArray, List.map_cons, List.map_nil]); first | done | rfl | (simp only [List.length_drop, List.length_take]; rfl)) ?_
         with_reducible refine (alu_Do.calls 1 t212 t213 a2_0 a2_1 a2_2 false t214 t215 t216 t217 t218 _ A215.out).mono ?_
         rintro e w232 ⟨rfl, hb⟩
         refine ⟨_, rfl, ?_⟩
         have n0_ := Aside0.mk (blk_below (g := gb180) (o := .cells #[.bool a2_0, .bool a2_1, .bool a2_2, .bool false] 23 (0, 0)) (by (with_reducible repeat (first | refine blk_drewN ?_ _ | refine blk_drew ?_ | refine blk_alloc ?_ _)); exact BK180.out) hb)
         have n1_ := Aside0.mk (blk_below (g := gb219) (o := .cells #[.bool false, .bool false, .bool false, .bool false] 23 (0, 0)) (by (with_reducible repeat (first | refine blk_drewN ?_ _ | refine blk_drew ?_ | refine blk_alloc ?_ _)); exact BK219.out) hb)
         have n2_ := Aside0.mk (below_step (by repeat (first | (with_reducible first | exact HB.out | apply below_alloc | apply pw_below_drewN | apply below_drew1 | refine below_set ?_ GE180.out | refine below_set ?_ GE219.out) | exact HB.out)) hb)
         clear BK180
         clear BK219
         clear HB
         have BK180 := n0_
         have BK219 := n1_
         have HB := n2_
         clear n0_ n1_ n2_
         (try clear hb)
         (try clear hb2)
         (try clear hk)
         (try clear hi)
         refine hK.out _ _ ⟨(blk_cell BK180.out 0).trans rfl, (blk_cell BK180.out 1).trans rfl, (blk_cell BK180.out 2).trans rfl, (blk_cell BK180.out 3).trans rfl⟩ (fun hHeld => ?_)
         clear hK K
         refine norm_ (a' := ?_) ?_ ?_
         rotate_left
         ·show Act.put _ (some 34) _ = _
          simp only [Act.put, List.setIfInBounds_toArray, List.set_cons_zero, List.set_cons_succ, i64_w, i32_w]
          rfl
         refine pure_ (i := 6) (N := some 28) (v := ?_) (a' := ?_) #[true, true, true, true, true, true, true, false, false, true, false, false] rfl rfl (any_of HT_.out (by kernel_rfl)) (fun _ _ _ h => h) (Or.inl ⟨by rfl, ?_⟩) ?_ ?_
         rotate_left
         ·intro w'
          go_simp
          with_reducible rfl
         rotate_left
         ·simp only [Act.put, List.setIfInBounds_toArray, List.set_cons_zero, List.set_cons_succ, i64_w, i32_w]
          rfl
         refine pure_ (i := 7) (N := some 35) (v := ?_) (a' := ?_) #[true, true, true, true, true, true, true, true, false, true, false, false] rfl rfl (any_of HT_.out (by kernel_rfl)) (fun _ _ _ h => h) (Or.inl ⟨by rfl, ?_⟩) ?_ ?_
         rotate_left
         ·intro w'
          go_simp
          with_reducible rfl
         rotate_left
         ·simp only [Act.put, List.setIfInBounds_toArray, List.set_cons_zero, List.set_cons_succ, i64_w, i32_w]
          rfl
         refine pure_ (i := 8) (N := some 36) (v := ?_) (a' := ?_) #[true, true, true, true, true, true, true, true, true, true, false, false] rfl rfl (any_of HT_.out (by kernel_rfl)) (fun _ _ _ h => h) (Or.inl ⟨by rfl, ?_⟩) ?_ ?_
         rotate_left
         ·intro w'
          go_simp
          with_reducible rfl
         rotate_left
         ·simp only [Act.put, List.setIfInBounds_toArray, List.set_cons_zero, List.set_cons_succ, i64_w, i32_w]
          rfl
         exact norm_ (by simp only [putAll, Act.put, List.setIfInBounds_toArray, List.set_cons_zero, List.set_cons_succ]) (hCont (gb219) _ ⟨hHeld, (by (with_reducible repeat (first | refine blk_drewN ?_ _ | refine blk_drew ?_ | refine blk_alloc ?_ _)); exact BK180.out), (by (with_reducible repeat (first | refine blk_drewN ?_ _ | refine blk_drew ?_ | refine blk_alloc ?_ _)); exact BK219.out), GW219.out, GE219.out, NB180_219.out, NB219_180.out, (by repeat (first | (with_reducible first | exact HB.out | apply below_alloc | apply pw_below_drewN | apply below_drew1 | refine below_set ?_ GE180.out | refine below_set ?_ GE219.out) | exact HB.out))⟩)
       ·skip
        refine box_step ?hg (N := 12) ?hd (cs := #[.bool false, .bool false, .bool false, .bool false]) (t := 23) ?hr ?_; (case hd => rfl); (case hg => rfl); (case hr => first | (go_simp; done) | (go_simp; rfl))
        intro gb219 hg w231 hbox hb
        have n0_ := Aside0.mk (blk_below (g := gb180) (o := .cells #[.bool a2_0, .bool a2_1, .bool a2_2, .bool false] 23 (0, 0)) (by (with_reducible repeat (first | refine blk_drewN ?_ _ | refine blk_drew ?_ | refine blk_alloc ?_ _)); exact BK180.out) hb)
        have n1_ := Aside0.mk (below_step (by repeat (first | (with_reducible first | exact HB.out | apply below_alloc | apply pw_below_drewN | apply below_drew1 | refine below_set ?_ GE180.out) | exact HB.out)) hb)
        have n2_ := Aside0.mk (hbox)
        have n3_ := Aside0.mk ((by rw [hg]; exact (below_size (by repeat (first | (with_reducible first | exact HB.out | apply below_alloc | apply pw_below_drewN | apply below_drew1 | refine below_set ?_ GE180.out) | exact HB.out))) : w.heap.size ≤ gb219))
        have n4_ := Aside0.mk ((by rw [hg]; exact (below_size (by repeat (first | (with_reducible first | exact HB.out | apply below_alloc | apply pw_below_drewN | apply below_drew1 | refine below_set ?_ GE180.out) | exact HB.out))) : w.heap.size ≤ gb219))
        have n5_ := Aside0.mk ((by rw [hg]; exact Nat.ne_of_lt (blk_lt (g := gb180) (o := .cells #[.bool a2_0, .bool a2_1, .bool a2_2, .bool false] 23 (0, 0)) (by (with_reducible repeat (first | refine blk_drewN ?_ _ | refine blk_drew ?_ | refine blk_alloc ?_ _)); exact BK180.out)) : gb180 ≠ gb219))
        have n6_ := Aside0.mk ((by rw [hg]; exact Nat.ne_of_gt (blk_lt (g := gb180) (o := .cells #[.bool a2_0, .bool a2_1, .bool a2_2, .bool false] 23 (0, 0)) (by (with_reducible repeat (first | refine blk_drewN ?_ _ | refine blk_drew ?_ | refine blk_alloc ?_ _)); exact BK180.out)) : gb219 ≠ gb180))
        clear BK180
        clear HB
        have BK180 := n0_
        have HB := n1_
        have BK219 := n2_
        have GW219 := n3_
        have GE219 := n4_
        have NB180_219 := n5_
        have NB219_180 := n6_
        clear n0_ n1_ n2_ n3_ n4_ n5_ n6_
        clear hb hbox hg
        refine hK.out _ _ ⟨(blk_cell BK180.out 0).trans rfl, (blk_cell BK180.out 1).trans rfl, (blk_cell BK180.out 2).trans rfl, (blk_cell BK180.out 3).trans rfl⟩ (fun hHeld => ?_)
        clear hK K
        refine norm_ (a' := ?_) ?_ ?_
        rotate_left
        ·show Act.put _ (some 12) _ = _
         simp only [Act.put, List.setIfInBounds_toArray, List.set_cons_zero, List.set_cons_succ, i64_w, i32_w]
         rfl
        refine one_ (i := 1) (N := some 30) #[true, true, true, false, true, false, false, false, false, true, false, false] rfl rfl (one_of HT_.out (by kernel_rfl)) (by decide) (fun K hK => ?_)
        refine goes_ Try.func20 (by kernel_rfl) rfl #[.int .i64 (wrap64 (Int.tmod a0 100))] (by rfl) rfl rfl (by (try simp only [List.map_toArray, List.map_cons, List.map_nil]); first | done | rfl | (simp only [List.length_drop, List.length_take]; rfl)) ?_
        with_reducible refine (whirligiglaw02_decimal.calls (wrap64 (Int.tmod a0 100)) t212 _ A213.out).mono ?_
        rintro e w' ⟨rfl, ⟨nd, rfl⟩⟩
        refine ⟨_, rfl, ?_⟩
        refine hK.out _ _ ⟨(blk_cell BK180.out 0).trans rfl, (blk_cell BK180.out 1).trans rfl, (blk_cell BK180.out 2).trans rfl, (blk_cell BK180.out 3).trans rfl⟩ (fun hHeld => ?_)
        clear hK K
        refine norm_ (a' := ?_) ?_ ?_
        rotate_left
        ·show Act.put _ (some 30) _ = _
         simp only [Act.put, List.setIfInBounds_toArray, List.set_cons_zero, List.set_cons_succ, i64_w, i32_w]
         rfl
        refine one_ (i := 3) (N := some 32) #[true, true, true, true, true, false, false, false, false, true, false, false] rfl rfl (one_of HT_.out (by kernel_rfl)) (by decide) (fun K hK => ?_)
        refine goes_ Try.func20 (by kernel_rfl) rfl #[.int .i64 (wrap64 (Int.tmod a1 100))] (by rfl) rfl rfl (by (try simp only [List.map_toArray, List.map_cons, List.map_nil]); first | done | rfl | (simp only [List.length_drop, List.length_take]; rfl)) ?_
        with_reducible refine (whirligiglaw02_decimal.calls (wrap64 (Int.tmod a1 100)) t213 _ A214.out).mono ?_
        rintro e w' ⟨rfl, ⟨nd, rfl⟩⟩
        refine ⟨_, rfl, ?_⟩
        refine hK.out _ _ ⟨(blk_cell BK180.out 0).trans rfl, (blk_cell BK180.out 1).trans rfl, (blk_cell BK180.out 2).trans rfl, (blk_cell BK180.out 3).trans rfl⟩ (fun hHeld => ?_)
        clear hK K
        refine norm_ (a' := ?_) ?_ ?_
        rotate_left
        ·show Act.put _ (some 32) _ = _
         simp only [Act.put, List.setIfInBounds_toArray, List.set_cons_zero, List.set_cons_succ, i64_w, i32_w]
         rfl
        refine one_ (i := 5) (N := some 34) #[true, true, true, true, true, true, false, false, false, true, false, false] rfl rfl (one_of HT_.out (by kernel_rfl)) (by decide) (fun K hK => ?_)
        refine goes_ Try.func12 (by kernel_rfl) rfl #[.int .i64 1, .int .u8 t212, .int .u8 t213, .agg #[.bool a2_0, .bool a2_1, .bool a2_2, .bool false]] (by rfl) rfl rfl (by (try simp only [List.map_toArray, List.map_cons, List.map_nil]); first | done | rfl | (simp only [List.length_drop, List.length_take]; rfl)) ?_
        with_reducible refine (alu_Do.calls 1 t212 t213 a2_0 a2_1 a2_2 false t214 t215 t216 t217 t218 _ A215.out).mono ?_
        rintro e w232 ⟨rfl, hb⟩
        refine ⟨_, rfl, ?_⟩
        have n0_ := Aside0.mk (blk_below (g := gb180) (o := .cells #[.bool a2_0, .bool a2_1, .bool a2_2, .bool false] 23 (0, 0)) (by (with_reducible repeat (first | refine blk_drewN ?_ _ | refine blk_drew ?_ | refine blk_alloc ?_ _)); exact BK180.out) hb)
        have n1_ := Aside0.mk (blk_below (g := gb219) (o := .cells #[.bool false, .bool false, .bool false, .bool false] 23 (0, 0)) (by (with_reducible repeat (first | refine blk_drewN ?_ _ | refine blk_drew ?_ | refine blk_alloc ?_ _)); exact BK219.out) hb)
        have n2_ := Aside0.mk (below_step (by repeat (first | (with_reducible first | exact HB.out | apply below_alloc | apply pw_below_drewN | apply below_drew1 | refine below_set ?_ GE180.out | refine below_set ?_ GE219.out) | exact HB.out)) hb)
        clear BK180
        clear BK219
        clear HB
        have BK180 := n0_
        have BK219 := n1_
        have HB := n2_
        clear n0_ n1_ n2_
        (try clear hb)
        (try clear hb2)
        (try clear hk)
        (try clear hi)
        refine hK.out _ _ ⟨(blk_cell BK180.out 0).trans rfl, (blk_cell BK180.out 1).trans rfl, (blk_cell BK180.out 2).trans rfl, (blk_cell BK180.out 3).trans rfl⟩ (fun hHeld => ?_)
        clear hK K
        refine norm_ (a' := ?_) ?_ ?_
        rotate_left
        ·show Act.put _ (some 34) _ = _
         simp only [Act.put, List.setIfInBounds_toArray, List.set_cons_zero, List.set_cons_succ, i64_w, i32_w]
         rfl
        refine pure_ (i := 6) (N := some 28) (v := ?_) (a' := ?_) #[true, true, true, true, true, true, true, false, false, true, false, false] rfl rfl (any_of HT_.out (by kernel_rfl)) (fun _ _ _ h => h) (Or.inl ⟨by rfl, ?_⟩) ?_ ?_
        rotate_left
        ·intro w'
         go_simp
         with_reducible rfl
        rotate_left
        ·simp only [Act.put, List.setIfInBounds_toArray, List.set_cons_zero, List.set_cons_succ, i64_w, i32_w]
         rfl
        refine pure_ (i := 7) (N := some 35) (v := ?_) (a' := ?_) #[true, true, true, true, true, true, true, true, false, true, false, false] rfl rfl (any_of HT_.out (by kernel_rfl)) (fun _ _ _ h => h) (Or.inl ⟨by rfl, ?_⟩) ?_ ?_
        rotate_left
        ·intro w'
         go_simp
         with_reducible rfl
        rotate_left
        ·simp only [Act.put, List.setIfInBounds_toArray, List.set_cons_zero, List.set_cons_succ, i64_w, i32_w]
         rfl
        refine pure_ (i := 8) (N := some 36) (v := ?_) (a' := ?_) #[true, true, true, true, true, true, true, true, true, true, false, false] rfl rfl (any_of HT_.out (by kernel_rfl)) (fun _ _ _ h => h) (Or.inl ⟨by rfl, ?_⟩) ?_ ?_
        rotate_left
        ·intro w'
         go_simp
         with_reducible rfl
        rotate_left
        ·simp only [Act.put, List.setIfInBounds_toArray, List.set_cons_zero, List.set_cons_succ, i64_w, i32_w]
         rfl
        exact norm_ (by simp only [putAll, Act.put, List.setIfInBounds_toArray, List.set_cons_zero, List.set_cons_succ]) (hCont (gb219) _ ⟨hHeld, (by (with_reducible repeat (first | refine blk_drewN ?_ _ | refine blk_drew ?_ | refine blk_alloc ?_ _)); exact BK180.out), (by (with_reducible repeat (first | refine blk_drewN ?_ _ | refine blk_drew ?_ | refine blk_alloc ?_ _)); exact BK219.out), GW219.out, GE219.out, NB180_219.out, NB219_180.out, (by repeat (first | (with_reducible first | exact HB.out | apply below_alloc | apply pw_below_drewN | apply below_drew1 | refine below_set ?_ GE180.out | refine below_set ?_ GE219.out) | exact HB.out))⟩)
      rintro gb219 w233 ⟨hS_, h0_, h1_, h2_, h3_, h4_, h5_, h6_⟩
      have n0_ : Aside0 (w233.heap[gb180]? = some (.cells #[.bool a2_0, .bool a2_1, .bool a2_2, .bool false] 23 (0, 0))) := ⟨h0_⟩
      have n1_ : Aside0 (w233.heap[gb219]? = some (.cells #[.bool false, .bool false, .bool false, .bool false] 23 (0, 0))) := ⟨h1_⟩
      have n2_ : Aside0 (w.heap.size ≤ gb219) := ⟨h2_⟩
      have n3_ : Aside0 (w.heap.size ≤ gb219) := ⟨h3_⟩
      have n4_ : Aside0 (gb180 ≠ gb219) := ⟨h4_⟩
      have n5_ : Aside0 (gb219 ≠ gb180) := ⟨h5_⟩
      have n6_ : Aside0 (Below w.heap.size w w233) := ⟨h6_⟩
      clear BK180
      clear HB
      clear h0_ h1_ h2_ h3_ h4_ h5_ h6_
      have BK180 := n0_
      have BK219 := n1_
      have GW219 := n2_
      have GE219 := n3_
      have NB180_219 := n4_
      have NB219_180 := n5_
      have HB := n6_
      clear n0_ n1_ n2_ n3_ n4_ n5_ n6_
      have hHeld : w233.cell? ⟨gb180, 0, none⟩ = some (.bool a2_0) ∧ w233.cell? ⟨gb180, 1, none⟩ = some (.bool a2_1) ∧ w233.cell? ⟨gb180, 2, none⟩ = some (.bool a2_2) ∧ w233.cell? ⟨gb180, 3, none⟩ = some (.bool false) := hS_
      refine norm_ (a' := ?_) ?_ ?_
      rotate_left
      ·simp only [putAll, Act.put, List.setIfInBounds_toArray, List.set_cons_zero, List.set_cons_succ]
       rfl
      refine pure_ (i := 10) (N := some 11) (v := ?_) (a' := ?_) #[true, true, true, true, true, true, true, true, true, true, true, false] rfl rfl (any_of HT_.out (by kernel_rfl)) (fun _ _ _ h => h) (Or.inl ⟨by rfl, ?_⟩) ?_ ?_
      rotate_left
      ·intro w'
       go_simp
       with_reducible rfl
      rotate_left
      ·simp only [Act.put, List.setIfInBounds_toArray, List.set_cons_zero, List.set_cons_succ, i64_w, i32_w]
       rfl
      refine one_ (i := 11) (N := none) #[true, true, true, true, true, true, true, true, true, true, true, true] rfl rfl (one_of HT_.out (by kernel_rfl)) (by decide) (fun K hK => ?_)
      have hs234 : w233.cell? ⟨gb219, 0, none⟩ = some (.bool false) := (blk_cell BK219.out 0).trans rfl
      have hfs234 := blk_frozen BK219.out 0
      have hns234_0 := NB180_219.out
      have hms234_0 := NB219_180.out
      have hs235 : w233.cell? ⟨gb219, 1, none⟩ = some (.bool false) := (blk_cell BK219.out 1).trans rfl
      have hfs235 := blk_frozen BK219.out 1
      have hns235_0 := NB180_219.out
      have hms235_0 := NB219_180.out
      have hs236 : w233.cell? ⟨gb219, 2, none⟩ = some (.bool false) := (blk_cell BK219.out 2).trans rfl
      have hfs236 := blk_frozen BK219.out 2
      have hns236_0 := NB180_219.out
      have hms236_0 := NB219_180.out
      have hs237 : w233.cell? ⟨gb219, 3, none⟩ = some (.bool false) := (blk_cell BK219.out 3).trans rfl
      have hfs237 := blk_frozen BK219.out 3
      have hns237_0 := NB180_219.out
      have hms237_0 := NB219_180.out
      refine skip_ (w1 := ?_) (by rfl) rfl ?_ ?_
      rotate_left
      ·go_simp
       rfl
      refine hK.out _ _ ⟨((cell_far (p := ⟨gb219, _, none⟩) NB180_219.out _).trans (((cell_far (p := ⟨gb219, _, none⟩) NB180_219.out _).trans (((cell_far (p := ⟨gb219, _, none⟩) NB180_219.out _).trans (((cell_far (p := ⟨gb219, _, none⟩) NB180_219.out _).trans (hHeld.1)))))))), ((cell_far (p := ⟨gb219, _, none⟩) NB180_219.out _).trans (((cell_far (p := ⟨gb219, _, none⟩) NB180_219.out _).trans (((cell_far (p := ⟨gb219, _, none⟩) NB180_219.out _).trans (((cell_far (p := ⟨gb219, _, none⟩) NB180_219.out _).trans (hHeld.2.1)))))))), ((cell_far (p := ⟨gb219, _, none⟩) NB180_219.out _).trans (((cell_far (p := ⟨gb219, _, none⟩) NB180_219.out _).trans (((cell_far (p := ⟨gb219, _, none⟩) NB180_219.out _).trans (((cell_far (p := ⟨gb219, _, none⟩) NB180_219.out _).trans (hHeld.2.2.1)))))))), ((cell_far (p := ⟨gb219, _, none⟩) NB180_219.out _).trans (((cell_far (p := ⟨gb219, _, none⟩) NB180_219.out _).trans (((cell_far (p := ⟨gb219, _, none⟩) NB180_219.out _).trans (((cell_far (p := ⟨gb219, _, none⟩) NB180_219.out _).trans (hHeld.2.2.2))))))))⟩ (fun hHeld => ?_)
      clear hK K
      refine done_ (done_of HT_.out (by kernel_rfl)) ?_
      have hnb238 := NB219_180.out
      have hnc238 := NB180_219.out
      have hcz239_0 : w233.cell? ⟨gb219, 0, none⟩ = some (.bool false) := (blk_cell BK219.out 0).trans rfl
      have hcz239_1 : w233.cell? ⟨gb219, 1, none⟩ = some (.bool false) := (blk_cell BK219.out 1).trans rfl
      have hcz239_2 : w233.cell? ⟨gb219, 2, none⟩ = some (.bool false) := (blk_cell BK219.out 2).trans rfl
      have hcz239_3 : w233.cell? ⟨gb219, 3, none⟩ = some (.bool false) := (blk_cell BK219.out 3).trans rfl
      have hfz239_0 := blk_frozen BK219.out 0
      have hfz239_1 := blk_frozen BK219.out 1
      have hfz239_2 := blk_frozen BK219.out 2
      have hfz239_3 := blk_frozen BK219.out 3
      try go_wp2_with (first | ((with_reducible refine gate_callee (f := 14) rfl ?_); refine goesL_ (some 40) rfl rfl Try.func14 (by kernel_rfl) rfl #[.int .u8 t214, .agg #[.bool t215, .bool t216, .bool t217, .bool t218]] rfl (by (try simp only [List.map_toArray, List.map_cons, List.map_nil]); first | done | rfl | (simp only [List.length_drop, List.length_take]; rfl)) ?_; (with_reducible refine (alu_Daa.calls k t214 t215 t216 t217 t218 t220 t221 t222 t223 t224 _ A216.out).mono ?_); rintro e w240 ⟨rfl, hb⟩; refine ⟨_, rfl, ?_⟩; have n0_ := Aside0.mk (blk_below (g := gb180) (o := .cells #[.bool a2_0, .bool a2_1, .bool a2_2, .bool false] 23 (0, 0)) (by (with_reducible repeat (first | refine blk_drewN ?_ _ | refine blk_drew ?_ | refine blk_alloc ?_ _)); refine blk_far ?_ NB180_219.out _; (with_reducible repeat (first | refine blk_drewN ?_ _ | refine blk_drew ?_ | refine blk_alloc ?_ _)); refine blk_far ?_ NB180_219.out _; (with_reducible repeat (first | refine blk_drewN ?_ _ | refine blk_drew ?_ | refine blk_alloc ?_ _)); refine blk_far ?_ NB180_219.out _; (with_reducible repeat (first | refine blk_drewN ?_ _ | refine blk_drew ?_ | refine blk_alloc ?_ _)); refine blk_far ?_ NB180_219.out _; (with_reducible repeat (first | refine blk_drewN ?_ _ | refine blk_drew ?_ | refine blk_alloc ?_ _)); exact BK180.out) hb); have n1_ := Aside0.mk (blk_below (g := gb219) (o := .cells #[.bool t215, .bool t216, .bool t217, .bool t218] 23 (0, 0)) (by (with_reducible repeat (first | refine blk_drewN ?_ _ | refine blk_drew ?_ | refine blk_alloc ?_ _)); refine blk_put (cs := #[.bool t215, .bool t216, .bool t217, .bool false]) ?_ 3 _ rfl; (with_reducible repeat (first | refine blk_drewN ?_ _ | refine blk_drew ?_ | refine blk_alloc ?_ _)); refine blk_put (cs := #[.bool t215, .bool t216, .bool false, .bool false]) ?_ 2 _ rfl; (with_reducible repeat (first | refine blk_drewN ?_ _ | refine blk_drew ?_ | refine blk_alloc ?_ _)); refine blk_put (cs := #[.bool t215, .bool false, .bool false, .bool false]) ?_ 1 _ rfl; (with_reducible repeat (first | refine blk_drewN ?_ _ | refine blk_drew ?_ | refine blk_alloc ?_ _)); refine blk_put (cs := #[.bool false, .bool false, .bool false, .bool false]) ?_ 0 _ rfl; (with_reducible repeat (first | refine blk_drewN ?_ _ | refine blk_drew ?_ | refine blk_alloc ?_ _)); exact BK219.out) hb); have n2_ := Aside0.mk (below_step (by repeat (first | (with_reducible first | exact HB.out | apply below_alloc | apply pw_below_drewN | apply below_drew1 | refine below_set ?_ GE180.out | refine below_set ?_ GE219.out) | exact HB.out)) hb); clear BK180; clear BK219; clear HB; have BK180 := n0_; have BK219 := n1_; have HB := n2_; clear n0_ n1_ n2_; (try clear hb); (try clear hb2); (try clear hk); (try clear hi)) | ((with_reducible refine gate_dst (N := 14) rfl ?_); refine box_event ?hg (N := 14) ?hd (cs := #[.bool false, .bool false, .bool false, .bool false]) (t := 23) ?hr ?_; (case hd => rfl); (case hg => rfl); (case hr => first | (go_simp; done) | (go_simp; rfl)); intro gb225 hg w241 hbox hb; have n0_ := Aside0.mk (blk_below (g := gb180) (o := .cells #[.bool a2_0, .bool a2_1, .bool a2_2, .bool false] 23 (0, 0)) (by (with_reducible repeat (first | refine blk_drewN ?_ _ | refine blk_drew ?_ | refine blk_alloc ?_ _)); exact BK180.out) hb); have n1_ := Aside0.mk (blk_below (g := gb219) (o := .cells #[.bool t215, .bool t216, .bool t217, .bool t218] 23 (0, 0)) (by (with_reducible repeat (first | refine blk_drewN ?_ _ | refine blk_drew ?_ | refine blk_alloc ?_ _)); exact BK219.out) hb); have n2_ := Aside0.mk (below_step (by repeat (first | (with_reducible first | exact HB.out | apply below_alloc | apply pw_below_drewN | apply below_drew1 | refine below_set ?_ GE180.out | refine below_set ?_ GE219.out) | exact HB.out)) hb); have n3_ := Aside0.mk (hbox); have n4_ := Aside0.mk ((by rw [hg]; exact (below_size (by repeat (first | (with_reducible first | exact HB.out | apply below_alloc | apply pw_below_drewN | apply below_drew1 | refine below_set ?_ GE180.out | refine below_set ?_ GE219.out) | exact HB.out))) : w.heap.size ≤ gb225)); have n5_ := Aside0.mk ((by rw [hg]; exact (below_size (by repeat (first | (with_reducible first | exact HB.out | apply below_alloc | apply pw_below_drewN | apply below_drew1 | refine below_set ?_ GE180.out | refine below_set ?_ GE219.out) | exact HB.out))) : w.heap.size ≤ gb225)); have n6_ := Aside0.mk ((by rw [hg]; exact Nat.ne_of_lt (blk_lt (g := gb180) (o := .cells #[.bool a2_0, .bool a2_1, .bool a2_2, .bool false] 23 (0, 0)) (by (with_reducible repeat (first | refine blk_drewN ?_ _ | refine blk_drew ?_ | refine blk_alloc ?_ _)); exact BK180.out)) : gb180 ≠ gb225)); have n7_ := Aside0.mk ((by rw [hg]; exact Nat.ne_of_gt (blk_lt (g := gb180) (o := .cells #[.bool a2_0, .bool a2_1, .bool a2_2, .bool false] 23 (0, 0)) (by (with_reducible repeat (first | refine blk_drewN ?_ _ | refine blk_drew ?_ | refine blk_alloc ?_ _)); exact BK180.out)) : gb225 ≠ gb180)); have n8_ := Aside0.mk ((by rw [hg]; exact Nat.ne_of_lt (blk_lt (g := gb219) (o := .cells #[.bool t215, .bool t216, .bool t217, .bool t218] 23 (0, 0)) (by (with_reducible repeat (first | refine blk_drewN ?_ _ | refine blk_drew ?_ | refine blk_alloc ?_ _)); exact BK219.out)) : gb219 ≠ gb225)); have n9_ := Aside0.mk ((by rw [hg]; exact Nat.ne_of_gt (blk_lt (g := gb219) (o := .cells #[.bool t215, .bool t216, .bool t217, .bool t218] 23 (0, 0)) (by (with_reducible repeat (first | refine blk_drewN ?_ _ | refine blk_drew ?_ | refine blk_alloc ?_ _)); exact BK219.out)) : gb225 ≠ gb219)); clear BK180; clear BK219; clear HB; have BK180 := n0_; have BK219 := n1_; have HB := n2_; have BK225 := n3_; have GW225 := n4_; have GE225 := n5_; have NB180_225 := n6_; have NB225_180 := n7_; have NB219_225 := n8_; have NB225_219 := n9_; clear n0_ n1_ n2_ n3_ n4_ n5_ n6_ n7_ n8_ n9_; clear hb hbox hg; have hnb242 := NB225_180.out; have hnc242 := NB180_225.out; have hnb243 := NB225_219.out; have hnc243 := NB219_225.out; have hcz244_0 : w241.cell? ⟨gb225, 0, none⟩ = some (.bool false) := (blk_cell BK225.out 0).trans rfl; have hcz244_1 : w241.cell? ⟨gb225, 1, none⟩ = some (.bool false) := (blk_cell BK225.out 1).trans rfl; have hcz244_2 : w241.cell? ⟨gb225, 2, none⟩ = some (.bool false) := (blk_cell BK225.out 2).trans rfl; have hcz244_3 : w241.cell? ⟨gb225, 3, none⟩ = some (.bool false) := (blk_cell BK225.out 3).trans rfl; have hfz244_0 := blk_frozen BK225.out 0; have hfz244_1 := blk_frozen BK225.out 1; have hfz244_2 := blk_frozen BK225.out 2; have hfz244_3 := blk_frozen BK225.out 3))
      have n0_ : Aside0 (((((w241.setCell ⟨gb225, 0, none⟩ (.bool t221)).setCell ⟨gb225, 1, none⟩ (.bool t222)).setCell ⟨gb225, 2, none⟩ (.bool t223)).setCell ⟨gb225, 3, none⟩ (.bool t224)).heap[gb180]? = some (.cells #[.bool a2_0, .bool a2_1, .bool a2_2, .bool false] 23 (0, 0))) := ⟨by (with_reducible repeat (first | refine blk_drewN ?_ _ | refine blk_drew ?_ | refine blk_alloc ?_ _)); refine blk_far ?_ NB180_225.out _; (with_reducible repeat (first | refine blk_drewN ?_ _ | refine blk_drew ?_ | refine blk_alloc ?_ _)); refine blk_far ?_ NB180_225.out _; (with_reducible repeat (first | refine blk_drewN ?_ _ | refine blk_drew ?_ | refine blk_alloc ?_ _)); refine blk_far ?_ NB180_225.out _; (with_reducible repeat (first | refine blk_drewN ?_ _ | refine blk_drew ?_ | refine blk_alloc ?_ _)); refine blk_far ?_ NB180_225.out _; (with_reducible repeat (first | refine blk_drewN ?_ _ | refine blk_drew ?_ | refine blk_alloc ?_ _)); exact BK180.out⟩
      have n1_ : Aside0 (((((w241.setCell ⟨gb225, 0, none⟩ (.bool t221)).setCell ⟨gb225, 1, none⟩ (.bool t222)).setCell ⟨gb225, 2, none⟩ (.bool t223)).setCell ⟨gb225, 3, none⟩ (.bool t224)).heap[gb219]? = some (.cells #[.bool t215, .bool t216, .bool t217, .bool t218] 23 (0, 0))) := ⟨by (with_reducible repeat (first | refine blk_drewN ?_ _ | refine blk_drew ?_ | refine blk_alloc ?_ _)); refine blk_far ?_ NB219_225.out _; (with_reducible repeat (first | refine blk_drewN ?_ _ | refine blk_drew ?_ | refine blk_alloc ?_ _)); refine blk_far ?_ NB219_225.out _; (with_reducible repeat (first | refine blk_drewN ?_ _ | refine blk_drew ?_ | refine blk_alloc ?_ _)); refine blk_far ?_ NB219_225.out _; (with_reducible repeat (first | refine blk_drewN ?_ _ | refine blk_drew ?_ | refine blk_alloc ?_ _)); refine blk_far ?_ NB219_225.out _; (with_reducible repeat (first | refine blk_drewN ?_ _ | refine blk_drew ?_ | refine blk_alloc ?_ _)); exact BK219.out⟩
      have n2_ : Aside0 (((((w241.setCell ⟨gb225, 0, none⟩ (.bool t221)).setCell ⟨gb225, 1, none⟩ (.bool t222)).setCell ⟨gb225, 2, none⟩ (.bool t223)).setCell ⟨gb225, 3, none⟩ (.bool t224)).heap[gb225]? = some (.cells #[.bool t221, .bool t222, .bool t223, .bool t224] 23 (0, 0))) := ⟨by (with_reducible repeat (first | refine blk_drewN ?_ _ | refine blk_drew ?_ | refine blk_alloc ?_ _)); refine blk_put (cs := #[.bool t221, .bool t222, .bool t223, .bool false]) ?_ 3 _ rfl; (with_reducible repeat (first | refine blk_drewN ?_ _ | refine blk_drew ?_ | refine blk_alloc ?_ _)); refine blk_put (cs := #[.bool t221, .bool t222, .bool false, .bool false]) ?_ 2 _ rfl; (with_reducible repeat (first | refine blk_drewN ?_ _ | refine blk_drew ?_ | refine blk_alloc ?_ _)); refine blk_put (cs := #[.bool t221, .bool false, .bool false, .bool false]) ?_ 1 _ rfl; (with_reducible repeat (first | refine blk_drewN ?_ _ | refine blk_drew ?_ | refine blk_alloc ?_ _)); refine blk_put (cs := #[.bool false, .bool false, .bool false, .bool false]) ?_ 0 _ rfl; (with_reducible repeat (first | refine blk_drewN ?_ _ | refine blk_drew ?_ | refine blk_alloc ?_ _)); exact BK225.out⟩
      have n3_ : Aside0 (Below w.heap.size w ((((w241.setCell ⟨gb225, 0, none⟩ (.bool t221)).setCell ⟨gb225, 1, none⟩ (.bool t222)).setCell ⟨gb225, 2, none⟩ (.bool t223)).setCell ⟨gb225, 3, none⟩ (.bool t224))) := ⟨by repeat (first | (with_reducible first | exact HB.out | apply below_alloc | apply pw_below_drewN | apply below_drew1 | refine below_set ?_ GE180.out | refine below_set ?_ GE219.out | refine below_set ?_ GE225.out) | exact HB.out)⟩
      (try clear BK180)
      (try clear BK219)
      (try clear BK225)
      (try clear HB)
      generalize ((((w241.setCell ⟨gb225, 0, none⟩ (.bool t221)).setCell ⟨gb225, 1, none⟩ (.bool t222)).setCell ⟨gb225, 2, none⟩ (.bool t223)).setCell ⟨gb225, 3, none⟩ (.bool t224)) = w245 at n0_ n1_ n2_ n3_ ⊢
      have BK180 := n0_
      have BK219 := n1_
      have BK225 := n2_
      have HB := n3_
      clear n0_ n1_ n2_ n3_
      have n0_ := Aside0.mk (blk_drew BK180.out)
      have n1_ := Aside0.mk (blk_drew BK219.out)
      have n2_ := Aside0.mk (blk_drew BK225.out)
      have n3_ := Aside0.mk (below_drew1 HB.out)
      clear BK180
      clear BK219
      clear BK225
      clear HB
      have BK180 := n0_
      have BK219 := n1_
      have BK225 := n2_
      have HB := n3_
      clear n0_ n1_ n2_ n3_
      refine start_ (n := 12) (S := fun w' => w'.cell? ⟨gb180, 0, none⟩ = some (.bool a2_0) ∧ w'.cell? ⟨gb180, 1, none⟩ = some (.bool a2_1) ∧ w'.cell? ⟨gb180, 2, none⟩ = some (.bool a2_2) ∧ w'.cell? ⟨gb180, 3, none⟩ = some (.bool false)) (ds := []) #[false, false, false, false, false, false, false, false, false, false, false, false] (by kernel_rfl) rfl rfl ⟨(blk_cell BK180.out 0).trans rfl, (blk_cell BK180.out 1).trans rfl, (blk_cell BK180.out 2).trans rfl, (blk_cell BK180.out 3).trans rfl⟩ (fun hHeld => ?_); refine with_tabW whirligiglaw02_AluDecimals.tab9 whirligiglaw02_AluDecimals.bits9 (fun HT_ HW_ => ?_)
      generalize w245.drew = w246 at BK180 BK219 BK225 HB hHeld ⊢
      refine pure_ (i := 0) (N := some 44) (v := ?_) (a' := ?_) #[true, false, false, false, false, false, false, false, false, false, false, false] rfl rfl (any_of HT_.out (by kernel_rfl)) (fun _ _ _ h => h) (Or.inl ⟨by rfl, ?_⟩) ?_ ?_
      rotate_left
      ·intro w'
       go_simp
       with_reducible rfl
      rotate_left
      ·simp only [Act.put, List.setIfInBounds_toArray, List.set_cons_zero, List.set_cons_succ, i64_w, i32_w]
       rfl
      refine pure_ (i := 2) (N := some 46) (v := ?_) (a' := ?_) #[true, false, true, false, false, false, false, false, false, false, false, false] rfl rfl (any_of HT_.out (by kernel_rfl)) (fun _ _ _ h => h) (Or.inl ⟨by rfl, ?_⟩) ?_ ?_
      rotate_left
      ·intro w'
       go_simp
       with_reducible rfl
      rotate_left
      ·simp only [Act.put, List.setIfInBounds_toArray, List.set_cons_zero, List.set_cons_succ, i64_w, i32_w]
       rfl
      refine take_ (i := 4) (N := some 48) (v := ?_) (a' := ?_) #[true, false, true, false, true, false, false, false, false, false, false, false] rfl rfl (take_ofW HT_.out HW_.out (by kernel_rfl)) (fun _ _ _ h => h) (Or.inl ⟨by rfl, ?_⟩) hHeld ?_ ?_
      rotate_left
      ·rintro w' ⟨s0, s1, s2, s3⟩
       go_simp
       with_reducible rfl
      rotate_left
      ·simp only [Act.put, List.setIfInBounds_toArray, List.set_cons_zero, List.set_cons_succ, i64_w, i32_w]
       rfl
      refine join_ (σ := Nat) 2 #[true, true, true, true, true, true, true, true, true, true, false, false] (fun s_ => [(45, .int .u8 t226), (47, .int .u8 t227), (49, .tuple #[.int .u8 t228, .agg #[.bool t229, .bool t230, .bool t231, .bool t232]]), (16, .pointer (some ⟨s_, 0, none⟩)), (43, .tuple #[.int .u8 t228, .agg #[.bool t229, .bool t230, .bool t231, .bool t232]]), (50, .int .u8 t228), (51, .agg #[.bool t229, .bool t230, .bool t231, .bool t232])]) (fun s_ w' => (w'.cell? ⟨gb180, 0, none⟩ = some (.bool a2_0) ∧ w'.cell? ⟨gb180, 1, none⟩ = some (.bool a2_1) ∧ w'.cell? ⟨gb180, 2, none⟩ = some (.bool a2_2) ∧ w'.cell? ⟨gb180, 3, none⟩ = some (.bool false)) ∧ (w'.heap[gb180]? = some (.cells #[.bool a2_0, .bool a2_1, .bool a2_2, .bool false] 23 (0, 0))) ∧ (w'.heap[gb219]? = some (.cells #[.bool t215, .bool t216, .bool t217, .bool t218] 23 (0, 0))) ∧ (w'.heap[gb225]? = some (.cells #[.bool t221, .bool t222, .bool t223, .bool t224] 23 (0, 0))) ∧ (w'.heap[s_]? = some (.cells #[.bool false, .bool false, .bool false, .bool false] 23 (0, 0))) ∧ (w.heap.size ≤ s_) ∧ (w.heap.size ≤ s_) ∧ (gb180 ≠ s_) ∧ (s_ ≠ gb180) ∧ (gb219 ≠ s_) ∧ (s_ ≠ gb219) ∧ (gb225 ≠ s_) ∧ (s_ ≠ gb225) ∧ (Below w.heap.size w w')) ?_ ?_
      rotate_left
      ·intro hCont
       refine two_ (i := 1) (j := 9) (Ni := some 45) (Nj := some 16) #[true, true, true, false, true, false, false, false, false, false, false, false] #[true, false, true, false, true, false, false, false, false, true, false, false] rfl rfl rfl rfl (two_of HT_.out (by kernel_rfl)) (by decide) (by decide) (fun K hK => ?_) (fun K hK => ?_)
       ·skip
        refine goes_ Try.func20 (by kernel_rfl) rfl #[.int .i64 (wrap64 (Int.tmod a0 100))] (by rfl) rfl rfl (by (try simp only [List.map_toArray, List.map_cons, List.map_nil]); first | done | rfl | (simp only [List.length_drop, List.length_take]; rfl)) ?_
        with_reducible refine (whirligiglaw02_decimal.calls (wrap64 (Int.tmod a0 100)) t226 _ A217.out).mono ?_
        rintro e w' ⟨rfl, ⟨nd, rfl⟩⟩
        refine ⟨_, rfl, ?_⟩
        refine hK.out _ _ ⟨(blk_cell BK180.out 0).trans rfl, (blk_cell BK180.out 1).trans rfl, (blk_cell BK180.out 2).trans rfl, (blk_cell BK180.out 3).trans rfl⟩ (fun hHeld => ?_)
        clear hK K
        refine norm_ (a' := ?_) ?_ ?_
        rotate_left
        ·show Act.put _ (some 45) _ = _
         simp only [Act.put, List.setIfInBounds_toArray, List.set_cons_zero, List.set_cons_succ, i64_w, i32_w]
         rfl
        refine two_ (i := 3) (j := 9) (Ni := some 47) (Nj := some 16) #[true, true, true, true, true, false, false, false, false, false, false, false] #[true, true, true, false, true, false, false, false, false, true, false, false] rfl rfl rfl rfl (two_of HT_.out (by kernel_rfl)) (by decide) (by decide) (fun K hK => ?_) (fun K hK => ?_)
        ·skip
         refine goes_ Try.func20 (by kernel_rfl) rfl #[.int .i64 (wrap64 (Int.tmod a1 100))] (by rfl) rfl rfl (by (try simp only [List.map_toArray, List.map_cons, List.map_nil]); first | done | rfl | (simp only [List.length_drop, List.length_take]; rfl)) ?_
         with_reducible refine (whirligiglaw02_decimal.calls (wrap64 (Int.tmod a1 100)) t227 _ A218.out).mono ?_
         rintro e w' ⟨rfl, ⟨nd, rfl⟩⟩
         refine ⟨_, rfl, ?_⟩
         refine hK.out _ _ ⟨(blk_cell BK180.out 0).trans rfl, (blk_cell BK180.out 1).trans rfl, (blk_cell BK180.out 2).trans rfl, (blk_cell BK180.out 3).trans rfl⟩ (fun hHeld => ?_)
         clear hK K
         refine norm_ (a' := ?_) ?_ ?_
         rotate_left
         ·show Act.put _ (some 47) _ = _
          simp only [Act.put, List.setIfInBounds_toArray, List.set_cons_zero, List.set_cons_succ, i64_w, i32_w]
          rfl
         refine two_ (i := 5) (j := 9) (Ni := some 49) (Nj := some 16) #[true, true, true, true, true, true, false, false, false, false, false, false] #[true, true, true, true, true, false, false, false, false, true, false, false] rfl rfl rfl rfl (two_of HT_.out (by kernel_rfl)) (by decide) (by decide) (fun K hK => ?_) (fun K hK => ?_)
         ·skip
          refine goes_ Try.func12 (by kernel_rfl) rfl #[.int .i64 3, .int .u8 t226, .int .u8 t227, .agg #[.bool a2_0, .bool a2_1, .bool a2_2, .bool false]] (by rfl) rfl rfl (by (try simp only [List.map_toArray, List.map_cons, List.map_nil]); first | done | rfl | (simp only [List.length_drop, List.length_take]; rfl)) ?_
          with_reducible refine (alu_Do.calls 3 t226 t227 a2_0 a2_1 a2_2 false t228 t229 t230 t231 t232 _ A219.out).mono ?_
          rintro e w247 ⟨rfl, hb⟩
          refine ⟨_, rfl, ?_⟩
          have n0_ := Aside0.mk (blk_below (g := gb180) (o := .cells #[.bool a2_0, .bool a2_1, .bool a2_2, .bool false] 23 (0, 0)) (by (with_reducible repeat (first | refine blk_drewN ?_ _ | refine blk_drew ?_ | refine blk_alloc ?_ _)); exact BK180.out) hb)
          have n1_ := Aside0.mk (blk_below (g := gb219) (o := .cells #[.bool t215, .bool t216, .bool t217, .bool t218] 23 (0, 0)) (by (with_reducible repeat (first | refine blk_drewN ?_ _ | refine blk_drew ?_ | refine blk_alloc ?_ _)); exact BK219.out) hb)
          have n2_ := Aside0.mk (blk_below (g := gb225) (o := .cells #[.bool t221, .bool t222, .bool t223, .bool t224] 23 (0, 0)) (by (with_reducible repeat (first | refine blk_drewN ?_ _ | refine blk_drew ?_ | refine blk_alloc ?_ _)); exact BK225.out) hb)
          have n3_ := Aside0.mk (below_step (by repeat (first | (with_reducible first | exact HB.out | apply below_alloc | apply pw_below_drewN | apply below_drew1 | refine below_set ?_ GE180.out | refine below_set ?_ GE219.out | refine below_set ?_ GE225.out) | exact HB.out)) hb)
          clear BK180
          clear BK219
          clear BK225
          clear HB
          have BK180 := n0_
          have BK219 := n1_
          have BK225 := n2_
          have HB := n3_
          clear n0_ n1_ n2_ n3_
          (try clear hb)
          (try clear hb2)
          (try clear hk)
          (try clear hi)
          refine hK.out _ _ ⟨(blk_cell BK180.out 0).trans rfl, (blk_cell BK180.out 1).trans rfl, (blk_cell BK180.out 2).trans rfl, (blk_cell BK180.out 3).trans rfl⟩ (fun hHeld => ?_)
          clear hK K
          refine norm_ (a' := ?_) ?_ ?_
          rotate_left
          ·show Act.put _ (some 49) _ = _
           simp only [Act.put, List.setIfInBounds_toArray, List.set_cons_zero, List.set_cons_succ, i64_w, i32_w]
           rfl
          refine pure_ (i := 6) (N := some 43) (v := ?_) (a' := ?_) #[true, true, true, true, true, true, true, false, false, false, false, false] rfl rfl (any_of HT_.out (by kernel_rfl)) (fun _ _ _ h => h) (Or.inl ⟨by rfl, ?_⟩) ?_ ?_
          rotate_left
          ·intro w'
           go_simp
           with_reducible rfl
          rotate_left
          ·simp only [Act.put, List.setIfInBounds_toArray, List.set_cons_zero, List.set_cons_succ, i64_w, i32_w]
           rfl
          refine pure_ (i := 7) (N := some 50) (v := ?_) (a' := ?_) #[true, true, true, true, true, true, true, true, false, false, false, false] rfl rfl (any_of HT_.out (by kernel_rfl)) (fun _ _ _ h => h) (Or.inl ⟨by rfl, ?_⟩) ?_ ?_
          rotate_left
          ·intro w'
           go_simp
           with_reducible rfl
          rotate_left
          ·simp only [Act.put, List.setIfInBounds_toArray, List.set_cons_zero, List.set_cons_succ, i64_w, i32_w]
           rfl
          refine pure_ (i := 8) (N := some 51) (v := ?_) (a' := ?_) #[true, true, true, true, true, true, true, true, true, false, false, false] rfl rfl (any_of HT_.out (by kernel_rfl)) (fun _ _ _ h => h) (Or.inl ⟨by rfl, ?_⟩) ?_ ?_
          rotate_left
          ·intro w'
           go_simp
           with_reducible rfl
          rotate_left
          ·simp only [Act.put, List.setIfInBounds_toArray, List.set_cons_zero, List.set_cons_succ, i64_w, i32_w]
           rfl
          refine one_ (i := 9) (N := some 16) #[true, true, true, true, true, true, true, true, true, true, false, false] rfl rfl (one_of HT_.out (by kernel_rfl)) (by decide) (fun K hK => ?_)
          refine box_step ?hg (N := 16) ?hd (cs := #[.bool false, .bool false, .bool false, .bool false]) (t := 23) ?hr ?_; (case hd => rfl); (case hg => rfl); (case hr => first | (go_simp; done) | (go_simp; rfl))
          intro gb233 hg w248 hbox hb
          have n0_ := Aside0.mk (blk_below (g := gb180) (o := .cells #[.bool a2_0, .bool a2_1, .bool a2_2, .bool false] 23 (0, 0)) (by (with_reducible repeat (first | refine blk_drewN ?_ _ | refine blk_drew ?_ | refine blk_alloc ?_ _)); exact BK180.out) hb)
          have n1_ := Aside0.mk (blk_below (g := gb219) (o := .cells #[.bool t215, .bool t216, .bool t217, .bool t218] 23 (0, 0)) (by (with_reducible repeat (first | refine blk_drewN ?_ _ | refine blk_drew ?_ | refine blk_alloc ?_ _)); exact BK219.out) hb)
          have n2_ := Aside0.mk (blk_below (g := gb225) (o := .cells #[.bool t221, .bool t222, .bool t223, .bool t224] 23 (0, 0)) (by (with_reducible repeat (first | refine blk_drewN ?_ _ | refine blk_drew ?_ | refine blk_alloc ?_ _)); exact BK225.out) hb)
          have n3_ := Aside0.mk (below_step (by repeat (first | (with_reducible first | exact HB.out | apply below_alloc | apply pw_below_drewN | apply below_drew1 | refine below_set ?_ GE180.out | refine below_set ?_ GE219.out | refine below_set ?_ GE225.out) | exact HB.out)) hb)
          have n4_ := Aside0.mk (hbox)
          have n5_ := Aside0.mk ((by rw [hg]; exact (below_size (by repeat (first | (with_reducible first | exact HB.out | apply below_alloc | apply pw_below_drewN | apply below_drew1 | refine below_set ?_ GE180.out | refine below_set ?_ GE219.out | refine below_set ?_ GE225.out) | exact HB.out))) : w.heap.size ≤ gb233))
          have n6_ := Aside0.mk ((by rw [hg]; exact (below_size (by repeat (first | (with_reducible first | exact HB.out | apply below_alloc | apply pw_below_drewN | apply below_drew1 | refine below_set ?_ GE180.out | refine below_set ?_ GE219.out | refine below_set ?_ GE225.out) | exact HB.out))) : w.heap.size ≤ gb233))
          have n7_ := Aside0.mk ((by rw [hg]; exact Nat.ne_of_lt (blk_lt (g := gb180) (o := .cells #[.bool a2_0, .bool a2_1, .bool a2_2, .bool false] 23 (0, 0)) (by (with_reducible repeat (first | refine blk_drewN ?_ _ | refine blk_drew ?_ | refine blk_alloc ?_ _)); exact BK180.out)) : gb180 ≠ gb233))
          have n8_ := Aside0.mk ((by rw [hg]; exact Nat.ne_of_gt (blk_lt (g := gb180) (o := .cells #[.bool a2_0, .bool a2_1, .bool a2_2, .bool false] 23 (0, 0)) (by (with_reducible repeat (first | refine blk_drewN ?_ _ | refine blk_drew ?_ | refine blk_alloc ?_ _)); exact BK180.out)) : gb233 ≠ gb180))
          have n9_ := Aside0.mk ((by rw [hg]; exact Nat.ne_of_lt (blk_lt (g := gb219) (o := .cells #[.bool t215, .bool t216, .bool t217, .bool t218] 23 (0, 0)) (by (with_reducible repeat (first | refine blk_drewN ?_ _ | refine blk_drew ?_ | refine blk_alloc ?_ _)); exact BK219.out)) : gb219 ≠ gb233))
          have n10_ := Aside0.mk ((by rw [hg]; exact Nat.ne_of_gt (blk_lt (g := gb219) (o := .cells #[.bool t215, .bool t216, .bool t217, .bool t218] 23 (0, 0)) (by (with_reducible repeat (first | refine blk_drewN ?_ _ | refine blk_drew ?_ | refine blk_alloc ?_ _)); exact BK219.out)) : gb233 ≠ gb219))
          have n11_ := Aside0.mk ((by rw [hg]; exact Nat.ne_of_lt (blk_lt (g := gb225) (o := .cells #[.bool t221, .bool t222, .bool t223, .bool t224] 23 (0, 0)) (by (with_reducible repeat (first | refine blk_drewN ?_ _ | refine blk_drew ?_ | refine blk_alloc ?_ _)); exact BK225.out)) : gb225 ≠ gb233))
          have n12_ := Aside0.mk ((by rw [hg]; exact Nat.ne_of_gt (blk_lt (g := gb225) (o := .cells #[.bool t221, .bool t222, .bool t223, .bool t224] 23 (0, 0)) (by (with_reducible repeat (first | refine blk_drewN ?_ _ | refine blk_drew ?_ | refine blk_alloc ?_ _)); exact BK225.out)) : gb233 ≠ gb225))
          clear BK180
          clear BK219
          clear BK225
          clear HB
          have BK180 := n0_
          have BK219 := n1_
          have BK225 := n2_
          have HB := n3_
          have BK233 := n4_
          have GW233 := n5_
          have GE233 := n6_
          have NB180_233 := n7_
          have NB233_180 := n8_
          have NB219_233 := n9_
          have NB233_219 := n10_
          have NB225_233 := n11_
          have NB233_225 := n12_
          clear n0_ n1_ n2_ n3_ n4_ n5_ n6_ n7_ n8_ n9_ n10_ n11_ n12_
          clear hb hbox hg
          refine hK.out _ _ ⟨(blk_cell BK180.out 0).trans rfl, (blk_cell BK180.out 1).trans rfl, (blk_cell BK180.out 2).trans rfl, (blk_cell BK180.out 3).trans rfl⟩ (fun hHeld => ?_)
          clear hK K
          refine norm_ (a' := ?_) ?_ ?_
          rotate_left
          ·show Act.put _ (some 16) _ = _
           simp only [Act.put, List.setIfInBounds_toArray, List.set_cons_zero, List.set_cons_succ, i64_w, i32_w]
           rfl
          exact norm_ (by simp only [putAll, Act.put, List.setIfInBounds_toArray, List.set_cons_zero, List.set_cons_succ]) (hCont (gb233) _ ⟨hHeld, (by (with_reducible repeat (first | refine blk_drewN ?_ _ | refine blk_drew ?_ | refine blk_alloc ?_ _)); exact BK180.out), (by (with_reducible repeat (first | refine blk_drewN ?_ _ | refine blk_drew ?_ | refine blk_alloc ?_ _)); exact BK219.out), (by (with_reducible repeat (first | refine blk_drewN ?_ _ | refine blk_drew ?_ | refine blk_alloc ?_ _)); exact BK225.out), (by (with_reducible repeat (first | refine blk_drewN ?_ _ | refine blk_drew ?_ | refine blk_alloc ?_ _)); exact BK233.out), GW233.out, GE233.out, NB180_233.out, NB233_180.out, NB219_233.out, NB233_219.out, NB225_233.out, NB233_225.out, (by repeat (first | (with_reducible first | exact HB.out | apply below_alloc | apply pw_below_drewN | apply below_drew1 | refine below_set ?_ GE180.out | refine below_set ?_ GE219.out | refine below_set ?_ GE225.out | refine below_set ?_ GE233.out) | exact HB.out))⟩)
         ·skip
          refine box_step ?hg (N := 16) ?hd (cs := #[.bool false, .bool false, .bool false, .bool false]) (t := 23) ?hr ?_; (case hd => rfl); (case hg => rfl); (case hr => first | (go_simp; done) | (go_simp; rfl))
          intro gb233 hg w247 hbox hb
          have n0_ := Aside0.mk (blk_below (g := gb180) (o := .cells #[.bool a2_0, .bool a2_1, .bool a2_2, .bool false] 23 (0, 0)) (by (with_reducible repeat (first | refine blk_drewN ?_ _ | refine blk_drew ?_ | refine blk_alloc ?_ _)); exact BK180.out) hb)
          have n1_ := Aside0.mk (blk_below (g := gb219) (o := .cells #[.bool t215, .bool t216, .bool t217, .bool t218] 23 (0, 0)) (by (with_reducible repeat (first | refine blk_drewN ?_ _ | refine blk_drew ?_ | refine blk_alloc ?_ _)); exact BK219.out) hb)
          have n2_ := Aside0.mk (blk_below (g := gb225) (o := .cells #[.bool t221, .bool t222, .bool t223, .bool t224] 23 (0, 0)) (by (with_reducible repeat (first | refine blk_drewN ?_ _ | refine blk_drew ?_ | refine blk_alloc ?_ _)); exact BK225.out) hb)
          have n3_ := Aside0.mk (below_step (by repeat (first | (with_reducible first | exact HB.out | apply below_alloc | apply pw_below_drewN | apply below_drew1 | refine below_set ?_ GE180.out | refine below_set ?_ GE219.out | refine below_set ?_ GE225.out) | exact HB.out)) hb)
          have n4_ := Aside0.mk (hbox)
          have n5_ := Aside0.mk ((by rw [hg]; exact (below_size (by repeat (first | (with_reducible first | exact HB.out | apply below_alloc | apply pw_below_drewN | apply below_drew1 | refine below_set ?_ GE180.out | refine below_set ?_ GE219.out | refine below_set ?_ GE225.out) | exact HB.out))) : w.heap.size ≤ gb233))
          have n6_ := Aside0.mk ((by rw [hg]; exact (below_size (by repeat (first | (with_reducible first | exact HB.out | apply below_alloc | apply pw_below_drewN | apply below_drew1 | refine below_set ?_ GE180.out | refine below_set ?_ GE219.out | refine below_set ?_ GE225.out) | exact HB.out))) : w.heap.size ≤ gb233))
          have n7_ := Aside0.mk ((by rw [hg]; exact Nat.ne_of_lt (blk_lt (g := gb180) (o := .cells #[.bool a2_0, .bool a2_1, .bool a2_2, .bool false] 23 (0, 0)) (by (with_reducible repeat (first | refine blk_drewN ?_ _ | refine blk_drew ?_ | refine blk_alloc ?_ _)); exact BK180.out)) : gb180 ≠ gb233))
          have n8_ := Aside0.mk ((by rw [hg]; exact Nat.ne_of_gt (blk_lt (g := gb180) (o := .cells #[.bool a2_0, .bool a2_1, .bool a2_2, .bool false] 23 (0, 0)) (by (with_reducible repeat (first | refine blk_drewN ?_ _ | refine blk_drew ?_ | refine blk_alloc ?_ _)); exact BK180.out)) : gb233 ≠ gb180))
          have n9_ := Aside0.mk ((by rw [hg]; exact Nat.ne_of_lt (blk_lt (g := gb219) (o := .cells #[.bool t215, .bool t216, .bool t217, .bool t218] 23 (0, 0)) (by (with_reducible repeat (first | refine blk_drewN ?_ _ | refine blk_drew ?_ | refine blk_alloc ?_ _)); exact BK219.out)) : gb219 ≠ gb233))
          have n10_ := Aside0.mk ((by rw [hg]; exact Nat.ne_of_gt (blk_lt (g := gb219) (o := .cells #[.bool t215, .bool t216, .bool t217, .bool t218] 23 (0, 0)) (by (with_reducible repeat (first | refine blk_drewN ?_ _ | refine blk_drew ?_ | refine blk_alloc ?_ _)); exact BK219.out)) : gb233 ≠ gb219))
          have n11_ := Aside0.mk ((by rw [hg]; exact Nat.ne_of_lt (blk_lt (g := gb225) (o := .cells #[.bool t221, .bool t222, .bool t223, .bool t224] 23 (0, 0)) (by (with_reducible repeat (first | refine blk_drewN ?_ _ | refine blk_drew ?_ | refine blk_alloc ?_ _)); exact BK225.out)) : gb225 ≠ gb233))
          have n12_ := Aside0.mk ((by rw [hg]; exact Nat.ne_of_gt (blk_lt (g := gb225) (o := .cells #[.bool t221, .bool t222, .bool t223, .bool t224] 23 (0, 0)) (by (with_reducible repeat (first | refine blk_drewN ?_ _ | refine blk_drew ?_ | refine blk_alloc ?_ _)); exact BK225.out)) : gb233 ≠ gb225))
          clear BK180
          clear BK219
          clear BK225
          clear HB
          have BK180 := n0_
          have BK219 := n1_
          have BK225 := n2_
          have HB := n3_
          have BK233 := n4_
          have GW233 := n5_
          have GE233 := n6_
          have NB180_233 := n7_
          have NB233_180 := n8_
          have NB219_233 := n9_
          have NB233_219 := n10_
          have NB225_233 := n11_
          have NB233_225 := n12_
          clear n0_ n1_ n2_ n3_ n4_ n5_ n6_ n7_ n8_ n9_ n10_ n11_ n12_
          clear hb hbox hg
          refine hK.out _ _ ⟨(blk_cell BK180.out 0).trans rfl, (blk_cell BK180.out 1).trans rfl, (blk_cell BK180.out 2).trans rfl, (blk_cell BK180.out 3).trans rfl⟩ (fun hHeld => ?_)
          clear hK K
          refine norm_ (a' := ?_) ?_ ?_
          rotate_left
          ·show Act.put _ (some 16) _ = _
           simp only [Act.put, List.setIfInBounds_toArray, List.set_cons_zero, List.set_cons_succ, i64_w, i32_w]
           rfl
          refine one_ (i := 5) (N := some 49) #[true, true, true, true, true, true, false, false, false, true, false, false] rfl rfl (one_of HT_.out (by kernel_rfl)) (by decide) (fun K hK => ?_)
          refine goes_ Try.func12 (by kernel_rfl) rfl #[.int .i64 3, .int .u8 t226, .int .u8 t227, .agg #[.bool a2_0, .bool a2_1, .bool a2_2, .bool false]] (by rfl) rfl rfl (by (try simp only [List.map_toArray, List.map_cons, List.map_nil]); first | done | rfl | (simp only [List.length_drop, List.length_take]; rfl)) ?_
          with_reducible refine (alu_Do.calls 3 t226 t227 a2_0 a2_1 a2_2 false t228 t229 t230 t231 t232 _ A219.out).mono ?_
          rintro e w248 ⟨rfl, hb⟩
          refine ⟨_, rfl, ?_⟩
          have n0_ := Aside0.mk (blk_below (g := gb180) (o := .cells #[.bool a2_0, .bool a2_1, .bool a2_2, .bool false] 23 (0, 0)) (by (with_reducible repeat (first | refine blk_drewN ?_ _ | refine blk_drew ?_ | refine blk_alloc ?_ _)); exact BK180.out) hb)
          have n1_ := Aside0.mk (blk_below (g := gb219) (o := .cells #[.bool t215, .bool t216, .bool t217, .bool t218] 23 (0, 0)) (by (with_reducible repeat (first | refine blk_drewN ?_ _ | refine blk_drew ?_ | refine blk_alloc ?_ _)); exact BK219.out) hb)
          have n2_ := Aside0.mk (blk_below (g := gb225) (o := .cells #[.bool t221, .bool t222, .bool t223, .bool t224] 23 (0, 0)) (by (with_reducible repeat (first | refine blk_drewN ?_ _ | refine blk_drew ?_ | refine blk_alloc ?_ _)); exact BK225.out) hb)
          have n3_ := Aside0.mk (blk_below (g := gb233) (o := .cells #[.bool false, .bool false, .bool false, .bool false] 23 (0, 0)) (by (with_reducible repeat (first | refine blk_drewN ?_ _ | refine blk_drew ?_ | refine blk_alloc ?_ _)); exact BK233.out) hb)
          have n4_ := Aside0.mk (below_step (by repeat (first | (with_reducible first | exact HB.out | apply below_alloc | apply pw_below_drewN | apply below_drew1 | refine below_set ?_ GE180.out | refine below_set ?_ GE219.out | refine below_set ?_ GE225.out | refine below_set ?_ GE233.out) | exact HB.out)) hb)
          clear BK180
          clear BK219
          clear BK225
          clear BK233
          clear HB
          have BK180 := n0_
          have BK219 := n1_
          have BK225 := n2_
          have BK233 := n3_
          have HB := n4_
          clear n0_ n1_ n2_ n3_ n4_
          (try clear hb)
          (try clear hb2)
          (try clear hk)
          (try clear hi)
          refine hK.out _ _ ⟨(blk_cell BK180.out 0).trans rfl, (blk_cell BK180.out 1).trans rfl, (blk_cell BK180.out 2).trans rfl, (blk_cell BK180.out 3).trans rfl⟩ (fun hHeld => ?_)
          clear hK K
          refine norm_ (a' := ?_) ?_ ?_
          rotate_left
          ·show Act.put _ (some 49) _ = _
           simp only [Act.put, List.setIfInBounds_toArray, List.set_cons_zero, List.set_cons_succ, i64_w, i32_w]
           rfl
          refine pure_ (i := 6) (N := some 43) (v := ?_) (a' := ?_) #[true, true, true, true, true, true, true, false, false, true, false, false] rfl rfl (any_of HT_.out (by kernel_rfl)) (fun _ _ _ h => h) (Or.inl ⟨by rfl, ?_⟩) ?_ ?_
          rotate_left
          ·intro w'
           go_simp
           with_reducible rfl
          rotate_left
          ·simp only [Act.put, List.setIfInBounds_toArray, List.set_cons_zero, List.set_cons_succ, i64_w, i32_w]
           rfl
          refine pure_ (i := 7) (N := some 50) (v := ?_) (a' := ?_) #[true, true, true, true, true, true, true, true, false, true, false, false] rfl rfl (any_of HT_.out (by kernel_rfl)) (fun _ _ _ h => h) (Or.inl ⟨by rfl, ?_⟩) ?_ ?_
          rotate_left
          ·intro w'
           go_simp
           with_reducible rfl
          rotate_left
          ·simp only [Act.put, List.setIfInBounds_toArray, List.set_cons_zero, List.set_cons_succ, i64_w, i32_w]
           rfl
          refine pure_ (i := 8) (N := some 51) (v := ?_) (a' := ?_) #[true, true, true, true, true, true, true, true, true, true, false, false] rfl rfl (any_of HT_.out (by kernel_rfl)) (fun _ _ _ h => h) (Or.inl ⟨by rfl, ?_⟩) ?_ ?_
          rotate_left
          ·intro w'
           go_simp
           with_reducible rfl
          rotate_left
          ·simp only [Act.put, List.setIfInBounds_toArray, List.set_cons_zero, List.set_cons_succ, i64_w, i32_w]
           rfl
          exact norm_ (by simp only [putAll, Act.put, List.setIfInBounds_toArray, List.set_cons_zero, List.set_cons_succ]) (hCont (gb233) _ ⟨hHeld, (by (with_reducible repeat (first | refine blk_drewN ?_ _ | refine blk_drew ?_ | refine blk_alloc ?_ _)); exact BK180.out), (by (with_reducible repeat (first | refine blk_drewN ?_ _ | refine blk_drew ?_ | refine blk_alloc ?_ _)); exact BK219.out), (by (with_reducible repeat (first | refine blk_drewN ?_ _ | refine blk_drew ?_ | refine blk_alloc ?_ _)); exact BK225.out), (by (with_reducible repeat (first | refine blk_drewN ?_ _ | refine blk_drew ?_ | refine blk_alloc ?_ _)); exact BK233.out), GW233.out, GE233.out, NB180_233.out, NB233_180.out, NB219_233.out, NB233_219.out, NB225_233.out, NB233_225.out, (by repeat (first | (with_reducible first | exact HB.out | apply below_alloc | apply pw_below_drewN | apply below_drew1 | refine below_set ?_ GE180.out | refine below_set ?_ GE219.out | refine below_set ?_ GE225.out | refine below_set ?_ GE233.out) | exact HB.out))⟩)
        ·skip
         refine box_step ?hg (N := 16) ?hd (cs := #[.bool false, .bool false, .bool false, .bool false]) (t := 23) ?hr ?_; (case hd => rfl); (case hg => rfl); (case hr => first | (go_simp; done) | (go_simp; rfl))
         intro gb233 hg w247 hbox hb
         have n0_ := Aside0.mk (blk_below (g := gb180) (o := .cells #[.bool a2_0, .bool a2_1, .bool a2_2, .bool false] 23 (0, 0)) (by (with_reducible repeat (first | refine blk_drewN ?_ _ | refine blk_drew ?_ | refine blk_alloc ?_ _)); exact BK180.out) hb)
         have n1_ := Aside0.mk (blk_below (g := gb219) (o := .cells #[.bool t215, .bool t216, .bool t217, .bool t218] 23 (0, 0)) (by (with_reducible repeat (first | refine blk_drewN ?_ _ | refine blk_drew ?_ | refine blk_alloc ?_ _)); exact BK219.out) hb)
         have n2_ := Aside0.mk (blk_below (g := gb225) (o := .cells #[.bool t221, .bool t222, .bool t223, .bool t224] 23 (0, 0)) (by (with_reducible repeat (first | refine blk_drewN ?_ _ | refine blk_drew ?_ | refine blk_alloc ?_ _)); exact BK225.out) hb)
         have n3_ := Aside0.mk (below_step (by repeat (first | (with_reducible first | exact HB.out | apply below_alloc | apply pw_below_drewN | apply below_drew1 | refine below_set ?_ GE180.out | refine below_set ?_ GE219.out | refine below_set ?_ GE225.out) | exact HB.out)) hb)
         have n4_ := Aside0.mk (hbox)
         have n5_ := Aside0.mk ((by rw [hg]; exact (below_size (by repeat (first | (with_reducible first | exact HB.out | apply below_alloc | apply pw_below_drewN | apply below_drew1 | refine below_set ?_ GE180.out | refine below_set ?_ GE219.out | refine below_set ?_ GE225.out) | exact HB.out))) : w.heap.size ≤ gb233))
         have n6_ := Aside0.mk ((by rw [hg]; exact (below_size (by repeat (first | (with_reducible first | exact HB.out | apply below_alloc | apply pw_below_drewN | apply below_drew1 | refine below_set ?_ GE180.out | refine below_set ?_ GE219.out | refine below_set ?_ GE225.out) | exact HB.out))) : w.heap.size ≤ gb233))
         have n7_ := Aside0.mk ((by rw [hg]; exact Nat.ne_of_lt (blk_lt (g := gb180) (o := .cells #[.bool a2_0, .bool a2_1, .bool a2_2, .bool false] 23 (0, 0)) (by (with_reducible repeat (first | refine blk_drewN ?_ _ | refine blk_drew ?_ | refine blk_alloc ?_ _)); exact BK180.out)) : gb180 ≠ gb233))
         have n8_ := Aside0.mk ((by rw [hg]; exact Nat.ne_of_gt (blk_lt (g := gb180) (o := .cells #[.bool a2_0, .bool a2_1, .bool a2_2, .bool false] 23 (0, 0)) (by (with_reducible repeat (first | refine blk_drewN ?_ _ | refine blk_drew ?_ | refine blk_alloc ?_ _)); exact BK180.out)) : gb233 ≠ gb180))
         have n9_ := Aside0.mk ((by rw [hg]; exact Nat.ne_of_lt (blk_lt (g := gb219) (o := .cells #[.bool t215, .bool t216, .bool t217, .bool t218] 23 (0, 0)) (by (with_reducible repeat (first | refine blk_drewN ?_ _ | refine blk_drew ?_ | refine blk_alloc ?_ _)); exact BK219.out)) : gb219 ≠ gb233))
         have n10_ := Aside0.mk ((by rw [hg]; exact Nat.ne_of_gt (blk_lt (g := gb219) (o := .cells #[.bool t215, .bool t216, .bool t217, .bool t218] 23 (0, 0)) (by (with_reducible repeat (first | refine blk_drewN ?_ _ | refine blk_drew ?_ | refine blk_alloc ?_ _)); exact BK219.out)) : gb233 ≠ gb219))
         have n11_ := Aside0.mk ((by rw [hg]; exact Nat.ne_of_lt (blk_lt (g := gb225) (o := .cells #[.bool t221, .bool t222, .bool t223, .bool t224] 23 (0, 0)) (by (with_reducible repeat (first | refine blk_drewN ?_ _ | refine blk_drew ?_ | refine blk_alloc ?_ _)); exact BK225.out)) : gb225 ≠ gb233))
         have n12_ := Aside0.mk ((by rw [hg]; exact Nat.ne_of_gt (blk_lt (g := gb225) (o := .cells #[.bool t221, .bool t222, .bool t223, .bool t224] 23 (0, 0)) (by (with_reducible repeat (first | refine blk_drewN ?_ _ | refine blk_drew ?_ | refine blk_alloc ?_ _)); exact BK225.out)) : gb233 ≠ gb225))
         clear BK180
         clear BK219
         clear BK225
         clear HB
         have BK180 := n0_
         have BK219 := n1_
         have BK225 := n2_
         have HB := n3_
         have BK233 := n4_
         have GW233 := n5_
         have GE233 := n6_
         have NB180_233 := n7_
         have NB233_180 := n8_
         have NB219_233 := n9_
         have NB233_219 := n10_
         have NB225_233 := n11_
         have NB233_225 := n12_
         clear n0_ n1_ n2_ n3_ n4_ n5_ n6_ n7_ n8_ n9_ n10_ n11_ n12_
         clear hb hbox hg
         refine hK.out _ _ ⟨(blk_cell BK180.out 0).trans rfl, (blk_cell BK180.out 1).trans rfl, (blk_cell BK180.out 2).trans rfl, (blk_cell BK180.out 3).trans rfl⟩ (fun hHeld => ?_)
         clear hK K
         refine norm_ (a' := ?_) ?_ ?_
         rotate_left
         ·show Act.put _ (some 16) _ = _
          simp only [Act.put, List.setIfInBounds_toArray, List.set_cons_zero, List.set_cons_succ, i64_w, i32_w]
          rfl
         refine one_ (i := 3) (N := some 47) #[true, true, true, true, true, false, false, false, false, true, false, false] rfl rfl (one_of HT_.out (by kernel_rfl)) (by decide) (fun K hK => ?_)
         refine goes_ Try.func20 (by kernel_rfl) rfl #[.int .i64 (wrap64 (Int.tmod a1 100))] (by rfl) rfl rfl (by (try simp only [List.map_toArray, List.map_cons, List.map_nil]); first | done | rfl | (simp only [List.length_drop, List.length_take]; rfl)) ?_
         with_reducible refine (whirligiglaw02_decimal.calls (wrap64 (Int.tmod a1 100)) t227 _ A218.out).mono ?_
         rintro e w' ⟨rfl, ⟨nd, rfl⟩⟩
         refine ⟨_, rfl, ?_⟩
         refine hK.out _ _ ⟨(blk_cell BK180.out 0).trans rfl, (blk_cell BK180.out 1).trans rfl, (blk_cell BK180.out 2).trans rfl, (blk_cell BK180.out 3).trans rfl⟩ (fun hHeld => ?_)
         clear hK K
         refine norm_ (a' := ?_) ?_ ?_
         rotate_left
         ·show Act.put _ (some 47) _ = _
          simp only [Act.put, List.setIfInBounds_toArray, List.set_cons_zero, List.set_cons_succ, i64_w, i32_w]
          rfl
         refine one_ (i := 5) (N := some 49) #[true, true, true, true, true, true, false, false, false, true, false, false] rfl rfl (one_of HT_.out (by kernel_rfl)) (by decide) (fun K hK => ?_)
         refine goes_ Try.func12 (by kernel_rfl) rfl #[.int .i64 3, .int .u8 t226, .int .u8 t227, .agg #[.bool a2_0, .bool a2_1, .bool a2_2, .bool false]] (by rfl) rfl rfl (by (try simp only [List.map_toArray, List.map_cons, List.map_nil]); first | done | rfl | (simp only [List.length_drop, List.length_take]; rfl)) ?_
         with_reducible refine (alu_Do.calls 3 t226 t227 a2_0 a2_1 a2_2 false t228 t229 t230 t231 t232 _ A219.out).mono ?_
         rintro e w248 ⟨rfl, hb⟩
         refine ⟨_, rfl, ?_⟩
         have n0_ := Aside0.mk (blk_below (g := gb180) (o := .cells #[.bool a2_0, .bool a2_1, .bool a2_2, .bool false] 23 (0, 0)) (by (with_reducible repeat (first | refine blk_drewN ?_ _ | refine blk_drew ?_ | refine blk_alloc ?_ _)); exact BK180.out) hb)
         have n1_ := Aside0.mk (blk_below (g := gb219) (o := .cells #[.bool t215, .bool t216, .bool t217, .bool t218] 23 (0, 0)) (by (with_reducible repeat (first | refine blk_drewN ?_ _ | refine blk_drew ?_ | refine blk_alloc ?_ _)); exact BK219.out) hb)
         have n2_ := Aside0.mk (blk_below (g := gb225) (o := .cells #[.bool t221, .bool t222, .bool t223, .bool t224] 23 (0, 0)) (by (with_reducible repeat (first | refine blk_drewN ?_ _ | refine blk_drew ?_ | refine blk_alloc ?_ _)); exact BK225.out) hb)
         have n3_ := Aside0.mk (blk_below (g := gb233) (o := .cells #[.bool false, .bool false, .bool false, .bool false] 23 (0, 0)) (by (with_reducible repeat (first | refine blk_drewN ?_ _ | refine blk_drew ?_ | refine blk_alloc ?_ _)); exact BK233.out) hb)
         have n4_ := Aside0.mk (below_step (by repeat (first | (with_reducible first | exact HB.out | apply below_alloc | apply pw_below_drewN | apply below_drew1 | refine below_set ?_ GE180.out | refine below_set ?_ GE219.out | refine below_set ?_ GE225.out | refine below_set ?_ GE233.out) | exact HB.out)) hb)
         clear BK180
         clear BK219
         clear BK225
         clear BK233
         clear HB
         have BK180 := n0_
         have BK219 := n1_
         have BK225 := n2_
         have BK233 := n3_
         have HB := n4_
         clear n0_ n1_ n2_ n3_ n4_
         (try clear hb)
         (try clear hb2)
         (try clear hk)
         (try clear hi)
         refine hK.out _ _ ⟨(blk_cell BK180.out 0).trans rfl, (blk_cell BK180.out 1).trans rfl, (blk_cell BK180.out 2).trans rfl, (blk_cell BK180.out 3).trans rfl⟩ (fun hHeld => ?_)
         clear hK K
         refine norm_ (a' := ?_) ?_ ?_
         rotate_left
         ·show Act.put _ (some 49) _ = _
          simp only [Act.put, List.setIfInBounds_toArray, List.set_cons_zero, List.set_cons_succ, i64_w, i32_w]
          rfl
         refine pure_ (i := 6) (N := some 43) (v := ?_) (a' := ?_) #[true, true, true, true, true, true, true, false, false, true, false, false] rfl rfl (any_of HT_.out (by kernel_rfl)) (fun _ _ _ h => h) (Or.inl ⟨by rfl, ?_⟩) ?_ ?_
         rotate_left
         ·intro w'
          go_simp
          with_reducible rfl
         rotate_left
         ·simp only [Act.put, List.setIfInBounds_toArray, List.set_cons_zero, List.set_cons_succ, i64_w, i32_w]
          rfl
         refine pure_ (i := 7) (N := some 50) (v := ?_) (a' := ?_) #[true, true, true, true, true, true, true, true, false, true, false, false] rfl rfl (any_of HT_.out (by kernel_rfl)) (fun _ _ _ h => h) (Or.inl ⟨by rfl, ?_⟩) ?_ ?_
         rotate_left
         ·intro w'
          go_simp
          with_reducible rfl
         rotate_left
         ·simp only [Act.put, List.setIfInBounds_toArray, List.set_cons_zero, List.set_cons_succ, i64_w, i32_w]
          rfl
         refine pure_ (i := 8) (N := some 51) (v := ?_) (a' := ?_) #[true, true, true, true, true, true, true, true, true, true, false, false] rfl rfl (any_of HT_.out (by kernel_rfl)) (fun _ _ _ h => h) (Or.inl ⟨by rfl, ?_⟩) ?_ ?_
         rotate_left
         ·intro w'
          go_simp
          with_reducible rfl
         rotate_left
         ·simp only [Act.put, List.setIfInBounds_toArray, List.set_cons_zero, List.set_cons_succ, i64_w, i32_w]
          rfl
         exact norm_ (by simp only [putAll, Act.put, List.setIfInBounds_toArray, List.set_cons_zero, List.set_cons_succ]) (hCont (gb233) _ ⟨hHeld, (by (with_reducible repeat (first | refine blk_drewN ?_ _ | refine blk_drew ?_ | refine blk_alloc ?_ _)); exact BK180.out), (by (with_reducible repeat (first | refine blk_drewN ?_ _ | refine blk_drew ?_ | refine blk_alloc ?_ _)); exact BK219.out), (by (with_reducible repeat (first | refine blk_drewN ?_ _ | refine blk_drew ?_ | refine blk_alloc ?_ _)); exact BK225.out), (by (with_reducible repeat (first | refine blk_drewN ?_ _ | refine blk_drew ?_ | refine blk_alloc ?_ _)); exact BK233.out), GW233.out, GE233.out, NB180_233.out, NB233_180.out, NB219_233.out, NB233_219.out, NB225_233.out, NB233_225.out, (by repeat (first | (with_reducible first | exact HB.out | apply below_alloc | apply pw_below_drewN | apply below_drew1 | refine below_set ?_ GE180.out | refine below_set ?_ GE219.out | refine below_set ?_ GE225.out | refine below_set ?_ GE233.out) | exact HB.out))⟩)
       ·skip
        refine box_step ?hg (N := 16) ?hd (cs := #[.bool false, .bool false, .bool false, .bool false]) (t := 23) ?hr ?_; (case hd => rfl); (case hg => rfl); (case hr => first | (go_simp; done) | (go_simp; rfl))
        intro gb233 hg w247 hbox hb
        have n0_ := Aside0.mk (blk_below (g := gb180) (o := .cells #[.bool a2_0, .bool a2_1, .bool a2_2, .bool false] 23 (0, 0)) (by (with_reducible repeat (first | refine blk_drewN ?_ _ | refine blk_drew ?_ | refine blk_alloc ?_ _)); exact BK180.out) hb)
        have n1_ := Aside0.mk (blk_below (g := gb219) (o := .cells #[.bool t215, .bool t216, .bool t217, .bool t218] 23 (0, 0)) (by (with_reducible repeat (first | refine blk_drewN ?_ _ | refine blk_drew ?_ | refine blk_alloc ?_ _)); exact BK219.out) hb)
        have n2_ := Aside0.mk (blk_below (g := gb225) (o := .cells #[.bool t221, .bool t222, .bool t223, .bool t224] 23 (0, 0)) (by (with_reducible repeat (first | refine blk_drewN ?_ _ | refine blk_drew ?_ | refine blk_alloc ?_ _)); exact BK225.out) hb)
        have n3_ := Aside0.mk (below_step (by repeat (first | (with_reducible first | exact HB.out | apply below_alloc | apply pw_below_drewN | apply below_drew1 | refine below_set ?_ GE180.out | refine below_set ?_ GE219.out | refine below_set ?_ GE225.out) | exact HB.out)) hb)
        have n4_ := Aside0.mk (hbox)
        have n5_ := Aside0.mk ((by rw [hg]; exact (below_size (by repeat (first | (with_reducible first | exact HB.out | apply below_alloc | apply pw_below_drewN | apply below_drew1 | refine below_set ?_ GE180.out | refine below_set ?_ GE219.out | refine below_set ?_ GE225.out) | exact HB.out))) : w.heap.size ≤ gb233))
        have n6_ := Aside0.mk ((by rw [hg]; exact (below_size (by repeat (first | (with_reducible first | exact HB.out | apply below_alloc | apply pw_below_drewN | apply below_drew1 | refine below_set ?_ GE180.out | refine below_set ?_ GE219.out | refine below_set ?_ GE225.out) | exact HB.out))) : w.heap.size ≤ gb233))
        have n7_ := Aside0.mk ((by rw [hg]; exact Nat.ne_of_lt (blk_lt (g := gb180) (o := .cells #[.bool a2_0, .bool a2_1, .bool a2_2, .bool false] 23 (0, 0)) (by (with_reducible repeat (first | refine blk_drewN ?_ _ | refine blk_drew ?_ | refine blk_alloc ?_ _)); exact BK180.out)) : gb180 ≠ gb233))
        have n8_ := Aside0.mk ((by rw [hg]; exact Nat.ne_of_gt (blk_lt (g := gb180) (o := .cells #[.bool a2_0, .bool a2_1, .bool a2_2, .bool false] 23 (0, 0)) (by (with_reducible repeat (first | refine blk_drewN ?_ _ | refine blk_drew ?_ | refine blk_alloc ?_ _)); exact BK180.out)) : gb233 ≠ gb180))
        have n9_ := Aside0.mk ((by rw [hg]; exact Nat.ne_of_lt (blk_lt (g := gb219) (o := .cells #[.bool t215, .bool t216, .bool t217, .bool t218] 23 (0, 0)) (by (with_reducible repeat (first | refine blk_drewN ?_ _ | refine blk_drew ?_ | refine blk_alloc ?_ _)); exact BK219.out)) : gb219 ≠ gb233))
        have n10_ := Aside0.mk ((by rw [hg]; exact Nat.ne_of_gt (blk_lt (g := gb219) (o := .cells #[.bool t215, .bool t216, .bool t217, .bool t218] 23 (0, 0)) (by (with_reducible repeat (first | refine blk_drewN ?_ _ | refine blk_drew ?_ | refine blk_alloc ?_ _)); exact BK219.out)) : gb233 ≠ gb219))
        have n11_ := Aside0.mk ((by rw [hg]; exact Nat.ne_of_lt (blk_lt (g := gb225) (o := .cells #[.bool t221, .bool t222, .bool t223, .bool t224] 23 (0, 0)) (by (with_reducible repeat (first | refine blk_drewN ?_ _ | refine blk_drew ?_ | refine blk_alloc ?_ _)); exact BK225.out)) : gb225 ≠ gb233))
        have n12_ := Aside0.mk ((by rw [hg]; exact Nat.ne_of_gt (blk_lt (g := gb225) (o := .cells #[.bool t221, .bool t222, .bool t223, .bool t224] 23 (0, 0)) (by (with_reducible repeat (first | refine blk_drewN ?_ _ | refine blk_drew ?_ | refine blk_alloc ?_ _)); exact BK225.out)) : gb233 ≠ gb225))
        clear BK180
        clear BK219
        clear BK225
        clear HB
        have BK180 := n0_
        have BK219 := n1_
        have BK225 := n2_
        have HB := n3_
        have BK233 := n4_
        have GW233 := n5_
        have GE233 := n6_
        have NB180_233 := n7_
        have NB233_180 := n8_
        have NB219_233 := n9_
        have NB233_219 := n10_
        have NB225_233 := n11_
        have NB233_225 := n12_
        clear n0_ n1_ n2_ n3_ n4_ n5_ n6_ n7_ n8_ n9_ n10_ n11_ n12_
        clear hb hbox hg
        refine hK.out _ _ ⟨(blk_cell BK180.out 0).trans rfl, (blk_cell BK180.out 1).trans rfl, (blk_cell BK180.out 2).trans rfl, (blk_cell BK180.out 3).trans rfl⟩ (fun hHeld => ?_)
        clear hK K
        refine norm_ (a' := ?_) ?_ ?_
        rotate_left
        ·show Act.put _ (some 16) _ = _
         simp only [Act.put, List.setIfInBounds_toArray, List.set_cons_zero, List.set_cons_succ, i64_w, i32_w]
         rfl
        refine one_ (i := 1) (N := some 45) #[true, true, true, false, true, false, false, false, false, true, false, false] rfl rfl (one_of HT_.out (by kernel_rfl)) (by decide) (fun K hK => ?_)
        refine goes_ Try.func20 (by kernel_rfl) rfl #[.int .i64 (wrap64 (Int.tmod a0 100))] (by rfl) rfl rfl (by (try simp only [List.map_toArray, List.map_cons, List.map_nil]); first | done | rfl | (simp only [List.length_drop, List.length_take]; rfl)) ?_
        with_reducible refine (whirligiglaw02_decimal.calls (wrap64 (Int.tmod a0 100)) t226 _ A217.out).mono ?_
        rintro e w' ⟨rfl, ⟨nd, rfl⟩⟩
        refine ⟨_, rfl, ?_⟩
        refine hK.out _ _ ⟨(blk_cell BK180.out 0).trans rfl, (blk_cell BK180.out 1).trans rfl, (blk_cell BK180.out 2).trans rfl, (blk_cell BK180.out 3).trans rfl⟩ (fun hHeld => ?_)
        clear hK K
        refine norm_ (a' := ?_) ?_ ?_
        rotate_left
        ·show Act.put _ (some 45) _ = _
         simp only [Act.put, List.setIfInBounds_toArray, List.set_cons_zero, List.set_cons_succ, i64_w, i32_w]
         rfl
        refine one_ (i := 3) (N := some 47) #[true, true, true, true, true, false, false, false, false, true, false, false] rfl rfl (one_of HT_.out (by kernel_rfl)) (by decide) (fun K hK => ?_)
        refine goes_ Try.func20 (by kernel_rfl) rfl #[.int .i64 (wrap64 (Int.tmod a1 100))] (by rfl) rfl rfl (by (try simp only [List.map_toArray, List.map_cons, List.map_nil]); first | done | rfl | (simp only [List.length_drop, List.length_take]; rfl)) ?_
        with_reducible refine (whirligiglaw02_decimal.calls (wrap64 (Int.tmod a1 100)) t227 _ A218.out).mono ?_
        rintro e w' ⟨rfl, ⟨nd, rfl⟩⟩
        refine ⟨_, rfl, ?_⟩
        refine hK.out _ _ ⟨(blk_cell BK180.out 0).trans rfl, (blk_cell BK180.out 1).trans rfl, (blk_cell BK180.out 2).trans rfl, (blk_cell BK180.out 3).trans rfl⟩ (fun hHeld => ?_)
        clear hK K
        refine norm_ (a' := ?_) ?_ ?_
        rotate_left
        ·show Act.put _ (some 47) _ = _
         simp only [Act.put, List.setIfInBounds_toArray, List.set_cons_zero, List.set_cons_succ, i64_w, i32_w]
         rfl
        refine one_ (i := 5) (N := some 49) #[true, true, true, true, true, true, false, false, false, true, false, false] rfl rfl (one_of HT_.out (by kernel_rfl)) (by decide) (fun K hK => ?_)
        refine goes_ Try.func12 (by kernel_rfl) rfl #[.int .i64 3, .int .u8 t226, .int .u8 t227, .agg #[.bool a2_0, .bool a2_1, .bool a2_2, .bool false]] (by rfl) rfl rfl (by (try simp only [List.map_toArray, List.map_cons, List.map_nil]); first | done | rfl | (simp only [List.length_drop, List.length_take]; rfl)) ?_
        with_reducible refine (alu_Do.calls 3 t226 t227 a2_0 a2_1 a2_2 false t228 t229 t230 t231 t232 _ A219.out).mono ?_
        rintro e w248 ⟨rfl, hb⟩
        refine ⟨_, rfl, ?_⟩
        have n0_ := Aside0.mk (blk_below (g := gb180) (o := .cells #[.bool a2_0, .bool a2_1, .bool a2_2, .bool false] 23 (0, 0)) (by (with_reducible repeat (first | refine blk_drewN ?_ _ | refine blk_drew ?_ | refine blk_alloc ?_ _)); exact BK180.out) hb)
        have n1_ := Aside0.mk (blk_below (g := gb219) (o := .cells #[.bool t215, .bool t216, .bool t217, .bool t218] 23 (0, 0)) (by (with_reducible repeat (first | refine blk_drewN ?_ _ | refine blk_drew ?_ | refine blk_alloc ?_ _)); exact BK219.out) hb)
        have n2_ := Aside0.mk (blk_below (g := gb225) (o := .cells #[.bool t221, .bool t222, .bool t223, .bool t224] 23 (0, 0)) (by (with_reducible repeat (first | refine blk_drewN ?_ _ | refine blk_drew ?_ | refine blk_alloc ?_ _)); exact BK225.out) hb)
        have n3_ := Aside0.mk (blk_below (g := gb233) (o := .cells #[.bool false, .bool false, .bool false, .bool false] 23 (0, 0)) (by (with_reducible repeat (first | refine blk_drewN ?_ _ | refine blk_drew ?_ | refine blk_alloc ?_ _)); exact BK233.out) hb)
        have n4_ := Aside0.mk (below_step (by repeat (first | (with_reducible first | exact HB.out | apply below_alloc | apply pw_below_drewN | apply below_drew1 | refine below_set ?_ GE180.out | refine below_set ?_ GE219.out | refine below_set ?_ GE225.out | refine below_set ?_ GE233.out) | exact HB.out)) hb)
        clear BK180
        clear BK219
        clear BK225
        clear BK233
        clear HB
        have BK180 := n0_
        have BK219 := n1_
        have BK225 := n2_
        have BK233 := n3_
        have HB := n4_
        clear n0_ n1_ n2_ n3_ n4_
        (try clear hb)
        (try clear hb2)
        (try clear hk)
        (try clear hi)
        refine hK.out _ _ ⟨(blk_cell BK180.out 0).trans rfl, (blk_cell BK180.out 1).trans rfl, (blk_cell BK180.out 2).trans rfl, (blk_cell BK180.out 3).trans rfl⟩ (fun hHeld => ?_)
        clear hK K
        refine norm_ (a' := ?_) ?_ ?_
        rotate_left
        ·show Act.put _ (some 49) _ = _
         simp only [Act.put, List.setIfInBounds_toArray, List.set_cons_zero, List.set_cons_succ, i64_w, i32_w]
         rfl
        refine pure_ (i := 6) (N := some 43) (v := ?_) (a' := ?_) #[true, true, true, true, true, true, true, false, false, true, false, false] rfl rfl (any_of HT_.out (by kernel_rfl)) (fun _ _ _ h => h) (Or.inl ⟨by rfl, ?_⟩) ?_ ?_
        rotate_left
        ·intro w'
         go_simp
         with_reducible rfl
        rotate_left
        ·simp only [Act.put, List.setIfInBounds_toArray, List.set_cons_zero, List.set_cons_succ, i64_w, i32_w]
         rfl
        refine pure_ (i := 7) (N := some 50) (v := ?_) (a' := ?_) #[true, true, true, true, true, true, true, true, false, true, false, false] rfl rfl (any_of HT_.out (by kernel_rfl)) (fun _ _ _ h => h) (Or.inl ⟨by rfl, ?_⟩) ?_ ?_
        rotate_left
        ·intro w'
         go_simp
         with_reducible rfl
        rotate_left
        ·simp only [Act.put, List.setIfInBounds_toArray, List.set_cons_zero, List.set_cons_succ, i64_w, i32_w]
         rfl
        refine pure_ (i := 8) (N := some 51) (v := ?_) (a' := ?_) #[true, true, true, true, true, true, true, true, true, true, false, false] rfl rfl (any_of HT_.out (by kernel_rfl)) (fun _ _ _ h => h) (Or.inl ⟨by rfl, ?_⟩) ?_ ?_
        rotate_left
        ·intro w'
         go_simp
         with_reducible rfl
        rotate_left
        ·simp only [Act.put, List.setIfInBounds_toArray, List.set_cons_zero, List.set_cons_succ, i64_w, i32_w]
         rfl
        exact norm_ (by simp only [putAll, Act.put, List.setIfInBounds_toArray, List.set_cons_zero, List.set_cons_succ]) (hCont (gb233) _ ⟨hHeld, (by (with_reducible repeat (first | refine blk_drewN ?_ _ | refine blk_drew ?_ | refine blk_alloc ?_ _)); exact BK180.out), (by (with_reducible repeat (first | refine blk_drewN ?_ _ | refine blk_drew ?_ | refine blk_alloc ?_ _)); exact BK219.out), (by (with_reducible repeat (first | refine blk_drewN ?_ _ | refine blk_drew ?_ | refine blk_alloc ?_ _)); exact BK225.out), (by (with_reducible repeat (first | refine blk_drewN ?_ _ | refine blk_drew ?_ | refine blk_alloc ?_ _)); exact BK233.out), GW233.out, GE233.out, NB180_233.out, NB233_180.out, NB219_233.out, NB233_219.out, NB225_233.out, NB233_225.out, (by repeat (first | (with_reducible first | exact HB.out | apply below_alloc | apply pw_below_drewN | apply below_drew1 | refine below_set ?_ GE180.out | refine below_set ?_ GE219.out | refine below_set ?_ GE225.out | refine below_set ?_ GE233.out) | exact HB.out))⟩)
      rintro gb233 w249 ⟨hS_, h0_, h1_, h2_, h3_, h4_, h5_, h6_, h7_, h8_, h9_, h10_, h11_, h12_⟩
      have n0_ : Aside0 (w249.heap[gb180]? = some (.cells #[.bool a2_0, .bool a2_1, .bool a2_2, .bool false] 23 (0, 0))) := ⟨h0_⟩
      have n1_ : Aside0 (w249.heap[gb219]? = some (.cells #[.bool t215, .bool t216, .bool t217, .bool t218] 23 (0, 0))) := ⟨h1_⟩
      have n2_ : Aside0 (w249.heap[gb225]? = some (.cells #[.bool t221, .bool t222, .bool t223, .bool t224] 23 (0, 0))) := ⟨h2_⟩
      have n3_ : Aside0 (w249.heap[gb233]? = some (.cells #[.bool false, .bool false, .bool false, .bool false] 23 (0, 0))) := ⟨h3_⟩
      have n4_ : Aside0 (w.heap.size ≤ gb233) := ⟨h4_⟩
      have n5_ : Aside0 (w.heap.size ≤ gb233) := ⟨h5_⟩
      have n6_ : Aside0 (gb180 ≠ gb233) := ⟨h6_⟩
      have n7_ : Aside0 (gb233 ≠ gb180) := ⟨h7_⟩
      have n8_ : Aside0 (gb219 ≠ gb233) := ⟨h8_⟩
      have n9_ : Aside0 (gb233 ≠ gb219) := ⟨h9_⟩
      have n10_ : Aside0 (gb225 ≠ gb233) := ⟨h10_⟩
      have n11_ : Aside0 (gb233 ≠ gb225) := ⟨h11_⟩
      have n12_ : Aside0 (Below w.heap.size w w249) := ⟨h12_⟩
      clear BK180
      clear BK219
      clear BK225
      clear HB
      clear h0_ h1_ h2_ h3_ h4_ h5_ h6_ h7_ h8_ h9_ h10_ h11_ h12_
      have BK180 := n0_
      have BK219 := n1_
      have BK225 := n2_
      have BK233 := n3_
      have GW233 := n4_
      have GE233 := n5_
      have NB180_233 := n6_
      have NB233_180 := n7_
      have NB219_233 := n8_
      have NB233_219 := n9_
      have NB225_233 := n10_
      have NB233_225 := n11_
      have HB := n12_
      clear n0_ n1_ n2_ n3_ n4_ n5_ n6_ n7_ n8_ n9_ n10_ n11_ n12_
      have hHeld : w249.cell? ⟨gb180, 0, none⟩ = some (.bool a2_0) ∧ w249.cell? ⟨gb180, 1, none⟩ = some (.bool a2_1) ∧ w249.cell? ⟨gb180, 2, none⟩ = some (.bool a2_2) ∧ w249.cell? ⟨gb180, 3, none⟩ = some (.bool false) := hS_
      refine norm_ (a' := ?_) ?_ ?_
      rotate_left
      ·simp only [putAll, Act.put, List.setIfInBounds_toArray, List.set_cons_zero, List.set_cons_succ]
       rfl
      refine pure_ (i := 10) (N := some 15) (v := ?_) (a' := ?_) #[true, true, true, true, true, true, true, true, true, true, true, false] rfl rfl (any_of HT_.out (by kernel_rfl)) (fun _ _ _ h => h) (Or.inl ⟨by rfl, ?_⟩) ?_ ?_
      rotate_left
      ·intro w'
       go_simp
       with_reducible rfl
      rotate_left
      ·simp only [Act.put, List.setIfInBounds_toArray, List.set_cons_zero, List.set_cons_succ, i64_w, i32_w]
       rfl
      refine one_ (i := 11) (N := none) #[true, true, true, true, true, true, true, true, true, true, true, true] rfl rfl (one_of HT_.out (by kernel_rfl)) (by decide) (fun K hK => ?_)
      have hs250 : w249.cell? ⟨gb233, 0, none⟩ = some (.bool false) := (blk_cell BK233.out 0).trans rfl
      have hfs250 := blk_frozen BK233.out 0
      have hns250_0 := NB180_233.out
      have hns250_1 := NB219_233.out
      have hns250_2 := NB225_233.out
      have hms250_0 := NB233_180.out
      have hms250_1 := NB233_219.out
      have hms250_2 := NB233_225.out
      have hs251 : w249.cell? ⟨gb233, 1, none⟩ = some (.bool false) := (blk_cell BK233.out 1).trans rfl
      have hfs251 := blk_frozen BK233.out 1
      have hns251_0 := NB180_233.out
      have hns251_1 := NB219_233.out
      have hns251_2 := NB225_233.out
      have hms251_0 := NB233_180.out
      have hms251_1 := NB233_219.out
      have hms251_2 := NB233_225.out
      have hs252 : w249.cell? ⟨gb233, 2, none⟩ = some (.bool false) := (blk_cell BK233.out 2).trans rfl
      have hfs252 := blk_frozen BK233.out 2
      have hns252_0 := NB180_233.out
      have hns252_1 := NB219_233.out
      have hns252_2 := NB225_233.out
      have hms252_0 := NB233_180.out
      have hms252_1 := NB233_219.out
      have hms252_2 := NB233_225.out
      have hs253 : w249.cell? ⟨gb233, 3, none⟩ = some (.bool false) := (blk_cell BK233.out 3).trans rfl
      have hfs253 := blk_frozen BK233.out 3
      have hns253_0 := NB180_233.out
      have hns253_1 := NB219_233.out
      have hns253_2 := NB225_233.out
      have hms253_0 := NB233_180.out
      have hms253_1 := NB233_219.out
      have hms253_2 := NB233_225.out
      refine skip_ (w1 := ?_) (by rfl) rfl ?_ ?_
      rotate_left
      ·go_simp
       rfl
      refine hK.out _ _ ⟨((cell_far (p := ⟨gb233, _, none⟩) NB180_233.out _).trans (((cell_far (p := ⟨gb233, _, none⟩) NB180_233.out _).trans (((cell_far (p := ⟨gb233, _, none⟩) NB180_233.out _).trans (((cell_far (p := ⟨gb233, _, none⟩) NB180_233.out _).trans (hHeld.1)))))))), ((cell_far (p := ⟨gb233, _, none⟩) NB180_233.out _).trans (((cell_far (p := ⟨gb233, _, none⟩) NB180_233.out _).trans (((cell_far (p := ⟨gb233, _, none⟩) NB180_233.out _).trans (((cell_far (p := ⟨gb233, _, none⟩) NB180_233.out _).trans (hHeld.2.1)))))))), ((cell_far (p := ⟨gb233, _, none⟩) NB180_233.out _).trans (((cell_far (p := ⟨gb233, _, none⟩) NB180_233.out _).trans (((cell_far (p := ⟨gb233, _, none⟩) NB180_233.out _).trans (((cell_far (p := ⟨gb233, _, none⟩) NB180_233.out _).trans (hHeld.2.2.1)))))))), ((cell_far (p := ⟨gb233, _, none⟩) NB180_233.out _).trans (((cell_far (p := ⟨gb233, _, none⟩) NB180_233.out _).trans (((cell_far (p := ⟨gb233, _, none⟩) NB180_233.out _).trans (((cell_far (p := ⟨gb233, _, none⟩) NB180_233.out _).trans (hHeld.2.2.2))))))))⟩ (fun hHeld => ?_)
      clear hK K
      refine done_ (done_of HT_.out (by kernel_rfl)) ?_
      have hnb254 := NB233_180.out
      have hnc254 := NB180_233.out
      have hnb255 := NB233_219.out
      have hnc255 := NB219_233.out
      have hnb256 := NB233_225.out
      have hnc256 := NB225_233.out
      have hcz257_0 : w249.cell? ⟨gb233, 0, none⟩ = some (.bool false) := (blk_cell BK233.out 0).trans rfl
      have hcz257_1 : w249.cell? ⟨gb233, 1, none⟩ = some (.bool false) := (blk_cell BK233.out 1).trans rfl
      have hcz257_2 : w249.cell? ⟨gb233, 2, none⟩ = some (.bool false) := (blk_cell BK233.out 2).trans rfl
      have hcz257_3 : w249.cell? ⟨gb233, 3, none⟩ = some (.bool false) := (blk_cell BK233.out 3).trans rfl
      have hfz257_0 := blk_frozen BK233.out 0
      have hfz257_1 := blk_frozen BK233.out 1
      have hfz257_2 := blk_frozen BK233.out 2
      have hfz257_3 := blk_frozen BK233.out 3
      try go_wp2_with (first | ((with_reducible refine gate_callee (f := 14) rfl ?_); refine goesL_ (some 55) rfl rfl Try.func14 (by kernel_rfl) rfl #[.int .u8 t228, .agg #[.bool t229, .bool t230, .bool t231, .bool t232]] rfl (by (try simp only [List.map_toArray, List.map_cons, List.map_nil]); first | done | rfl | (simp only [List.length_drop, List.length_take]; rfl)) ?_; (with_reducible refine (alu_Daa.calls k t228 t229 t230 t231 t232 t234 t235 t236 t237 t238 _ A220.out).mono ?_); rintro e w258 ⟨rfl, hb⟩; refine ⟨_, rfl, ?_⟩; have n0_ := Aside0.mk (blk_below (g := gb180) (o := .cells #[.bool a2_0, .bool a2_1, .bool a2_2, .bool false] 23 (0, 0)) (by (with_reducible repeat (first | refine blk_drewN ?_ _ | refine blk_drew ?_ | refine blk_alloc ?_ _)); refine blk_far ?_ NB180_233.out _; (with_reducible repeat (first | refine blk_drewN ?_ _ | refine blk_drew ?_ | refine blk_alloc ?_ _)); refine blk_far ?_ NB180_233.out _; (with_reducible repeat (first | refine blk_drewN ?_ _ | refine blk_drew ?_ | refine blk_alloc ?_ _)); refine blk_far ?_ NB180_233.out _; (with_reducible repeat (first | refine blk_drewN ?_ _ | refine blk_drew ?_ | refine blk_alloc ?_ _)); refine blk_far ?_ NB180_233.out _; (with_reducible repeat (first | refine blk_drewN ?_ _ | refine blk_drew ?_ | refine blk_alloc ?_ _)); exact BK180.out) hb); have n1_ := Aside0.mk (blk_below (g := gb219) (o := .cells #[.bool t215, .bool t216, .bool t217, .bool t218] 23 (0, 0)) (by (with_reducible repeat (first | refine blk_drewN ?_ _ | refine blk_drew ?_ | refine blk_alloc ?_ _)); refine blk_far ?_ NB219_233.out _; (with_reducible repeat (first | refine blk_drewN ?_ _ | refine blk_drew ?_ | refine blk_alloc ?_ _)); refine blk_far ?_ NB219_233.out _; (with_reducible repeat (first | refine blk_drewN ?_ _ | refine blk_drew ?_ | refine blk_alloc ?_ _)); refine blk_far ?_ NB219_233.out _; (with_reducible repeat (first | refine blk_drewN ?_ _ | refine blk_drew ?_ | refine blk_alloc ?_ _)); refine blk_far ?_ NB219_233.out _; (with_reducible repeat (first | refine blk_drewN ?_ _ | refine blk_drew ?_ | refine blk_alloc ?_ _)); exact BK219.out) hb); have n2_ := Aside0.mk (blk_below (g := gb225) (o := .cells #[.bool t221, .bool t222, .bool t223, .bool t224] 23 (0, 0)) (by (with_reducible repeat (first | refine blk_drewN ?_ _ | refine blk_drew ?_ | refine blk_alloc ?_ _)); refine blk_far ?_ NB225_233.out _; (with_reducible repeat (first | refine blk_drewN ?_ _ | refine blk_drew ?_ | refine blk_alloc ?_ _)); refine blk_far ?_ NB225_233.out _; (with_reducible repeat (first | refine blk_drewN ?_ _ | refine blk_drew ?_ | refine blk_alloc ?_ _)); refine blk_far ?_ NB225_233.out _; (with_reducible repeat (first | refine blk_drewN ?_ _ | refine blk_drew ?_ | refine blk_alloc ?_ _)); refine blk_far ?_ NB225_233.out _; (with_reducible repeat (first | refine blk_drewN ?_ _ | refine blk_drew ?_ | refine blk_alloc ?_ _)); exact BK225.out) hb); have n3_ := Aside0.mk (blk_below (g := gb233) (o := .cells #[.bool t229, .bool t230, .bool t231, .bool t232] 23 (0, 0)) (by (with_reducible repeat (first | refine blk_drewN ?_ _ | refine blk_drew ?_ | refine blk_alloc ?_ _)); refine blk_put (cs := #[.bool t229, .bool t230, .bool t231, .bool false]) ?_ 3 _ rfl; (with_reducible repeat (first | refine blk_drewN ?_ _ | refine blk_drew ?_ | refine blk_alloc ?_ _)); refine blk_put (cs := #[.bool t229, .bool t230, .bool false, .bool false]) ?_ 2 _ rfl; (with_reducible repeat (first | refine blk_drewN ?_ _ | refine blk_drew ?_ | refine blk_alloc ?_ _)); refine blk_put (cs := #[.bool t229, .bool false, .bool false, .bool false]) ?_ 1 _ rfl; (with_reducible repeat (first | refine blk_drewN ?_ _ | refine blk_drew ?_ | refine blk_alloc ?_ _)); refine blk_put (cs := #[.bool false, .bool false, .bool false, .bool false]) ?_ 0 _ rfl; (with_reducible repeat (first | refine blk_drewN ?_ _ | refine blk_drew ?_ | refine blk_alloc ?_ _)); exact BK233.out) hb); have n4_ := Aside0.mk (below_step (by repeat (first | (with_reducible first | exact HB.out | apply below_alloc | apply pw_below_drewN | apply below_drew1 | refine below_set ?_ GE180.out | refine below_set ?_ GE219.out | refine below_set ?_ GE225.out | refine below_set ?_ GE233.out) | exact HB.out)) hb); clear BK180; clear BK219; clear BK225; clear BK233; clear HB; have BK180 := n0_; have BK219 := n1_; have BK225 := n2_; have BK233 := n3_; have HB := n4_; clear n0_ n1_ n2_ n3_ n4_; (try clear hb); (try clear hb2); (try clear hk); (try clear hi)) | ((with_reducible refine gate_dst (N := 18) rfl ?_); refine box_event ?hg (N := 18) ?hd (cs := #[.bool false, .bool false, .bool false, .bool false]) (t := 23) ?hr ?_; (case hd => rfl); (case hg => rfl); (case hr => first | (go_simp; done) | (go_simp; rfl)); intro gb239 hg w259 hbox hb; have n0_ := Aside0.mk (blk_below (g := gb180) (o := .cells #[.bool a2_0, .bool a2_1, .bool a2_2, .bool false] 23 (0, 0)) (by (with_reducible repeat (first | refine blk_drewN ?_ _ | refine blk_drew ?_ | refine blk_alloc ?_ _)); exact BK180.out) hb); have n1_ := Aside0.mk (blk_below (g := gb219) (o := .cells #[.bool t215, .bool t216, .bool t217, .bool t218] 23 (0, 0)) (by (with_reducible repeat (first | refine blk_drewN ?_ _ | refine blk_drew ?_ | refine blk_alloc ?_ _)); exact BK219.out) hb); have n2_ := Aside0.mk (blk_below (g := gb225) (o := .cells #[.bool t221, .bool t222, .bool t223, .bool t224] 23 (0, 0)) (by (with_reducible repeat (first | refine blk_drewN ?_ _ | refine blk_drew ?_ | refine blk_alloc ?_ _)); exact BK225.out) hb); have n3_ := Aside0.mk (blk_below (g := gb233) (o := .cells #[.bool t229, .bool t230, .bool t231, .bool t232] 23 (0, 0)) (by (with_reducible repeat (first | refine blk_drewN ?_ _ | refine blk_drew ?_ | refine blk_alloc ?_ _)); exact BK233.out) hb); have n4_ := Aside0.mk (below_step (by repeat (first | (with_reducible first | exact HB.out | apply below_alloc | apply pw_below_drewN | apply below_drew1 | refine below_set ?_ GE180.out | refine below_set ?_ GE219.out | refine below_set ?_ GE225.out | refine below_set ?_ GE233.out) | exact HB.out)) hb); have n5_ := Aside0.mk (hbox); have n6_ := Aside0.mk ((by rw [hg]; exact (below_size (by repeat (first | (with_reducible first | exact HB.out | apply below_alloc | apply pw_below_drewN | apply below_drew1 | refine below_set ?_ GE180.out | refine below_set ?_ GE219.out | refine below_set ?_ GE225.out | refine below_set ?_ GE233.out) | exact HB.out))) : w.heap.size ≤ gb239)); have n7_ := Aside0.mk ((by rw [hg]; exact (below_size (by repeat (first | (with_reducible first | exact HB.out | apply below_alloc | apply pw_below_drewN | apply below_drew1 | refine below_set ?_ GE180.out | refine below_set ?_ GE219.out | refine below_set ?_ GE225.out | refine below_set ?_ GE233.out) | exact HB.out))) : w.heap.size ≤ gb239)); have n8_ := Aside0.mk ((by rw [hg]; exact Nat.ne_of_lt (blk_lt (g := gb180) (o := .cells #[.bool a2_0, .bool a2_1, .bool a2_2, .bool false] 23 (0, 0)) (by (with_reducible repeat (first | refine blk_drewN ?_ _ | refine blk_drew ?_ | refine blk_alloc ?_ _)); exact BK180.out)) : gb180 ≠ gb239)); have n9_ := Aside0.mk ((by rw [hg]; exact Nat.ne_of_gt (blk_lt (g := gb180) (o := .cells #[.bool a2_0, .bool a2_1, .bool a2_2, .bool false] 23 (0, 0)) (by (with_reducible repeat (first | refine blk_drewN ?_ _ | refine blk_drew ?_ | refine blk_alloc ?_ _)); exact BK180.out)) : gb239 ≠ gb180)); have n10_ := Aside0.mk ((by rw [hg]; exact Nat.ne_of_lt (blk_lt (g := gb219) (o := .cells #[.bool t215, .bool t216, .bool t217, .bool t218] 23 (0, 0)) (by (with_reducible repeat (first | refine blk_drewN ?_ _ | refine blk_drew ?_ | refine blk_alloc ?_ _)); exact BK219.out)) : gb219 ≠ gb239)); have n11_ := Aside0.mk ((by rw [hg]; exact Nat.ne_of_gt (blk_lt (g := gb219) (o := .cells #[.bool t215, .bool t216, .bool t217, .bool t218] 23 (0, 0)) (by (with_reducible repeat (first | refine blk_drewN ?_ _ | refine blk_drew ?_ | refine blk_alloc ?_ _)); exact BK219.out)) : gb239 ≠ gb219)); have n12_ := Aside0.mk ((by rw [hg]; exact Nat.ne_of_lt (blk_lt (g := gb225) (o := .cells #[.bool t221, .bool t222, .bool t223, .bool t224] 23 (0, 0)) (by (with_reducible repeat (first | refine blk_drewN ?_ _ | refine blk_drew ?_ | refine blk_alloc ?_ _)); exact BK225.out)) : gb225 ≠ gb239)); have n13_ := Aside0.mk ((by rw [hg]; exact Nat.ne_of_gt (blk_lt (g := gb225) (o := .cells #[.bool t221, .bool t222, .bool t223, .bool t224] 23 (0, 0)) (by (with_reducible repeat (first | refine blk_drewN ?_ _ | refine blk_drew ?_ | refine blk_alloc ?_ _)); exact BK225.out)) : gb239 ≠ gb225)); have n14_ := Aside0.mk ((by rw [hg]; exact Nat.ne_of_lt (blk_lt (g := gb233) (o := .cells #[.bool t229, .bool t230, .bool t231, .bool t232] 23 (0, 0)) (by (with_reducible repeat (first | refine blk_drewN ?_ _ | refine blk_drew ?_ | refine blk_alloc ?_ _)); exact BK233.out)) : gb233 ≠ gb239)); have n15_ := Aside0.mk ((by rw [hg]; exact Nat.ne_of_gt (blk_lt (g := gb233) (o := .cells #[.bool t229, .bool t230, .bool t231, .bool t232] 23 (0, 0)) (by (with_reducible repeat (first | refine blk_drewN ?_ _ | refine blk_drew ?_ | refine blk_alloc ?_ _)); exact BK233.out)) : gb239 ≠ gb233)); clear BK180; clear BK219; clear BK225; clear BK233; clear HB; have BK180 := n0_; have BK219 := n1_; have BK225 := n2_; have BK233 := n3_; have HB := n4_; have BK239 := n5_; have GW239 := n6_; have GE239 := n7_; have NB180_239 := n8_; have NB239_180 := n9_; have NB219_239 := n10_; have NB239_219 := n11_; have NB225_239 := n12_; have NB239_225 := n13_; have NB233_239 := n14_; have NB239_233 := n15_; clear n0_ n1_ n2_ n3_ n4_ n5_ n6_ n7_ n8_ n9_ n10_ n11_ n12_ n13_ n14_ n15_; clear hb hbox hg; have hnb260 := NB239_180.out; have hnc260 := NB180_239.out; have hnb261 := NB239_219.out; have hnc261 := NB219_239.out; have hnb262 := NB239_225.out; have hnc262 := NB225_239.out; have hnb263 := NB239_233.out; have hnc263 := NB233_239.out; have hcz264_0 : w259.cell? ⟨gb239, 0, none⟩ = some (.bool false) := (blk_cell BK239.out 0).trans rfl; have hcz264_1 : w259.cell? ⟨gb239, 1, none⟩ = some (.bool false) := (blk_cell BK239.out 1).trans rfl; have hcz264_2 : w259.cell? ⟨gb239, 2, none⟩ = some (.bool false) := (blk_cell BK239.out 2).trans rfl; have hcz264_3 : w259.cell? ⟨gb239, 3, none⟩ = some (.bool false) := (blk_cell BK239.out 3).trans rfl; have hfz264_0 := blk_frozen BK239.out 0; have hfz264_1 := blk_frozen BK239.out 1; have hfz264_2 := blk_frozen BK239.out 2; have hfz264_3 := blk_frozen BK239.out 3) | (go_at_call 20; (with_reducible refine (whirligiglaw02_decimal.calls (Int.tmod (wrap64 ((wrap64 ((wrap64 (Int.tmod a0 100)) + (wrap64 (Int.tmod a1 100)))))) 100) t240 _ A222.out).mono ?_); rintro e w' ⟨rfl, ⟨nd, rfl⟩⟩; have hcz265_0 : w259.cell? ⟨gb225, 0, none⟩ = some (.bool t221) := (blk_cell BK225.out 0).trans rfl; have hcz265_1 : w259.cell? ⟨gb225, 1, none⟩ = some (.bool t222) := (blk_cell BK225.out 1).trans rfl; have hcz265_2 : w259.cell? ⟨gb225, 2, none⟩ = some (.bool t223) := (blk_cell BK225.out 2).trans rfl; have hcz265_3 : w259.cell? ⟨gb225, 3, none⟩ = some (.bool t224) := (blk_cell BK225.out 3).trans rfl; have hfz265_0 := blk_frozen BK225.out 0; have hfz265_1 := blk_frozen BK225.out 1; have hfz265_2 := blk_frozen BK225.out 2; have hfz265_3 := blk_frozen BK225.out 3) | (go_at_call 20; (with_reducible refine (whirligiglaw02_decimal.calls (Int.tmod (wrap64 ((wrap64 ((wrap64 ((wrap64 (Int.tmod a0 100)) - (wrap64 (Int.tmod a1 100)))))) + 200)) 100) t241 _ A225.out).mono ?_); rintro e w' ⟨rfl, ⟨nd, rfl⟩⟩))
      go_ret
      exact ⟨by first | rfl | (simp [errW_none, errW_some] <;> rfl) | (simp [*, errW_none, errW_some] <;> rfl), by repeat (first | (with_reducible first | exact HB.out | apply below_alloc | apply pw_below_drewN | apply below_drew1 | refine below_set ?_ GE180.out | refine below_set ?_ GE219.out | refine below_set ?_ GE225.out | refine below_set ?_ GE233.out | refine below_set ?_ GE239.out) | exact HB.out)⟩
     ·rw [if_neg c226] at H
      have c226b0 : (t234 == t241) = false := beq_eq_false_iff_ne.mpr c226
      have c226b1 : (t234 != t241) = true := bne_iff_ne.mpr c226
      exact absurd ((Option.some.inj H).trans HT.out) (by simp)
    ·rw [if_neg c224] at H
     have c224b0 : (t224 == (decide ((wrap64 ((wrap64 ((wrap64 (Int.tmod a0 100)) + (wrap64 (Int.tmod a1 100)))))) > 99))) = false := by simpa using c224
     (try (have c224b1 : decide (t224 = (decide ((wrap64 ((wrap64 ((wrap64 (Int.tmod a0 100)) + (wrap64 (Int.tmod a1 100)))))) > 99))) = false := by simpa using c224))
     (try (have c224b2 : (t224 == (decide ((wrap64 ((wrap64 ((wrap64 (Int.tmod a0 100)) + (wrap64 (Int.tmod a1 100)))))) > 99))) = false := by simpa using c224))
     (try (have c224b3 : ¬ (t224 = (decide ((wrap64 ((wrap64 ((wrap64 (Int.tmod a0 100)) + (wrap64 (Int.tmod a1 100)))))) > 99))) := by simpa using c224))
     clear c224
     exact absurd ((Option.some.inj H).trans HT.out) (by simp)
   ·rw [if_neg c223] at H
    have c223b0 : (t220 == t240) = false := beq_eq_false_iff_ne.mpr c223
    have c223b1 : (t220 != t240) = true := bne_iff_ne.mpr c223
    exact absurd ((Option.some.inj H).trans HT.out) (by simp)
  ·replace c221 := Bool.eq_false_iff.mpr c221
   subst c221
   have H1 : (some false) = some r := by rw [if_neg (show ¬ (false = true) by decide)] at H; exact H
   clear H
   have H := H1
   clear H1
   exact absurd ((Option.some.inj H).trans HT.out) (by simp)

end Go.Proofs.Ytdfpaebbejdjlaa.G
