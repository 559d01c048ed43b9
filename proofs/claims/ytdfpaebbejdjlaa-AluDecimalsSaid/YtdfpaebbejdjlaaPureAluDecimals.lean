/- The plain law of AluDecimals: 100 numbers by 100, with and without the carry. -/
import Derived.Test.YtdfpaebbejdjlaaNum
import Derived.Test.YtdfpaebbejdjlaaG8
namespace Go.Proofs.Ytdfpaebbejdjlaa.Pure
open Go.RowKit Go.Proofs.Ytdfpaebbejdjlaa.G Go.Proofs.Ytdfpaebbejdjlaa.Hand
open Go.Proofs.YtdfpaebbejdjlaaW.PrintWords Go.Proofs.YtdfpaebbejdjlaaW.PrintLast Go.Proofs.YtdfpaebbejdjlaaW.PrintMore
set_option maxRecDepth 100000
set_option linter.unusedVariables false
set_option linter.unusedSimpArgs false
def dec (x y : Int) (c : Bool) : Option Bool := (if c = true then ((whirligiglaw02_decimal.f x).bind fun t182 => ((whirligiglaw02_decimal.f y).bind fun t183 => ((alu_Do.f 1 t182 t183 false false false c).bind fun bt184 => ((alu_Daa.f 90 bt184.1 bt184.2.1 bt184.2.2.1 bt184.2.2.2.1 bt184.2.2.2.2).bind fun bt190 => ((whirligiglaw02_decimal.f x).bind fun t196 => ((whirligiglaw02_decimal.f y).bind fun t197 => ((alu_Do.f 3 t196 t197 false false false c).bind fun bt198 => ((alu_Daa.f 90 bt198.1 bt198.2.1 bt198.2.2.1 bt198.2.2.2.1 bt198.2.2.2.2).bind fun bt204 => (if true = true then ((whirligiglaw02_decimal.f (Int.tmod (wrap64 ((wrap64 (x + y)) + 1)) 100)).bind fun t210 => (if bt190.1 = t210 then (if (bt190.2.2.2.2 == (decide ((wrap64 ((wrap64 (x + y)) + 1)) > 99))) = true then ((whirligiglaw02_decimal.f (Int.tmod (wrap64 ((wrap64 ((wrap64 (x - y)) - 1)) + 200)) 100)).bind fun t211 => (if bt204.1 = t211 then (some (bt204.2.2.2.2 == (decide (x < (wrap64 (y + 1)))))) else (some false))) else (some false)) else (some false))) else (some false)))))))))) else ((whirligiglaw02_decimal.f x).bind fun t212 => ((whirligiglaw02_decimal.f y).bind fun t213 => ((alu_Do.f 1 t212 t213 false false false c).bind fun bt214 => ((alu_Daa.f 90 bt214.1 bt214.2.1 bt214.2.2.1 bt214.2.2.2.1 bt214.2.2.2.2).bind fun bt220 => ((whirligiglaw02_decimal.f x).bind fun t226 => ((whirligiglaw02_decimal.f y).bind fun t227 => ((alu_Do.f 3 t226 t227 false false false c).bind fun bt228 => ((alu_Daa.f 90 bt228.1 bt228.2.1 bt228.2.2.1 bt228.2.2.2.1 bt228.2.2.2.2).bind fun bt234 => (if true = true then ((whirligiglaw02_decimal.f (Int.tmod (wrap64 ((wrap64 (x + y)))) 100)).bind fun t240 => (if bt220.1 = t240 then (if (bt220.2.2.2.2 == (decide ((wrap64 ((wrap64 (x + y)))) > 99))) = true then ((whirligiglaw02_decimal.f (Int.tmod (wrap64 ((wrap64 ((wrap64 (x - y)))) + 200)) 100)).bind fun t241 => (if bt234.1 = t241 then (some (bt234.2.2.2.2 == (decide (x < (wrap64 (y)))))) else (some false))) else (some false)) else (some false))) else (some false)))))))))))
theorem dec_all : ∀ x : Fin 100, ∀ y : Fin 100, ∀ c : Bool, dec (x.val : Int) (y.val : Int) c = some true := by decide +kernel
theorem shown_is : whirligiglaw02_shown.f 90 = some true := by decide +kernel
theorem do1 (x y : Int) (z n h c : Bool) : alu_Do.f 1 x y z n h c = alu_Do.f 1 x y false false false c := by rfl
theorem do3 (x y : Int) (z n h c : Bool) : alu_Do.f 3 x y z n h c = alu_Do.f 3 x y false false false c := by rfl
theorem law_is (a0 a1 : Int) (z n h c : Bool) : whirligiglaw02_AluDecimals.f 90 a0 a1 z n h c = dec (wrap64 (Int.tmod a0 100)) (wrap64 (Int.tmod a1 100)) c := by
  have d1 := fun x y => do1 x y z n h c
  have d3 := fun x y => do3 x y z n h c
  unfold whirligiglaw02_AluDecimals.f
  rw [shown_is, Option.bind_some]
  generalize wrap64 (Int.tmod a0 100) = x
  generalize wrap64 (Int.tmod a1 100) = y
  simp only [d1, d3]
  rfl
theorem AluDecimals (a0 a1 : Int) (z n h c : Bool) (w0 : (Lit.int .u8 a0).wf = true) (w1 : (Lit.int .u8 a1).wf = true) : ∃ k, whirligiglaw02_AluDecimals.f k a0 a1 z n h c = some true := by
  have b0 := u8_bd w0
  have b1 := u8_bd w1
  have e0 : wrap64 (Int.tmod a0 100) = ((⟨(a0 % 100).toNat, by omega⟩ : Fin 100).val : Int) := by
    rw [Int.tmod_eq_emod_of_nonneg (by omega), wrap64_in (by omega)]; show a0 % 100 = ((a0 % 100).toNat : Int); omega
  have e1 : wrap64 (Int.tmod a1 100) = ((⟨(a1 % 100).toNat, by omega⟩ : Fin 100).val : Int) := by
    rw [Int.tmod_eq_emod_of_nonneg (by omega), wrap64_in (by omega)]; show a1 % 100 = ((a1 % 100).toNat : Int); omega
  refine ⟨90, ?_⟩
  rw [law_is, e0, e1]
  exact dec_all _ _ c
end Go.Proofs.Ytdfpaebbejdjlaa.Pure
