/- The plain law of AluDecimals: 100 numbers by 100, with and without the carry. -/
import Derived.Test.YtdfpaebbejdjlaaNum
import Derived.Test.YtdfpaebbejdjlaaG8
namespace Go.Proofs.Ytdfpaebbejdjlaa.Pure
open Go.RowKit Go.Proofs.Ytdfpaebbejdjlaa.G Go.Proofs.Ytdfpaebbejdjlaa.Hand
open Go.Proofs.YtdfpaebbejdjlaaW.PrintWords Go.Proofs.YtdfpaebbejdjlaaW.PrintLast Go.Proofs.YtdfpaebbejdjlaaW.PrintMore
set_option maxRecDepth 100000
set_option linter.unusedVariables false
set_option linter.unusedSimpArgs false
def dec (x y : Int) (c : Bool) : Option Bool := (if c = true then ((whirligiglaw02_decimal.f x).bind fun t182 => ((whirligiglaw02_decimal.f y).bind fun t183 => ((alu_Do.f 1 t182 t183 false false false c).bind fun bt184 => ((alu_Daa.f 90 bt184.1 bt184.2.1 bt184.2.2.1 bt184.2.2.2.1 bt184.2.2.2.2).bind fun bt190 => ((whirligiglaw02_decimal.f x).bind fun t196 => ((whirligiglaw02_decimal.f y).bind fun t197 => ((alu_Do.f 3 t196 t197 false false false c).bind fun bt198 => ((alu_Daa.f 90 bt198.1 bt198.2.1 bt198.2.2.1 bt198.2.2.2.1 bt198.2.2.2.2).bind fun bt204 => (if true = true then ((whirligiglaw02_decimal.f (Int.tmod (wrap64 ((wrap64 (x + y)) + 1)) 100)).bind fun t210 => (if bt190.1 = t210 then (if (bt190.2.2.2.2 == (decide ((wrap64 ((wrap64 (x + y)) + 1)) > 99))) = true then ((whirligiglaw02_decimal.f (Int.tmod (wrap64 ((wrap64 ((wrap64 (x - y)) - 1)) + 200)) 100)).bind fun t211 => (if bt204.1 = t211 then (some (bt204.2.2.2.2 == (decide (x < (wrap64 (y + 1)))))) else (some false))) else (some false)) else (some false))) else (some false)))))))))) else ((whirligiglaw02_decimal.f x).bind fun t212 => ((whirligiglaw02_decimal.f y).bind fun t213 => ((alu_Do.f 1 t212 t213 false false false c).bind fun bt214 => ((alu_Daa.f 90 bt214.1 bt214.2.1 bt214.2.2.1 bt214.2.2.2.1 bt214.2.2.2.2).bind fun bt220 => ((whirligiglaw02_decimal.f x).bind fun t226 => ((whirligiglaw02_decimal.f y).bind fun t227 => ((alu_Do.f 3 t226 t227 false false false c).bind fun bt228 => ((alu_Daa.f 90 bt228.1 bt228.2.1 bt228.2.2.1 bt228.2.2.2.1 bt228.2.2.2.2).bind fun bt234 => (if true = true then ((whirligiglaw02_decimal.f (Int.tmod (wrap64 ((wrap64 (x + y)))) 100)).bind fun t240 => (if bt220.1 = t240 then (if (bt220.2.2.2.2 == (decide ((wrap64 ((wrap64 (x + y)))) > 99))) = true then ((whirligiglaw02_decimal.f (Int.tmod (wrap64 ((wrap64 ((wrap64 (x - y)))) + 200)) 100)).bind fun t241 => (if bt234.1 = t241 then (some (bt234.2.2.2.2 == (decide (x < (wrap64 (y)))))) else (some false))) else (some false)) else (some false))) else (some false)))))))))))
theorem z0 : ∀ x : Fin 5, ∀ y : Fin 100, ∀ c : Bool, dec ((x.val : Int) + 0) (y.val : Int) c = some true := by decide +kernel
theorem z1 : ∀ x : Fin 5, ∀ y : Fin 100, ∀ c : Bool, dec ((x.val : Int) + 5) (y.val : Int) c = some true := by decide +kernel
theorem z2 : ∀ x : Fin 5, ∀ y : Fin 100, ∀ c : Bool, dec ((x.val : Int) + 10) (y.val : Int) c = some true := by decide +kernel
theorem z3 : ∀ x : Fin 5, ∀ y : Fin 100, ∀ c : Bool, dec ((x.val : Int) + 15) (y.val : Int) c = some true := by decide +kernel
theorem z4 : ∀ x : Fin 5, ∀ y : Fin 100, ∀ c : Bool, dec ((x.val : Int) + 20) (y.val : Int) c = some true := by decide +kernel
theorem z5 : ∀ x : Fin 5, ∀ y : Fin 100, ∀ c : Bool, dec ((x.val : Int) + 25) (y.val : Int) c = some true := by decide +kernel
theorem z6 : ∀ x : Fin 5, ∀ y : Fin 100, ∀ c : Bool, dec ((x.val : Int) + 30) (y.val : Int) c = some true := by decide +kernel
theorem z7 : ∀ x : Fin 5, ∀ y : Fin 100, ∀ c : Bool, dec ((x.val : Int) + 35) (y.val : Int) c = some true := by decide +kernel
theorem z8 : ∀ x : Fin 5, ∀ y : Fin 100, ∀ c : Bool, dec ((x.val : Int) + 40) (y.val : Int) c = some true := by decide +kernel
theorem z9 : ∀ x : Fin 5, ∀ y : Fin 100, ∀ c : Bool, dec ((x.val : Int) + 45) (y.val : Int) c = some true := by decide +kernel
theorem z10 : ∀ x : Fin 5, ∀ y : Fin 100, ∀ c : Bool, dec ((x.val : Int) + 50) (y.val : Int) c = some true := by decide +kernel
theorem z11 : ∀ x : Fin 5, ∀ y : Fin 100, ∀ c : Bool, dec ((x.val : Int) + 55) (y.val : Int) c = some true := by decide +kernel
theorem z12 : ∀ x : Fin 5, ∀ y : Fin 100, ∀ c : Bool, dec ((x.val : Int) + 60) (y.val : Int) c = some true := by decide +kernel
theorem z13 : ∀ x : Fin 5, ∀ y : Fin 100, ∀ c : Bool, dec ((x.val : Int) + 65) (y.val : Int) c = some true := by decide +kernel
theorem z14 : ∀ x : Fin 5, ∀ y : Fin 100, ∀ c : Bool, dec ((x.val : Int) + 70) (y.val : Int) c = some true := by decide +kernel
theorem z15 : ∀ x : Fin 5, ∀ y : Fin 100, ∀ c : Bool, dec ((x.val : Int) + 75) (y.val : Int) c = some true := by decide +kernel
theorem z16 : ∀ x : Fin 5, ∀ y : Fin 100, ∀ c : Bool, dec ((x.val : Int) + 80) (y.val : Int) c = some true := by decide +kernel
theorem z17 : ∀ x : Fin 5, ∀ y : Fin 100, ∀ c : Bool, dec ((x.val : Int) + 85) (y.val : Int) c = some true := by decide +kernel
theorem z18 : ∀ x : Fin 5, ∀ y : Fin 100, ∀ c : Bool, dec ((x.val : Int) + 90) (y.val : Int) c = some true := by decide +kernel
theorem z19 : ∀ x : Fin 5, ∀ y : Fin 100, ∀ c : Bool, dec ((x.val : Int) + 95) (y.val : Int) c = some true := by decide +kernel
theorem dec_all (x y : Fin 100) (c : Bool) : dec (x.val : Int) (y.val : Int) c = some true := by
  have hq : x.val / 5 = 0 ∨ x.val / 5 = 1 ∨ x.val / 5 = 2 ∨ x.val / 5 = 3 ∨ x.val / 5 = 4 ∨ x.val / 5 = 5 ∨ x.val / 5 = 6 ∨ x.val / 5 = 7 ∨ x.val / 5 = 8 ∨ x.val / 5 = 9 ∨ x.val / 5 = 10 ∨ x.val / 5 = 11 ∨ x.val / 5 = 12 ∨ x.val / 5 = 13 ∨ x.val / 5 = 14 ∨ x.val / 5 = 15 ∨ x.val / 5 = 16 ∨ x.val / 5 = 17 ∨ x.val / 5 = 18 ∨ x.val / 5 = 19 := by omega
  rcases hq with hq | hq | hq | hq | hq | hq | hq | hq | hq | hq | hq | hq | hq | hq | hq | hq | hq | hq | hq | hq
  · have e : (x.val : Int) = (((⟨x.val - 0, by omega⟩ : Fin 5).val : Nat) : Int) + 0 := by show (x.val : Int) = ((x.val - 0 : Nat) : Int) + 0; omega
    rw [e]; exact z0 _ _ _
  · have e : (x.val : Int) = (((⟨x.val - 5, by omega⟩ : Fin 5).val : Nat) : Int) + 5 := by show (x.val : Int) = ((x.val - 5 : Nat) : Int) + 5; omega
    rw [e]; exact z1 _ _ _
  · have e : (x.val : Int) = (((⟨x.val - 10, by omega⟩ : Fin 5).val : Nat) : Int) + 10 := by show (x.val : Int) = ((x.val - 10 : Nat) : Int) + 10; omega
    rw [e]; exact z2 _ _ _
  · have e : (x.val : Int) = (((⟨x.val - 15, by omega⟩ : Fin 5).val : Nat) : Int) + 15 := by show (x.val : Int) = ((x.val - 15 : Nat) : Int) + 15; omega
    rw [e]; exact z3 _ _ _
  · have e : (x.val : Int) = (((⟨x.val - 20, by omega⟩ : Fin 5).val : Nat) : Int) + 20 := by show (x.val : Int) = ((x.val - 20 : Nat) : Int) + 20; omega
    rw [e]; exact z4 _ _ _
  · have e : (x.val : Int) = (((⟨x.val - 25, by omega⟩ : Fin 5).val : Nat) : Int) + 25 := by show (x.val : Int) = ((x.val - 25 : Nat) : Int) + 25; omega
    rw [e]; exact z5 _ _ _
  · have e : (x.val : Int) = (((⟨x.val - 30, by omega⟩ : Fin 5).val : Nat) : Int) + 30 := by show (x.val : Int) = ((x.val - 30 : Nat) : Int) + 30; omega
    rw [e]; exact z6 _ _ _
  · have e : (x.val : Int) = (((⟨x.val - 35, by omega⟩ : Fin 5).val : Nat) : Int) + 35 := by show (x.val : Int) = ((x.val - 35 : Nat) : Int) + 35; omega
    rw [e]; exact z7 _ _ _
  · have e : (x.val : Int) = (((⟨x.val - 40, by omega⟩ : Fin 5).val : Nat) : Int) + 40 := by show (x.val : Int) = ((x.val - 40 : Nat) : Int) + 40; omega
    rw [e]; exact z8 _ _ _
  · have e : (x.val : Int) = (((⟨x.val - 45, by omega⟩ : Fin 5).val : Nat) : Int) + 45 := by show (x.val : Int) = ((x.val - 45 : Nat) : Int) + 45; omega
    rw [e]; exact z9 _ _ _
  · have e : (x.val : Int) = (((⟨x.val - 50, by omega⟩ : Fin 5).val : Nat) : Int) + 50 := by show (x.val : Int) = ((x.val - 50 : Nat) : Int) + 50; omega
    rw [e]; exact z10 _ _ _
  · have e : (x.val : Int) = (((⟨x.val - 55, by omega⟩ : Fin 5).val : Nat) : Int) + 55 := by show (x.val : Int) = ((x.val - 55 : Nat) : Int) + 55; omega
    rw [e]; exact z11 _ _ _
  · have e : (x.val : Int) = (((⟨x.val - 60, by omega⟩ : Fin 5).val : Nat) : Int) + 60 := by show (x.val : Int) = ((x.val - 60 : Nat) : Int) + 60; omega
    rw [e]; exact z12 _ _ _
  · have e : (x.val : Int) = (((⟨x.val - 65, by omega⟩ : Fin 5).val : Nat) : Int) + 65 := by show (x.val : Int) = ((x.val - 65 : Nat) : Int) + 65; omega
    rw [e]; exact z13 _ _ _
  · have e : (x.val : Int) = (((⟨x.val - 70, by omega⟩ : Fin 5).val : Nat) : Int) + 70 := by show (x.val : Int) = ((x.val - 70 : Nat) : Int) + 70; omega
    rw [e]; exact z14 _ _ _
  · have e : (x.val : Int) = (((⟨x.val - 75, by omega⟩ : Fin 5).val : Nat) : Int) + 75 := by show (x.val : Int) = ((x.val - 75 : Nat) : Int) + 75; omega
    rw [e]; exact z15 _ _ _
  · have e : (x.val : Int) = (((⟨x.val - 80, by omega⟩ : Fin 5).val : Nat) : Int) + 80 := by show (x.val : Int) = ((x.val - 80 : Nat) : Int) + 80; omega
    rw [e]; exact z16 _ _ _
  · have e : (x.val : Int) = (((⟨x.val - 85, by omega⟩ : Fin 5).val : Nat) : Int) + 85 := by show (x.val : Int) = ((x.val - 85 : Nat) : Int) + 85; omega
    rw [e]; exact z17 _ _ _
  · have e : (x.val : Int) = (((⟨x.val - 90, by omega⟩ : Fin 5).val : Nat) : Int) + 90 := by show (x.val : Int) = ((x.val - 90 : Nat) : Int) + 90; omega
    rw [e]; exact z18 _ _ _
  · have e : (x.val : Int) = (((⟨x.val - 95, by omega⟩ : Fin 5).val : Nat) : Int) + 95 := by show (x.val : Int) = ((x.val - 95 : Nat) : Int) + 95; omega
    rw [e]; exact z19 _ _ _
theorem shown_is : whirligiglaw02_shown.f 90 = some true := by decide +kernel
theorem do1 (x y : Int) (z n h c : Bool) : alu_Do.f 1 x y z n h c = alu_Do.f 1 x y false false false c := by rfl
theorem do3 (x y : Int) (z n h c : Bool) : alu_Do.f 3 x y z n h c = alu_Do.f 3 x y false false false c := by rfl
theorem law_is (a0 a1 : Int) (z n h c : Bool) : whirligiglaw02_AluDecimals.f 90 a0 a1 z n h c = dec (wrap64 (Int.tmod a0 100)) (wrap64 (Int.tmod a1 100)) c := by
  have d1 := fun x y => do1 x y z n h c
  have d3 := fun x y => do3 x y z n h c
  unfold whirligiglaw02_AluDecimals.f
  rw [shown_is, Option.bind_some]
  generalize wrap64 (Int.tmod a0 100) = x
  generalize wrap64 (Int.tmod a1 100) = y
  simp only [d1, d3]
  rfl
theorem AluDecimals (a0 a1 : Int) (z n h c : Bool) (w0 : (Lit.int .u8 a0).wf = true) (w1 : (Lit.int .u8 a1).wf = true) : ∃ k, whirligiglaw02_AluDecimals.f k a0 a1 z n h c = some true := by
  have b0 := u8_bd w0
  have b1 := u8_bd w1
  have e0 : wrap64 (Int.tmod a0 100) = ((⟨(a0 % 100).toNat, by omega⟩ : Fin 100).val : Int) := by
    rw [Int.tmod_eq_emod_of_nonneg (by omega), wrap64_in (by omega)]; show a0 % 100 = ((a0 % 100).toNat : Int); omega
  have e1 : wrap64 (Int.tmod a1 100) = ((⟨(a1 % 100).toNat, by omega⟩ : Fin 100).val : Int) := by
    rw [Int.tmod_eq_emod_of_nonneg (by omega), wrap64_in (by omega)]; show a1 % 100 = ((a1 % 100).toNat : Int); omega
  refine ⟨90, ?_⟩
  rw [law_is, e0, e1]
  exact dec_all _ _ c
end Go.Proofs.Ytdfpaebbejdjlaa.Pure
