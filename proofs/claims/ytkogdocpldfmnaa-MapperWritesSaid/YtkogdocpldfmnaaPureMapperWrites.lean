/- The plain law of MapperWrites. -/
import Derived.Test.YtkogdocpldfmnaaNum
import Derived.Test.YtkogdocpldfmnaaG8
import Derived.Test.YtkogdocpldfmnaaPure08
import Derived.Test.YtkogdocpldfmnaaHMWrite
import Derived.Test.YtkogdocpldfmnaaHRWrite
namespace Go.Proofs.Ytkogdocpldfmnaa.Pure
open Go.RowKit Go.Proofs.Ytkogdocpldfmnaa.G Go.Proofs.Ytkogdocpldfmnaa.Hand
open Go.Proofs.YtkogdocpldfmnaaW.PrintWords Go.Proofs.YtkogdocpldfmnaaW.PrintLast Go.Proofs.YtkogdocpldfmnaaW.PrintMore
set_option maxRecDepth 100000
set_option linter.unusedVariables false
set_option linter.unusedSimpArgs false
theorem v_all : ∀ v : Fin 256, Go.bits .and .u8 (v.val : Int) 15 = Int.tmod (wrap64 (v.val : Int)) 16 ∧ Go.bits .and .u8 (v.val : Int) 31 = Int.tmod (wrap64 (v.val : Int)) 32 % 256 ∧ Go.bits .and .u8 (v.val : Int) 3 = Int.tmod (wrap64 (v.val : Int)) 4 % 256 ∧ Go.bits .and .u8 (v.val : Int) 1 = Int.tmod (wrap64 (v.val : Int)) 2 ∧ Go.bits .and .u8 (v.val : Int) 127 = Int.tmod (wrap64 (v.val : Int)) 128 % 256 ∧ Int.tmod (wrap64 (v.val : Int)) 16 % 256 = Int.tmod (wrap64 (v.val : Int)) 16 ∧ Int.tmod (wrap64 (v.val : Int)) 2 % 256 = Int.tmod (wrap64 (v.val : Int)) 2 ∧ wrap64 (v.val : Int) = (v.val : Int) := by decide +kernel
theorem write_same (k : Int) (o : Bool) (l h r : Int) (md : Bool) (a v : Int) (ha : 0 ≤ a ∧ a ≤ 65535) (hv : 0 ≤ v ∧ v ≤ 255) : writeF k o l h r md a v = rwriteF k o l h r md a v := by
  have hp : IntKind.i64.wrap (a / 4096) = a / 4096 := by rw [IntKind.wrap_i64]; omega
  have hq : wrap64 (Int.tdiv (a / 4096) 2) = a / 8192 := by
    rw [Int.tdiv_eq_ediv_of_nonneg (by omega), wrap64_in (by omega)]; omega
  obtain ⟨n, rfl⟩ := byte_fin hv
  obtain ⟨e15, e31, e3, e1, e127, m16, m2, ew⟩ := v_all n
  unfold writeF rwriteF
  rw [hp, hq, e15, e31, e3, e1, e127, m16, m2, ew]
  have t0 : a < 8192 ↔ a / 4096 < 2 := by omega
  have t1 : a < 12288 ↔ a / 4096 < 3 := by omega
  have t2 : a < 16384 ↔ a / 4096 < 4 := by omega
  have t3 : a < 24576 ↔ a / 4096 < 6 := by omega
  have t4 : a < 32768 ↔ a / 4096 < 8 := by omega
  have t5 : a ≥ 32768 ↔ a / 4096 ≥ 8 := by omega
  have t6 : a / 8192 = a / 4096 / 2 := by omega
  have hb : a / 4096 = 0 ∨ a / 4096 = 1 ∨ a / 4096 = 2 ∨ a / 4096 = 3 ∨ a / 4096 = 4 ∨ a / 4096 = 5 ∨ a / 4096 = 6 ∨ a / 4096 = 7 ∨ a / 4096 ≥ 8 := by omega
  simp only [t0, t1, t2, t3, t4, t5, t6]
  generalize a / 4096 = p at hb
  clear t0 t1 t2 t3 t4 t5 t6 hp hq ha
  rcases hb with rfl | rfl | rfl | rfl | rfl | rfl | rfl | rfl | hb
  · simp
  · simp
  · simp
  · simp
  · simp
  · simp
  · simp
  · simp
  · rw [if_pos hb]
    simp only [show ¬ p < 2 by omega, show ¬ p < 3 by omega, show ¬ p < 4 by omega, show ¬ p < 6 by omega, show ¬ p < 8 by omega, if_false]
    simp
theorem MapperWrites (k : Int) (o : Bool) (l h r : Int) (md : Bool) (a v : Int) (w0 : (Lit.int .i64 k).wf = true) (w1 : (Lit.int .u8 l).wf = true) (w2 : (Lit.int .u8 h).wf = true) (w3 : (Lit.int .u8 r).wf = true) (w4 : (Lit.int .u16 a).wf = true) (w5 : (Lit.int .u8 v).wf = true) : whirligiglaw08_MapperWrites.f k o l h r md a v = some true := by
  have ha := u16_bd w4
  unfold whirligiglaw08_MapperWrites.f mapper_Write.f whirligigref08_Write.f
  rw [shown_is, if_pos ha, write_same k o l h r md a v ha (u8_bd w5)]
  simp
end Go.Proofs.Ytkogdocpldfmnaa.Pure
