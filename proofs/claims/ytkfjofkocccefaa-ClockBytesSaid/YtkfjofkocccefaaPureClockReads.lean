/- The plain law of ClockReads. -/
import Derived.Test.YtkfjofkocccefaaNum
import Derived.Test.YtkfjofkocccefaaG11
import Derived.Test.YtkfjofkocccefaaPure09
import Derived.Test.YtkfjofkocccefaaPureClockR
namespace Go.Proofs.Ytkfjofkocccefaa.Pure
open Go.RowKit Go.Proofs.Ytkfjofkocccefaa.G Go.Proofs.Ytkfjofkocccefaa.Hand
open Go.Proofs.YtkfjofkocccefaaW.PrintWords Go.Proofs.YtkfjofkocccefaaW.PrintLast Go.Proofs.YtkfjofkocccefaaW.PrintMore
set_option maxRecDepth 100000
set_option linter.unusedVariables false
theorem high_all : ∀ (v : Fin 512) (a b : Bool), Go.bits .or .u8 (Go.bits .or .u8 (((v.val : Int) / 256) % 256) (if a = true then 64 else 0)) (if b = true then 128 else 0) = (if a = true then (if b = true then ((((((IntKind.u16.wrap (Int.tdiv (v.val : Int) 256)) % 256) + 64) % 256) + 128) % 256) else (((IntKind.u16.wrap (Int.tdiv (v.val : Int) 256)) % 256) + 64) % 256) else (if b = true then ((((IntKind.u16.wrap (Int.tdiv (v.val : Int) 256)) % 256) + 128) % 256) else ((IntKind.u16.wrap (Int.tdiv (v.val : Int) 256)) % 256))) := by decide +kernel
/-- What a register shows. -/
def rdC (c : C) (r : Int) : Int × Int :=
  if r = 8 then (c.1, 0) else if r = 9 then (c.2.1, 0) else if r = 10 then (c.2.2.1, 0) else if r = 11 then (c.2.2.2.1 % 256, 0) else
  if r = 12 then (Go.bits .or .u8 (Go.bits .or .u8 ((c.2.2.2.1 / 256) % 256) (if c.2.2.2.2.1 = true then 64 else 0)) (if c.2.2.2.2.2 = true then 128 else 0), 0) else (0, 7)
theorem read_prog (c : C) (h : wide c) (r : Int) : clock_Read.f c.1 c.2.1 c.2.2.1 c.2.2.2.1 c.2.2.2.2.1 c.2.2.2.2.2 r = some (rdC (nm c) r) := by
  unfold clock_Read.f rdC
  rw [norm_prog c h]
  simp only [Option.bind_some]
  have hb : ∀ (x : Bool) (n : Int), clock_bit.f x n = some (if x = true then n else 0) := by intro x n; unfold clock_bit.f; cases x <;> rfl
  rw [hb, hb]
  simp only [Option.bind_some]
  split
  · rfl
  split
  · rfl
  split
  · rfl
  split
  · rfl
  split <;> rfl
theorem read_ref (c : C) (h : wide c) (r : Int) : whirligigref09_Read.f c.1 c.2.1 c.2.2.1 c.2.2.2.1 c.2.2.2.2.1 c.2.2.2.2.2 r = some (rdC (nm c) r) := by
  unfold whirligigref09_Read.f rdC
  rw [norm_ref c h]
  have hn := nm_ok c
  generalize nm c = e at hn
  obtain ⟨s, m, hh, d, ht, cy⟩ := e
  unfold okC at hn; dsimp only at hn
  obtain ⟨b1, b2, b3, b4⟩ := hn
  simp only [Option.bind_some]
  obtain ⟨v, rfl⟩ : ∃ v : Fin 512, d = (v.val : Int) := ⟨⟨d.toNat, by omega⟩, by show d = (d.toNat : Int); omega⟩
  rw [high_all v ht cy]
  split
  · rfl
  split
  · rfl
  split
  · rfl
  split
  · have e : Int.tmod (v.val : Int) 256 % 256 = (v.val : Int) % 256 := by rw [Int.tmod_eq_emod_of_nonneg b4.1]; omega
    rw [e]
  split
  · cases ht <;> cases cy <;> rfl
  · rfl
theorem ClockReads (s m h d : Int) (ht cy : Bool) (r : Int) (w0 : (Lit.int .u8 s).wf = true) (w1 : (Lit.int .u8 m).wf = true) (w2 : (Lit.int .u8 h).wf = true) (w3 : (Lit.int .u16 d).wf = true) (w4 : (Lit.int .i64 r).wf = true) : whirligiglaw09_ClockReads.f s m h d ht cy r = some true := by
  have hw : wide (s, m, h, d, ht, cy) := ⟨u8_bd w0, u8_bd w1, u8_bd w2, u16_bd w3⟩
  have e1 := read_prog _ hw r
  have e2 := read_ref _ hw r
  dsimp only at e1 e2
  unfold whirligiglaw09_ClockReads.f
  rw [shown_is, e1, e2]
  simp
end Go.Proofs.Ytkfjofkocccefaa.Pure
