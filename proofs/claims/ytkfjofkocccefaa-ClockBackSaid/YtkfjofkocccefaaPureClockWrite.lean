/- A register told something, in plain words; the program's Write and the reference's come to it. -/
import Derived.Test.YtkfjofkocccefaaNum
import Derived.Test.YtkfjofkocccefaaPure09
import Derived.Test.YtkfjofkocccefaaPureNormR
import Derived.Test.YtkfjofkocccefaaHWrite
namespace Go.Proofs.Ytkfjofkocccefaa.Pure
open Go.RowKit Go.Proofs.Ytkfjofkocccefaa.G Go.Proofs.Ytkfjofkocccefaa.Hand
open Go.Proofs.YtkfjofkocccefaaW.PrintWords Go.Proofs.YtkfjofkocccefaaW.PrintLast Go.Proofs.YtkfjofkocccefaaW.PrintMore
set_option maxRecDepth 100000
set_option linter.unusedVariables false
/-- A register told something: the clock, and the error. -/
def wrC (c : C) (r v : Int) : C × Int :=
  if r = 8 then ((v % 64, c.2.1, c.2.2.1, c.2.2.2.1, c.2.2.2.2.1, c.2.2.2.2.2), 0) else
  if r = 9 then ((c.1, v % 64, c.2.2.1, c.2.2.2.1, c.2.2.2.2.1, c.2.2.2.2.2), 0) else
  if r = 10 then ((c.1, c.2.1, v % 32, c.2.2.2.1, c.2.2.2.2.1, c.2.2.2.2.2), 0) else
  if r = 11 then ((c.1, c.2.1, c.2.2.1, c.2.2.2.1 / 256 * 256 + v, c.2.2.2.2.1, c.2.2.2.2.2), 0) else
  if r = 12 then ((c.1, c.2.1, c.2.2.1, c.2.2.2.1 % 256 + v % 2 * 256, v / 64 % 2 == 1, decide (128 ≤ v)), 0) else
  ((0, 0, 0, 0, false, false), 7)
def fl2 (x : C × Int) : Int × Int × Int × Int × Bool × Bool × Int := (x.1.1, x.1.2.1, x.1.2.2.1, x.1.2.2.2.1, x.1.2.2.2.2.1, x.1.2.2.2.2.2, x.2)
theorem v_all : ∀ v : Fin 256, Go.bits .and .u8 (v.val : Int) 1 = (v.val : Int) % 2 ∧ (Go.bits .and .u8 (v.val : Int) 64 != 0) = ((v.val : Int) / 64 % 2 == 1) ∧ (Go.bits .and .u8 (v.val : Int) 128 != 0) = decide (128 ≤ (v.val : Int)) := by decide +kernel
theorem d_all : ∀ (v : Fin 512), Go.bits .and .u16 (v.val : Int) 256 = (v.val : Int) / 256 * 256 ∧ Go.bits .or .u16 (Go.bits .and .u16 (v.val : Int) 255) 0 = (v.val : Int) % 256 ∧ Go.bits .or .u16 (Go.bits .and .u16 (v.val : Int) 255) 256 = (v.val : Int) % 256 + 256 := by decide +kernel
theorem d_fin {d : Int} (h : 0 ≤ d ∧ d ≤ 511) : ∃ v : Fin 512, d = (v.val : Int) := ⟨⟨d.toNat, by omega⟩, by show d = (d.toNat : Int); omega⟩
theorem w16 {x : Int} (h : 0 ≤ x ∧ x ≤ 65535) : IntKind.u16.wrap x = x := by rw [IntKind.wrap_u16]; omega
theorem wrC_ok {c : C} (h : okC c) {v : Int} (hv : 0 ≤ v ∧ v ≤ 255) (r : Int) : okC (wrC c r v).1 := by
  obtain ⟨s, m, hh, d, ht, cy⟩ := c
  unfold okC at h; dsimp only at h
  unfold wrC
  split
  · unfold okC; dsimp only; omega
  split
  · unfold okC; dsimp only; omega
  split
  · unfold okC; dsimp only; omega
  split
  · unfold okC; dsimp only; omega
  split
  · unfold okC; dsimp only; omega
  · unfold okC; dsimp only; omega
theorem write_prog (c : C) (h : wide c) (r v : Int) (hv : 0 ≤ v ∧ v ≤ 255) : clock_Write.f c.1 c.2.1 c.2.2.1 c.2.2.2.1 c.2.2.2.2.1 c.2.2.2.2.2 r v = some (fl2 (wrC (nm c) r v)) := by
  unfold clock_Write.f
  rw [norm_prog c h]
  have hn := nm_ok c
  generalize nm c = e at hn
  obtain ⟨s, m, hh, d, ht, cy⟩ := e
  have hk := hn
  unfold okC at hn; dsimp only at hn
  obtain ⟨b1, b2, b3, b4⟩ := hn
  simp only [Option.bind_some]
  unfold wrC
  obtain ⟨y1, y2, y3⟩ := v_all ⟨v.toNat, by omega⟩
  have ev : ((⟨v.toNat, by omega⟩ : Fin 256).val : Int) = v := by show (v.toNat : Int) = v; omega
  rw [ev] at y1 y2 y3
  have n := fun (c : C) (h : okC c) => norm_prog c h.wide
  by_cases c8 : r = 8
  · rw [if_pos c8, if_pos c8]
    have e1 := norm_prog (v, m, hh, d, ht, cy) ⟨hv, by dsimp only; omega, by dsimp only; omega, by dsimp only; omega⟩
    dsimp only at e1
    rw [e1]
    simp only [Option.bind_some, nm, fl2]
    rw [show m % 64 = m by omega, show hh % 32 = hh by omega, show d % 512 = d by omega]
  rw [if_neg c8, if_neg c8]
  by_cases c9 : r = 9
  · rw [if_pos c9, if_pos c9]
    have e1 := norm_prog (s, v, hh, d, ht, cy) ⟨by dsimp only; omega, hv, by dsimp only; omega, by dsimp only; omega⟩
    dsimp only at e1
    rw [e1]
    simp only [Option.bind_some, nm, fl2]
    rw [show s % 64 = s by omega, show hh % 32 = hh by omega, show d % 512 = d by omega]
  rw [if_neg c9, if_neg c9]
  by_cases c10 : r = 10
  · rw [if_pos c10, if_pos c10]
    have e1 := norm_prog (s, m, v, d, ht, cy) ⟨by dsimp only; omega, by dsimp only; omega, hv, by dsimp only; omega⟩
    dsimp only at e1
    rw [e1]
    simp only [Option.bind_some, nm, fl2]
    rw [show s % 64 = s by omega, show m % 64 = m by omega, show d % 512 = d by omega]
  rw [if_neg c10, if_neg c10]
  by_cases c11 : r = 11
  · rw [if_pos c11, if_pos c11]
    obtain ⟨dv, rfl⟩ := d_fin b4
    rw [(d_all dv).1, w16 (x := v) (by omega), u16_or256 _ _ (by omega) hv.1 (by omega) (by omega)]
    have e1 := norm_prog (s, m, hh, (dv.val : Int) / 256 * 256 + v, ht, cy) ⟨by dsimp only; omega, by dsimp only; omega, by dsimp only; omega, by dsimp only; omega⟩
    dsimp only at e1
    rw [e1]
    simp only [Option.bind_some, nm, fl2]
    rw [show s % 64 = s by omega, show m % 64 = m by omega, show hh % 32 = hh by omega, show ((dv.val : Int) / 256 * 256 + v) % 512 = (dv.val : Int) / 256 * 256 + v by omega]
  rw [if_neg c11, if_neg c11]
  by_cases c12 : r = 12
  · rw [if_pos c12, if_pos c12, y1, y2, y3]
    obtain ⟨dv, rfl⟩ := d_fin b4
    have ed : Go.bits .or .u16 (Go.bits .and .u16 (dv.val : Int) 255) (IntKind.u16.wrap (IntKind.u16.wrap (v % 2) * 256)) = (dv.val : Int) % 256 + v % 2 * 256 := by
      rw [w16 (x := v % 2) (by omega), w16 (x := v % 2 * 256) (by omega)]
      have hv2 : v % 2 = 0 ∨ v % 2 = 1 := by omega
      rcases hv2 with e | e
      · rw [e, show (0 : Int) * 256 = 0 from rfl, (d_all dv).2.1]; omega
      · rw [e, show (1 : Int) * 256 = 256 from rfl, (d_all dv).2.2]
    rw [ed]
    have e1 := norm_prog (s, m, hh, (dv.val : Int) % 256 + v % 2 * 256, v / 64 % 2 == 1, decide (128 ≤ v)) ⟨by dsimp only; omega, by dsimp only; omega, by dsimp only; omega, by dsimp only; omega⟩
    dsimp only at e1
    rw [e1]
    simp only [Option.bind_some, nm, fl2]
    rw [show s % 64 = s by omega, show m % 64 = m by omega, show hh % 32 = hh by omega, show ((dv.val : Int) % 256 + v % 2 * 256) % 512 = (dv.val : Int) % 256 + v % 2 * 256 by omega]
  rw [if_neg c12, if_neg c12]
  rfl
theorem write_ref (c : C) (h : wide c) (r v : Int) (hv : 0 ≤ v ∧ v ≤ 255) : whirligigref09_Write.f c.1 c.2.1 c.2.2.1 c.2.2.2.1 c.2.2.2.2.1 c.2.2.2.2.2 r v = some (fl2 (wrC (nm c) r v)) := by
  have hd := h.2.2.2
  have hd2 : Int.tmod c.2.2.2.1 256 = (nm c).2.2.2.1 % 256 := by
    unfold nm; dsimp only
    rw [Int.tmod_eq_emod_of_nonneg hd.1]; omega
  unfold whirligigref09_Write.f
  rw [norm_ref c h, hd2]
  have hn := nm_ok c
  generalize nm c = e at hn
  obtain ⟨s, m, hh, d, ht, cy⟩ := e
  unfold okC at hn; dsimp only at hn
  obtain ⟨b1, b2, b3, b4⟩ := hn
  simp only [Option.bind_some]
  unfold wrC
  by_cases c8 : r = 8
  · rw [if_pos c8, if_pos c8, Int.tmod_eq_emod_of_nonneg hv.1]; rfl
  rw [if_neg c8, if_neg c8]
  by_cases c9 : r = 9
  · rw [if_pos c9, if_pos c9, Int.tmod_eq_emod_of_nonneg hv.1]; rfl
  rw [if_neg c9, if_neg c9]
  by_cases c10 : r = 10
  · rw [if_pos c10, if_pos c10, Int.tmod_eq_emod_of_nonneg hv.1]; rfl
  rw [if_neg c10, if_neg c10]
  by_cases c11 : r = 11
  · rw [if_pos c11, if_pos c11, Int.tdiv_eq_ediv_of_nonneg b4.1]
    rw [w16 (x := d / 256) (by omega), w16 (x := d / 256 * 256) (by omega), w16 (x := v) (by omega), w16 (x := d / 256 * 256 + v) (by omega)]
    rfl
  rw [if_neg c11, if_neg c11]
  by_cases c12 : r = 12
  · rw [if_pos c12, if_pos c12, Int.tmod_eq_emod_of_nonneg hv.1, Int.tdiv_eq_ediv_of_nonneg hv.1]
    rw [w16 (x := v % 2) (by omega), w16 (x := v % 2 * 256) (by omega), w16 (x := d % 256 + v % 2 * 256) (by omega)]
    rfl
  rw [if_neg c12, if_neg c12]
  rfl
end Go.Proofs.Ytkfjofkocccefaa.Pure
