/- The clock in plain words: a second later, so many seconds later; what the program's functions and the reference come to. -/
import Derived.Test.YtkfjofkocccefaaNum
import Derived.Test.YtkfjofkocccefaaHTick
import Derived.Test.YtkfjofkocccefaaG2
import Derived.Test.YtkfjofkocccefaaG5
namespace Go.Proofs.Ytkfjofkocccefaa.Pure
open Go.RowKit Go.Proofs.Ytkfjofkocccefaa.G Go.Proofs.Ytkfjofkocccefaa.Hand
open Go.Proofs.YtkfjofkocccefaaW.PrintWords Go.Proofs.YtkfjofkocccefaaW.PrintLast Go.Proofs.YtkfjofkocccefaaW.PrintMore
set_option maxRecDepth 100000
set_option linter.unusedVariables false
theorem shown_is : whirligiglaw09_shown.f = some true := by decide +kernel
theorem u8_and63 (x : Int) (h : 0 ≤ x ∧ x ≤ 255) : Go.bits .and .u8 x 63 = x % 64 :=
  bits_mask .u8 8 (by decide) (fun n a b => by rw [IntKind.wrap_u8]; omega) 6 (by decide) x h.1 (by show x < 256; omega)
theorem u8_and31 (x : Int) (h : 0 ≤ x ∧ x ≤ 255) : Go.bits .and .u8 x 31 = x % 32 :=
  bits_mask .u8 8 (by decide) (fun n a b => by rw [IntKind.wrap_u8]; omega) 5 (by decide) x h.1 (by show x < 256; omega)
theorem u16_and511 (x : Int) (h : 0 ≤ x ∧ x ≤ 65535) : Go.bits .and .u16 x 511 = x % 512 :=
  bits_mask .u16 16 (by decide) (fun n a b => by rw [IntKind.wrap_u16]; omega) 9 (by decide) x h.1 (by show x < 65536; omega)
/-- A clock: seconds, minutes, hours, days, halted, carry. -/
abbrev C := Int × Int × Int × Int × Bool × Bool
/-- A clock's parts lie in their types. -/
def wide (c : C) : Prop := (0 ≤ c.1 ∧ c.1 ≤ 255) ∧ (0 ≤ c.2.1 ∧ c.2.1 ≤ 255) ∧ (0 ≤ c.2.2.1 ∧ c.2.2.1 ≤ 255) ∧ (0 ≤ c.2.2.2.1 ∧ c.2.2.2.1 ≤ 65535)
/-- A clock's parts lie in their widths. -/
def okC (c : C) : Prop := (0 ≤ c.1 ∧ c.1 ≤ 63) ∧ (0 ≤ c.2.1 ∧ c.2.1 ≤ 63) ∧ (0 ≤ c.2.2.1 ∧ c.2.2.1 ≤ 31) ∧ (0 ≤ c.2.2.2.1 ∧ c.2.2.2.1 ≤ 511)
theorem okC.wide {c : C} (h : okC c) : wide c := by
  obtain ⟨h1, h2, h3, h4⟩ := h
  exact ⟨by omega, by omega, by omega, by omega⟩
/-- Cut to its widths. -/
def nm (c : C) : C := (c.1 % 64, c.2.1 % 64, c.2.2.1 % 32, c.2.2.2.1 % 512, c.2.2.2.2.1, c.2.2.2.2.2)
/-- A second later. -/
def tk (c : C) : C :=
  if c.2.2.2.2.1 = true then c else
  if ¬ c.1 = 59 then ((c.1 + 1) % 64, c.2.1, c.2.2.1, c.2.2.2.1, false, c.2.2.2.2.2) else
  if ¬ c.2.1 = 59 then (0, (c.2.1 + 1) % 64, c.2.2.1, c.2.2.2.1, false, c.2.2.2.2.2) else
  if ¬ c.2.2.1 = 23 then (0, 0, (c.2.2.1 + 1) % 32, c.2.2.2.1, false, c.2.2.2.2.2) else
  (0, 0, 0, (c.2.2.2.1 + 1) % 512, false, if c.2.2.2.2.2 = true then true else c.2.2.2.1 == 511)
theorem nm_ok (c : C) : okC (nm c) := by
  unfold okC nm; dsimp only; omega
theorem nm_of {c : C} (h : okC c) : nm c = c := by
  obtain ⟨s, m, hh, d, ht, cy⟩ := c
  unfold okC at h; dsimp only at h
  unfold nm; dsimp only
  rw [show s % 64 = s by omega, show m % 64 = m by omega, show hh % 32 = hh by omega, show d % 512 = d by omega]
theorem tk_ok {c : C} (h : okC c) : okC (tk c) := by
  obtain ⟨s, m, hh, d, ht, cy⟩ := c
  unfold okC at h; dsimp only at h
  unfold okC tk; dsimp only
  split
  · dsimp only; omega
  split
  · dsimp only; omega
  split
  · dsimp only; omega
  split
  · dsimp only; omega
  · dsimp only; omega
theorem norm_prog (c : C) (h : wide c) : clock_Norm.f c.1 c.2.1 c.2.2.1 c.2.2.2.1 c.2.2.2.2.1 c.2.2.2.2.2 = some (nm c) := by
  obtain ⟨h1, h2, h3, h4⟩ := h
  unfold clock_Norm.f nm
  rw [u8_and63 _ h1, u8_and63 _ h2, u8_and31 _ h3, u16_and511 _ h4]
theorem tick_prog (c : C) (h : wide c) : clock_Tick.f c.1 c.2.1 c.2.2.1 c.2.2.2.1 c.2.2.2.2.1 c.2.2.2.2.2 = some (tk (nm c)) := by
  unfold clock_Tick.f
  rw [norm_prog c h]
  have hn := nm_ok c
  generalize nm c = e at hn
  obtain ⟨s, m, hh, d, ht, cy⟩ := e
  unfold okC at hn; dsimp only at hn
  simp only [Option.bind_some]
  unfold tickT tk
  dsimp only
  cases ht with
  | true => simp only [if_true]
  | false =>
    simp only [Bool.false_eq_true, if_false]
    have e : Go.bits .and .u16 (IntKind.u16.wrap (d + 1)) 511 = (d + 1) % 512 := by
      rw [u16_and511 _ (by rw [IntKind.wrap_u16]; omega), IntKind.wrap_u16]; omega
    rw [e]
end Go.Proofs.Ytkfjofkocccefaa.Pure
