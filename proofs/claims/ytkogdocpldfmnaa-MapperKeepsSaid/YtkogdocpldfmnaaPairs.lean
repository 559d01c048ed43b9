/- A slice of what is written where, opened: its records in order. -/
import Derived.Test.YtkogdocpldfmnaaFrame
import Derived.Test.YtkogdocpldfmnaaG0
import Derived.Deep.SlicePairs
namespace Go.Proofs.Ytkogdocpldfmnaa.Pairs
open Go.RowKit Go.Proofs.Ytkogdocpldfmnaa.G
open Go.Proofs.YtkogdocpldfmnaaW.PrintWords Go.Proofs.YtkogdocpldfmnaaW.PrintLast Go.Proofs.YtkogdocpldfmnaaW.PrintMore
set_option linter.unusedVariables false
def num (v : Value) : Int := match v with | .int _ x => x | _ => 0
theorem open_wrote {H : Type} {enc : TypeId × Value → H} {w : World} {base : Nat} {spare : Nat → Bool} {held : Bool} {v : Value} {d : DataW H} {p : List MemPlace}
    (hv : ∃ a len cap, v = .slice a len cap) (h : DataW.Trod enc Try.prog w base spare held 38 v d p) :
    ∃ (A : Option Addr) (l : List S40) (c : Nat), v = .slice A l.length c ∧ Kd.C k40 w A l.length l ∧ l.length ≤ c ∧ l.length ≤ 9223372036854775807 ∧ ∀ x ∈ l, (0 ≤ x.f0 ∧ x.f0 ≤ 65535) ∧ (0 ≤ x.f1 ∧ x.f1 ≤ 255) := by
  obtain ⟨a, len, cap, rfl⟩ := hv
  obtain ⟨fuel, hf⟩ := h
  have hf' : DataW.trod enc Try.prog w base spare held fuel 38 [.slice a len cap] = some (d, p) := hf
  rcases Go.Deep.open_slice_pairs Try.underlying38 Try.underlying40 (by kernel_rfl) rfl rfl (by kernel_rfl) (by kernel_rfl) hf' with ⟨e, _⟩ | ⟨a', len', cap', m, n, V0, V1, D0, D1, P0, P1, e, hb, hl, hm, hmm, _, hx⟩
  · simp only [List.cons.injEq, Value.slice.injEq, and_true] at e
    obtain ⟨rfl, rfl, rfl⟩ := e
    refine ⟨none, [], 0, rfl, ⟨rfl, by simp, fun z => absurd z (by simp)⟩, by simp, by simp, fun x hx => absurd hx (by simp)⟩
  · simp only [List.cons.injEq, Value.slice.injEq, and_true] at e
    obtain ⟨rfl, rfl, rfl⟩ := e
    have hlm : len ≤ m := by rw [hmm]; split <;> omega
    have hmax : len ≤ 9223372036854775807 := by
      have : maxLen = 9223372036854775807 := rfl
      omega
    have each : ∀ i, i < len → V0 i = .int .u16 (num (V0 i)) ∧ V1 i = .int .u8 (num (V1 i)) ∧ (0 ≤ num (V0 i) ∧ num (V0 i) ≤ 65535) ∧ (0 ≤ num (V1 i) ∧ num (V1 i) ≤ 255) := by
      intro i hi
      obtain ⟨_, _, h0, h1⟩ := hx i (by omega)
      obtain ⟨x, ex, wx⟩ := Frame.cell_int (k := .u16) (by kernel_rfl) ⟨_, _, h0⟩
      obtain ⟨y, ey, wy⟩ := Frame.cell_int (k := .u8) (by kernel_rfl) ⟨_, _, h1⟩
      rw [ex, ey]
      refine ⟨rfl, rfl, ?_, ?_⟩
      · have hmin : IntKind.u16.min = 0 := rfl
        have hmax : IntKind.u16.max = 65535 := rfl
        simp only [Lit.wf, Bool.and_eq_true, decide_eq_true_eq] at wx
        show 0 ≤ x ∧ x ≤ 65535
        omega
      · have hmin : IntKind.u8.min = 0 := rfl
        have hmax : IntKind.u8.max = 255 := rfl
        simp only [Lit.wf, Bool.and_eq_true, decide_eq_true_eq] at wy
        show 0 ≤ y ∧ y ≤ 255
        omega
    refine ⟨some a', (List.range len).map (fun i => (⟨num (V0 i), num (V1 i)⟩ : S40)), cap, by simp, ?_, by simpa using hl, by simpa using hmax, ?_⟩
    · refine ⟨rfl, by simpa using hmax, fun _ => ⟨a', rfl, fun j q hq => ?_⟩⟩
      have hj : j < len := by
        have := (List.getElem?_eq_some_iff.1 hq).1
        simpa using this
      have eq : q = ⟨num (V0 j), num (V1 j)⟩ := by
        rw [List.getElem?_map, List.getElem?_range hj] at hq
        simpa using hq.symm
      subst eq
      obtain ⟨c0, c1, _, _⟩ := hx j (by omega)
      obtain ⟨e0, e1, _, _⟩ := each j hj
      refine ⟨[.int .u16 (num (V0 j)), .int .u8 (num (V1 j))], rfl, k40_mk w _, fun i u hu => ?_⟩
      match i, hu with
      | 0, hu =>
        simp only [List.getElem?_cons_zero, Option.some.injEq] at hu
        rw [← hu, ← e0]; exact c0
      | 1, hu =>
        simp only [List.getElem?_cons_succ, List.getElem?_cons_zero, Option.some.injEq] at hu
        rw [← hu, ← e1]; exact c1
      | i + 2, hu => simp at hu
    · intro x hx'
      rw [List.mem_map] at hx'
      obtain ⟨i, hi, rfl⟩ := hx'
      obtain ⟨_, _, b0, b1⟩ := each i (List.mem_range.1 hi)
      exact ⟨b0, b1⟩
end Go.Proofs.Ytkogdocpldfmnaa.Pairs
