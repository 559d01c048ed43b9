/- A slice of bytes among a row's arguments, opened: its bytes in order. -/
import Derived.Test.YtmlpijlnchnabaaFrame
import Derived.Test.YtmlpijlnchnabaaG0
import Derived.Deep.Slices
namespace Go.Proofs.Ytmlpijlnchnabaa.Pairs
open Go.RowKit Go.Proofs.Ytmlpijlnchnabaa.G
open Go.Proofs.YtmlpijlnchnabaaW.PrintWords Go.Proofs.YtmlpijlnchnabaaW.PrintLast Go.Proofs.YtmlpijlnchnabaaW.PrintMore
set_option linter.unusedVariables false
def num (v : Value) : Int := match v with | .int _ x => x | _ => 0
theorem open_bytes {H : Type} {enc : TypeId × Value → H} {w : World} {base : Nat} {spare : Nat → Bool} {held : Bool} {v : Value} {d : DataW H} {p : List MemPlace}
    (hv : ∃ a len cap, v = .slice a len cap) (h : DataW.Trod enc Try.prog w base spare held 22 v d p) :
    ∃ (A : Option Addr) (l : List Int) (c : Nat), v = .slice A l.length c ∧ Kd.C (Kd.int .u8) w A l.length l ∧ l.length ≤ c ∧ l.length ≤ 9223372036854775807 ∧ ∀ x ∈ l, 0 ≤ x ∧ x ≤ 255 := by
  obtain ⟨a, len, cap, rfl⟩ := hv
  obtain ⟨fuel, hf⟩ := h
  have hf' : DataW.trod enc Try.prog w base spare held fuel 22 [.slice a len cap] = some (d, p) := hf
  rcases Go.Deep.open_slice1 Try.underlying22 (by kernel_rfl) hf' with ⟨e, _⟩ | ⟨a', len', cap', m, n, V, D, Pl, e, hb, hl, hm, hmm, _, hx⟩
  · simp only [List.cons.injEq, Value.slice.injEq, and_true] at e
    obtain ⟨rfl, rfl, rfl⟩ := e
    refine ⟨none, [], 0, rfl, ⟨rfl, by simp, fun z => absurd z (by simp)⟩, by simp, by simp, fun x hx => absurd hx (by simp)⟩
  · simp only [List.cons.injEq, Value.slice.injEq, and_true] at e
    obtain ⟨rfl, rfl, rfl⟩ := e
    have hlm : len ≤ m := by rw [hmm]; split <;> omega
    have hmax : len ≤ 9223372036854775807 := by
      have : maxLen = 9223372036854775807 := rfl
      omega
    have each : ∀ i, i < len → V i = .int .u8 (num (V i)) ∧ (0 ≤ num (V i) ∧ num (V i) ≤ 255) := by
      intro i hi
      obtain ⟨_, h0⟩ := hx i (by omega)
      obtain ⟨x, ex, wx⟩ := Frame.cell_int (k := .u8) (by kernel_rfl) ⟨_, _, h0⟩
      rw [ex]
      refine ⟨rfl, ?_⟩
      have hmin : IntKind.u8.min = 0 := rfl
      have hmax : IntKind.u8.max = 255 := rfl
      simp only [Lit.wf, Bool.and_eq_true, decide_eq_true_eq] at wx
      show 0 ≤ x ∧ x ≤ 255
      omega
    refine ⟨some a', (List.range len).map (fun i => num (V i)), cap, by simp, ?_, by simpa using hl, by simpa using hmax, ?_⟩
    · refine ⟨rfl, by simpa using hmax, fun _ => ⟨a', rfl, fun j q hq => ?_⟩⟩
      have hj : j < len := by
        have := (List.getElem?_eq_some_iff.1 hq).1
        simpa using this
      have eq : q = num (V j) := by
        rw [List.getElem?_map, List.getElem?_range hj] at hq
        simpa using hq.symm
      subst eq
      obtain ⟨c0, _⟩ := hx j (by omega)
      obtain ⟨e0, _⟩ := each j hj
      refine ⟨[.int .u8 (num (V j))], rfl, rfl, fun i u hu => ?_⟩
      match i, hu with
      | 0, hu =>
        simp only [List.getElem?_cons_zero, Option.some.injEq] at hu
        rw [← hu, ← e0]
        have e1 : (Kd.int .u8).sz = 1 := rfl
        rw [e1, Nat.mul_one]
        exact c0
      | i + 1, hu => simp at hu
    · intro x hx'
      rw [List.mem_map] at hx'
      obtain ⟨i, hi, rfl⟩ := hx'
      exact (each i (List.mem_range.1 hi)).2
end Go.Proofs.Ytmlpijlnchnabaa.Pairs
