/- The statement HeaderParses: for every input the law returns true and each argument reads as before: out of the contract of its Go text (printed) and the plain law (Pure). -/
import Derived.Test.YtmlpijlnchnabaaRows
import Derived.Test.YtmlpijlnchnabaaFrame
import Derived.Test.YtmlpijlnchnabaaBytes
import Derived.Test.YtmlpijlnchnabaaG15
import Derived.Test.YtmlpijlnchnabaaPureHeaderParses
namespace Go.Proofs.Ytmlpijlnchnabaa.headerParses
open Go.ChangeShapes Go.WideShapes Go.ChangeAt Go.RowKit
open Go.ChangeMaps (open_string shut_string)
set_option linter.unusedVariables false
theorem own : ownKnob Try.prog.godebug = none := by kernel_rfl
theorem laidOut : laidOutB Try.prog = true := by kernel_rfl
set_option maxRecDepth 100000 in
theorem lifted (os : Os) (started : os.Started) (H : Type) (enc : TypeId × Value → H) :
    ReturnsInHanded {} Try.checked os 3 .any (Rows.headerParsesSpec.pre6 enc Try.prog Try.f3 Rows.headerParsesRow.domain false) (Rows.headerParsesSpec.post enc Try.prog Try.f3 false true false false) := by
  refine Frame.lifted_of (C := Try.checked) (bt := 4) own started (by kernel_rfl) Try.func3
    (ChangeSpec.witness6 (enc := enc) (C := Try.checked) false ⟨#[], #[.slice none 0 0], []⟩ 8 (by kernel_rfl) (by kernel_rfl) (by kernel_rfl) (by kernel_rfl)) rfl rfl Try.underlying4 ?_ laidOut (by kernel_rfl) ?_
  · intro ds h
    have h' : ds.length = 1 := h
    match ds, h' with
    | [d0], _ => rfl
  · intro W base vs ds p hval0 hA0 hsz0
    have hval : ∀ (j : Nat) (t : TypeId) (v : Value), Try.f3.params.toList[j]? = some t → vs[j]? = some v → Value.okWide Try.prog W .any base t v := hval0
    have hA : DataW.TrodAll enc Try.prog W 0 (fun _ => true) true Try.f3.params.toList vs ds p := hA0
    have hsz : (DataW.weightsEach Try.prog Try.f3.params.toList ds).all (· ≤ reachBytes) = true := hsz0
    rw [Try.params3] at hA hval hsz
    clear hval0 hA0 hsz0
    obtain ⟨v0, vs0, d0, ds0, p0, q0, rfl, rfl, rfl, h0, r0⟩ := trodAll_cons hA
    obtain ⟨rfl, rfl, rfl⟩ := trodAll_nil r0
    obtain ⟨A0, l0, c0, rfl, hr0, hc0, w0, y0⟩ := Pairs.open_bytes (okWide_slice Try.underlying22 (hval 0 22 v0 rfl rfl)) h0
    obtain ⟨k, hk⟩ := Pure.HeaderParses l0 w0 y0
    exact (G.whirligiglaw07_HeaderParses.calls k A0 c0 l0 true W hr0 hc0 hk rfl).mono fun e w' ⟨he, hb⟩ => ⟨he, hb⟩
theorem over : Rows.headerParsesRow.holds Try.pinned (OpenSpec.ofChange Rows.headerParsesSpec) :=
  OpenClaim.holds_of_wide 3 Try.f3 rfl rfl rfl rfl rfl rfl rfl ⟨rfl, rfl, rfl, rfl, rfl⟩ rfl rfl rfl rfl rfl (by kernel_rfl) Try.func3 (by kernel_rfl)
    (of_decide_eq_true (by kernel_rfl)) (by unfold Func.isWrapper; first | (rw [if_pos (by decide +kernel)]; kernel_rfl) | (rw [if_neg (by decide +kernel)]; exact ⟨rfl, rfl⟩))
    (fun os started H enc _ => lifted os started H enc)
/-- The statement. -/
theorem proved : Rows.HeaderParsesSaid := over
#print axioms proved
end Go.Proofs.Ytmlpijlnchnabaa.headerParses
namespace Go.Proofs.Ytmlpijlnchnabaa
/-- The row, under a short name, for the claim. -/
theorem headerParses_holds : Rows.HeaderParsesSaid := headerParses.proved
end Go.Proofs.Ytmlpijlnchnabaa
