/- The statement RegsParses: for every input the law returns true and each argument reads as before: out of the contract of its Go text (printed) and the plain law (Pure). -/
import Derived.Test.YthkoofidnaghcaaRows
import Derived.Test.YthkoofidnaghcaaFrame
import Derived.Test.YthkoofidnaghcaaG51
import Derived.Test.YthkoofidnaghcaaPureRegsParses
namespace Go.Proofs.Ythkoofidnaghcaa.regsParses
open Go.ChangeShapes Go.WideShapes Go.ChangeAt Go.RowKit
open Go.ChangeMaps (open_string shut_string)
set_option linter.unusedVariables false
theorem own : ownKnob Try.prog.godebug = none := by kernel_rfl
theorem laidOut : laidOutB Try.prog = true := by kernel_rfl
set_option maxRecDepth 100000 in
theorem lifted (os : Os) (started : os.Started) (H : Type) (enc : TypeId × Value → H) :
    ReturnsInHanded {} Try.checked os 10 .any (Rows.regsParsesSpec.pre6 enc Try.prog Try.f10 Rows.regsParsesRow.domain false) (Rows.regsParsesSpec.post enc Try.prog Try.f10 false true false false) := by
  refine Frame.lifted_of (C := Try.checked) (bt := 4) own started (by kernel_rfl) Try.func10
    (ChangeSpec.witness6 (enc := enc) (C := Try.checked) false ⟨#[], #[.string ByteArray.empty], []⟩ 8 (by kernel_rfl) (by kernel_rfl) (by kernel_rfl) (by kernel_rfl)) rfl rfl Try.underlying4 ?_ laidOut (by kernel_rfl) ?_
  · intro ds h
    have h' : ds.length = 1 := h
    match ds, h' with
    | [d0], _ => rfl
  · intro W base vs ds p hval0 hA0 hsz0
    have hval : ∀ (j : Nat) (t : TypeId) (v : Value), Try.f10.params.toList[j]? = some t → vs[j]? = some v → Value.okWide Try.prog W .any base t v := hval0
    have hA : DataW.TrodAll enc Try.prog W 0 (fun _ => true) true Try.f10.params.toList vs ds p := hA0
    have hsz : (DataW.weightsEach Try.prog Try.f10.params.toList ds).all (· ≤ reachBytes) = true := hsz0
    rw [Try.params10] at hA hval hsz
    clear hval0 hA0 hsz0
    obtain ⟨v0, vs0, d0, ds0, p0, q0, rfl, rfl, rfl, h0, r0⟩ := trodAll_cons hA
    obtain ⟨rfl, rfl, rfl⟩ := trodAll_nil r0
    obtain ⟨a0, rfl, e0, _, y0⟩ := open_string Try.underlying9 (hval 0 9 v0 rfl rfl) h0
    have w0 : a0.size ≤ 140737488351232 := by
      subst e0
      have z := sized_string hsz (j := 0) (t := 9) rfl rfl
      rw [Array.length_toList] at z
      exact z
    obtain ⟨k, hk⟩ := Pure.RegsParses a0 w0
    exact (G.whirligiglaw04_RegsParses.calls k a0 true W  hk rfl).mono fun e w' ⟨he, hb⟩ => ⟨he, hb⟩
theorem over : Rows.regsParsesRow.holds Try.pinned (OpenSpec.ofChange Rows.regsParsesSpec) :=
  OpenClaim.holds_of_wide 10 Try.f10 rfl rfl rfl rfl rfl rfl rfl ⟨rfl, rfl, rfl, rfl, rfl⟩ rfl rfl rfl rfl rfl (by kernel_rfl) Try.func10 (by kernel_rfl)
    (of_decide_eq_true (by kernel_rfl)) (by unfold Func.isWrapper; first | (rw [if_pos (by decide +kernel)]; kernel_rfl) | (rw [if_neg (by decide +kernel)]; exact ⟨rfl, rfl⟩))
    (fun os started H enc _ => lifted os started H enc)
/-- The statement. -/
theorem proved : Rows.RegsParsesSaid := over
#print axioms proved
end Go.Proofs.Ythkoofidnaghcaa.regsParses
namespace Go.Proofs.Ythkoofidnaghcaa
/-- The row, under a short name, for the claim. -/
theorem regsParses_holds : Rows.RegsParsesSaid := regsParses.proved
end Go.Proofs.Ythkoofidnaghcaa
