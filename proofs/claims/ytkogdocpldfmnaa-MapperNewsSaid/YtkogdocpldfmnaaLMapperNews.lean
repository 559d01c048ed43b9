/- The statement MapperNews: for every input the law returns true and each argument reads as before: out of the contract of its Go text (printed) and the plain law (Pure). -/
import Derived.Test.YtkogdocpldfmnaaRows
import Derived.Test.YtkogdocpldfmnaaFrame
import Derived.Test.YtkogdocpldfmnaaG7
import Derived.Test.YtkogdocpldfmnaaPureMapperNews
namespace Go.Proofs.Ytkogdocpldfmnaa.mapperNews
open Go.ChangeShapes Go.WideShapes Go.ChangeAt Go.RowKit
open Go.ChangeMaps (open_string shut_string)
set_option linter.unusedVariables false
theorem own : ownKnob Try.prog.godebug = none := by kernel_rfl
theorem laidOut : laidOutB Try.prog = true := by kernel_rfl
set_option maxRecDepth 100000 in
theorem lifted (os : Os) (started : os.Started) (H : Type) (enc : TypeId × Value → H) :
    ReturnsInHanded {} Try.checked os 3 .any (Rows.mapperNewsSpec.pre6 enc Try.prog Try.f3 Rows.mapperNewsRow.domain false) (Rows.mapperNewsSpec.post enc Try.prog Try.f3 false true false false) := by
  refine Frame.lifted_of (C := Try.checked) (bt := 4) own started (by kernel_rfl) Try.func3
    (ChangeSpec.witness6 (enc := enc) (C := Try.checked) false ⟨#[], #[.int .i64 0], []⟩ 8 (by kernel_rfl) (by kernel_rfl) (by kernel_rfl) (by kernel_rfl)) rfl rfl Try.underlying4 ?_ laidOut (by kernel_rfl) ?_
  · intro ds h
    have h' : ds.length = 1 := h
    match ds, h' with
    | [d0], _ => rfl
  · intro W base vs ds p hval0 hA0 hsz0
    have hval : ∀ (j : Nat) (t : TypeId) (v : Value), Try.f3.params.toList[j]? = some t → vs[j]? = some v → Value.okWide Try.prog W .any base t v := hval0
    have hA : DataW.TrodAll enc Try.prog W 0 (fun _ => true) true Try.f3.params.toList vs ds p := hA0
    have hsz : (DataW.weightsEach Try.prog Try.f3.params.toList ds).all (· ≤ reachBytes) = true := hsz0
    rw [Try.params3] at hA hval hsz
    clear hval0 hA0 hsz0
    obtain ⟨v0, vs0, d0, ds0, p0, q0, rfl, rfl, rfl, h0, r0⟩ := trodAll_cons hA
    obtain ⟨rfl, rfl, rfl⟩ := trodAll_nil r0
    obtain ⟨a0, rfl, _, _, w0⟩ := open_int Try.underlying3 (hval 0 3 v0 rfl rfl) h0
    have hk := Pure.MapperNews a0 w0
    exact (G.whirligiglaw08_MapperNews.calls a0 true W  hk).mono fun e w' ⟨he, hb⟩ => ⟨he, hb⟩
theorem over : Rows.mapperNewsRow.holds Try.pinned (OpenSpec.ofChange Rows.mapperNewsSpec) :=
  OpenClaim.holds_of_wide 3 Try.f3 rfl rfl rfl rfl rfl rfl rfl ⟨rfl, rfl, rfl, rfl, rfl⟩ rfl rfl rfl rfl rfl (by kernel_rfl) Try.func3 (by kernel_rfl)
    (of_decide_eq_true (by kernel_rfl)) (by unfold Func.isWrapper; first | (rw [if_pos (by decide +kernel)]; kernel_rfl) | (rw [if_neg (by decide +kernel)]; exact ⟨rfl, rfl⟩))
    (fun os started H enc _ => lifted os started H enc)
/-- The statement. -/
theorem proved : Rows.MapperNewsSaid := over
#print axioms proved
end Go.Proofs.Ytkogdocpldfmnaa.mapperNews
namespace Go.Proofs.Ytkogdocpldfmnaa
/-- The row, under a short name, for the claim. -/
theorem mapperNews_holds : Rows.MapperNewsSaid := mapperNews.proved
end Go.Proofs.Ytkogdocpldfmnaa
