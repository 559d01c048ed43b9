/- The statement MapperKeeps: for every input the law returns true and each argument reads as before: out of the contract of its Go text (printed) and the plain law (Pure). -/
import Derived.Test.YtkogdocpldfmnaaRows
import Derived.Test.YtkogdocpldfmnaaFrame
import Derived.Test.YtkogdocpldfmnaaPairs
import Derived.Test.YtkogdocpldfmnaaG14
import Derived.Test.YtkogdocpldfmnaaPureMapperKeeps
namespace Go.Proofs.Ytkogdocpldfmnaa.mapperKeeps
open Go.ChangeShapes Go.WideShapes Go.ChangeAt Go.RowKit
open Go.ChangeMaps (open_string shut_string)
set_option linter.unusedVariables false
theorem own : ownKnob Try.prog.godebug = none := by kernel_rfl
theorem laidOut : laidOutB Try.prog = true := by kernel_rfl
set_option maxRecDepth 100000 in
theorem lifted (os : Os) (started : os.Started) (H : Type) (enc : TypeId × Value → H) :
    ReturnsInHanded {} Try.checked os 7 .any (Rows.mapperKeepsSpec.pre6 enc Try.prog Try.f7 Rows.mapperKeepsRow.domain false) (Rows.mapperKeepsSpec.post enc Try.prog Try.f7 false true false false) := by
  refine Frame.lifted_of (C := Try.checked) (bt := 4) own started (by kernel_rfl) Try.func7
    (ChangeSpec.witness6 (enc := enc) (C := Try.checked) false ⟨#[], #[.int .i64 0, .slice none 0 0], []⟩ 8 (by kernel_rfl) (by kernel_rfl) (by kernel_rfl) (by kernel_rfl)) rfl rfl Try.underlying4 ?_ laidOut (by kernel_rfl) ?_
  · intro ds h
    have h' : ds.length = 2 := h
    match ds, h' with
    | [d0, d1], _ => rfl
  · intro W base vs ds p hval0 hA0 hsz0
    have hval : ∀ (j : Nat) (t : TypeId) (v : Value), Try.f7.params.toList[j]? = some t → vs[j]? = some v → Value.okWide Try.prog W .any base t v := hval0
    have hA : DataW.TrodAll enc Try.prog W 0 (fun _ => true) true Try.f7.params.toList vs ds p := hA0
    have hsz : (DataW.weightsEach Try.prog Try.f7.params.toList ds).all (· ≤ reachBytes) = true := hsz0
    rw [Try.params7] at hA hval hsz
    clear hval0 hA0 hsz0
    obtain ⟨v0, vs0, d0, ds0, p0, q0, rfl, rfl, rfl, h0, r0⟩ := trodAll_cons hA
    obtain ⟨v1, vs1, d1, ds1, p1, q1, rfl, rfl, rfl, h1, r1⟩ := trodAll_cons r0
    obtain ⟨rfl, rfl, rfl⟩ := trodAll_nil r1
    obtain ⟨a0, rfl, _, _, w0⟩ := open_int Try.underlying3 (hval 0 3 v0 rfl rfl) h0
    obtain ⟨A1, l1, c1, rfl, hr1, hc1, w1, y1⟩ := Pairs.open_wrote (okWide_slice Try.underlying38 (hval 1 38 v1 rfl rfl)) h1
    obtain ⟨k, hk⟩ := Pure.MapperKeeps a0 l1 w0 w1 y1
    exact (G.whirligiglaw08_MapperKeeps.calls k a0 A1 c1 l1 true W hr1 hc1 hk).mono fun e w' ⟨he, hb⟩ => ⟨he, hb⟩
theorem over : Rows.mapperKeepsRow.holds Try.pinned (OpenSpec.ofChange Rows.mapperKeepsSpec) :=
  OpenClaim.holds_of_wide 7 Try.f7 rfl rfl rfl rfl rfl rfl rfl ⟨rfl, rfl, rfl, rfl, rfl⟩ rfl rfl rfl rfl rfl (by kernel_rfl) Try.func7 (by kernel_rfl)
    (of_decide_eq_true (by kernel_rfl)) (by unfold Func.isWrapper; first | (rw [if_pos (by decide +kernel)]; kernel_rfl) | (rw [if_neg (by decide +kernel)]; exact ⟨rfl, rfl⟩))
    (fun os started H enc _ => lifted os started H enc)
/-- The statement. -/
theorem proved : Rows.MapperKeepsSaid := over
#print axioms proved
end Go.Proofs.Ytkogdocpldfmnaa.mapperKeeps
namespace Go.Proofs.Ytkogdocpldfmnaa
/-- The row, under a short name, for the claim. -/
theorem mapperKeeps_holds : Rows.MapperKeepsSaid := mapperKeeps.proved
end Go.Proofs.Ytkogdocpldfmnaa
