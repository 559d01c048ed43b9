/- The statement AluBack: for every input the law returns true and each argument reads as before: out of the contract of its Go text (printed) and the plain law (Pure). -/
import Derived.Test.YtdfpaebbejdjlaaRows
import Derived.Test.YtdfpaebbejdjlaaFrame
import Derived.Test.YtdfpaebbejdjlaaHBack
import Derived.Test.YtdfpaebbejdjlaaPureAluBack
namespace Go.Proofs.Ytdfpaebbejdjlaa.aluBack
open Go.ChangeShapes Go.WideShapes Go.ChangeAt Go.RowKit
open Go.ChangeMaps (open_string shut_string)
set_option linter.unusedVariables false
theorem own : ownKnob Try.prog.godebug = none := by kernel_rfl
theorem laidOut : laidOutB Try.prog = true := by kernel_rfl
set_option maxRecDepth 100000 in
theorem lifted (os : Os) (started : os.Started) (H : Type) (enc : TypeId × Value → H) :
    ReturnsInHanded {} Try.checked os 10 .any (Rows.aluBackSpec.pre6 enc Try.prog Try.f10 Rows.aluBackRow.domain false) (Rows.aluBackSpec.post enc Try.prog Try.f10 false true false false) := by
  refine Frame.lifted_of (C := Try.checked) (bt := 4) own started (by kernel_rfl) Try.func10
    (ChangeSpec.witness6 (enc := enc) (C := Try.checked) false ⟨#[], #[.int .u8 0, .int .u8 0, .agg #[.bool false, .bool false, .bool false, .bool false]], []⟩ 8 (by kernel_rfl) (by kernel_rfl) (by kernel_rfl) (by kernel_rfl)) rfl rfl Try.underlying4 ?_ laidOut (by kernel_rfl) ?_
  · intro ds h
    have h' : ds.length = 3 := h
    match ds, h' with
    | [d0, d1, d2], _ => rfl
  · intro W base vs ds p hval0 hA0 hsz0
    have hval : ∀ (j : Nat) (t : TypeId) (v : Value), Try.f10.params.toList[j]? = some t → vs[j]? = some v → Value.okWide Try.prog W .any base t v := hval0
    have hA : DataW.TrodAll enc Try.prog W 0 (fun _ => true) true Try.f10.params.toList vs ds p := hA0
    have hsz : (DataW.weightsEach Try.prog Try.f10.params.toList ds).all (· ≤ reachBytes) = true := hsz0
    rw [Try.params10] at hA hval hsz
    clear hval0 hA0 hsz0
    obtain ⟨v0, vs0, d0, ds0, p0, q0, rfl, rfl, rfl, h0, r0⟩ := trodAll_cons hA
    obtain ⟨v1, vs1, d1, ds1, p1, q1, rfl, rfl, rfl, h1, r1⟩ := trodAll_cons r0
    obtain ⟨v2, vs2, d2, ds2, p2, q2, rfl, rfl, rfl, h2, r2⟩ := trodAll_cons r1
    obtain ⟨rfl, rfl, rfl⟩ := trodAll_nil r2
    obtain ⟨a0, rfl, _, _, w0⟩ := open_int Try.underlying5 (hval 0 5 v0 rfl rfl) h0
    obtain ⟨a1, rfl, _, _, w1⟩ := open_int Try.underlying5 (hval 1 5 v1 rfl rfl) h1
    obtain ⟨cs2, rfl, hs2, hc2⟩ := Frame.open_struct Try.underlying23 (by kernel_rfl) (hval 2 23 v2 rfl rfl) h2
    obtain ⟨c2_0, c2_1, c2_2, c2_3, rfl⟩ := Frame.array4 (hs2.trans (by kernel_rfl : Try.prog.cellsOf 23 = 4))
    obtain ⟨a2_0, rfl⟩ := Frame.cell_bool Try.underlying4 (hc2 0 _ _ rfl rfl)
    obtain ⟨a2_1, rfl⟩ := Frame.cell_bool Try.underlying4 (hc2 1 _ _ rfl rfl)
    obtain ⟨a2_2, rfl⟩ := Frame.cell_bool Try.underlying4 (hc2 2 _ _ rfl rfl)
    obtain ⟨a2_3, rfl⟩ := Frame.cell_bool Try.underlying4 (hc2 3 _ _ rfl rfl)
    obtain ⟨k, hk⟩ := Pure.AluBack a0 a1 a2_0 a2_1 a2_2 a2_3 w0 w1
    exact (Hand.whirligiglaw02_AluBack.calls k a0 a1 a2_0 a2_1 a2_2 a2_3 true W  hk).mono fun e w' ⟨he, hb⟩ => ⟨he, hb⟩
theorem over : Rows.aluBackRow.holds Try.pinned (OpenSpec.ofChange Rows.aluBackSpec) :=
  OpenClaim.holds_of_wide 10 Try.f10 rfl rfl rfl rfl rfl rfl rfl ⟨rfl, rfl, rfl, rfl, rfl⟩ rfl rfl rfl rfl rfl (by kernel_rfl) Try.func10 (by kernel_rfl)
    (of_decide_eq_true (by kernel_rfl)) (by unfold Func.isWrapper; first | (rw [if_pos (by decide +kernel)]; kernel_rfl) | (rw [if_neg (by decide +kernel)]; exact ⟨rfl, rfl⟩))
    (fun os started H enc _ => lifted os started H enc)
/-- The statement. -/
theorem proved : Rows.AluBackSaid := over
#print axioms proved
end Go.Proofs.Ytdfpaebbejdjlaa.aluBack
namespace Go.Proofs.Ytdfpaebbejdjlaa
/-- The row, under a short name, for the claim. -/
theorem aluBack_holds : Rows.AluBackSaid := aluBack.proved
end Go.Proofs.Ytdfpaebbejdjlaa
