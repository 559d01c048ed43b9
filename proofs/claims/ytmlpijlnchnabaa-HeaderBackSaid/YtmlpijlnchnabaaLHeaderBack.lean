/- The statement HeaderBack: for every input the law returns true and each argument reads as before: out of the contract of its Go text (printed) and the plain law (Pure). -/
import Derived.Test.YtmlpijlnchnabaaRows
import Derived.Test.YtmlpijlnchnabaaFrame
import Derived.Test.YtmlpijlnchnabaaWish
import Derived.Test.YtmlpijlnchnabaaG20
import Derived.Test.YtmlpijlnchnabaaPureHeaderBack
namespace Go.Proofs.Ytmlpijlnchnabaa.headerBack
open Go.ChangeShapes Go.WideShapes Go.ChangeAt Go.RowKit
open Go.ChangeMaps (open_string shut_string)
set_option linter.unusedVariables false
theorem own : ownKnob Try.prog.godebug = none := by kernel_rfl
theorem laidOut : laidOutB Try.prog = true := by kernel_rfl
set_option maxRecDepth 100000 in
theorem lifted (os : Os) (started : os.Started) (H : Type) (enc : TypeId × Value → H) :
    ReturnsInHanded {} Try.checked os 8 .any (Rows.headerBackSpec.pre6 enc Try.prog Try.f8 Rows.headerBackRow.domain false) (Rows.headerBackSpec.post enc Try.prog Try.f8 false true false false) := by
  refine Frame.lifted_of (C := Try.checked) (bt := 4) own started (by kernel_rfl) Try.func8
    (ChangeSpec.witness6 (enc := enc) (C := Try.checked) false ⟨#[], #[.agg #[.string ByteArray.empty, .int .u8 0, .int .u8 0, .int .u8 0, .slice none 0 0]], []⟩ 8 (by kernel_rfl) (by kernel_rfl) (by kernel_rfl) (by kernel_rfl)) rfl rfl Try.underlying4 ?_ laidOut (by kernel_rfl) ?_
  · intro ds h
    have h' : ds.length = 1 := h
    match ds, h' with
    | [d0], _ => rfl
  · intro W base vs ds p hval0 hA0 hsz0
    have hval : ∀ (j : Nat) (t : TypeId) (v : Value), Try.f8.params.toList[j]? = some t → vs[j]? = some v → Value.okWide Try.prog W .any base t v := hval0
    have hA : DataW.TrodAll enc Try.prog W 0 (fun _ => true) true Try.f8.params.toList vs ds p := hA0
    have hsz : (DataW.weightsEach Try.prog Try.f8.params.toList ds).all (· ≤ reachBytes) = true := hsz0
    rw [Try.params8] at hA hval hsz
    clear hval0 hA0 hsz0
    obtain ⟨v0, vs0, d0, ds0, p0, q0, rfl, rfl, rfl, h0, r0⟩ := trodAll_cons hA
    obtain ⟨rfl, rfl, rfl⟩ := trodAll_nil r0
    obtain ⟨cs0, rfl, hs0, hc0⟩ := Frame.open_struct Try.underlying34 (by kernel_rfl) (hval 0 34 v0 rfl rfl) h0
    obtain ⟨c0_0, c0_1, c0_2, c0_3, c0_4, rfl⟩ := Frame.array5 (hs0.trans (by kernel_rfl : Try.prog.cellsOf 34 = 5))
    obtain ⟨a0_0, rfl, w0_0⟩ := Wish.cell_string Try.underlying9 (hc0 0 _ _ rfl rfl)
    obtain ⟨a0_1, rfl, w0_1⟩ := Frame.cell_int Try.underlying5 (hc0 1 _ _ rfl rfl)
    obtain ⟨a0_2, rfl, w0_2⟩ := Frame.cell_int Try.underlying5 (hc0 2 _ _ rfl rfl)
    obtain ⟨a0_3, rfl, w0_3⟩ := Frame.cell_int Try.underlying5 (hc0 3 _ _ rfl rfl)
    obtain ⟨A0_4, l0_4, k0_4, rfl, hr0_4, hk0_4, w0_4, y0_4⟩ := Wish.cell_bytes (hc0 4 _ _ rfl rfl)
    obtain ⟨k, hk⟩ := Pure.HeaderBack a0_0 a0_1 a0_2 a0_3 l0_4 w0_0 w0_1 w0_2 w0_3 w0_4 y0_4
    exact (G.whirligiglaw07_HeaderBack.calls k a0_0 a0_1 a0_2 a0_3 A0_4 k0_4 l0_4 true W hr0_4 hk0_4 hk rfl).mono fun e w' ⟨he, hb⟩ => ⟨he, hb⟩
theorem over : Rows.headerBackRow.holds Try.pinned (OpenSpec.ofChange Rows.headerBackSpec) :=
  OpenClaim.holds_of_wide 8 Try.f8 rfl rfl rfl rfl rfl rfl rfl ⟨rfl, rfl, rfl, rfl, rfl⟩ rfl rfl rfl rfl rfl (by kernel_rfl) Try.func8 (by kernel_rfl)
    (of_decide_eq_true (by kernel_rfl)) (by unfold Func.isWrapper; first | (rw [if_pos (by decide +kernel)]; kernel_rfl) | (rw [if_neg (by decide +kernel)]; exact ⟨rfl, rfl⟩))
    (fun os started H enc _ => lifted os started H enc)
/-- The statement. -/
theorem proved : Rows.HeaderBackSaid := over
#print axioms proved
end Go.Proofs.Ytmlpijlnchnabaa.headerBack
namespace Go.Proofs.Ytmlpijlnchnabaa
/-- The row, under a short name, for the claim. -/
theorem headerBack_holds : Rows.HeaderBackSaid := headerBack.proved
end Go.Proofs.Ytmlpijlnchnabaa
