/- The statement HeaderTurned: for every input the law returns true and each argument reads as before: out of the contract of its Go text (printed) and the plain law (Pure). -/
import Derived.Test.YtmlpijlnchnabaaRows
import Derived.Test.YtmlpijlnchnabaaFrame
import Derived.Test.YtmlpijlnchnabaaWish
import Derived.Test.YtmlpijlnchnabaaG21
import Derived.Test.YtmlpijlnchnabaaPureHeaderTurned
namespace Go.Proofs.Ytmlpijlnchnabaa.headerTurned
open Go.ChangeShapes Go.WideShapes Go.ChangeAt Go.RowKit
open Go.ChangeMaps (open_string shut_string)
set_option linter.unusedVariables false
theorem own : ownKnob Try.prog.godebug = none := by kernel_rfl
theorem laidOut : laidOutB Try.prog = true := by kernel_rfl
set_option maxRecDepth 100000 in
theorem lifted (os : Os) (started : os.Started) (H : Type) (enc : TypeId × Value → H) :
    ReturnsInHanded {} Try.checked os 5 .any (Rows.headerTurnedSpec.pre6 enc Try.prog Try.f5 Rows.headerTurnedRow.domain false) (Rows.headerTurnedSpec.post enc Try.prog Try.f5 false true false false) := by
  refine Frame.lifted_of (C := Try.checked) (bt := 4) own started (by kernel_rfl) Try.func5
    (ChangeSpec.witness6 (enc := enc) (C := Try.checked) false ⟨#[], #[.agg #[.string ByteArray.empty, .int .u8 0, .int .u8 0, .int .u8 0, .slice none 0 0], .int .u8 0, .int .u8 0], []⟩ 8 (by kernel_rfl) (by kernel_rfl) (by kernel_rfl) (by kernel_rfl)) rfl rfl Try.underlying4 ?_ laidOut (by kernel_rfl) ?_
  · intro ds h
    have h' : ds.length = 3 := h
    match ds, h' with
    | [d0, d1, d2], _ => rfl
  · intro W base vs ds p hval0 hA0 hsz0
    have hval : ∀ (j : Nat) (t : TypeId) (v : Value), Try.f5.params.toList[j]? = some t → vs[j]? = some v → Value.okWide Try.prog W .any base t v := hval0
    have hA : DataW.TrodAll enc Try.prog W 0 (fun _ => true) true Try.f5.params.toList vs ds p := hA0
    have hsz : (DataW.weightsEach Try.prog Try.f5.params.toList ds).all (· ≤ reachBytes) = true := hsz0
    rw [Try.params5] at hA hval hsz
    clear hval0 hA0 hsz0
    obtain ⟨v0, vs0, d0, ds0, p0, q0, rfl, rfl, rfl, h0, r0⟩ := trodAll_cons hA
    obtain ⟨v1, vs1, d1, ds1, p1, q1, rfl, rfl, rfl, h1, r1⟩ := trodAll_cons r0
    obtain ⟨v2, vs2, d2, ds2, p2, q2, rfl, rfl, rfl, h2, r2⟩ := trodAll_cons r1
    obtain ⟨rfl, rfl, rfl⟩ := trodAll_nil r2
    obtain ⟨cs0, rfl, hs0, hc0⟩ := Frame.open_struct Try.underlying34 (by kernel_rfl) (hval 0 34 v0 rfl rfl) h0
    obtain ⟨c0_0, c0_1, c0_2, c0_3, c0_4, rfl⟩ := Frame.array5 (hs0.trans (by kernel_rfl : Try.prog.cellsOf 34 = 5))
    obtain ⟨a0_0, rfl, w0_0⟩ := Wish.cell_string Try.underlying9 (hc0 0 _ _ rfl rfl)
    obtain ⟨a0_1, rfl, w0_1⟩ := Frame.cell_int Try.underlying5 (hc0 1 _ _ rfl rfl)
    obtain ⟨a0_2, rfl, w0_2⟩ := Frame.cell_int Try.underlying5 (hc0 2 _ _ rfl rfl)
    obtain ⟨a0_3, rfl, w0_3⟩ := Frame.cell_int Try.underlying5 (hc0 3 _ _ rfl rfl)
    obtain ⟨A0_4, l0_4, k0_4, rfl, hr0_4, hk0_4, w0_4, y0_4⟩ := Wish.cell_bytes (hc0 4 _ _ rfl rfl)
    obtain ⟨a1, rfl, _, _, w1⟩ := open_int Try.underlying5 (hval 1 5 v1 rfl rfl) h1
    obtain ⟨a2, rfl, _, _, w2⟩ := open_int Try.underlying5 (hval 2 5 v2 rfl rfl) h2
    obtain ⟨k, hk⟩ := Pure.HeaderTurned a0_0 a0_1 a0_2 a0_3 l0_4 a1 a2 w0_0 w0_1 w0_2 w0_3 w0_4 y0_4 w1 w2
    exact (G.whirligiglaw07_HeaderTurned.calls k a0_0 a0_1 a0_2 a0_3 A0_4 k0_4 l0_4 a1 a2 true W hr0_4 hk0_4 hk rfl).mono fun e w' ⟨he, hb⟩ => ⟨he, hb⟩
theorem over : Rows.headerTurnedRow.holds Try.pinned (OpenSpec.ofChange Rows.headerTurnedSpec) :=
  OpenClaim.holds_of_wide 5 Try.f5 rfl rfl rfl rfl rfl rfl rfl ⟨rfl, rfl, rfl, rfl, rfl⟩ rfl rfl rfl rfl rfl (by kernel_rfl) Try.func5 (by kernel_rfl)
    (of_decide_eq_true (by kernel_rfl)) (by unfold Func.isWrapper; first | (rw [if_pos (by decide +kernel)]; kernel_rfl) | (rw [if_neg (by decide +kernel)]; exact ⟨rfl, rfl⟩))
    (fun os started H enc _ => lifted os started H enc)
/-- The statement. -/
theorem proved : Rows.HeaderTurnedSaid := over
#print axioms proved
end Go.Proofs.Ytmlpijlnchnabaa.headerTurned
namespace Go.Proofs.Ytmlpijlnchnabaa
/-- The row, under a short name, for the claim. -/
theorem headerTurned_holds : Rows.HeaderTurnedSaid := headerTurned.proved
end Go.Proofs.Ytmlpijlnchnabaa
