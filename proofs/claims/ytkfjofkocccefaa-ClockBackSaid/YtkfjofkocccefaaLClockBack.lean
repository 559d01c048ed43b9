/- The statement ClockBack: for every input the law returns true and each argument reads as before: out of the contract of its Go text (printed) and the plain law (Pure). -/
import Derived.Test.YtkfjofkocccefaaRows
import Derived.Test.YtkfjofkocccefaaFrame
import Derived.Test.YtkfjofkocccefaaG20
import Derived.Test.YtkfjofkocccefaaPureClockBack
namespace Go.Proofs.Ytkfjofkocccefaa.clockBack
open Go.ChangeShapes Go.WideShapes Go.ChangeAt Go.RowKit
open Go.ChangeMaps (open_string shut_string)
set_option linter.unusedVariables false
theorem own : ownKnob Try.prog.godebug = none := by kernel_rfl
theorem laidOut : laidOutB Try.prog = true := by kernel_rfl
set_option maxRecDepth 100000 in
theorem lifted (os : Os) (started : os.Started) (H : Type) (enc : TypeId × Value → H) :
    ReturnsInHanded {} Try.checked os 11 .any (Rows.clockBackSpec.pre6 enc Try.prog Try.f11 Rows.clockBackRow.domain false) (Rows.clockBackSpec.post enc Try.prog Try.f11 false true false false) := by
  refine Frame.lifted_of (C := Try.checked) (bt := 4) own started (by kernel_rfl) Try.func11
    (ChangeSpec.witness6 (enc := enc) (C := Try.checked) false ⟨#[], #[.agg #[.int .u8 0, .int .u8 0, .int .u8 0, .int .u16 0, .bool false, .bool false], .agg #[.int .u8 0, .int .u8 0, .int .u8 0, .int .u16 0, .bool false, .bool false], .int .u8 0, .int .u8 0], []⟩ 8 (by kernel_rfl) (by kernel_rfl) (by kernel_rfl) (by kernel_rfl)) rfl rfl Try.underlying4 ?_ laidOut (by kernel_rfl) ?_
  · intro ds h
    have h' : ds.length = 4 := h
    match ds, h' with
    | [d0, d1, d2, d3], _ => rfl
  · intro W base vs ds p hval0 hA0 hsz0
    have hval : ∀ (j : Nat) (t : TypeId) (v : Value), Try.f11.params.toList[j]? = some t → vs[j]? = some v → Value.okWide Try.prog W .any base t v := hval0
    have hA : DataW.TrodAll enc Try.prog W 0 (fun _ => true) true Try.f11.params.toList vs ds p := hA0
    have hsz : (DataW.weightsEach Try.prog Try.f11.params.toList ds).all (· ≤ reachBytes) = true := hsz0
    rw [Try.params11] at hA hval hsz
    clear hval0 hA0 hsz0
    obtain ⟨v0, vs0, d0, ds0, p0, q0, rfl, rfl, rfl, h0, r0⟩ := trodAll_cons hA
    obtain ⟨v1, vs1, d1, ds1, p1, q1, rfl, rfl, rfl, h1, r1⟩ := trodAll_cons r0
    obtain ⟨v2, vs2, d2, ds2, p2, q2, rfl, rfl, rfl, h2, r2⟩ := trodAll_cons r1
    obtain ⟨v3, vs3, d3, ds3, p3, q3, rfl, rfl, rfl, h3, r3⟩ := trodAll_cons r2
    obtain ⟨rfl, rfl, rfl⟩ := trodAll_nil r3
    obtain ⟨cs0, rfl, hs0, hc0⟩ := Frame.open_struct Try.underlying24 (by kernel_rfl) (hval 0 24 v0 rfl rfl) h0
    obtain ⟨c0_0, c0_1, c0_2, c0_3, c0_4, c0_5, rfl⟩ := Frame.array6 (hs0.trans (by kernel_rfl : Try.prog.cellsOf 24 = 6))
    obtain ⟨a0_0, rfl, w0_0⟩ := Frame.cell_int Try.underlying5 (hc0 0 _ _ rfl rfl)
    obtain ⟨a0_1, rfl, w0_1⟩ := Frame.cell_int Try.underlying5 (hc0 1 _ _ rfl rfl)
    obtain ⟨a0_2, rfl, w0_2⟩ := Frame.cell_int Try.underlying5 (hc0 2 _ _ rfl rfl)
    obtain ⟨a0_3, rfl, w0_3⟩ := Frame.cell_int Try.underlying22 (hc0 3 _ _ rfl rfl)
    obtain ⟨a0_4, rfl⟩ := Frame.cell_bool Try.underlying4 (hc0 4 _ _ rfl rfl)
    obtain ⟨a0_5, rfl⟩ := Frame.cell_bool Try.underlying4 (hc0 5 _ _ rfl rfl)
    obtain ⟨cs1, rfl, hs1, hc1⟩ := Frame.open_struct Try.underlying24 (by kernel_rfl) (hval 1 24 v1 rfl rfl) h1
    obtain ⟨c1_0, c1_1, c1_2, c1_3, c1_4, c1_5, rfl⟩ := Frame.array6 (hs1.trans (by kernel_rfl : Try.prog.cellsOf 24 = 6))
    obtain ⟨a1_0, rfl, w1_0⟩ := Frame.cell_int Try.underlying5 (hc1 0 _ _ rfl rfl)
    obtain ⟨a1_1, rfl, w1_1⟩ := Frame.cell_int Try.underlying5 (hc1 1 _ _ rfl rfl)
    obtain ⟨a1_2, rfl, w1_2⟩ := Frame.cell_int Try.underlying5 (hc1 2 _ _ rfl rfl)
    obtain ⟨a1_3, rfl, w1_3⟩ := Frame.cell_int Try.underlying22 (hc1 3 _ _ rfl rfl)
    obtain ⟨a1_4, rfl⟩ := Frame.cell_bool Try.underlying4 (hc1 4 _ _ rfl rfl)
    obtain ⟨a1_5, rfl⟩ := Frame.cell_bool Try.underlying4 (hc1 5 _ _ rfl rfl)
    obtain ⟨a2, rfl, _, _, w2⟩ := open_int Try.underlying5 (hval 2 5 v2 rfl rfl) h2
    obtain ⟨a3, rfl, _, _, w3⟩ := open_int Try.underlying5 (hval 3 5 v3 rfl rfl) h3
    obtain ⟨k, hk⟩ := Pure.ClockBack a0_0 a0_1 a0_2 a0_3 a0_4 a0_5 a1_0 a1_1 a1_2 a1_3 a1_4 a1_5 a2 a3 w0_0 w0_1 w0_2 w0_3 w1_0 w1_1 w1_2 w1_3 w2 w3
    exact (G.whirligiglaw09_ClockBack.calls k a0_0 a0_1 a0_2 a0_3 a0_4 a0_5 a1_0 a1_1 a1_2 a1_3 a1_4 a1_5 a2 a3 true W  hk rfl).mono fun e w' ⟨he, hb⟩ => ⟨he, hb⟩
theorem over : Rows.clockBackRow.holds Try.pinned (OpenSpec.ofChange Rows.clockBackSpec) :=
  OpenClaim.holds_of_wide 11 Try.f11 rfl rfl rfl rfl rfl rfl rfl ⟨rfl, rfl, rfl, rfl, rfl⟩ rfl rfl rfl rfl rfl (by kernel_rfl) Try.func11 (by kernel_rfl)
    (of_decide_eq_true (by kernel_rfl)) (by unfold Func.isWrapper; first | (rw [if_pos (by decide +kernel)]; kernel_rfl) | (rw [if_neg (by decide +kernel)]; exact ⟨rfl, rfl⟩))
    (fun os started H enc _ => lifted os started H enc)
/-- The statement. -/
theorem proved : Rows.ClockBackSaid := over
#print axioms proved
end Go.Proofs.Ytkfjofkocccefaa.clockBack
namespace Go.Proofs.Ytkfjofkocccefaa
/-- The row, under a short name, for the claim. -/
theorem clockBack_holds : Rows.ClockBackSaid := clockBack.proved
end Go.Proofs.Ytkfjofkocccefaa
