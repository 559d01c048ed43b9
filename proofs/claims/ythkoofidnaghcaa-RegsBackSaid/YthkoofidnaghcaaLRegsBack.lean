/- The statement RegsBack: for every input the law returns true and each argument reads as before: out of the contract of its Go text (printed) and the plain law (Pure). -/
import Derived.Test.YthkoofidnaghcaaRows
import Derived.Test.YthkoofidnaghcaaFrame
import Derived.Test.YthkoofidnaghcaaG52
import Derived.Test.YthkoofidnaghcaaPureRegsBack
namespace Go.Proofs.Ythkoofidnaghcaa.regsBack
open Go.ChangeShapes Go.WideShapes Go.ChangeAt Go.RowKit
open Go.ChangeMaps (open_string shut_string)
set_option linter.unusedVariables false
theorem own : ownKnob Try.prog.godebug = none := by kernel_rfl
theorem laidOut : laidOutB Try.prog = true := by kernel_rfl
set_option maxRecDepth 100000 in
theorem lifted (os : Os) (started : os.Started) (H : Type) (enc : TypeId × Value → H) :
    ReturnsInHanded {} Try.checked os 11 .any (Rows.regsBackSpec.pre6 enc Try.prog Try.f11 Rows.regsBackRow.domain false) (Rows.regsBackSpec.post enc Try.prog Try.f11 false true false false) := by
  refine Frame.lifted_of (C := Try.checked) (bt := 4) own started (by kernel_rfl) Try.func11
    (ChangeSpec.witness6 (enc := enc) (C := Try.checked) false ⟨#[], #[.agg #[.int .u8 0, .int .u8 0, .int .u8 0, .int .u8 0, .int .u8 0, .int .u8 0, .int .u8 0, .int .u8 0, .int .u16 0, .int .u16 0], .int .u8 0, .int .u8 0], []⟩ 8 (by kernel_rfl) (by kernel_rfl) (by kernel_rfl) (by kernel_rfl)) rfl rfl Try.underlying4 ?_ laidOut (by kernel_rfl) ?_
  · intro ds h
    have h' : ds.length = 3 := h
    match ds, h' with
    | [d0, d1, d2], _ => rfl
  · intro W base vs ds p hval0 hA0 hsz0
    have hval : ∀ (j : Nat) (t : TypeId) (v : Value), Try.f11.params.toList[j]? = some t → vs[j]? = some v → Value.okWide Try.prog W .any base t v := hval0
    have hA : DataW.TrodAll enc Try.prog W 0 (fun _ => true) true Try.f11.params.toList vs ds p := hA0
    have hsz : (DataW.weightsEach Try.prog Try.f11.params.toList ds).all (· ≤ reachBytes) = true := hsz0
    rw [Try.params11] at hA hval hsz
    clear hval0 hA0 hsz0
    obtain ⟨v0, vs0, d0, ds0, p0, q0, rfl, rfl, rfl, h0, r0⟩ := trodAll_cons hA
    obtain ⟨v1, vs1, d1, ds1, p1, q1, rfl, rfl, rfl, h1, r1⟩ := trodAll_cons r0
    obtain ⟨v2, vs2, d2, ds2, p2, q2, rfl, rfl, rfl, h2, r2⟩ := trodAll_cons r1
    obtain ⟨rfl, rfl, rfl⟩ := trodAll_nil r2
    obtain ⟨cs0, rfl, hs0, hc0⟩ := Frame.open_struct Try.underlying24 (by kernel_rfl) (hval 0 24 v0 rfl rfl) h0
    obtain ⟨c0_0, c0_1, c0_2, c0_3, c0_4, c0_5, c0_6, c0_7, c0_8, c0_9, rfl⟩ := Frame.array10 (hs0.trans (by kernel_rfl : Try.prog.cellsOf 24 = 10))
    obtain ⟨a0_0, rfl, w0_0⟩ := Frame.cell_int Try.underlying5 (hc0 0 _ _ rfl rfl)
    obtain ⟨a0_1, rfl, w0_1⟩ := Frame.cell_int Try.underlying5 (hc0 1 _ _ rfl rfl)
    obtain ⟨a0_2, rfl, w0_2⟩ := Frame.cell_int Try.underlying5 (hc0 2 _ _ rfl rfl)
    obtain ⟨a0_3, rfl, w0_3⟩ := Frame.cell_int Try.underlying5 (hc0 3 _ _ rfl rfl)
    obtain ⟨a0_4, rfl, w0_4⟩ := Frame.cell_int Try.underlying5 (hc0 4 _ _ rfl rfl)
    obtain ⟨a0_5, rfl, w0_5⟩ := Frame.cell_int Try.underlying5 (hc0 5 _ _ rfl rfl)
    obtain ⟨a0_6, rfl, w0_6⟩ := Frame.cell_int Try.underlying5 (hc0 6 _ _ rfl rfl)
    obtain ⟨a0_7, rfl, w0_7⟩ := Frame.cell_int Try.underlying5 (hc0 7 _ _ rfl rfl)
    obtain ⟨a0_8, rfl, w0_8⟩ := Frame.cell_int Try.underlying22 (hc0 8 _ _ rfl rfl)
    obtain ⟨a0_9, rfl, w0_9⟩ := Frame.cell_int Try.underlying22 (hc0 9 _ _ rfl rfl)
    obtain ⟨a1, rfl, _, _, w1⟩ := open_int Try.underlying5 (hval 1 5 v1 rfl rfl) h1
    obtain ⟨a2, rfl, _, _, w2⟩ := open_int Try.underlying5 (hval 2 5 v2 rfl rfl) h2
    obtain ⟨k, hk⟩ := Pure.RegsBack a0_0 a0_1 a0_2 a0_3 a0_4 a0_5 a0_6 a0_7 a0_8 a0_9 a1 a2 w0_0 w0_1 w0_2 w0_3 w0_4 w0_5 w0_6 w0_7 w0_8 w0_9 w1 w2
    exact (G.whirligiglaw04_RegsBack.calls k a0_0 a0_1 a0_2 a0_3 a0_4 a0_5 a0_6 a0_7 a0_8 a0_9 a1 a2 true W  hk rfl).mono fun e w' ⟨he, hb⟩ => ⟨he, hb⟩
theorem over : Rows.regsBackRow.holds Try.pinned (OpenSpec.ofChange Rows.regsBackSpec) :=
  OpenClaim.holds_of_wide 11 Try.f11 rfl rfl rfl rfl rfl rfl rfl ⟨rfl, rfl, rfl, rfl, rfl⟩ rfl rfl rfl rfl rfl (by kernel_rfl) Try.func11 (by kernel_rfl)
    (of_decide_eq_true (by kernel_rfl)) (by unfold Func.isWrapper; first | (rw [if_pos (by decide +kernel)]; kernel_rfl) | (rw [if_neg (by decide +kernel)]; exact ⟨rfl, rfl⟩))
    (fun os started H enc _ => lifted os started H enc)
/-- The statement. -/
theorem proved : Rows.RegsBackSaid := over
#print axioms proved
end Go.Proofs.Ythkoofidnaghcaa.regsBack
namespace Go.Proofs.Ythkoofidnaghcaa
/-- The row, under a short name, for the claim. -/
theorem regsBack_holds : Rows.RegsBackSaid := regsBack.proved
end Go.Proofs.Ythkoofidnaghcaa
