/- The statement AluTurns: for every input the law returns true and each argument reads as before: out of the contract of its Go text (printed) and the plain law (Pure). -/
import Derived.Test.YtdfpaebbejdjlaaRows
import Derived.Test.YtdfpaebbejdjlaaFrame
import Derived.Test.YtdfpaebbejdjlaaG32
import Derived.Test.YtdfpaebbejdjlaaPureAluTurns
namespace Go.Proofs.Ytdfpaebbejdjlaa.aluTurns
open Go.ChangeShapes Go.WideShapes Go.ChangeAt Go.RowKit
open Go.ChangeMaps (open_string shut_string)
set_option linter.unusedVariables false
theorem own : ownKnob Try.prog.godebug = none := by kernel_rfl
theorem laidOut : laidOutB Try.prog = true := by kernel_rfl
set_option maxRecDepth 100000 in
theorem lifted (os : Os) (started : os.Started) (H : Type) (enc : TypeId × Value → H) :
    ReturnsInHanded {} Try.checked os 8 .any (Rows.aluTurnsSpec.pre6 enc Try.prog Try.f8 Rows.aluTurnsRow.domain false) (Rows.aluTurnsSpec.post enc Try.prog Try.f8 false true false false) := by
  refine Frame.lifted_of (C := Try.checked) (bt := 4) own started (by kernel_rfl) Try.func8
    (ChangeSpec.witness6 (enc := enc) (C := Try.checked) false ⟨#[], #[.int .u8 0, .agg #[.bool false, .bool false, .bool false, .bool false]], []⟩ 8 (by kernel_rfl) (by kernel_rfl) (by kernel_rfl) (by kernel_rfl)) rfl rfl Try.underlying4 ?_ laidOut (by kernel_rfl) ?_
  · intro ds h
    have h' : ds.length = 2 := h
    match ds, h' with
    | [d0, d1], _ => rfl
  · intro W base vs ds p hval0 hA0 hsz0
    have hval : ∀ (j : Nat) (t : TypeId) (v : Value), Try.f8.params.toList[j]? = some t → vs[j]? = some v → Value.okWide Try.prog W .any base t v := hval0
    have hA : DataW.TrodAll enc Try.prog W 0 (fun _ => true) true Try.f8.params.toList vs ds p := hA0
    have hsz : (DataW.weightsEach Try.prog Try.f8.params.toList ds).all (· ≤ reachBytes) = true := hsz0
    rw [Try.params8] at hA hval hsz
    clear hval0 hA0 hsz0
    obtain ⟨v0, vs0, d0, ds0, p0, q0, rfl, rfl, rfl, h0, r0⟩ := trodAll_cons hA
    obtain ⟨v1, vs1, d1, ds1, p1, q1, rfl, rfl, rfl, h1, r1⟩ := trodAll_cons r0
    obtain ⟨rfl, rfl, rfl⟩ := trodAll_nil r1
    obtain ⟨a0, rfl, _, _, w0⟩ := open_int Try.underlying5 (hval 0 5 v0 rfl rfl) h0
    obtain ⟨cs1, rfl, hs1, hc1⟩ := Frame.open_struct Try.underlying23 (by kernel_rfl) (hval 1 23 v1 rfl rfl) h1
    obtain ⟨c1_0, c1_1, c1_2, c1_3, rfl⟩ := Frame.array4 (hs1.trans (by kernel_rfl : Try.prog.cellsOf 23 = 4))
    obtain ⟨a1_0, rfl⟩ := Frame.cell_bool Try.underlying4 (hc1 0 _ _ rfl rfl)
    obtain ⟨a1_1, rfl⟩ := Frame.cell_bool Try.underlying4 (hc1 1 _ _ rfl rfl)
    obtain ⟨a1_2, rfl⟩ := Frame.cell_bool Try.underlying4 (hc1 2 _ _ rfl rfl)
    obtain ⟨a1_3, rfl⟩ := Frame.cell_bool Try.underlying4 (hc1 3 _ _ rfl rfl)
    obtain ⟨k, hk⟩ := Pure.AluTurns a0 a1_0 a1_1 a1_2 a1_3 w0
    exact (G.whirligiglaw02_AluTurns.calls k a0 a1_0 a1_1 a1_2 a1_3 true W  hk rfl).mono fun e w' ⟨he, hb⟩ => ⟨he, hb⟩
theorem over : Rows.aluTurnsRow.holds Try.pinned (OpenSpec.ofChange Rows.aluTurnsSpec) :=
  OpenClaim.holds_of_wide 8 Try.f8 rfl rfl rfl rfl rfl rfl rfl ⟨rfl, rfl, rfl, rfl, rfl⟩ rfl rfl rfl rfl rfl (by kernel_rfl) Try.func8 (by kernel_rfl)
    (of_decide_eq_true (by kernel_rfl)) (by unfold Func.isWrapper; first | (rw [if_pos (by decide +kernel)]; kernel_rfl) | (rw [if_neg (by decide +kernel)]; exact ⟨rfl, rfl⟩))
    (fun os started H enc _ => lifted os started H enc)
/-- The statement. -/
theorem proved : Rows.AluTurnsSaid := over
#print axioms proved
end Go.Proofs.Ytdfpaebbejdjlaa.aluTurns
namespace Go.Proofs.Ytdfpaebbejdjlaa
/-- The row, under a short name, for the claim. -/
theorem aluTurns_holds : Rows.AluTurnsSaid := aluTurns.proved
end Go.Proofs.Ytdfpaebbejdjlaa
