/- The statement HeaderElse: for every input the law returns true and each argument reads as before: out of the contract of its Go text (printed) and the plain law (Pure). -/
import Derived.Test.YtmlpijlnchnabaaRows
import Derived.Test.YtmlpijlnchnabaaFrame
import Derived.Test.YtmlpijlnchnabaaBytes
import Derived.Test.YtmlpijlnchnabaaG22
import Derived.Test.YtmlpijlnchnabaaPureHeaderElse
namespace Go.Proofs.Ytmlpijlnchnabaa.headerElse
open Go.ChangeShapes Go.WideShapes Go.ChangeAt Go.RowKit
open Go.ChangeMaps (open_string shut_string)
set_option linter.unusedVariables false
theorem own : ownKnob Try.prog.godebug = none := by kernel_rfl
theorem laidOut : laidOutB Try.prog = true := by kernel_rfl
set_option maxRecDepth 100000 in
theorem lifted (os : Os) (started : os.Started) (H : Type) (enc : TypeId × Value → H) :
    ReturnsInHanded {} Try.checked os 6 .any (Rows.headerElseSpec.pre6 enc Try.prog Try.f6 Rows.headerElseRow.domain false) (Rows.headerElseSpec.post enc Try.prog Try.f6 false true false false) := by
  refine Frame.lifted_of (C := Try.checked) (bt := 4) own started (by kernel_rfl) Try.func6
    (ChangeSpec.witness6 (enc := enc) (C := Try.checked) false ⟨#[], #[.slice none 0 0, .int .u16 0, .int .u8 0], []⟩ 8 (by kernel_rfl) (by kernel_rfl) (by kernel_rfl) (by kernel_rfl)) rfl rfl Try.underlying4 ?_ laidOut (by kernel_rfl) ?_
  · intro ds h
    have h' : ds.length = 3 := h
    match ds, h' with
    | [d0, d1, d2], _ => rfl
  · intro W base vs ds p hval0 hA0 hsz0
    have hval : ∀ (j : Nat) (t : TypeId) (v : Value), Try.f6.params.toList[j]? = some t → vs[j]? = some v → Value.okWide Try.prog W .any base t v := hval0
    have hA : DataW.TrodAll enc Try.prog W 0 (fun _ => true) true Try.f6.params.toList vs ds p := hA0
    have hsz : (DataW.weightsEach Try.prog Try.f6.params.toList ds).all (· ≤ reachBytes) = true := hsz0
    rw [Try.params6] at hA hval hsz
    clear hval0 hA0 hsz0
    obtain ⟨v0, vs0, d0, ds0, p0, q0, rfl, rfl, rfl, h0, r0⟩ := trodAll_cons hA
    obtain ⟨v1, vs1, d1, ds1, p1, q1, rfl, rfl, rfl, h1, r1⟩ := trodAll_cons r0
    obtain ⟨v2, vs2, d2, ds2, p2, q2, rfl, rfl, rfl, h2, r2⟩ := trodAll_cons r1
    obtain ⟨rfl, rfl, rfl⟩ := trodAll_nil r2
    obtain ⟨A0, l0, c0, rfl, hr0, hc0, w0, y0⟩ := Pairs.open_bytes (okWide_slice Try.underlying22 (hval 0 22 v0 rfl rfl)) h0
    obtain ⟨a1, rfl, _, _, w1⟩ := open_int Try.underlying24 (hval 1 24 v1 rfl rfl) h1
    obtain ⟨a2, rfl, _, _, w2⟩ := open_int Try.underlying5 (hval 2 5 v2 rfl rfl) h2
    obtain ⟨k, hk⟩ := Pure.HeaderElse l0 a1 a2 w0 y0 w1 w2
    exact (G.whirligiglaw07_HeaderElse.calls k A0 c0 l0 a1 a2 true W hr0 hc0 hk rfl).mono fun e w' ⟨he, hb⟩ => ⟨he, hb⟩
theorem over : Rows.headerElseRow.holds Try.pinned (OpenSpec.ofChange Rows.headerElseSpec) :=
  OpenClaim.holds_of_wide 6 Try.f6 rfl rfl rfl rfl rfl rfl rfl ⟨rfl, rfl, rfl, rfl, rfl⟩ rfl rfl rfl rfl rfl (by kernel_rfl) Try.func6 (by kernel_rfl)
    (of_decide_eq_true (by kernel_rfl)) (by unfold Func.isWrapper; first | (rw [if_pos (by decide +kernel)]; kernel_rfl) | (rw [if_neg (by decide +kernel)]; exact ⟨rfl, rfl⟩))
    (fun os started H enc _ => lifted os started H enc)
/-- The statement. -/
theorem proved : Rows.HeaderElseSaid := over
#print axioms proved
end Go.Proofs.Ytmlpijlnchnabaa.headerElse
namespace Go.Proofs.Ytmlpijlnchnabaa
/-- The row, under a short name, for the claim. -/
theorem headerElse_holds : Rows.HeaderElseSaid := headerElse.proved
end Go.Proofs.Ytmlpijlnchnabaa
