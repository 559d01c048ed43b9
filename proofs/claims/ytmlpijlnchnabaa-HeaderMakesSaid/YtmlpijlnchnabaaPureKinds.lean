/- The reference's Kinds, Most and signs, in plain words. -/
import Derived.Test.YtmlpijlnchnabaaPure07
import Derived.Test.YtmlpijlnchnabaaHWare
import Derived.Test.YtmlpijlnchnabaaHHeadOk
import Derived.Test.YtmlpijlnchnabaaG11
import Derived.Test.YtmlpijlnchnabaaG12
import Derived.Test.YtmlpijlnchnabaaG13
namespace Go.Proofs.Ytmlpijlnchnabaa.Pure
open Go.RowKit Go.Proofs.Ytmlpijlnchnabaa.G Go.Proofs.Ytmlpijlnchnabaa.Hand
open Go.Proofs.YtmlpijlnchnabaaW.PrintWords Go.Proofs.YtmlpijlnchnabaaW.PrintLast Go.Proofs.YtmlpijlnchnabaaW.PrintMore
set_option maxRecDepth 100000
set_option linter.unusedVariables false
set_option linter.unusedSimpArgs false
theorem more {α : Type} {f : Nat → Option α} (mono : ∀ k, LeO (f k) (f (k + 1))) {K : Nat} {r : α} (h : f K = some r) (k : Nat) (hk : K ≤ k) : f k = some r := by
  obtain ⟨j, rfl⟩ := Nat.exists_eq_add_of_le hk
  induction j with
  | zero => exact h
  | succ j ih => exact mono _ _ (ih (by omega))
theorem kinds_all : ∀ v : Fin 256, ((whirligigref07_Kinds.f 20 (v.val : Int)).any fun t => t.1.data.toList == [] && (t.2.1 == (if (wareT (v.val : Int)).2.2.2.2 = true then (v.val : Int) else 0) && (t.2.2.1 == (wareT (v.val : Int)).1 && (t.2.2.2.1 == (wareT (v.val : Int)).2.1 && (t.2.2.2.2.1 == (wareT (v.val : Int)).2.2.1 && (t.2.2.2.2.2.1 == (wareT (v.val : Int)).2.2.2.1 && (t.2.2.2.2.2.2.1 == 0 && (t.2.2.2.2.2.2.2.1 == 0 && (t.2.2.2.2.2.2.2.2.1 == 0 && (t.2.2.2.2.2.2.2.2.2.1 == 0 && t.2.2.2.2.2.2.2.2.2.2 == (wareT (v.val : Int)).2.2.2.2)))))))))) = true := by decide +kernel
theorem kinds_is (v : Int) (h : 0 ≤ v ∧ v ≤ 255) (k : Nat) (hk : 20 ≤ k) : whirligigref07_Kinds.f k v = some ((⟨#[]⟩ : ByteArray), (if (wareT v).2.2.2.2 = true then v else 0), (wareT v).1, (wareT v).2.1, (wareT v).2.2.1, (wareT v).2.2.2.1, 0, 0, 0, 0, (wareT v).2.2.2.2) := by
  refine more (fun k => whirligigref07_Kinds.mono v k) ?_ k hk
  obtain ⟨u, rfl⟩ := byte_fin h
  have q := kinds_all u
  cases e : whirligigref07_Kinds.f 20 (u.val : Int) with
  | none => rw [e] at q; cases q
  | some t =>
    rw [e] at q
    obtain ⟨⟨⟨b⟩⟩, t1, t2, t3, t4, t5, t6, t7, t8, t9, t10⟩ := t
    simp only [Option.any_some, Bool.and_eq_true, beq_iff_eq] at q
    obtain ⟨q0, q1, q2, q3, q4, q5, q6, q7, q8, q9, q10⟩ := q
    rw [← q1, ← q2, ← q3, ← q4, ← q5, ← q10, q6, q7, q8, q9]
    have : b = [] := q0
    subst this
    rfl
theorem most_all : ∀ v : Fin 9, whirligigref07_Most.f 12 (v.val : Int) = some (shl .i64 32768 (v.val : Int)) ∧ wrap64 (Int.tdiv (shl .i64 32768 (v.val : Int)) 16384) = wrap64 (2 * 2 ^ min (v.val : Int).toNat 64) := by decide +kernel
theorem most_is (r : Int) (h : 0 ≤ r ∧ r ≤ 8) : (∀ k, 12 ≤ k → whirligigref07_Most.f k r = some (shl .i64 32768 r)) ∧ wrap64 (Int.tdiv (shl .i64 32768 r) 16384) = wrap64 (2 * 2 ^ min r.toNat 64) := by
  have q := most_all ⟨r.toNat, by omega⟩
  rw [show ((⟨r.toNat, by omega⟩ : Fin 9).val : Int) = r by show (r.toNat : Int) = r; omega] at q
  exact ⟨fun k hk => more (fun k => whirligigref07_Most.mono r k) q.1 k hk, q.2⟩
theorem signs_is (b : Int) : whirligigref07_signs.f b = some (prb b) := by
  unfold whirligigref07_signs.f prb
  by_cases h : b ≥ 32
  · rw [if_pos h, decide_eq_true h]; rfl
  · rw [if_neg h, decide_eq_false h]; rfl
end Go.Proofs.Ytmlpijlnchnabaa.Pure
