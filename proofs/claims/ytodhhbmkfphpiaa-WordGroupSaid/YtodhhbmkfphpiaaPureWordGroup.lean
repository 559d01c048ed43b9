/- The plain law of WordGroup: turns add up, mirrors undo one another. -/
import Derived.Test.YtodhhbmkfphpiaaNum
import Derived.Test.YtodhhbmkfphpiaaHGroup
import Derived.Test.YtodhhbmkfphpiaaPure01
namespace Go.Proofs.Ytodhhbmkfphpiaa.Pure
open Go.RowKit Go.Proofs.Ytodhhbmkfphpiaa.G Go.Proofs.Ytodhhbmkfphpiaa.Hand
open Go.Proofs.YtodhhbmkfphpiaaW.PrintWords Go.Proofs.YtodhhbmkfphpiaaW.PrintLast Go.Proofs.YtodhhbmkfphpiaaW.PrintMore
set_option maxRecDepth 100000
set_option linter.unusedVariables false
def R (v i : Int) : Int := (bits_RotateLeft8.f v i).getD 0
def Mi (v : Int) : Int := (bits_Reverse8.f v).getD 0
theorem r_all : ∀ v : Fin 256, ∀ i : Fin 15, bits_RotateLeft8.f (v.val : Int) ((i.val : Int) - 7) = some (R (v.val : Int) ((i.val : Int) - 7)) ∧ 0 ≤ R (v.val : Int) ((i.val : Int) - 7) ∧ R (v.val : Int) ((i.val : Int) - 7) ≤ 255 := by decide +kernel
theorem add_all : ∀ v : Fin 256, ∀ i j : Fin 8, R (R (v.val : Int) (i.val : Int)) (j.val : Int) = R (v.val : Int) (((i.val + j.val) % 8 : Nat) : Int) := by decide +kernel
theorem neg_all : ∀ v : Fin 256, ∀ i : Fin 8, R (R (v.val : Int) (i.val : Int)) (-(i.val : Int)) = (v.val : Int) ∧ Mi (R (Mi (v.val : Int)) (i.val : Int)) = R (v.val : Int) (-(i.val : Int)) ∧ word_Ones.f 90 (R (v.val : Int) (i.val : Int)) = word_Ones.f 90 (v.val : Int) := by decide +kernel
theorem mi_all : ∀ v : Fin 256, bits_Reverse8.f (v.val : Int) = some (Mi (v.val : Int)) ∧ 0 ≤ Mi (v.val : Int) ∧ Mi (v.val : Int) ≤ 255 ∧ Mi (Mi (v.val : Int)) = (v.val : Int) ∧ R (v.val : Int) 0 = (v.val : Int) ∧ word_Ones.f 90 (Mi (v.val : Int)) = word_Ones.f 90 (v.val : Int) ∧ (word_Ones.f 90 (v.val : Int)).isSome = true := by decide +kernel
theorem turn_is (v i : Int) (hv : 0 ≤ v ∧ v ≤ 255) (n : Int) (hi : -7 ≤ i ∧ i ≤ 7) (hn : Int.tmod n 8 = i) : word_Turn.f v n = some (R v i) ∧ 0 ≤ R v i ∧ R v i ≤ 255 := by
  obtain ⟨x, rfl⟩ := byte_fin hv
  obtain ⟨y, hy⟩ : ∃ y : Fin 15, i = (y.val : Int) - 7 := ⟨⟨(i + 7).toNat, by omega⟩, by show i = ((i + 7).toNat : Int) - 7; omega⟩
  obtain ⟨h1, h2⟩ := r_all x y
  rw [← hy] at h1 h2
  refine ⟨?_, h2⟩
  unfold word_Turn.f
  rw [hn, h1]
  rfl
theorem mir_is (v : Int) (hv : 0 ≤ v ∧ v ≤ 255) : word_Mirror.f v = some (Mi v) ∧ 0 ≤ Mi v ∧ Mi v ≤ 255 := by
  obtain ⟨x, rfl⟩ := byte_fin hv
  obtain ⟨h1, h2, h3, _⟩ := mi_all x
  refine ⟨?_, h2, h3⟩
  unfold word_Mirror.f
  rw [h1]
  rfl
theorem WordGroup (a0 a1 a2 : Int) (w0 : (Lit.int .u8 a0).wf = true) (w1 : (Lit.int .u8 a1).wf = true) (w2 : (Lit.int .u8 a2).wf = true) : ∃ k, whirligiglaw01_WordGroup.f k a0 a1 a2 = some true := by
  have b0 := u8_bd w0
  have b1 := u8_bd w1
  have b2 := u8_bd w2
  refine ⟨90, ?_⟩
  have tm : ∀ x : Int, 0 ≤ x → x ≤ 600 → Int.tmod (wrap64 x) 8 = x % 8 := fun x h1 h2 => by rw [wrap64_in (by omega), Int.tmod_eq_emod_of_nonneg h1]
  have tn : Int.tmod (wrap64 (-wrap64 a1)) 8 = -(a1 % 8) := by
    rw [wrap64_in (x := a1) (by omega), wrap64_in (x := -a1) (by omega), Int.neg_tmod, Int.tmod_eq_emod_of_nonneg b1.1]
  have ts : wrap64 (wrap64 a1 + wrap64 a2) = wrap64 (a1 + a2) := by rw [wrap64_in (x := a1) (by omega), wrap64_in (x := a2) (by omega)]
  obtain ⟨x, hx⟩ := byte_fin b0
  obtain ⟨i, hi⟩ : ∃ i : Fin 8, a1 % 8 = (i.val : Int) := ⟨⟨(a1 % 8).toNat, by omega⟩, by show a1 % 8 = ((a1 % 8).toNat : Int); omega⟩
  obtain ⟨j, hj⟩ : ∃ j : Fin 8, a2 % 8 = (j.val : Int) := ⟨⟨(a2 % 8).toNat, by omega⟩, by show a2 % 8 = ((a2 % 8).toNat : Int); omega⟩
  have hij : (a1 + a2) % 8 = (((i.val + j.val) % 8 : Nat) : Int) := by omega
  obtain ⟨n1, n2, n3⟩ := neg_all x i
  have ad := add_all x i j
  obtain ⟨-, -, -, m4, m5, m6, m7⟩ := mi_all x
  rw [← hx] at n1 n2 n3 ad m4 m5 m6 m7
  rw [← hi] at n1 n2 n3 ad
  rw [← hij, ← hj] at ad
  obtain ⟨e1, f1⟩ := turn_is a0 (a1 % 8) b0 (wrap64 a1) (by omega) (tm a1 b1.1 (by omega))
  obtain ⟨e2, f2⟩ := turn_is (R a0 (a1 % 8)) (a2 % 8) f1 (wrap64 a2) (by omega) (tm a2 b2.1 (by omega))
  obtain ⟨e3, f3⟩ := turn_is a0 ((a1 + a2) % 8) b0 (wrap64 (a1 + a2)) (by omega) (tm (a1 + a2) (by omega) (by omega))
  obtain ⟨e4, f4⟩ := turn_is (R a0 (a1 % 8)) (-(a1 % 8)) f1 _ (by omega) tn
  obtain ⟨e5, f5⟩ := mir_is a0 b0
  obtain ⟨e6, f6⟩ := turn_is (Mi a0) (a1 % 8) f5 (wrap64 a1) (by omega) (tm a1 b1.1 (by omega))
  obtain ⟨e7, f7⟩ := mir_is _ f6
  obtain ⟨e8, f8⟩ := turn_is a0 0 b0 8 (by omega) rfl
  obtain ⟨e9, f9⟩ := mir_is _ f5
  obtain ⟨e10, f10⟩ := turn_is a0 (-(a1 % 8)) b0 _ (by omega) tn
  have n3' : word_Ones.f 90 (R (R a0 (a1 % 8)) (a2 % 8)) = word_Ones.f 90 a0 := by
    obtain ⟨x2, hx2⟩ := byte_fin f1
    obtain ⟨-, -, q3⟩ := neg_all x2 j
    rw [← hx2, ← hj] at q3
    rw [q3, n3]
  obtain ⟨o, ho⟩ := Option.isSome_iff_exists.mp m7
  unfold whirligiglaw01_WordGroup.f
  rw [e1]
  simp only [Option.bind_some]
  rw [e2]
  simp only [Option.bind_some]
  rw [e5]
  simp only [Option.bind_some]
  rw [e6]
  simp only [Option.bind_some]
  rw [e7]
  simp only [Option.bind_some]
  rw [n3', ho]
  simp only [Option.bind_some]
  rw [if_pos]
  refine ⟨shown_is, ?_, ?_, ?_, ?_, ?_, trivial, ?_⟩
  · rw [ts, e3, ad]
  · rw [e4, n1]
  · rw [e8, m5]
  · rw [e9, m4]
  · rw [e10, n2]
  · rw [m6, ho]
end Go.Proofs.Ytodhhbmkfphpiaa.Pure
