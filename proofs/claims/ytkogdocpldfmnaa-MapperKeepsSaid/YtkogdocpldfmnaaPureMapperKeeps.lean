/- The plain law of MapperKeeps: whatever is written, the registers keep their widths. -/
import Derived.Test.YtkogdocpldfmnaaNum
import Derived.Test.YtkogdocpldfmnaaG14
import Derived.Test.YtkogdocpldfmnaaPure08
import Derived.Test.YtkogdocpldfmnaaHMWrite
namespace Go.Proofs.Ytkogdocpldfmnaa.Pure
open Go.RowKit Go.Proofs.Ytkogdocpldfmnaa.G Go.Proofs.Ytkogdocpldfmnaa.Hand
open Go.Proofs.YtkogdocpldfmnaaW.PrintWords Go.Proofs.YtkogdocpldfmnaaW.PrintLast Go.Proofs.YtkogdocpldfmnaaW.PrintMore
set_option maxRecDepth 100000
set_option linter.unusedVariables false
set_option linter.unusedSimpArgs false
/-- The registers' widths, kind by kind. -/
def inv (k : Int) (o : Bool) (l h r : Int) (md : Bool) : Prop :=
  0 ≤ l ∧ l ≤ 255 ∧ 0 ≤ h ∧ h ≤ 3 ∧ 0 ≤ r ∧ r ≤ 15 ∧ (k = 1 → l ≤ 31) ∧ (k = 3 → l ≤ 127) ∧ (k = 5 → h ≤ 1) ∧ (k = 0 → o = false ∧ l = 0 ∧ h = 0 ∧ r = 0 ∧ md = false)
theorem bits_all : ∀ v : Fin 256, (0 ≤ Go.bits .and .u8 (v.val : Int) 31 ∧ Go.bits .and .u8 (v.val : Int) 31 ≤ 31) ∧ (0 ≤ Go.bits .and .u8 (v.val : Int) 3 ∧ Go.bits .and .u8 (v.val : Int) 3 ≤ 3) ∧ (0 ≤ Go.bits .and .u8 (v.val : Int) 127 ∧ Go.bits .and .u8 (v.val : Int) 127 ≤ 127) ∧ (0 ≤ Go.bits .and .u8 (v.val : Int) 15 ∧ Go.bits .and .u8 (v.val : Int) 15 ≤ 15) ∧ (0 ≤ Go.bits .and .u8 (v.val : Int) 1 ∧ Go.bits .and .u8 (v.val : Int) 1 ≤ 1) := by decide +kernel
theorem write_inv (k : Int) (o : Bool) (l h r : Int) (md : Bool) (a v : Int) (hv : 0 ≤ v ∧ v ≤ 255) (hi : inv k o l h r md) :
    (writeF k o l h r md a v).1 = k ∧ inv k (writeF k o l h r md a v).2.1 (writeF k o l h r md a v).2.2.1 (writeF k o l h r md a v).2.2.2.1 (writeF k o l h r md a v).2.2.2.2.1 (writeF k o l h r md a v).2.2.2.2.2 := by
  obtain ⟨n, hn⟩ := byte_fin hv
  obtain ⟨q31, q3, q127, q15, q1⟩ := bits_all n
  rw [← hn] at q31 q3 q127 q15 q1
  have hi' := hi
  obtain ⟨l0, l1, h0, h1, r0, r1, k1, k3, k5, k0⟩ := hi'
  unfold writeF
  generalize Go.bits .and .u8 v 31 = x31 at *
  generalize Go.bits .and .u8 v 3 = x3 at *
  generalize Go.bits .and .u8 v 127 = x127 at *
  generalize Go.bits .and .u8 v 15 = x15 at *
  generalize Go.bits .and .u8 v 1 = x1 at *
  by_cases ca : a ≥ 32768
  · rw [if_pos ca]; exact ⟨rfl, hi⟩
  rw [if_neg ca]
  by_cases c1 : k = 1
  · rw [if_pos c1]
    have n0 : ∀ (o : Bool) (l h r : Int) (md : Bool), k = 0 → o = false ∧ l = 0 ∧ h = 0 ∧ r = 0 ∧ md = false := fun _ _ _ _ _ z => absurd z (by omega)
    split
    · exact ⟨rfl, l0, l1, h0, h1, r0, r1, k1, k3, k5, n0 _ _ _ _ _⟩
    split
    · exact ⟨rfl, by dsimp only; omega, by dsimp only; omega, h0, h1, r0, r1, fun _ => by dsimp only; omega, fun z => absurd z (by omega), k5, n0 _ _ _ _ _⟩
    split
    · exact ⟨rfl, l0, l1, by dsimp only; omega, by dsimp only; omega, r0, r1, k1, k3, fun z => absurd z (by omega), n0 _ _ _ _ _⟩
    split
    · exact ⟨rfl, l0, l1, h0, h1, r0, r1, k1, k3, k5, n0 _ _ _ _ _⟩
    · exact ⟨rfl, hi⟩
  rw [if_neg c1]
  by_cases c3 : k = 3
  · rw [if_pos c3]
    have n0 : ∀ (o : Bool) (l h r : Int) (md : Bool), k = 0 → o = false ∧ l = 0 ∧ h = 0 ∧ r = 0 ∧ md = false := fun _ _ _ _ _ z => absurd z (by omega)
    split
    · exact ⟨rfl, l0, l1, h0, h1, r0, r1, k1, k3, k5, n0 _ _ _ _ _⟩
    split
    · exact ⟨rfl, by dsimp only; omega, by dsimp only; omega, h0, h1, r0, r1, fun z => absurd z (by omega), fun _ => by dsimp only; omega, k5, n0 _ _ _ _ _⟩
    split
    · exact ⟨rfl, l0, l1, h0, h1, by dsimp only; omega, by dsimp only; omega, k1, k3, k5, n0 _ _ _ _ _⟩
    · exact ⟨rfl, hi⟩
  rw [if_neg c3]
  by_cases c5 : k = 5
  · rw [if_pos c5]
    have n0 : ∀ (o : Bool) (l h r : Int) (md : Bool), k = 0 → o = false ∧ l = 0 ∧ h = 0 ∧ r = 0 ∧ md = false := fun _ _ _ _ _ z => absurd z (by omega)
    split
    · exact ⟨rfl, l0, l1, h0, h1, r0, r1, k1, k3, k5, n0 _ _ _ _ _⟩
    split
    · exact ⟨rfl, l0, l1, h0, h1, r0, r1, k1, k3, k5, n0 _ _ _ _ _⟩
    split
    · exact ⟨rfl, by dsimp only; omega, by dsimp only; omega, h0, h1, r0, r1, fun z => absurd z (by omega), fun z => absurd z (by omega), k5, n0 _ _ _ _ _⟩
    split
    · exact ⟨rfl, l0, l1, by dsimp only; omega, by dsimp only; omega, r0, r1, k1, k3, fun _ => by dsimp only; omega, n0 _ _ _ _ _⟩
    split
    · exact ⟨rfl, l0, l1, h0, h1, by dsimp only; omega, by dsimp only; omega, k1, k3, k5, n0 _ _ _ _ _⟩
    split
    · exact ⟨rfl, l0, l1, h0, h1, by dsimp only; omega, by dsimp only; omega, k1, k3, k5, n0 _ _ _ _ _⟩
    · exact ⟨rfl, hi⟩
  rw [if_neg c5]
  exact ⟨rfl, hi⟩
theorem banks (k : Int) (o : Bool) (l h r : Int) (md : Bool) (hk : k = 0 ∨ k = 1 ∨ k = 3 ∨ k = 5) (hi : inv k o l h r md) :
    bankF k l h md 1 ≤ (if k = 1 ∨ k = 3 then 127 else if k = 5 then 511 else 1) ∧ bankF k l h md 0 ≤ 96 ∧ (¬ k = 5 → ¬ bankF k l h md 1 = 0) := by
  obtain ⟨l0, l1, h0, h1, r0, r1, k1, k3, k5, k0⟩ := hi
  unfold bankF
  rw [least_is l ⟨l0, l1⟩, wrap64_in (x := l) (by omega), wrap64_in (x := h) (by omega), wrap64_in (x := 32 * h) (by omega), wrap64_in (x := 256 * h) (by omega), wrap64_in (x := 256 * h + l) (by omega)]
  have e : ∀ x : Int, 0 ≤ x → x ≤ 255 → wrap64 (32 * h + x) = 32 * h + x := fun x h1 h2 => wrap64_in (by omega)
  rw [e _ (by split <;> omega) (by split <;> omega)]
  have hl : (if l = 0 then 1 else l) ≥ 1 ∧ (if l = 0 then 1 else l) ≤ l + 1 ∧ ((if l = 0 then 1 else l) ≤ 1 ∨ (if l = 0 then 1 else l) ≤ l) := by split <;> omega
  generalize (if l = 0 then 1 else l) = x at hl
  rcases hk with rfl | rfl | rfl | rfl
  · simp
  · have := k1 rfl
    refine ⟨?_, ?_, fun _ => ?_⟩
    · simp; omega
    · cases md <;> simp <;> omega
    · simp; omega
  · have := k3 rfl
    refine ⟨?_, ?_, fun _ => ?_⟩
    · simp; omega
    · simp
    · simp; omega
  · have := k5 rfl
    refine ⟨?_, ?_, fun z => absurd rfl z⟩
    · simp; omega
    · simp
theorem j2_ok (n : Nat) (k : Int) (L : List S40) (i most : Int) (o : Bool) (l h r : Int) (md : Bool) (hk : k = 0 ∨ k = 1 ∨ k = 3 ∨ k = 5) (hi : inv k o l h r md) (hm : most = (if k = 1 ∨ k = 3 then 127 else if k = 5 then 511 else 1))
    (ih : whirligiglaw08_MapperKeeps.l0 n k L true (wrap64 (i + 1)) k o l h r md = some true) : whirligiglaw08_MapperKeeps.j2 (n + 1) k L true i most k o l h r md = some true := by
  obtain ⟨b1, b0, b7⟩ := banks k o l h r md hk hi
  rw [← hm] at b1
  obtain ⟨l0, l1, h0, h1, r0, r1, k1, k3, k5, k0⟩ := hi
  simp only [whirligiglaw08_MapperKeeps.j2, mapper_Bank.f, Option.bind_some]
  rw [show (16384 : Int) / 16384 = 1 from rfl, show (0 : Int) / 16384 = 0 from rfl, show (32767 : Int) / 16384 = 1 from rfl]
  rw [if_pos trivial, if_neg (by omega), if_neg (by omega)]
  by_cases c5 : k = 5
  · rw [if_pos c5, if_neg (show ¬ k = 0 by omega), if_neg (by omega), if_neg (by omega)]
    exact ih
  have hl7 : ¬ l > 127 := by
    rcases hk with e | e | e | e
    · have := (k0 e).2.1; omega
    · have := k1 e; omega
    · have := k3 e; omega
    · exact absurd e c5
  rw [if_neg c5, if_neg hl7]
  by_cases c0 : k = 0
  · obtain ⟨rfl, rfl, rfl, rfl, rfl⟩ := k0 c0
    rw [if_pos c0, if_neg (by subst c0; simp), if_neg (by omega), if_neg (by omega), if_neg (b7 c5)]
    exact ih
  · rw [if_neg c0, if_neg (by omega), if_neg (by omega), if_neg (b7 c5)]
    exact ih
theorem keeps_from (k : Int) (L : List S40) (hk : k = 0 ∨ k = 1 ∨ k = 3 ∨ k = 5) (hL : L.length ≤ 9223372036854775807) (hx : ∀ x ∈ L, (0 ≤ x.f0 ∧ x.f0 ≤ 65535) ∧ (0 ≤ x.f1 ∧ x.f1 ≤ 255)) :
    ∀ (j n i : Nat) (o : Bool) (l h r : Int) (md : Bool), i + j = L.length → 3 * j < n → inv k o l h r md → whirligiglaw08_MapperKeeps.l0 n k L true (i : Int) k o l h r md = some true := by
  intro j
  induction j with
  | zero =>
    intro n i o l h r md hj hn hi
    obtain ⟨n, rfl⟩ : ∃ q, n = q + 1 := ⟨n - 1, by omega⟩
    simp only [whirligiglaw08_MapperKeeps.l0]
    rw [if_neg (by omega)]
  | succ j ih =>
    intro n i o l h r md hj hn hi
    obtain ⟨n, rfl⟩ : ∃ q, n = q + 3 := ⟨n - 3, by omega⟩
    simp only [whirligiglaw08_MapperKeeps.l0]
    rw [if_pos (by omega), if_pos (by omega)]
    have hmem : rd_T40 L (i : Int) ∈ L := by
      unfold rd_T40
      have hlt : i < L.length := by omega
      have e : L.getD i z40 = L[i] := by simp [List.getD, List.getElem?_eq_getElem hlt]
      rw [Int.toNat_natCast, e]
      exact List.getElem_mem _
    obtain ⟨_, hv⟩ := hx _ hmem
    obtain ⟨w1, w2⟩ := write_inv k o l h r md (rd_T40 L (i : Int)).f0 (rd_T40 L (i : Int)).f1 hv hi
    unfold mapper_Write.f
    simp only [Option.bind_some]
    generalize writeF k o l h r md (rd_T40 L (i : Int)).f0 (rd_T40 L (i : Int)).f1 = s at w1 w2
    obtain ⟨s1, s2, s3, s4, s5, s6⟩ := s
    dsimp only at w1 w2 ⊢
    subst w1
    have hw : wrap64 ((i : Int) + 1) = ((i + 1 : Nat) : Int) := by unfold wrap64; omega
    have hI := ih n (i + 1) s2 s3 s4 s5 s6 (by omega) (by omega) w2
    rw [← hw] at hI
    rcases hk with rfl | rfl | rfl | rfl
    · rw [if_neg (by omega)]
      simp only [whirligiglaw08_MapperKeeps.j1]
      rw [if_neg (by decide), if_neg (by omega)]
      exact j2_ok n 0 L i 1 s2 s3 s4 s5 s6 (by simp) w2 rfl hI
    · rw [if_pos rfl]
      simp only [whirligiglaw08_MapperKeeps.j1]
      rw [if_pos (by decide)]
      exact j2_ok n 1 L i 127 s2 s3 s4 s5 s6 (by simp) w2 rfl hI
    · rw [if_neg (by omega)]
      simp only [whirligiglaw08_MapperKeeps.j1]
      rw [if_pos (by decide)]
      exact j2_ok n 3 L i 127 s2 s3 s4 s5 s6 (by simp) w2 rfl hI
    · rw [if_neg (by omega)]
      simp only [whirligiglaw08_MapperKeeps.j1]
      rw [if_neg (by decide), if_pos trivial]
      exact j2_ok n 5 L i 511 s2 s3 s4 s5 s6 (by simp) w2 rfl hI
theorem MapperKeeps (k : Int) (L : List S40) (w0 : (Lit.int .i64 k).wf = true) (hL : L.length ≤ 9223372036854775807) (hx : ∀ x ∈ L, (0 ≤ x.f0 ∧ x.f0 ≤ 65535) ∧ (0 ≤ x.f1 ∧ x.f1 ≤ 255)) : ∃ n, whirligiglaw08_MapperKeeps.f n k L = some true := by
  refine ⟨3 * L.length + 1, ?_⟩
  unfold whirligiglaw08_MapperKeeps.f
  rw [shown_is]
  simp only [Option.bind_some]
  by_cases hk : k = 0 ∨ k = 1 ∨ k = 3 ∨ k = 5
  · have hn : mapper_New.f k = some (k, false, 0, 0, 0, false, 0) := by
      unfold mapper_New.f
      rcases hk with rfl | rfl | rfl | rfl <;> rfl
    rw [hn]
    simp only [Option.bind_some, if_true]
    refine keeps_from k L hk hL hx L.length _ 0 false 0 0 0 false (by omega) (by omega) ⟨by omega, by omega, by omega, by omega, by omega, by omega, fun _ => by omega, fun _ => by omega, fun _ => by omega, fun _ => ⟨rfl, rfl, rfl, rfl, rfl⟩⟩
  · have hn : mapper_New.f k = some (0, false, 0, 0, 0, false, 4) := by
      unfold mapper_New.f
      rw [if_neg (by omega), if_neg (by omega), if_neg (by omega), if_neg (by omega)]
    rw [hn]
    rfl
end Go.Proofs.Ytkogdocpldfmnaa.Pure
