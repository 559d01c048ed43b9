/- header.Make by hand: the contract. -/
import Derived.Test.YtmlpijlnchnabaaHMakeNo
import Derived.Test.YtmlpijlnchnabaaHMakeOk
import Derived.Handy
namespace Go.Proofs.Ytmlpijlnchnabaa.Hand
open Go.RowKit
open Go.Proofs.Ytmlpijlnchnabaa.G
open Go.Proofs.YtmlpijlnchnabaaW.PrintWords Go.Proofs.YtmlpijlnchnabaaW.PrintLast Go.Proofs.YtmlpijlnchnabaaW.PrintMore
set_option linter.unusedVariables false
set_option linter.unusedSimpArgs false
/-- May a text stand as a title? -/
def titleOk (s : ByteArray) : Bool := (List.range s.size).all fun i => prb (bt s (i : Int))
theorem first_no (p : Nat → Bool) : ∀ n, (∃ i, i < n ∧ p i = false) → ∃ j, j < n ∧ (∀ i, i < j → p i = true) ∧ p j = false
  | 0, h => by obtain ⟨i, hi, _⟩ := h; omega
  | n + 1, h => by
    by_cases q : ∃ i, i < n ∧ p i = false
    · obtain ⟨j, hj, h1, h2⟩ := first_no p n q
      exact ⟨j, by omega, h1, h2⟩
    · obtain ⟨i, hi, hp⟩ := h
      have hin : i = n := by
        rcases Nat.lt_or_ge i n with z | z
        · exact absurd ⟨i, z, hp⟩ q
        · omega
      subst hin
      refine ⟨i, by omega, fun k hk => ?_, hp⟩
      cases e : p k with
      | true => rfl
      | false => exact absurd ⟨k, hk, e⟩ q
theorem titleOk_iff (s : ByteArray) : titleOk s = true ↔ ∀ i : Nat, i < s.size → prb (bt s (i : Int)) = true := by
  unfold titleOk
  rw [List.all_eq_true]
  constructor
  · intro h i hi; exact h i (List.mem_range.mpr hi)
  · intro h i hi; exact h i (List.mem_range.mp hi)
/-- The image but for the sum of the whole. -/
def makeL (s : ByteArray) (kd rom ram : Int) (l : List Int) : List Int := (splice (((((splice (splice (List.replicate (336 + l.length) 0) 256 (bytesOf ⟨#[0, 195, 80, 1]⟩)) 308 (bytesOf s)).set 327 kd).set 328 rom).set 329 ram).set 333 (sumTo (((((splice (splice (List.replicate (336 + l.length) 0) 256 (bytesOf ⟨#[0, 195, 80, 1]⟩)) 308 (bytesOf s)).set 327 kd).set 328 rom).set 329 ram).take 336) 25)) 336 l)
def header_Make.f (s : ByteArray) (kd rom ram : Int) (l : List Int) : Option (List Int × Int) :=
  if (s.size : Int) ≤ 16 then
    if titleOk s = true then
      if 0 ≤ kd ∧ kd ≤ 255 ∧ 0 ≤ rom then
        if (wareT kd).2.2.2.2 = true then
          if rom ≤ 8 ∧ ram ≤ 5 ∧ (l.length : Int) ≤ wrap64 (shl .i64 32768 rom - 336) then
            (header_Whole.f (337 + l.length) (makeL s kd rom ram l)).bind fun wv => some (((makeL s kd rom ram l).set 334 (wv / 256 % 256)).set 335 (wv % 256), 0)
          else some ([], 5)
        else some ([], 4)
      else none
    else some ([], 1)
  else some ([], 1)
theorem of_refused {f : FuncId} {args : Array Value} {w : World} {n : Int} (h : Calls Try.prog f args w fun e' w' => e' = .returned (.tuple #[.slice none 0 0, .int .i64 n]) ∧ Below w.heap.size w w') :
    Calls Try.prog f args w fun e w' => ∃ v0_ : Value, e = .returned (.tuple #[v0_, .int .i64 n]) ∧ Kd.R (Kd.int .u8) 5 w' w.heap.size (fun _ => True) v0_ [] ∧ Below w.heap.size w w' :=
  h.mono fun _ _ ⟨e, b⟩ => ⟨_, e, Kd.R_nil _ _ _ _ _, b⟩
theorem header_Make.calls (a0 : ByteArray) (a1 a2 a3 : Int) (A4 : Option Addr) (c4 : Nat) (l4 : List Int) (r1 : List Int) (r2 : Int) (w : World) (hr4 : Kd.C (Kd.int .u8) w A4 l4.length l4) (hc4 : l4.length ≤ c4) (h : header_Make.f a0 a1 a2 a3 l4 = some (r1, r2)) :
    Calls Try.prog 12 #[.string a0, .int .u8 a1, .int .u8 a2, .int .u8 a3, .slice A4 l4.length c4] w fun e w' => ∃ v0_ : Value, e = .returned (.tuple #[v0_, .int .i64 r2]) ∧ Kd.R (Kd.int .u8) 5 w' w.heap.size (fun _ => True) v0_ r1 ∧ Below w.heap.size w w' := by
  unfold header_Make.f at h
  by_cases hs : (a0.size : Int) ≤ 16
  case neg =>
    rw [if_neg hs] at h
    cases h
    exact of_refused (hmake_long a0 a1 a2 a3 A4 c4 l4 w hr4 hc4 hs)
  rw [if_pos hs] at h
  by_cases ht : titleOk a0 = true
  case neg =>
    rw [if_neg ht] at h
    cases h
    have hex : ∃ i, i < a0.size ∧ (fun i : Nat => prb (bt a0 (i : Int))) i = false := by
      refine Classical.byContradiction fun q => ht ((titleOk_iff a0).mpr fun i hi => ?_)
      cases e : prb (bt a0 (i : Int)) with
      | true => rfl
      | false => exact absurd ⟨i, hi, e⟩ q
    obtain ⟨j, hj, h1, h2⟩ := first_no _ _ hex
    exact of_refused (hmake_sign a0 a1 a2 a3 A4 c4 l4 w hr4 hc4 hs j (by omega) h1 h2)
  rw [if_pos ht] at h
  have hpr := (titleOk_iff a0).mp ht
  by_cases hk : 0 ≤ a1 ∧ a1 ≤ 255 ∧ 0 ≤ a2
  case neg => rw [if_neg hk] at h; cases h
  rw [if_pos hk] at h
  obtain ⟨k1, k2, k3⟩ := hk
  by_cases hok : (wareT a1).2.2.2.2 = true
  case neg =>
    rw [if_neg hok] at h
    cases h
    exact of_refused (hmake_kind a0 a1 a2 a3 A4 c4 l4 w hr4 hc4 hs hpr ⟨k1, k2⟩ (Bool.eq_false_iff.mpr hok))
  rw [if_pos hok] at h
  by_cases h8 : a2 ≤ 8
  case neg =>
    rw [if_neg (fun z => h8 z.1)] at h
    cases h
    exact of_refused (hmake_size_a a0 a1 a2 a3 A4 c4 l4 w hr4 hc4 hs hpr ⟨k1, k2⟩ hok (decide_eq_false h8))
  by_cases h5 : a3 ≤ 5
  case neg =>
    rw [if_neg (fun z => h5 z.2.1)] at h
    cases h
    exact of_refused (hmake_size_b a0 a1 a2 a3 A4 c4 l4 w hr4 hc4 hs hpr ⟨k1, k2⟩ hok (decide_eq_true h8) (decide_eq_false h5))
  by_cases hm : (l4.length : Int) ≤ wrap64 (shl .i64 32768 a2 - 336)
  case neg =>
    rw [if_neg (fun z => hm z.2.2)] at h
    cases h
    exact of_refused (hmake_size_c a0 a1 a2 a3 A4 c4 l4 w hr4 hc4 hs hpr ⟨k1, k2⟩ hok k3 (decide_eq_true h8) (decide_eq_true h5) (decide_eq_false hm))
  rw [if_pos ⟨h8, h5, hm⟩] at h
  obtain ⟨wv, hW, h⟩ := Option.bind_eq_some_iff.mp h
  cases h
  exact hmake_ok a0 a1 a2 a3 A4 c4 l4 w hr4 hc4 hs hpr ⟨k1, k2⟩ hok k3 (decide_eq_true h8) (decide_eq_true h5) (decide_eq_true hm) _ wv hW
end Go.Proofs.Ytmlpijlnchnabaa.Hand
