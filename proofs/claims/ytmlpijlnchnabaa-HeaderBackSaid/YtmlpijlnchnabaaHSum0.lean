/- header.sum by hand: 25 bytes of a head summed up. -/
import Derived.Test.YtmlpijlnchnabaaG0
import Derived.Deep.MidRow
import Derived.Handy
namespace Go.Proofs.Ytmlpijlnchnabaa.Hand
open Go.RowKit
open Go.Proofs.Ytmlpijlnchnabaa.G
open Go.Proofs.YtmlpijlnchnabaaW.PrintWords Go.Proofs.YtmlpijlnchnabaaW.PrintLast Go.Proofs.YtmlpijlnchnabaaW.PrintMore
set_option linter.unusedVariables false
set_option linter.unusedSimpArgs false
/-- The sum over the first bytes from 308 on. -/
def sumTo (l : List Int) : Nat → Int
  | 0 => 0
  | j + 1 => (sumTo l j - (rd l ((308 + j : Nat) : Int) + 1) % 256) % 256
set_option maxRecDepth 100000 in
set_option maxHeartbeats 4000000 in
theorem sum_main (A : Option Addr) (c : Nat) (l : List Int) (hl : 333 ≤ l.length) (w : World) (hr : Kd.C (Kd.int .u8) w A l.length l) (hc : l.length ≤ c) :
    Calls Try.prog 23 #[.slice A l.length c] w fun e' w' => e' = .returned (.int .u8 (sumTo l 25)) ∧ w' = w := by
  have hc3 : (333 : Int) ≤ c := by omega
  obtain ⟨ad, rfl, _⟩ := Kd.at_int hr 0 (by omega) (by omega)
  have HR := Aside0.mk hr
  have HL := Aside0.mk hl
  clear hr hl
  go_enter Try.func23, Try.ntmps23
  go_wp2_with fail
  go_loopw [3, 9] (fun x i w' => ∃ (j : Nat), i = .int .i64 j ∧ x = .int .u8 (sumTo l j) ∧ Aside0 (j ≤ 25 ∧ w' = w)) (fun _ i _ => 30 - (intOf i).toNat)
  case atStart => exact ⟨0, rfl, rfl, Aside0.mk ⟨by omega, rfl⟩⟩
  case round =>
    obtain ⟨j, rfl, rfl, HA⟩ := hrel
    obtain ⟨hj, rfl⟩ := HA.out
    clear HA
    by_cases hj2 : j = 25
    · subst hj2
      go_wp2
      go_ret
      exact ⟨rfl, rfl⟩
    · have hlt : (j : Int) < 25 := by omega
      obtain ⟨ad', ea, cb⟩ := Kd.at_int HR.out ((308 + j : Nat) : Int) (by omega) (by have := HL.out; omega)
      obtain rfl := Option.some.inj ea
      clear ea
      rw [Int.toNat_natCast] at cb
      have cb' : wr.cell? ⟨ad.block, ad.off + 308 + j, none⟩ = some (.int .u8 (rd l ((308 + j : Nat) : Int))) := by have := cb; simp only [Addr.add] at this; rw [Nat.add_assoc]; simpa using this
      go_wp2
      exact ⟨⟨j + 1, by simp, by simp [sumTo], Aside0.mk ⟨by omega, trivial⟩⟩, by simp [intOf]; omega⟩
def header_sum.f (l0 : List Int) : Option Int := if 333 ≤ l0.length then some (sumTo l0 25) else none
theorem header_sum.calls (A0 : Option Addr) (c0 : Nat) (l0 : List Int) (r : Int) (w : World) (hr0 : Kd.C (Kd.int .u8) w A0 l0.length l0) (hc0 : l0.length ≤ c0) (h : header_sum.f l0 = some r) :
    Calls Try.prog 23 #[.slice A0 l0.length c0] w fun e w' => e = .returned (.int .u8 r) ∧ w' = w := by
  unfold header_sum.f at h
  split at h
  · rename_i hl
    cases h
    exact sum_main A0 c0 l0 hl w hr0 hc0
  · cases h
end Go.Proofs.Ytmlpijlnchnabaa.Hand
