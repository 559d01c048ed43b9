/- header.Sum by hand: a head's sum, or the error of an image that is too short (a panic that is caught). -/
import Derived.Test.YtmlpijlnchnabaaHCatch
import Derived.Test.YtmlpijlnchnabaaHSum0
namespace Go.Proofs.Ytmlpijlnchnabaa.Hand
open Go.RowKit
open Go.Proofs.Ytmlpijlnchnabaa.G
open Go.Proofs.YtmlpijlnchnabaaW.PrintWords Go.Proofs.YtmlpijlnchnabaaW.PrintLast Go.Proofs.YtmlpijlnchnabaaW.PrintMore
set_option linter.unusedVariables false
set_option linter.unusedSimpArgs false
set_option maxRecDepth 100000 in
set_option maxHeartbeats 4000000 in
theorem hsum_ok (A : Option Addr) (c : Nat) (l : List Int) (hl : (336 : Int) ≤ l.length) (w : World) (hr : Kd.C (Kd.int .u8) w A l.length l) (hc : l.length ≤ c) :
    Calls Try.prog 14 #[.slice A l.length c] w fun e' w' => e' = .returned (.tuple #[.int .u8 (sumTo l 25), .int .i64 0]) ∧ Below w.heap.size w w' := by
  have hmf : ∀ (fn : Fn) (first cap : Array Value) (w : World), (Instr.makeFunc fn first cap).run Try.prog w = .ok (.func fn first cap) w := fun _ _ _ _ => rfl
  have HR := Aside0.mk hr
  clear hr
  go_enter_defers Try.func14, Try.ntmps14
  go_wp2_with (first | (go_at_call 23; (with_reducible refine (header_sum.calls A c l (sumTo l 25) _ (Kd.C_below HR.out (below_alloc (Below.refl _ _) _)) hc (by unfold header_sum.f; rw [if_pos (by omega)])).mono ?_); rintro e' w' ⟨rfl, rfl⟩) | (go_at_call 20; (with_reducible refine (need_ok 2 _).mono ?_); rintro e' w' ⟨rfl, rfl⟩))
  refine leaves_cons (f := 29) (args := #[.pointer (some ⟨w.heap.size, 0, none⟩)]) (by simp) (by simp [go_sem]) ?_
  refine (sum_idle ⟨w.heap.size, 0, none⟩ _).mono ?_
  rintro e u' w'' ⟨rfl, rfl, rfl⟩
  simp [Leaves, settle, results, Try.results14, go_sem]
  exact below_alloc (Below.refl _ _) _
set_option maxRecDepth 100000 in
set_option maxHeartbeats 4000000 in
theorem hsum_no (A : Option Addr) (c : Nat) (l : List Int) (hl : ¬ (336 : Int) ≤ l.length) (w : World) :
    Calls Try.prog 14 #[.slice A l.length c] w fun e' w' => e' = .returned (.tuple #[.int .u8 0, .int .i64 2]) ∧ Below w.heap.size w w' := by
  have hmf : ∀ (fn : Fn) (first cap : Array Value) (w : World), (Instr.makeFunc fn first cap).run Try.prog w = .ok (.func fn first cap) w := fun _ _ _ _ => rfl
  go_enter_defers Try.func14, Try.ntmps14
  go_wp2_with (first | (go_at_call 20; (with_reducible refine (need_no 2 _).mono ?_); rintro e' w' ⟨rfl, rfl⟩))
  refine leaves_cons (f := 29) (args := #[.pointer (some ⟨w.heap.size, 0, none⟩)]) (by simp) (by simp [go_sem]) ?_
  refine (sum_panicking ⟨w.heap.size, 0, none⟩ 0 2 [] _ ?_ ?_).mono ?_
  · simp [go_sem]
  · simp [go_sem]
  rintro e u' w'' ⟨rfl, rfl, rfl⟩
  simp [Leaves, settle, results, Try.results14, go_sem]
  exact below_alloc (Below.refl _ _) _
def header_Sum.f (l0 : List Int) : Option (Int × Int) := if (336 : Int) ≤ l0.length then some (sumTo l0 25, 0) else some (0, 2)
theorem header_Sum.calls (A0 : Option Addr) (c0 : Nat) (l0 : List Int) (r1 r2 : Int) (w : World) (hr0 : Kd.C (Kd.int .u8) w A0 l0.length l0) (hc0 : l0.length ≤ c0) (h : header_Sum.f l0 = some (r1, r2)) :
    Calls Try.prog 14 #[.slice A0 l0.length c0] w fun e w' => e = .returned (.tuple #[.int .u8 r1, .int .i64 r2]) ∧ Below w.heap.size w w' := by
  unfold header_Sum.f at h
  split at h
  · rename_i hl
    cases h
    exact hsum_ok A0 c0 l0 hl w hr0 hc0
  · rename_i hl
    cases h
    exact hsum_no A0 c0 l0 hl w
end Go.Proofs.Ytmlpijlnchnabaa.Hand
