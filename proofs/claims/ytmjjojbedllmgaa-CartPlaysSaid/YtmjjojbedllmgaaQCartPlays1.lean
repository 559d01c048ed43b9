/- What the proof of the statement CartPlays stands on, part 1. (Packed by pack.py out of this session's texts.) -/
import Derived.WalkKit
import Derived.Defers
import Derived.Recover
import Derived.WalkLawsBesides
import Derived.Handy
import Derived.Deep.MidRow
import Derived.BigRegion
import Derived.StillTailTactics
import Derived.Test.YtmjjojbedllmgaaQCartPlays0
set_option linter.unusedVariables false
set_option linter.unusedSimpArgs false
set_option maxRecDepth 100000
set_option maxHeartbeats 20000000
open Go.RowKit Go.Proofs.YtmjjojbedllmgaaW.PrintWords Go.Proofs.YtmjjojbedllmgaaW.PrintLast Go.Proofs.YtmjjojbedllmgaaW.PrintMore Go.Proofs.Ytmjjojbedllmgaa.G
namespace Go.Proofs.Ytmjjojbedllmgaa.Hand
theorem given_calls (n : Int) (w : World) : Calls Try.prog 54 #[.iface 26 (.int .i64 n)] w fun e w' => e = .returned (.int .i64 n) ∧ w' = w := by
 have hta : ∀ w : World, (Instr.typeAssert (.iface 26 (.int .i64 n)) 20 26 true).run Try.prog w = .ok (.tuple #[.int .i64 n, .bool true]) w := fun _ => by kernel_rfl
 go_enter Try.func54, Try.ntmps54
 go_wp2
 go_ret
 exact ⟨rfl, rfl⟩
theorem need_no (n : Int) (w : World) : Calls Try.prog 55 #[.bool false, .int .i64 n] w fun e w' => e = .panicked [{ v := .iface 26 (.int .i64 n), recovered := false }] ∧ w' = w := by
 go_enter Try.func55, Try.ntmps55
 go_wp2
 exact ⟨rfl, rfl, rfl⟩
theorem bu (n : Int) (w : World) : Calls Try.prog 55 #[.bool true, .int .i64 n] w fun e w' => e = .returned (.tuple #[]) ∧ w' = w := by
 go_enter Try.func55, Try.ntmps55
 go_wp2
 go_end0
 exact ⟨rfl, rfl⟩
theorem bX (p : Addr) (x n : Int) (older : List PanicEntry) (w : World) (hc : w.cell? p = some (.int .i64 x)) (hz : w.frozen? p = false) :
  CallsD Try.prog 53 #[.pointer (some p)] (.panicking ({ v := .iface 26 (.int .i64 n), recovered := false } :: older)) w fun e u' w' =>
   e = .returned (.tuple #[]) ∧ u' = .panicking ({ v := .iface 26 (.int .i64 n), recovered := true } :: older) ∧ w' = w.setCell p (.int .i64 n) := by
 refine callsD_of_wpS Try.func53 rfl fun c₀ cs hu => ?_
 apply wpS_seq
 apply wpS_region
 simp [wpOpsS, go_sem, recoverD, hu, Try.ntmps53, Exit.thenS]
 apply wpS_seq
 apply wpS_region
 simp [wpOpsS, go_sem, Exit.thenS]
 refine wpS_cond (t := true) (by simp [Act.eval, Array.replicate]) ?_
 simp only [if_true]
 apply wpS_region
 simp [wpOpsS, go_sem, hc, hz, bodyPostS, results, Try.results53]
 refine (given_calls n w).mono ?_
 rintro e w' ⟨rfl, rfl⟩
 simp [go_sem, hc, hz, bodyPostS, results]
theorem parse_idle (p : Addr) (w : World) :
  CallsD Try.prog 53 #[.pointer (some p)] .returning w fun e u' w' => e = .returned (.tuple #[]) ∧ u' = .returning ∧ w' = w := by
 refine callsD_of_wpS Try.func53 rfl fun c₀ cs hu => ?_
 apply wpS_seq
 apply wpS_region
 simp [wpOpsS, go_sem, recoverD, hu, Try.ntmps53, Exit.thenS]
 apply wpS_seq
 apply wpS_region
 simp [wpOpsS, go_sem, Exit.thenS]
 refine wpS_cond (t := false) (by simp [Act.eval, Array.replicate]) ?_
 simp only [Bool.false_eq_true, if_false]
 refine wpS_of_wp (wp_skip ?_)
 cases c₀
 simp_all [bodyPostS, results, Try.results53]
theorem cd (p : Addr) (x n : Int) (older : List PanicEntry) (w : World) (hc : w.cell? p = some (.int .i64 x)) (hz : w.frozen? p = false) :
  CallsD Try.prog 77 #[.pointer (some p)] (.panicking ({ v := .iface 26 (.int .i64 n), recovered := false } :: older)) w fun e u' w' =>
   e = .returned (.tuple #[]) ∧ u' = .panicking ({ v := .iface 26 (.int .i64 n), recovered := true } :: older) ∧ w' = w.setCell p (.int .i64 n) := by
 refine callsD_of_wpS Try.func77 rfl fun c₀ cs hu => ?_
 apply wpS_seq
 apply wpS_region
 simp [wpOpsS, go_sem, recoverD, hu, Try.ntmps77, Exit.thenS]
 apply wpS_seq
 apply wpS_region
 simp [wpOpsS, go_sem, Exit.thenS]
 refine wpS_cond (t := true) (by simp [Act.eval, Array.replicate]) ?_
 simp only [if_true]
 apply wpS_region
 simp [wpOpsS, go_sem, hc, hz, bodyPostS, results, Try.results77]
 refine (given_calls n w).mono ?_
 rintro e w' ⟨rfl, rfl⟩
 simp [go_sem, hc, hz, bodyPostS, results]
theorem make_idle (p : Addr) (w : World) :
  CallsD Try.prog 77 #[.pointer (some p)] .returning w fun e u' w' => e = .returned (.tuple #[]) ∧ u' = .returning ∧ w' = w := by
 refine callsD_of_wpS Try.func77 rfl fun c₀ cs hu => ?_
 apply wpS_seq
 apply wpS_region
 simp [wpOpsS, go_sem, recoverD, hu, Try.ntmps77, Exit.thenS]
 apply wpS_seq
 apply wpS_region
 simp [wpOpsS, go_sem, Exit.thenS]
 refine wpS_cond (t := false) (by simp [Act.eval, Array.replicate]) ?_
 simp only [Bool.false_eq_true, if_false]
 refine wpS_of_wp (wp_skip ?_)
 cases c₀
 simp_all [bodyPostS, results, Try.results77]
def sumTo (l : List Int) : Nat → Int
 | 0 => 0
 | j + 1 => (sumTo l j - (rd l ((308 + j : Nat) : Int) + 1) % 256) % 256
theorem sum_main (A : Option Addr) (c : Nat) (l : List Int) (hl : 333 ≤ l.length) (w : World) (hr : Kd.C (Kd.int .u8) w A l.length l) (hc : l.length ≤ c) :
  Calls Try.prog 58 #[.slice A l.length c] w fun e' w' => e' = .returned (.int .u8 (sumTo l 25)) ∧ w' = w := by
 have hc3 : (333 : Int) ≤ c := by omega
 obtain ⟨ad, rfl, _⟩ := Kd.at_int hr 0 (by omega) (by omega)
 have HR := ab.mk hr
 have HL := ab.mk hl
 clear hr hl
 go_enter Try.func58, Try.ntmps58
 go_wp2_with fail
 go_loopw [3, 9] (fun x i w' => ∃ (j : Nat), i = .int .i64 j ∧ x = .int .u8 (sumTo l j) ∧ ab (j ≤ 25 ∧ w' = w)) (fun _ i _ => 30 - (intOf i).toNat)
 case atStart => exact ⟨0, rfl, rfl, ab.mk ⟨by omega, rfl⟩⟩
 case round =>
  obtain ⟨j, rfl, rfl, HA⟩ := hrel
  obtain ⟨hj, rfl⟩ := HA.out
  clear HA
  by_cases hj2 : j = 25
  ·subst hj2
   go_wp2
   go_ret
   exact ⟨rfl, rfl⟩
  ·have hlt : (j : Int) < 25 := by omega
   obtain ⟨ad', ea, cb⟩ := Kd.at_int HR.out ((308 + j : Nat) : Int) (by omega) (by have := HL.out; omega)
   obtain rfl := Option.some.inj ea
   clear ea
   rw [Int.toNat_natCast] at cb
   have cb' : wr.cell? ⟨ad.block, ad.off + 308 + j, none⟩ = some (.int .u8 (rd l ((308 + j : Nat) : Int))) := by have := cb; simp only [Addr.add] at this; rw [Nat.add_assoc]; simpa using this
   go_wp2
   exact ⟨⟨j + 1, by simp, by simp [sumTo], ab.mk ⟨by omega, trivial⟩⟩, by simp [intOf]; omega⟩
def bU.f (l0 : List Int) : Option Int := if 333 ≤ l0.length then some (sumTo l0 25) else none
theorem bU.calls (A0 : Option Addr) (c0 : Nat) (l0 : List Int) (r : Int) (w : World) (hr0 : Kd.C (Kd.int .u8) w A0 l0.length l0) (hc0 : l0.length ≤ c0) (h : bU.f l0 = some r) :
  Calls Try.prog 58 #[.slice A0 l0.length c0] w fun e w' => e = .returned (.int .u8 r) ∧ w' = w := by
 unfold bU.f at h
 split at h
 ·rename_i hl
  cases h
  exact sum_main A0 c0 l0 hl w hr0 hc0
 ·cases h
def am (k : Int) : Int × Bool × Bool × Bool × Bool :=
 if k = 0 then (0, false, false, false, true) else
 if k = 1 then (1, false, false, false, true) else
 if k = 2 then (1, true, false, false, true) else
 if k = 3 then (1, true, true, false, true) else
 if k = 8 then (0, true, false, false, true) else
 if k = 9 then (0, true, true, false, true) else
 if k = 15 then (3, false, true, true, true) else
 if k = 16 then (3, true, true, true, true) else
 if k = 17 then (3, false, false, false, true) else
 if k = 18 then (3, true, false, false, true) else
 if k = 19 then (3, true, true, false, true) else
 if k = 25 then (5, false, false, false, true) else
 if k = 26 then (5, true, false, false, true) else
 if k = 27 then (5, true, true, false, true) else
 if k = 28 then (5, false, false, false, true) else
 if k = 29 then (5, true, false, false, true) else
 if k = 30 then (5, true, true, false, true) else
 (0, false, false, false, false)
theorem ware_0 (w : World) : Calls Try.prog 56 #[.int .u8 0] w fun e' w' => e' = .returned (.tuple #[.agg #[.string ⟨#[]⟩, .int .u8 0, .int .i64 0, .bool false, .bool false, .bool false, .int .i64 0, .int .i64 0, .int .u8 0, .int .u16 0], .bool true]) ∧ Below w.heap.size w w' := by
 go_enter Try.func56, Try.ntmps56
 go_wp2
 refine bodyPost_ret (v := .tuple #[.agg #[.string ⟨#[]⟩, .int .u8 0, .int .i64 0, .bool false, .bool false, .bool false, .int .i64 0, .int .i64 0, .int .u8 0, .int .u16 0], .bool true]) (by simp [results, Try.results56, go_sem]) rfl ⟨rfl, by go_grown⟩
theorem ware_1 (w : World) : Calls Try.prog 56 #[.int .u8 1] w fun e' w' => e' = .returned (.tuple #[.agg #[.string ⟨#[]⟩, .int .u8 1, .int .i64 1, .bool false, .bool false, .bool false, .int .i64 0, .int .i64 0, .int .u8 0, .int .u16 0], .bool true]) ∧ Below w.heap.size w w' := by
 go_enter Try.func56, Try.ntmps56
 go_wp2
 refine bodyPost_ret (v := .tuple #[.agg #[.string ⟨#[]⟩, .int .u8 1, .int .i64 1, .bool false, .bool false, .bool false, .int .i64 0, .int .i64 0, .int .u8 0, .int .u16 0], .bool true]) (by simp [results, Try.results56, go_sem]) rfl ⟨rfl, by go_grown⟩
theorem ware_2 (w : World) : Calls Try.prog 56 #[.int .u8 2] w fun e' w' => e' = .returned (.tuple #[.agg #[.string ⟨#[]⟩, .int .u8 2, .int .i64 1, .bool true, .bool false, .bool false, .int .i64 0, .int .i64 0, .int .u8 0, .int .u16 0], .bool true]) ∧ Below w.heap.size w w' := by
 go_enter Try.func56, Try.ntmps56
 go_wp2
 refine bodyPost_ret (v := .tuple #[.agg #[.string ⟨#[]⟩, .int .u8 2, .int .i64 1, .bool true, .bool false, .bool false, .int .i64 0, .int .i64 0, .int .u8 0, .int .u16 0], .bool true]) (by simp [results, Try.results56, go_sem]) rfl ⟨rfl, by go_grown⟩
theorem ware_3 (w : World) : Calls Try.prog 56 #[.int .u8 3] w fun e' w' => e' = .returned (.tuple #[.agg #[.string ⟨#[]⟩, .int .u8 3, .int .i64 1, .bool true, .bool true, .bool false, .int .i64 0, .int .i64 0, .int .u8 0, .int .u16 0], .bool true]) ∧ Below w.heap.size w w' := by
 go_enter Try.func56, Try.ntmps56
 go_wp2
 refine bodyPost_ret (v := .tuple #[.agg #[.string ⟨#[]⟩, .int .u8 3, .int .i64 1, .bool true, .bool true, .bool false, .int .i64 0, .int .i64 0, .int .u8 0, .int .u16 0], .bool true]) (by simp [results, Try.results56, go_sem]) rfl ⟨rfl, by go_grown⟩
theorem ware_8 (w : World) : Calls Try.prog 56 #[.int .u8 8] w fun e' w' => e' = .returned (.tuple #[.agg #[.string ⟨#[]⟩, .int .u8 8, .int .i64 0, .bool true, .bool false, .bool false, .int .i64 0, .int .i64 0, .int .u8 0, .int .u16 0], .bool true]) ∧ Below w.heap.size w w' := by
 go_enter Try.func56, Try.ntmps56
 go_wp2
 refine bodyPost_ret (v := .tuple #[.agg #[.string ⟨#[]⟩, .int .u8 8, .int .i64 0, .bool true, .bool false, .bool false, .int .i64 0, .int .i64 0, .int .u8 0, .int .u16 0], .bool true]) (by simp [results, Try.results56, go_sem]) rfl ⟨rfl, by go_grown⟩
theorem ware_9 (w : World) : Calls Try.prog 56 #[.int .u8 9] w fun e' w' => e' = .returned (.tuple #[.agg #[.string ⟨#[]⟩, .int .u8 9, .int .i64 0, .bool true, .bool true, .bool false, .int .i64 0, .int .i64 0, .int .u8 0, .int .u16 0], .bool true]) ∧ Below w.heap.size w w' := by
 go_enter Try.func56, Try.ntmps56
 go_wp2
 refine bodyPost_ret (v := .tuple #[.agg #[.string ⟨#[]⟩, .int .u8 9, .int .i64 0, .bool true, .bool true, .bool false, .int .i64 0, .int .i64 0, .int .u8 0, .int .u16 0], .bool true]) (by simp [results, Try.results56, go_sem]) rfl ⟨rfl, by go_grown⟩
theorem ware_15 (w : World) : Calls Try.prog 56 #[.int .u8 15] w fun e' w' => e' = .returned (.tuple #[.agg #[.string ⟨#[]⟩, .int .u8 15, .int .i64 3, .bool false, .bool true, .bool true, .int .i64 0, .int .i64 0, .int .u8 0, .int .u16 0], .bool true]) ∧ Below w.heap.size w w' := by
 go_enter Try.func56, Try.ntmps56
 go_wp2
 refine bodyPost_ret (v := .tuple #[.agg #[.string ⟨#[]⟩, .int .u8 15, .int .i64 3, .bool false, .bool true, .bool true, .int .i64 0, .int .i64 0, .int .u8 0, .int .u16 0], .bool true]) (by simp [results, Try.results56, go_sem]) rfl ⟨rfl, by go_grown⟩
theorem ware_16 (w : World) : Calls Try.prog 56 #[.int .u8 16] w fun e' w' => e' = .returned (.tuple #[.agg #[.string ⟨#[]⟩, .int .u8 16, .int .i64 3, .bool true, .bool true, .bool true, .int .i64 0, .int .i64 0, .int .u8 0, .int .u16 0], .bool true]) ∧ Below w.heap.size w w' := by
 go_enter Try.func56, Try.ntmps56
 go_wp2
 refine bodyPost_ret (v := .tuple #[.agg #[.string ⟨#[]⟩, .int .u8 16, .int .i64 3, .bool true, .bool true, .bool true, .int .i64 0, .int .i64 0, .int .u8 0, .int .u16 0], .bool true]) (by simp [results, Try.results56, go_sem]) rfl ⟨rfl, by go_grown⟩
theorem ware_17 (w : World) : Calls Try.prog 56 #[.int .u8 17] w fun e' w' => e' = .returned (.tuple #[.agg #[.string ⟨#[]⟩, .int .u8 17, .int .i64 3, .bool false, .bool false, .bool false, .int .i64 0, .int .i64 0, .int .u8 0, .int .u16 0], .bool true]) ∧ Below w.heap.size w w' := by
 go_enter Try.func56, Try.ntmps56
 go_wp2
 refine bodyPost_ret (v := .tuple #[.agg #[.string ⟨#[]⟩, .int .u8 17, .int .i64 3, .bool false, .bool false, .bool false, .int .i64 0, .int .i64 0, .int .u8 0, .int .u16 0], .bool true]) (by simp [results, Try.results56, go_sem]) rfl ⟨rfl, by go_grown⟩
theorem ware_18 (w : World) : Calls Try.prog 56 #[.int .u8 18] w fun e' w' => e' = .returned (.tuple #[.agg #[.string ⟨#[]⟩, .int .u8 18, .int .i64 3, .bool true, .bool false, .bool false, .int .i64 0, .int .i64 0, .int .u8 0, .int .u16 0], .bool true]) ∧ Below w.heap.size w w' := by
 go_enter Try.func56, Try.ntmps56
 go_wp2
 refine bodyPost_ret (v := .tuple #[.agg #[.string ⟨#[]⟩, .int .u8 18, .int .i64 3, .bool true, .bool false, .bool false, .int .i64 0, .int .i64 0, .int .u8 0, .int .u16 0], .bool true]) (by simp [results, Try.results56, go_sem]) rfl ⟨rfl, by go_grown⟩
theorem ware_19 (w : World) : Calls Try.prog 56 #[.int .u8 19] w fun e' w' => e' = .returned (.tuple #[.agg #[.string ⟨#[]⟩, .int .u8 19, .int .i64 3, .bool true, .bool true, .bool false, .int .i64 0, .int .i64 0, .int .u8 0, .int .u16 0], .bool true]) ∧ Below w.heap.size w w' := by
 go_enter Try.func56, Try.ntmps56
 go_wp2
 refine bodyPost_ret (v := .tuple #[.agg #[.string ⟨#[]⟩, .int .u8 19, .int .i64 3, .bool true, .bool true, .bool false, .int .i64 0, .int .i64 0, .int .u8 0, .int .u16 0], .bool true]) (by simp [results, Try.results56, go_sem]) rfl ⟨rfl, by go_grown⟩
theorem ware_25 (w : World) : Calls Try.prog 56 #[.int .u8 25] w fun e' w' => e' = .returned (.tuple #[.agg #[.string ⟨#[]⟩, .int .u8 25, .int .i64 5, .bool false, .bool false, .bool false, .int .i64 0, .int .i64 0, .int .u8 0, .int .u16 0], .bool true]) ∧ Below w.heap.size w w' := by
 go_enter Try.func56, Try.ntmps56
 go_wp2
 refine bodyPost_ret (v := .tuple #[.agg #[.string ⟨#[]⟩, .int .u8 25, .int .i64 5, .bool false, .bool false, .bool false, .int .i64 0, .int .i64 0, .int .u8 0, .int .u16 0], .bool true]) (by simp [results, Try.results56, go_sem]) rfl ⟨rfl, by go_grown⟩
theorem ware_26 (w : World) : Calls Try.prog 56 #[.int .u8 26] w fun e' w' => e' = .returned (.tuple #[.agg #[.string ⟨#[]⟩, .int .u8 26, .int .i64 5, .bool true, .bool false, .bool false, .int .i64 0, .int .i64 0, .int .u8 0, .int .u16 0], .bool true]) ∧ Below w.heap.size w w' := by
 go_enter Try.func56, Try.ntmps56
 go_wp2
 refine bodyPost_ret (v := .tuple #[.agg #[.string ⟨#[]⟩, .int .u8 26, .int .i64 5, .bool true, .bool false, .bool false, .int .i64 0, .int .i64 0, .int .u8 0, .int .u16 0], .bool true]) (by simp [results, Try.results56, go_sem]) rfl ⟨rfl, by go_grown⟩
theorem ware_27 (w : World) : Calls Try.prog 56 #[.int .u8 27] w fun e' w' => e' = .returned (.tuple #[.agg #[.string ⟨#[]⟩, .int .u8 27, .int .i64 5, .bool true, .bool true, .bool false, .int .i64 0, .int .i64 0, .int .u8 0, .int .u16 0], .bool true]) ∧ Below w.heap.size w w' := by
 go_enter Try.func56, Try.ntmps56
 go_wp2
 refine bodyPost_ret (v := .tuple #[.agg #[.string ⟨#[]⟩, .int .u8 27, .int .i64 5, .bool true, .bool true, .bool false, .int .i64 0, .int .i64 0, .int .u8 0, .int .u16 0], .bool true]) (by simp [results, Try.results56, go_sem]) rfl ⟨rfl, by go_grown⟩
theorem ware_28 (w : World) : Calls Try.prog 56 #[.int .u8 28] w fun e' w' => e' = .returned (.tuple #[.agg #[.string ⟨#[]⟩, .int .u8 28, .int .i64 5, .bool false, .bool false, .bool false, .int .i64 0, .int .i64 0, .int .u8 0, .int .u16 0], .bool true]) ∧ Below w.heap.size w w' := by
 go_enter Try.func56, Try.ntmps56
 go_wp2
 refine bodyPost_ret (v := .tuple #[.agg #[.string ⟨#[]⟩, .int .u8 28, .int .i64 5, .bool false, .bool false, .bool false, .int .i64 0, .int .i64 0, .int .u8 0, .int .u16 0], .bool true]) (by simp [results, Try.results56, go_sem]) rfl ⟨rfl, by go_grown⟩
theorem ware_29 (w : World) : Calls Try.prog 56 #[.int .u8 29] w fun e' w' => e' = .returned (.tuple #[.agg #[.string ⟨#[]⟩, .int .u8 29, .int .i64 5, .bool true, .bool false, .bool false, .int .i64 0, .int .i64 0, .int .u8 0, .int .u16 0], .bool true]) ∧ Below w.heap.size w w' := by
 go_enter Try.func56, Try.ntmps56
 go_wp2
 refine bodyPost_ret (v := .tuple #[.agg #[.string ⟨#[]⟩, .int .u8 29, .int .i64 5, .bool true, .bool false, .bool false, .int .i64 0, .int .i64 0, .int .u8 0, .int .u16 0], .bool true]) (by simp [results, Try.results56, go_sem]) rfl ⟨rfl, by go_grown⟩
theorem ware_30 (w : World) : Calls Try.prog 56 #[.int .u8 30] w fun e' w' => e' = .returned (.tuple #[.agg #[.string ⟨#[]⟩, .int .u8 30, .int .i64 5, .bool true, .bool true, .bool false, .int .i64 0, .int .i64 0, .int .u8 0, .int .u16 0], .bool true]) ∧ Below w.heap.size w w' := by
 go_enter Try.func56, Try.ntmps56
 go_wp2
 refine bodyPost_ret (v := .tuple #[.agg #[.string ⟨#[]⟩, .int .u8 30, .int .i64 5, .bool true, .bool true, .bool false, .int .i64 0, .int .i64 0, .int .u8 0, .int .u16 0], .bool true]) (by simp [results, Try.results56, go_sem]) rfl ⟨rfl, by go_grown⟩
theorem ware_no_a (k : Int) (h0 : (k == 0) = false) (h8 : (k == 8) = false) (h9 : (k == 9) = false) (g0 : decide (k ≥ 1) = true) (g1 : decide (k ≤ 3) = false) (g2 : decide (k ≥ 15) = false) (g4 : decide (k ≥ 25) = false) (w : World) : Calls Try.prog 56 #[.int .u8 k] w fun e' w' => e' = .returned (.tuple #[.agg #[.string ⟨#[]⟩, .int .u8 0, .int .i64 0, .bool false, .bool false, .bool false, .int .i64 0, .int .i64 0, .int .u8 0, .int .u16 0], .bool false]) ∧ Below w.heap.size w w' := by
 go_enter Try.func56, Try.ntmps56
 go_wp2
 refine bodyPost_ret (v := .tuple #[.agg #[.string ⟨#[]⟩, .int .u8 0, .int .i64 0, .bool false, .bool false, .bool false, .int .i64 0, .int .i64 0, .int .u8 0, .int .u16 0], .bool false]) (by simp [results, Try.results56, go_sem]) rfl ⟨rfl, by go_grown⟩
theorem ware_no_b (k : Int) (h0 : (k == 0) = false) (h8 : (k == 8) = false) (h9 : (k == 9) = false) (g0 : decide (k ≥ 1) = true) (g1 : decide (k ≤ 3) = false) (g2 : decide (k ≥ 15) = true) (g3 : decide (k ≤ 19) = false) (g4 : decide (k ≥ 25) = false) (w : World) : Calls Try.prog 56 #[.int .u8 k] w fun e' w' => e' = .returned (.tuple #[.agg #[.string ⟨#[]⟩, .int .u8 0, .int .i64 0, .bool false, .bool false, .bool false, .int .i64 0, .int .i64 0, .int .u8 0, .int .u16 0], .bool false]) ∧ Below w.heap.size w w' := by
 go_enter Try.func56, Try.ntmps56
 go_wp2
 refine bodyPost_ret (v := .tuple #[.agg #[.string ⟨#[]⟩, .int .u8 0, .int .i64 0, .bool false, .bool false, .bool false, .int .i64 0, .int .i64 0, .int .u8 0, .int .u16 0], .bool false]) (by simp [results, Try.results56, go_sem]) rfl ⟨rfl, by go_grown⟩
theorem ware_no_c (k : Int) (h0 : (k == 0) = false) (h8 : (k == 8) = false) (h9 : (k == 9) = false) (g0 : decide (k ≥ 1) = true) (g1 : decide (k ≤ 3) = false) (g2 : decide (k ≥ 15) = true) (g3 : decide (k ≤ 19) = false) (g4 : decide (k ≥ 25) = true) (g5 : decide (k ≤ 30) = false) (w : World) : Calls Try.prog 56 #[.int .u8 k] w fun e' w' => e' = .returned (.tuple #[.agg #[.string ⟨#[]⟩, .int .u8 0, .int .i64 0, .bool false, .bool false, .bool false, .int .i64 0, .int .i64 0, .int .u8 0, .int .u16 0], .bool false]) ∧ Below w.heap.size w w' := by
 go_enter Try.func56, Try.ntmps56
 go_wp2
 refine bodyPost_ret (v := .tuple #[.agg #[.string ⟨#[]⟩, .int .u8 0, .int .i64 0, .bool false, .bool false, .bool false, .int .i64 0, .int .i64 0, .int .u8 0, .int .u16 0], .bool false]) (by simp [results, Try.results56, go_sem]) rfl ⟨rfl, by go_grown⟩
theorem bL.calls (k : Int) (hk : 0 ≤ k ∧ k ≤ 255) (w : World) : Calls Try.prog 56 #[.int .u8 k] w fun e' w' => e' = .returned (.tuple #[.agg #[.string ⟨#[]⟩, .int .u8 (if (am k).2.2.2.2 = true then k else 0), .int .i64 (am k).1, .bool (am k).2.1, .bool (am k).2.2.1, .bool (am k).2.2.2.1, .int .i64 0, .int .i64 0, .int .u8 0, .int .u16 0], .bool (am k).2.2.2.2]) ∧ Below w.heap.size w w' := by
 by_cases c0 : k = 0
 ·subst c0; exact ware_0 w
 by_cases c1 : k = 1
 ·subst c1; exact ware_1 w
 by_cases c2 : k = 2
 ·subst c2; exact ware_2 w
 by_cases c3 : k = 3
 ·subst c3; exact ware_3 w
 by_cases c8 : k = 8
 ·subst c8; exact ware_8 w
 by_cases c9 : k = 9
 ·subst c9; exact ware_9 w
 by_cases c15 : k = 15
 ·subst c15; exact ware_15 w
 by_cases c16 : k = 16
 ·subst c16; exact ware_16 w
 by_cases c17 : k = 17
 ·subst c17; exact ware_17 w
 by_cases c18 : k = 18
 ·subst c18; exact ware_18 w
 by_cases c19 : k = 19
 ·subst c19; exact ware_19 w
 by_cases c25 : k = 25
 ·subst c25; exact ware_25 w
 by_cases c26 : k = 26
 ·subst c26; exact ware_26 w
 by_cases c27 : k = 27
 ·subst c27; exact ware_27 w
 by_cases c28 : k = 28
 ·subst c28; exact ware_28 w
 by_cases c29 : k = 29
 ·subst c29; exact ware_29 w
 by_cases c30 : k = 30
 ·subst c30; exact ware_30 w
 have e : am k = (0, false, false, false, false) := by unfold am; rw [if_neg c0, if_neg c1, if_neg c2, if_neg c3, if_neg c8, if_neg c9, if_neg c15, if_neg c16, if_neg c17, if_neg c18, if_neg c19, if_neg c25, if_neg c26, if_neg c27, if_neg c28, if_neg c29, if_neg c30]
 rw [e]
 have h0 : (k == 0) = false := beq_eq_false_iff_ne.mpr c0
 have h8 : (k == 8) = false := beq_eq_false_iff_ne.mpr c8
 have h9 : (k == 9) = false := beq_eq_false_iff_ne.mpr c9
 have g0 : decide (k ≥ 1) = true := decide_eq_true (by omega)
 have g1 : decide (k ≤ 3) = false := decide_eq_false (by omega)
 by_cases d15 : k ≥ 15
 ·by_cases d25 : k ≥ 25
  ·exact ware_no_c k h0 h8 h9 g0 g1 (decide_eq_true d15) (decide_eq_false (by omega)) (decide_eq_true d25) (decide_eq_false (by omega)) w
  ·exact ware_no_b k h0 h8 h9 g0 g1 (decide_eq_true d15) (decide_eq_false (by omega)) (decide_eq_false d25) w
 ·exact ware_no_a k h0 h8 h9 g0 g1 (decide_eq_false d15) (decide_eq_false (by omega)) w
end Go.Proofs.Ytmjjojbedllmgaa.Hand
namespace Go.Proofs.Ytmjjojbedllmgaa.G
def bH.f (a0 : Int) : Option (Int) := if 0 ≤ a0 then (some (shl .i64 32768 a0)) else (none)
theorem bH.calls (a0 : Int) (r : Int) (w : World) (h : bH.f a0 = some r) :
  Calls Try.prog 57 #[.int .u8 a0] w fun e w' => e = .returned (.int .i64 r) ∧ aM w w' := by
 have H : (if 0 ≤ a0 then (some (shl .i64 32768 a0)) else (none)) = some r := h
 clear h
 by_cases c2 : 0 ≤ a0
 ·rw [if_pos c2] at H
  have c2b0 := eq_true c2
  have c2b1 : decide (0 ≤ a0) = true := decide_eq_true c2
  clear c2
  obtain ⟨ji3, hji3⟩ : ∃ j_ : Int, (shl .i64 32768 a0) = j_ := ⟨_, rfl⟩
  replace H : (some ji3) = some r := by first | (rw [hji3] at H; exact H) | (simp only [hji3] at H ⊢; exact H)
  have hji3_ : (IntKind.i64.wrap (32768 * 2 ^ min a0.toNat 64)) = ji3 := hji3
  have hji3z : a0 ≤ 64 → (IntKind.i64.wrap (32768 * 2 ^ a0.toNat)) = ji3 := shl_small hji3
  have hji3y : (wrap64 (32768 * 2 ^ min a0.toNat 64)) = ji3 := (aQ _).symm.trans hji3_
  have hji3x : a0 ≤ 64 → (wrap64 (32768 * 2 ^ a0.toNat)) = ji3 := fun h_ => (aQ _).symm.trans (hji3z h_)
  obtain rfl := Option.some.inj H
  go_enter Try.func57, Try.ntmps57
  go_wp2
  go_ret
  exact ⟨by first | rfl | (simp; done) | (simp only [← hji3] <;> (first | rfl | simp)) | (simp [*]; done), by repeat (first | exact aM.refl _ | apply aM.step)⟩
 ·rw [if_neg c2] at H
  exact absurd H (by simp)
def bj.f (a0 : Int) : Option (Bool) := if a0 ≥ 32 then (some (decide (a0 ≤ 126))) else (some false)
theorem bj.calls (a0 : Int) (r : Bool) (w : World) (h : bj.f a0 = some r) :
  Calls Try.prog 59 #[.int .u8 a0] w fun e w' => e = .returned (.bool r) ∧ aM w w' := by
 have H : (if a0 ≥ 32 then (some (decide (a0 ≤ 126))) else (some false)) = some r := h
 clear h
 by_cases c2 : a0 ≥ 32
 ·rw [if_pos c2] at H
  have c2b0 : decide (32 ≤ a0) = true := decide_eq_true c2
  clear c2
  obtain rfl := Option.some.inj H
  go_enter Try.func59, Try.ntmps59
  go_wp2
  go_ret
  exact ⟨by first | rfl | (simp; done) | (simp [*]; done), by repeat (first | exact aM.refl _ | apply aM.step)⟩
 ·rw [if_neg c2] at H
  have c2b0 : decide (32 ≤ a0) = false := decide_eq_false c2
  clear c2
  obtain rfl := Option.some.inj H
  go_enter Try.func59, Try.ntmps59
  go_wp2
  go_ret
  exact ⟨by first | rfl | (simp; done) | (simp [*]; done), by repeat (first | exact aM.refl _ | apply aM.step)⟩
end Go.Proofs.Ytmjjojbedllmgaa.G
namespace Go.Proofs.Ytmjjojbedllmgaa.Hand
theorem hparse_kind (A : Option Addr) (c : Nat) (l : List Int) (hl : 336 ≤ l.length) (w : World) (hr : Kd.C (Kd.int .u8) w A l.length l) (hc : l.length ≤ c) (hk : 0 ≤ rd l 327 ∧ rd l 327 ≤ 255) (hok : (am (rd l 327)).2.2.2.2 = false) :
  Calls Try.prog 28 #[.slice A l.length c] w fun e' w' => e' = .returned (.tuple #[.agg #[.string ⟨#[]⟩, .int .u8 0, .int .i64 0, .bool false, .bool false, .bool false, .int .i64 0, .int .i64 0, .int .u8 0, .int .u16 0], .int .i64 4]) ∧ Below w.heap.size w w' := by
 have hmf : ∀ (fn : Fn) (first cap : Array Value) (w : World), (Instr.makeFunc fn first cap).run Try.prog w = .ok (.func fn first cap) w := fun _ _ _ _ => rfl
 obtain ⟨ad, rfl, _⟩ := Kd.at_int hr 0 (by omega) (by omega)
 have HR := ab.mk hr
 have hli : (336 : Int) ≤ l.length := by omega
 have hci : (336 : Int) ≤ c := by omega
 clear hr
 go_enter_defers Try.func28, Try.ntmps28
 go_wp2_with fail
 have z0 := ah (aC w (.cells #[.string ⟨#[]⟩, .int .u8 0, .int .i64 0, .bool false, .bool false, .bool false, .int .i64 0, .int .i64 0, .int .u8 0, .int .u16 0] 30)) (.cells #[.int .i64 0] 26)
 have z1 := heap_alloc_new (w.alloc (.cells #[.string ⟨#[]⟩, .int .u8 0, .int .i64 0, .bool false, .bool false, .bool false, .int .i64 0, .int .i64 0, .int .u8 0, .int .u16 0] 30)) (.cells #[.int .i64 0] 26)
 rw [show (w.alloc (.cells #[.string ⟨#[]⟩, .int .u8 0, .int .i64 0, .bool false, .bool false, .bool false, .int .i64 0, .int .i64 0, .int .u8 0, .int .u16 0] 30)).heap.size = w.heap.size + 1 by simp] at z1
 have z2 := ac (ac (Below.refl w.heap.size w) (.cells #[.string ⟨#[]⟩, .int .u8 0, .int .i64 0, .bool false, .bool false, .bool false, .int .i64 0, .int .i64 0, .int .u8 0, .int .u16 0] 30)) (.cells #[.int .i64 0] 26)
 generalize (w.alloc (.cells #[.string ⟨#[]⟩, .int .u8 0, .int .i64 0, .bool false, .bool false, .bool false, .int .i64 0, .int .i64 0, .int .u8 0, .int .u16 0] 30)).alloc (.cells #[.int .i64 0] 26) = W0 at z0 z1 z2 ⊢
 refine (bu 2 _).mono ?_
 rintro e' w' ⟨rfl, hw⟩
 replace hw := hw.symm
 subst hw
 obtain ⟨ad', ea, c327⟩ := Kd.at_int (Kd.C_below HR.out z2) 327 (by omega) (by omega)
 obtain rfl := Option.some.inj ea
 clear ea
 replace c327 : W0.cell? ⟨ad.block, ad.off + 327, none⟩ = some (.int .u8 (rd l 327)) := c327
 go_wp2_with fail
 refine (bL.calls (rd l 327) hk _).mono ?_
 rintro e' w1 ⟨rfl, hb⟩
 have B0 := ab.mk (af z0 hb)
 have B1 := ab.mk (af z1 hb)
 have B2 := ab.mk (Below.trans z2 (hb.mono z2.size))
 clear z0 z1 z2 hb c327
 rw [hok]
 go_wp2_with fail
 refine (need_no 4 _).mono ?_
 rintro e' w' ⟨rfl, rfl⟩
 have C0 := ah B0.out (.cells #[.string ⟨#[]⟩, .int .u8 0, .int .i64 (am (rd l 327)).1, .bool (am (rd l 327)).2.1, .bool (am (rd l 327)).2.2.1, .bool (am (rd l 327)).2.2.2.1, .int .i64 0, .int .i64 0, .int .u8 0, .int .u16 0] 30)
 have C1 := ah B1.out (.cells #[.string ⟨#[]⟩, .int .u8 0, .int .i64 (am (rd l 327)).1, .bool (am (rd l 327)).2.1, .bool (am (rd l 327)).2.2.1, .bool (am (rd l 327)).2.2.2.1, .int .i64 0, .int .i64 0, .int .u8 0, .int .u16 0] 30)
 have C2 := ac B2.out (.cells #[.string ⟨#[]⟩, .int .u8 0, .int .i64 (am (rd l 327)).1, .bool (am (rd l 327)).2.1, .bool (am (rd l 327)).2.2.1, .bool (am (rd l 327)).2.2.2.1, .int .i64 0, .int .i64 0, .int .u8 0, .int .u16 0] 30)
 generalize w1.alloc (.cells #[.string ⟨#[]⟩, .int .u8 0, .int .i64 (am (rd l 327)).1, .bool (am (rd l 327)).2.1, .bool (am (rd l 327)).2.2.1, .bool (am (rd l 327)).2.2.2.1, .int .i64 0, .int .i64 0, .int .u8 0, .int .u16 0] 30) = W1 at C0 C1 C2 ⊢
 refine leaves_cons (f := 53) (args := #[.pointer (some ⟨w.heap.size + 1, 0, none⟩)]) (by simp) (by simp [go_sem]) ?_
 refine (bX ⟨w.heap.size + 1, 0, none⟩ 0 4 [] _ ((aa (C1) 0).trans rfl) (ae (C1) 0)).mono ?_
 rintro e u' w'' ⟨rfl, rfl, rfl⟩
 have m0 : ((W1).setCell ⟨w.heap.size + 1, 0, none⟩ (.int .i64 4)).heap[w.heap.size]? = some (.cells #[.string ⟨#[]⟩, .int .u8 0, .int .i64 0, .bool false, .bool false, .bool false, .int .i64 0, .int .i64 0, .int .u8 0, .int .u16 0] 30 (0, 0)) := al (C0) (by simp) _
 have m1 : ((W1).setCell ⟨w.heap.size + 1, 0, none⟩ (.int .i64 4)).heap[w.heap.size + 1]? = some (.cells #[.int .i64 4] 26 (0, 0)) := an (C1) 0 _ rfl
 have m2 : Below w.heap.size w ((W1).setCell ⟨w.heap.size + 1, 0, none⟩ (.int .i64 4)) := ag (C2) (Nat.le_succ _)
 generalize ((W1).setCell ⟨w.heap.size + 1, 0, none⟩ (.int .i64 4)) = Y at m0 m1 m2 ⊢
 have u0 : Y.cell? ⟨w.heap.size, 0, none⟩ = some (.string ⟨#[]⟩) := (aa m0 0).trans rfl
 have u1 : Y.cell? ⟨w.heap.size, 1, none⟩ = some (.int .u8 0) := (aa m0 1).trans rfl
 have u2 : Y.cell? ⟨w.heap.size, 2, none⟩ = some (.int .i64 0) := (aa m0 2).trans rfl
 have u3 : Y.cell? ⟨w.heap.size, 3, none⟩ = some (.bool false) := (aa m0 3).trans rfl
 have u4 : Y.cell? ⟨w.heap.size, 4, none⟩ = some (.bool false) := (aa m0 4).trans rfl
 have u5 : Y.cell? ⟨w.heap.size, 5, none⟩ = some (.bool false) := (aa m0 5).trans rfl
 have u6 : Y.cell? ⟨w.heap.size, 6, none⟩ = some (.int .i64 0) := (aa m0 6).trans rfl
 have u7 : Y.cell? ⟨w.heap.size, 7, none⟩ = some (.int .i64 0) := (aa m0 7).trans rfl
 have u8 : Y.cell? ⟨w.heap.size, 8, none⟩ = some (.int .u8 0) := (aa m0 8).trans rfl
 have u9 : Y.cell? ⟨w.heap.size, 9, none⟩ = some (.int .u16 0) := (aa m0 9).trans rfl
 have v0 : Y.cell? ⟨w.heap.size + 1, 0, none⟩ = some (.int .i64 4) := (aa m1 0).trans rfl
 simp [Leaves, settle, results, Try.results28, go_sem, u0, u1, u2, u3, u4, u5, u6, u7, u8, u9, v0, m2]
theorem hparse_size_a (A : Option Addr) (c : Nat) (l : List Int) (hl : 336 ≤ l.length) (w : World) (hr : Kd.C (Kd.int .u8) w A l.length l) (hc : l.length ≤ c) (hk : 0 ≤ rd l 327 ∧ rd l 327 ≤ 255) (hok : (am (rd l 327)).2.2.2.2 = true) (h8 : decide (rd l 328 ≤ 8) = false) :
  Calls Try.prog 28 #[.slice A l.length c] w fun e' w' => e' = .returned (.tuple #[.agg #[.string ⟨#[]⟩, .int .u8 0, .int .i64 0, .bool false, .bool false, .bool false, .int .i64 0, .int .i64 0, .int .u8 0, .int .u16 0], .int .i64 5]) ∧ Below w.heap.size w w' := by
 have hmf : ∀ (fn : Fn) (first cap : Array Value) (w : World), (Instr.makeFunc fn first cap).run Try.prog w = .ok (.func fn first cap) w := fun _ _ _ _ => rfl
 obtain ⟨ad, rfl, _⟩ := Kd.at_int hr 0 (by omega) (by omega)
 have HR := ab.mk hr
 have hli : (336 : Int) ≤ l.length := by omega
 have hci : (336 : Int) ≤ c := by omega
 clear hr
 go_enter_defers Try.func28, Try.ntmps28
 go_wp2_with fail
 have z0 := ah (aC w (.cells #[.string ⟨#[]⟩, .int .u8 0, .int .i64 0, .bool false, .bool false, .bool false, .int .i64 0, .int .i64 0, .int .u8 0, .int .u16 0] 30)) (.cells #[.int .i64 0] 26)
 have z1 := heap_alloc_new (w.alloc (.cells #[.string ⟨#[]⟩, .int .u8 0, .int .i64 0, .bool false, .bool false, .bool false, .int .i64 0, .int .i64 0, .int .u8 0, .int .u16 0] 30)) (.cells #[.int .i64 0] 26)
 rw [show (w.alloc (.cells #[.string ⟨#[]⟩, .int .u8 0, .int .i64 0, .bool false, .bool false, .bool false, .int .i64 0, .int .i64 0, .int .u8 0, .int .u16 0] 30)).heap.size = w.heap.size + 1 by simp] at z1
 have z2 := ac (ac (Below.refl w.heap.size w) (.cells #[.string ⟨#[]⟩, .int .u8 0, .int .i64 0, .bool false, .bool false, .bool false, .int .i64 0, .int .i64 0, .int .u8 0, .int .u16 0] 30)) (.cells #[.int .i64 0] 26)
 generalize (w.alloc (.cells #[.string ⟨#[]⟩, .int .u8 0, .int .i64 0, .bool false, .bool false, .bool false, .int .i64 0, .int .i64 0, .int .u8 0, .int .u16 0] 30)).alloc (.cells #[.int .i64 0] 26) = W0 at z0 z1 z2 ⊢
 refine (bu 2 _).mono ?_
 rintro e' w' ⟨rfl, hw⟩
 replace hw := hw.symm
 subst hw
 obtain ⟨ad', ea, c327⟩ := Kd.at_int (Kd.C_below HR.out z2) 327 (by omega) (by omega)
 obtain rfl := Option.some.inj ea
 clear ea
 replace c327 : W0.cell? ⟨ad.block, ad.off + 327, none⟩ = some (.int .u8 (rd l 327)) := c327
 go_wp2_with fail
 refine (bL.calls (rd l 327) hk _).mono ?_
 rintro e' w1 ⟨rfl, hb⟩
 have B0 := ab.mk (af z0 hb)
 have B1 := ab.mk (af z1 hb)
 have B2 := ab.mk (Below.trans z2 (hb.mono z2.size))
 clear z0 z1 z2 hb c327
 rw [hok]
 go_wp2_with fail
 refine (bu 4 _).mono ?_
 rintro e' w' ⟨rfl, rfl⟩
 have hg : w.heap.size + 1 < w1.heap.size := aZ B1.out
 have C0 := ab.mk (ah B0.out (.cells #[.string ⟨#[]⟩, .int .u8 (rd l 327), .int .i64 (am (rd l 327)).1, .bool (am (rd l 327)).2.1, .bool (am (rd l 327)).2.2.1, .bool (am (rd l 327)).2.2.2.1, .int .i64 0, .int .i64 0, .int .u8 0, .int .u16 0] 30))
 have C1 := ab.mk (ah B1.out (.cells #[.string ⟨#[]⟩, .int .u8 (rd l 327), .int .i64 (am (rd l 327)).1, .bool (am (rd l 327)).2.1, .bool (am (rd l 327)).2.2.1, .bool (am (rd l 327)).2.2.2.1, .int .i64 0, .int .i64 0, .int .u8 0, .int .u16 0] 30))
 have C2 := ab.mk (ac B2.out (.cells #[.string ⟨#[]⟩, .int .u8 (rd l 327), .int .i64 (am (rd l 327)).1, .bool (am (rd l 327)).2.1, .bool (am (rd l 327)).2.2.1, .bool (am (rd l 327)).2.2.2.1, .int .i64 0, .int .i64 0, .int .u8 0, .int .u16 0] 30))
 have C3 := ab.mk (heap_alloc_new w1 (.cells #[.string ⟨#[]⟩, .int .u8 (rd l 327), .int .i64 (am (rd l 327)).1, .bool (am (rd l 327)).2.1, .bool (am (rd l 327)).2.2.1, .bool (am (rd l 327)).2.2.2.1, .int .i64 0, .int .i64 0, .int .u8 0, .int .u16 0] 30))
 generalize w1.alloc (.cells #[.string ⟨#[]⟩, .int .u8 (rd l 327), .int .i64 (am (rd l 327)).1, .bool (am (rd l 327)).2.1, .bool (am (rd l 327)).2.2.1, .bool (am (rd l 327)).2.2.2.1, .int .i64 0, .int .i64 0, .int .u8 0, .int .u16 0] 30) = W1 at C0 C1 C2 C3 ⊢
 generalize w1.heap.size = gx at hg C3 ⊢
 clear B0 B1 B2
 dsimp only
 obtain ⟨ad', ea, c328⟩ := Kd.at_int (Kd.C_below HR.out C2.out) 328 (by omega) (by omega)
 obtain rfl := Option.some.inj ea
 clear ea
 replace c328 : W1.cell? ⟨ad.block, ad.off + 328, none⟩ = some (.int .u8 (rd l 328)) := c328
 obtain ⟨ad', ea, c329⟩ := Kd.at_int (Kd.C_below HR.out C2.out) 329 (by omega) (by omega)
 obtain rfl := Option.some.inj ea
 clear ea
 replace c329 : W1.cell? ⟨ad.block, ad.off + 329, none⟩ = some (.int .u8 (rd l 329)) := c329
 go_wp2_with fail
 go_quiet (fail)
 go_wp2_with fail
 refine (need_no 5 _).mono ?_
 rintro e' w' ⟨rfl, rfl⟩
 have D0 := au (C0.out) nq
 have D1 := au (C1.out) nq
 have D2 := ai C2.out nq
 generalize W1.drewN nq = W2 at D0 D1 D2 ⊢
 refine leaves_cons (f := 53) (args := #[.pointer (some ⟨w.heap.size + 1, 0, none⟩)]) (by simp) (by simp [go_sem]) ?_
 refine (bX ⟨w.heap.size + 1, 0, none⟩ 0 5 [] _ ((aa (D1) 0).trans rfl) (ae (D1) 0)).mono ?_
 rintro e u' w'' ⟨rfl, rfl, rfl⟩
 have m0 : ((W2).setCell ⟨w.heap.size + 1, 0, none⟩ (.int .i64 5)).heap[w.heap.size]? = some (.cells #[.string ⟨#[]⟩, .int .u8 0, .int .i64 0, .bool false, .bool false, .bool false, .int .i64 0, .int .i64 0, .int .u8 0, .int .u16 0] 30 (0, 0)) := al (D0) (by simp) _
 have m1 : ((W2).setCell ⟨w.heap.size + 1, 0, none⟩ (.int .i64 5)).heap[w.heap.size + 1]? = some (.cells #[.int .i64 5] 26 (0, 0)) := an (D1) 0 _ rfl
 have m2 : Below w.heap.size w ((W2).setCell ⟨w.heap.size + 1, 0, none⟩ (.int .i64 5)) := ag (D2) (Nat.le_succ _)
 generalize ((W2).setCell ⟨w.heap.size + 1, 0, none⟩ (.int .i64 5)) = Y at m0 m1 m2 ⊢
 have u0 : Y.cell? ⟨w.heap.size, 0, none⟩ = some (.string ⟨#[]⟩) := (aa m0 0).trans rfl
 have u1 : Y.cell? ⟨w.heap.size, 1, none⟩ = some (.int .u8 0) := (aa m0 1).trans rfl
 have u2 : Y.cell? ⟨w.heap.size, 2, none⟩ = some (.int .i64 0) := (aa m0 2).trans rfl
 have u3 : Y.cell? ⟨w.heap.size, 3, none⟩ = some (.bool false) := (aa m0 3).trans rfl
 have u4 : Y.cell? ⟨w.heap.size, 4, none⟩ = some (.bool false) := (aa m0 4).trans rfl
 have u5 : Y.cell? ⟨w.heap.size, 5, none⟩ = some (.bool false) := (aa m0 5).trans rfl
 have u6 : Y.cell? ⟨w.heap.size, 6, none⟩ = some (.int .i64 0) := (aa m0 6).trans rfl
 have u7 : Y.cell? ⟨w.heap.size, 7, none⟩ = some (.int .i64 0) := (aa m0 7).trans rfl
 have u8 : Y.cell? ⟨w.heap.size, 8, none⟩ = some (.int .u8 0) := (aa m0 8).trans rfl
 have u9 : Y.cell? ⟨w.heap.size, 9, none⟩ = some (.int .u16 0) := (aa m0 9).trans rfl
 have v0 : Y.cell? ⟨w.heap.size + 1, 0, none⟩ = some (.int .i64 5) := (aa m1 0).trans rfl
 simp [Leaves, settle, results, Try.results28, go_sem, u0, u1, u2, u3, u4, u5, u6, u7, u8, u9, v0, m2]
theorem hparse_size_b (A : Option Addr) (c : Nat) (l : List Int) (hl : 336 ≤ l.length) (w : World) (hr : Kd.C (Kd.int .u8) w A l.length l) (hc : l.length ≤ c) (hk : 0 ≤ rd l 327 ∧ rd l 327 ≤ 255) (hok : (am (rd l 327)).2.2.2.2 = true) (h8 : decide (rd l 328 ≤ 8) = true) (h5 : decide (rd l 329 ≤ 5) = false) :
  Calls Try.prog 28 #[.slice A l.length c] w fun e' w' => e' = .returned (.tuple #[.agg #[.string ⟨#[]⟩, .int .u8 0, .int .i64 0, .bool false, .bool false, .bool false, .int .i64 0, .int .i64 0, .int .u8 0, .int .u16 0], .int .i64 5]) ∧ Below w.heap.size w w' := by
 have hmf : ∀ (fn : Fn) (first cap : Array Value) (w : World), (Instr.makeFunc fn first cap).run Try.prog w = .ok (.func fn first cap) w := fun _ _ _ _ => rfl
 obtain ⟨ad, rfl, _⟩ := Kd.at_int hr 0 (by omega) (by omega)
 have HR := ab.mk hr
 have hli : (336 : Int) ≤ l.length := by omega
 have hci : (336 : Int) ≤ c := by omega
 clear hr
 go_enter_defers Try.func28, Try.ntmps28
 go_wp2_with fail
 have z0 := ah (aC w (.cells #[.string ⟨#[]⟩, .int .u8 0, .int .i64 0, .bool false, .bool false, .bool false, .int .i64 0, .int .i64 0, .int .u8 0, .int .u16 0] 30)) (.cells #[.int .i64 0] 26)
 have z1 := heap_alloc_new (w.alloc (.cells #[.string ⟨#[]⟩, .int .u8 0, .int .i64 0, .bool false, .bool false, .bool false, .int .i64 0, .int .i64 0, .int .u8 0, .int .u16 0] 30)) (.cells #[.int .i64 0] 26)
 rw [show (w.alloc (.cells #[.string ⟨#[]⟩, .int .u8 0, .int .i64 0, .bool false, .bool false, .bool false, .int .i64 0, .int .i64 0, .int .u8 0, .int .u16 0] 30)).heap.size = w.heap.size + 1 by simp] at z1
 have z2 := ac (ac (Below.refl w.heap.size w) (.cells #[.string ⟨#[]⟩, .int .u8 0, .int .i64 0, .bool false, .bool false, .bool false, .int .i64 0, .int .i64 0, .int .u8 0, .int .u16 0] 30)) (.cells #[.int .i64 0] 26)
 generalize (w.alloc (.cells #[.string ⟨#[]⟩, .int .u8 0, .int .i64 0, .bool false, .bool false, .bool false, .int .i64 0, .int .i64 0, .int .u8 0, .int .u16 0] 30)).alloc (.cells #[.int .i64 0] 26) = W0 at z0 z1 z2 ⊢
 refine (bu 2 _).mono ?_
 rintro e' w' ⟨rfl, hw⟩
 replace hw := hw.symm
 subst hw
 obtain ⟨ad', ea, c327⟩ := Kd.at_int (Kd.C_below HR.out z2) 327 (by omega) (by omega)
 obtain rfl := Option.some.inj ea
 clear ea
 replace c327 : W0.cell? ⟨ad.block, ad.off + 327, none⟩ = some (.int .u8 (rd l 327)) := c327
 go_wp2_with fail
 refine (bL.calls (rd l 327) hk _).mono ?_
 rintro e' w1 ⟨rfl, hb⟩
 have B0 := ab.mk (af z0 hb)
 have B1 := ab.mk (af z1 hb)
 have B2 := ab.mk (Below.trans z2 (hb.mono z2.size))
 clear z0 z1 z2 hb c327
 rw [hok]
 go_wp2_with fail
 refine (bu 4 _).mono ?_
 rintro e' w' ⟨rfl, rfl⟩
 have hg : w.heap.size + 1 < w1.heap.size := aZ B1.out
 have C0 := ab.mk (ah B0.out (.cells #[.string ⟨#[]⟩, .int .u8 (rd l 327), .int .i64 (am (rd l 327)).1, .bool (am (rd l 327)).2.1, .bool (am (rd l 327)).2.2.1, .bool (am (rd l 327)).2.2.2.1, .int .i64 0, .int .i64 0, .int .u8 0, .int .u16 0] 30))
 have C1 := ab.mk (ah B1.out (.cells #[.string ⟨#[]⟩, .int .u8 (rd l 327), .int .i64 (am (rd l 327)).1, .bool (am (rd l 327)).2.1, .bool (am (rd l 327)).2.2.1, .bool (am (rd l 327)).2.2.2.1, .int .i64 0, .int .i64 0, .int .u8 0, .int .u16 0] 30))
 have C2 := ab.mk (ac B2.out (.cells #[.string ⟨#[]⟩, .int .u8 (rd l 327), .int .i64 (am (rd l 327)).1, .bool (am (rd l 327)).2.1, .bool (am (rd l 327)).2.2.1, .bool (am (rd l 327)).2.2.2.1, .int .i64 0, .int .i64 0, .int .u8 0, .int .u16 0] 30))
 have C3 := ab.mk (heap_alloc_new w1 (.cells #[.string ⟨#[]⟩, .int .u8 (rd l 327), .int .i64 (am (rd l 327)).1, .bool (am (rd l 327)).2.1, .bool (am (rd l 327)).2.2.1, .bool (am (rd l 327)).2.2.2.1, .int .i64 0, .int .i64 0, .int .u8 0, .int .u16 0] 30))
 generalize w1.alloc (.cells #[.string ⟨#[]⟩, .int .u8 (rd l 327), .int .i64 (am (rd l 327)).1, .bool (am (rd l 327)).2.1, .bool (am (rd l 327)).2.2.1, .bool (am (rd l 327)).2.2.2.1, .int .i64 0, .int .i64 0, .int .u8 0, .int .u16 0] 30) = W1 at C0 C1 C2 C3 ⊢
 generalize w1.heap.size = gx at hg C3 ⊢
 clear B0 B1 B2
 dsimp only
 obtain ⟨ad', ea, c328⟩ := Kd.at_int (Kd.C_below HR.out C2.out) 328 (by omega) (by omega)
 obtain rfl := Option.some.inj ea
 clear ea
 replace c328 : W1.cell? ⟨ad.block, ad.off + 328, none⟩ = some (.int .u8 (rd l 328)) := c328
 obtain ⟨ad', ea, c329⟩ := Kd.at_int (Kd.C_below HR.out C2.out) 329 (by omega) (by omega)
 obtain rfl := Option.some.inj ea
 clear ea
 replace c329 : W1.cell? ⟨ad.block, ad.off + 329, none⟩ = some (.int .u8 (rd l 329)) := c329
 go_wp2_with fail
 go_quiet (fail)
 go_wp2_with fail
 refine (need_no 5 _).mono ?_
 rintro e' w' ⟨rfl, rfl⟩
 have D0 := au (C0.out) nq
 have D1 := au (C1.out) nq
 have D2 := ai C2.out nq
 generalize W1.drewN nq = W2 at D0 D1 D2 ⊢
 refine leaves_cons (f := 53) (args := #[.pointer (some ⟨w.heap.size + 1, 0, none⟩)]) (by simp) (by simp [go_sem]) ?_
 refine (bX ⟨w.heap.size + 1, 0, none⟩ 0 5 [] _ ((aa (D1) 0).trans rfl) (ae (D1) 0)).mono ?_
 rintro e u' w'' ⟨rfl, rfl, rfl⟩
 have m0 : ((W2).setCell ⟨w.heap.size + 1, 0, none⟩ (.int .i64 5)).heap[w.heap.size]? = some (.cells #[.string ⟨#[]⟩, .int .u8 0, .int .i64 0, .bool false, .bool false, .bool false, .int .i64 0, .int .i64 0, .int .u8 0, .int .u16 0] 30 (0, 0)) := al (D0) (by simp) _
 have m1 : ((W2).setCell ⟨w.heap.size + 1, 0, none⟩ (.int .i64 5)).heap[w.heap.size + 1]? = some (.cells #[.int .i64 5] 26 (0, 0)) := an (D1) 0 _ rfl
 have m2 : Below w.heap.size w ((W2).setCell ⟨w.heap.size + 1, 0, none⟩ (.int .i64 5)) := ag (D2) (Nat.le_succ _)
 generalize ((W2).setCell ⟨w.heap.size + 1, 0, none⟩ (.int .i64 5)) = Y at m0 m1 m2 ⊢
 have u0 : Y.cell? ⟨w.heap.size, 0, none⟩ = some (.string ⟨#[]⟩) := (aa m0 0).trans rfl
 have u1 : Y.cell? ⟨w.heap.size, 1, none⟩ = some (.int .u8 0) := (aa m0 1).trans rfl
 have u2 : Y.cell? ⟨w.heap.size, 2, none⟩ = some (.int .i64 0) := (aa m0 2).trans rfl
 have u3 : Y.cell? ⟨w.heap.size, 3, none⟩ = some (.bool false) := (aa m0 3).trans rfl
 have u4 : Y.cell? ⟨w.heap.size, 4, none⟩ = some (.bool false) := (aa m0 4).trans rfl
 have u5 : Y.cell? ⟨w.heap.size, 5, none⟩ = some (.bool false) := (aa m0 5).trans rfl
 have u6 : Y.cell? ⟨w.heap.size, 6, none⟩ = some (.int .i64 0) := (aa m0 6).trans rfl
 have u7 : Y.cell? ⟨w.heap.size, 7, none⟩ = some (.int .i64 0) := (aa m0 7).trans rfl
 have u8 : Y.cell? ⟨w.heap.size, 8, none⟩ = some (.int .u8 0) := (aa m0 8).trans rfl
 have u9 : Y.cell? ⟨w.heap.size, 9, none⟩ = some (.int .u16 0) := (aa m0 9).trans rfl
 have v0 : Y.cell? ⟨w.heap.size + 1, 0, none⟩ = some (.int .i64 5) := (aa m1 0).trans rfl
 simp [Leaves, settle, results, Try.results28, go_sem, u0, u1, u2, u3, u4, u5, u6, u7, u8, u9, v0, m2]
theorem hparse_size_c (A : Option Addr) (c : Nat) (l : List Int) (hl : 336 ≤ l.length) (w : World) (hr : Kd.C (Kd.int .u8) w A l.length l) (hc : l.length ≤ c) (hk : 0 ≤ rd l 327 ∧ rd l 327 ≤ 255) (hok : (am (rd l 327)).2.2.2.2 = true) (h80 : 0 ≤ rd l 328) (h8 : decide (rd l 328 ≤ 8) = true) (h5 : decide (rd l 329 ≤ 5) = true) (hm : decide ((l.length : Int) ≤ shl .i64 32768 (rd l 328)) = false) :
  Calls Try.prog 28 #[.slice A l.length c] w fun e' w' => e' = .returned (.tuple #[.agg #[.string ⟨#[]⟩, .int .u8 0, .int .i64 0, .bool false, .bool false, .bool false, .int .i64 0, .int .i64 0, .int .u8 0, .int .u16 0], .int .i64 5]) ∧ Below w.heap.size w w' := by
 have hmf : ∀ (fn : Fn) (first cap : Array Value) (w : World), (Instr.makeFunc fn first cap).run Try.prog w = .ok (.func fn first cap) w := fun _ _ _ _ => rfl
 obtain ⟨ad, rfl, _⟩ := Kd.at_int hr 0 (by omega) (by omega)
 have HR := ab.mk hr
 have hli : (336 : Int) ≤ l.length := by omega
 have hci : (336 : Int) ≤ c := by omega
 clear hr
 go_enter_defers Try.func28, Try.ntmps28
 go_wp2_with fail
 have z0 := ah (aC w (.cells #[.string ⟨#[]⟩, .int .u8 0, .int .i64 0, .bool false, .bool false, .bool false, .int .i64 0, .int .i64 0, .int .u8 0, .int .u16 0] 30)) (.cells #[.int .i64 0] 26)
 have z1 := heap_alloc_new (w.alloc (.cells #[.string ⟨#[]⟩, .int .u8 0, .int .i64 0, .bool false, .bool false, .bool false, .int .i64 0, .int .i64 0, .int .u8 0, .int .u16 0] 30)) (.cells #[.int .i64 0] 26)
 rw [show (w.alloc (.cells #[.string ⟨#[]⟩, .int .u8 0, .int .i64 0, .bool false, .bool false, .bool false, .int .i64 0, .int .i64 0, .int .u8 0, .int .u16 0] 30)).heap.size = w.heap.size + 1 by simp] at z1
 have z2 := ac (ac (Below.refl w.heap.size w) (.cells #[.string ⟨#[]⟩, .int .u8 0, .int .i64 0, .bool false, .bool false, .bool false, .int .i64 0, .int .i64 0, .int .u8 0, .int .u16 0] 30)) (.cells #[.int .i64 0] 26)
 generalize (w.alloc (.cells #[.string ⟨#[]⟩, .int .u8 0, .int .i64 0, .bool false, .bool false, .bool false, .int .i64 0, .int .i64 0, .int .u8 0, .int .u16 0] 30)).alloc (.cells #[.int .i64 0] 26) = W0 at z0 z1 z2 ⊢
 refine (bu 2 _).mono ?_
 rintro e' w' ⟨rfl, hw⟩
 replace hw := hw.symm
 subst hw
 obtain ⟨ad', ea, c327⟩ := Kd.at_int (Kd.C_below HR.out z2) 327 (by omega) (by omega)
 obtain rfl := Option.some.inj ea
 clear ea
 replace c327 : W0.cell? ⟨ad.block, ad.off + 327, none⟩ = some (.int .u8 (rd l 327)) := c327
 go_wp2_with fail
 refine (bL.calls (rd l 327) hk _).mono ?_
 rintro e' w1 ⟨rfl, hb⟩
 have B0 := ab.mk (af z0 hb)
 have B1 := ab.mk (af z1 hb)
 have B2 := ab.mk (Below.trans z2 (hb.mono z2.size))
 clear z0 z1 z2 hb c327
 rw [hok]
 go_wp2_with fail
 refine (bu 4 _).mono ?_
 rintro e' w' ⟨rfl, rfl⟩
 have hg : w.heap.size + 1 < w1.heap.size := aZ B1.out
 have C0 := ab.mk (ah B0.out (.cells #[.string ⟨#[]⟩, .int .u8 (rd l 327), .int .i64 (am (rd l 327)).1, .bool (am (rd l 327)).2.1, .bool (am (rd l 327)).2.2.1, .bool (am (rd l 327)).2.2.2.1, .int .i64 0, .int .i64 0, .int .u8 0, .int .u16 0] 30))
 have C1 := ab.mk (ah B1.out (.cells #[.string ⟨#[]⟩, .int .u8 (rd l 327), .int .i64 (am (rd l 327)).1, .bool (am (rd l 327)).2.1, .bool (am (rd l 327)).2.2.1, .bool (am (rd l 327)).2.2.2.1, .int .i64 0, .int .i64 0, .int .u8 0, .int .u16 0] 30))
 have C2 := ab.mk (ac B2.out (.cells #[.string ⟨#[]⟩, .int .u8 (rd l 327), .int .i64 (am (rd l 327)).1, .bool (am (rd l 327)).2.1, .bool (am (rd l 327)).2.2.1, .bool (am (rd l 327)).2.2.2.1, .int .i64 0, .int .i64 0, .int .u8 0, .int .u16 0] 30))
 have C3 := ab.mk (heap_alloc_new w1 (.cells #[.string ⟨#[]⟩, .int .u8 (rd l 327), .int .i64 (am (rd l 327)).1, .bool (am (rd l 327)).2.1, .bool (am (rd l 327)).2.2.1, .bool (am (rd l 327)).2.2.2.1, .int .i64 0, .int .i64 0, .int .u8 0, .int .u16 0] 30))
 generalize w1.alloc (.cells #[.string ⟨#[]⟩, .int .u8 (rd l 327), .int .i64 (am (rd l 327)).1, .bool (am (rd l 327)).2.1, .bool (am (rd l 327)).2.2.1, .bool (am (rd l 327)).2.2.2.1, .int .i64 0, .int .i64 0, .int .u8 0, .int .u16 0] 30) = W1 at C0 C1 C2 C3 ⊢
 generalize w1.heap.size = gx at hg C3 ⊢
 clear B0 B1 B2
 dsimp only
 obtain ⟨ad', ea, c328⟩ := Kd.at_int (Kd.C_below HR.out C2.out) 328 (by omega) (by omega)
 obtain rfl := Option.some.inj ea
 clear ea
 replace c328 : W1.cell? ⟨ad.block, ad.off + 328, none⟩ = some (.int .u8 (rd l 328)) := c328
 obtain ⟨ad', ea, c329⟩ := Kd.at_int (Kd.C_below HR.out C2.out) 329 (by omega) (by omega)
 obtain rfl := Option.some.inj ea
 clear ea
 replace c329 : W1.cell? ⟨ad.block, ad.off + 329, none⟩ = some (.int .u8 (rd l 329)) := c329
 go_wp2_with fail
 go_quiet (fail)
 go_wp2_with fail
 (with_reducible refine (bH.calls (rd l 328) _ _ (by unfold bH.f; rw [if_pos h80])).mono ?_)
 rintro e' w' ⟨rfl, ⟨nd, rfl⟩⟩
 go_wp2_with fail
 refine (need_no 5 _).mono ?_
 rintro e' w' ⟨rfl, rfl⟩
 have D0 := au (C0.out) (nq + nd)
 have D1 := au (C1.out) (nq + nd)
 have D2 := ai C2.out (nq + nd)
 generalize W1.drewN (nq + nd) = W2 at D0 D1 D2 ⊢
 refine leaves_cons (f := 53) (args := #[.pointer (some ⟨w.heap.size + 1, 0, none⟩)]) (by simp) (by simp [go_sem]) ?_
 refine (bX ⟨w.heap.size + 1, 0, none⟩ 0 5 [] _ ((aa (D1) 0).trans rfl) (ae (D1) 0)).mono ?_
 rintro e u' w'' ⟨rfl, rfl, rfl⟩
 have m0 : ((W2).setCell ⟨w.heap.size + 1, 0, none⟩ (.int .i64 5)).heap[w.heap.size]? = some (.cells #[.string ⟨#[]⟩, .int .u8 0, .int .i64 0, .bool false, .bool false, .bool false, .int .i64 0, .int .i64 0, .int .u8 0, .int .u16 0] 30 (0, 0)) := al (D0) (by simp) _
 have m1 : ((W2).setCell ⟨w.heap.size + 1, 0, none⟩ (.int .i64 5)).heap[w.heap.size + 1]? = some (.cells #[.int .i64 5] 26 (0, 0)) := an (D1) 0 _ rfl
 have m2 : Below w.heap.size w ((W2).setCell ⟨w.heap.size + 1, 0, none⟩ (.int .i64 5)) := ag (D2) (Nat.le_succ _)
 generalize ((W2).setCell ⟨w.heap.size + 1, 0, none⟩ (.int .i64 5)) = Y at m0 m1 m2 ⊢
 have u0 : Y.cell? ⟨w.heap.size, 0, none⟩ = some (.string ⟨#[]⟩) := (aa m0 0).trans rfl
 have u1 : Y.cell? ⟨w.heap.size, 1, none⟩ = some (.int .u8 0) := (aa m0 1).trans rfl
 have u2 : Y.cell? ⟨w.heap.size, 2, none⟩ = some (.int .i64 0) := (aa m0 2).trans rfl
 have u3 : Y.cell? ⟨w.heap.size, 3, none⟩ = some (.bool false) := (aa m0 3).trans rfl
 have u4 : Y.cell? ⟨w.heap.size, 4, none⟩ = some (.bool false) := (aa m0 4).trans rfl
 have u5 : Y.cell? ⟨w.heap.size, 5, none⟩ = some (.bool false) := (aa m0 5).trans rfl
 have u6 : Y.cell? ⟨w.heap.size, 6, none⟩ = some (.int .i64 0) := (aa m0 6).trans rfl
 have u7 : Y.cell? ⟨w.heap.size, 7, none⟩ = some (.int .i64 0) := (aa m0 7).trans rfl
 have u8 : Y.cell? ⟨w.heap.size, 8, none⟩ = some (.int .u8 0) := (aa m0 8).trans rfl
 have u9 : Y.cell? ⟨w.heap.size, 9, none⟩ = some (.int .u16 0) := (aa m0 9).trans rfl
 have v0 : Y.cell? ⟨w.heap.size + 1, 0, none⟩ = some (.int .i64 5) := (aa m1 0).trans rfl
 simp [Leaves, settle, results, Try.results28, go_sem, u0, u1, u2, u3, u4, u5, u6, u7, u8, u9, v0, m2]
theorem hparse_sum (A : Option Addr) (c : Nat) (l : List Int) (hl : 336 ≤ l.length) (w : World) (hr : Kd.C (Kd.int .u8) w A l.length l) (hc : l.length ≤ c) (hk : 0 ≤ rd l 327 ∧ rd l 327 ≤ 255) (hok : (am (rd l 327)).2.2.2.2 = true) (h80 : 0 ≤ rd l 328) (h8 : decide (rd l 328 ≤ 8) = true) (h5 : decide (rd l 329 ≤ 5) = true) (hm : decide ((l.length : Int) ≤ shl .i64 32768 (rd l 328)) = true) (hs : (rd l 333 == sumTo l 25) = false) :
  Calls Try.prog 28 #[.slice A l.length c] w fun e' w' => e' = .returned (.tuple #[.agg #[.string ⟨#[]⟩, .int .u8 0, .int .i64 0, .bool false, .bool false, .bool false, .int .i64 0, .int .i64 0, .int .u8 0, .int .u16 0], .int .i64 3]) ∧ Below w.heap.size w w' := by
 have hmf : ∀ (fn : Fn) (first cap : Array Value) (w : World), (Instr.makeFunc fn first cap).run Try.prog w = .ok (.func fn first cap) w := fun _ _ _ _ => rfl
 obtain ⟨ad, rfl, _⟩ := Kd.at_int hr 0 (by omega) (by omega)
 have HR := ab.mk hr
 have hli : (336 : Int) ≤ l.length := by omega
 have hci : (336 : Int) ≤ c := by omega
 clear hr
 go_enter_defers Try.func28, Try.ntmps28
 go_wp2_with fail
 have z0 := ah (aC w (.cells #[.string ⟨#[]⟩, .int .u8 0, .int .i64 0, .bool false, .bool false, .bool false, .int .i64 0, .int .i64 0, .int .u8 0, .int .u16 0] 30)) (.cells #[.int .i64 0] 26)
 have z1 := heap_alloc_new (w.alloc (.cells #[.string ⟨#[]⟩, .int .u8 0, .int .i64 0, .bool false, .bool false, .bool false, .int .i64 0, .int .i64 0, .int .u8 0, .int .u16 0] 30)) (.cells #[.int .i64 0] 26)
 rw [show (w.alloc (.cells #[.string ⟨#[]⟩, .int .u8 0, .int .i64 0, .bool false, .bool false, .bool false, .int .i64 0, .int .i64 0, .int .u8 0, .int .u16 0] 30)).heap.size = w.heap.size + 1 by simp] at z1
 have z2 := ac (ac (Below.refl w.heap.size w) (.cells #[.string ⟨#[]⟩, .int .u8 0, .int .i64 0, .bool false, .bool false, .bool false, .int .i64 0, .int .i64 0, .int .u8 0, .int .u16 0] 30)) (.cells #[.int .i64 0] 26)
 generalize (w.alloc (.cells #[.string ⟨#[]⟩, .int .u8 0, .int .i64 0, .bool false, .bool false, .bool false, .int .i64 0, .int .i64 0, .int .u8 0, .int .u16 0] 30)).alloc (.cells #[.int .i64 0] 26) = W0 at z0 z1 z2 ⊢
 refine (bu 2 _).mono ?_
 rintro e' w' ⟨rfl, hw⟩
 replace hw := hw.symm
 subst hw
 obtain ⟨ad', ea, c327⟩ := Kd.at_int (Kd.C_below HR.out z2) 327 (by omega) (by omega)
 obtain rfl := Option.some.inj ea
 clear ea
 replace c327 : W0.cell? ⟨ad.block, ad.off + 327, none⟩ = some (.int .u8 (rd l 327)) := c327
 go_wp2_with fail
 refine (bL.calls (rd l 327) hk _).mono ?_
 rintro e' w1 ⟨rfl, hb⟩
 have B0 := ab.mk (af z0 hb)
 have B1 := ab.mk (af z1 hb)
 have B2 := ab.mk (Below.trans z2 (hb.mono z2.size))
 clear z0 z1 z2 hb c327
 rw [hok]
 go_wp2_with fail
 refine (bu 4 _).mono ?_
 rintro e' w' ⟨rfl, rfl⟩
 have hg : w.heap.size + 1 < w1.heap.size := aZ B1.out
 have C0 := ab.mk (ah B0.out (.cells #[.string ⟨#[]⟩, .int .u8 (rd l 327), .int .i64 (am (rd l 327)).1, .bool (am (rd l 327)).2.1, .bool (am (rd l 327)).2.2.1, .bool (am (rd l 327)).2.2.2.1, .int .i64 0, .int .i64 0, .int .u8 0, .int .u16 0] 30))
 have C1 := ab.mk (ah B1.out (.cells #[.string ⟨#[]⟩, .int .u8 (rd l 327), .int .i64 (am (rd l 327)).1, .bool (am (rd l 327)).2.1, .bool (am (rd l 327)).2.2.1, .bool (am (rd l 327)).2.2.2.1, .int .i64 0, .int .i64 0, .int .u8 0, .int .u16 0] 30))
 have C2 := ab.mk (ac B2.out (.cells #[.string ⟨#[]⟩, .int .u8 (rd l 327), .int .i64 (am (rd l 327)).1, .bool (am (rd l 327)).2.1, .bool (am (rd l 327)).2.2.1, .bool (am (rd l 327)).2.2.2.1, .int .i64 0, .int .i64 0, .int .u8 0, .int .u16 0] 30))
 have C3 := ab.mk (heap_alloc_new w1 (.cells #[.string ⟨#[]⟩, .int .u8 (rd l 327), .int .i64 (am (rd l 327)).1, .bool (am (rd l 327)).2.1, .bool (am (rd l 327)).2.2.1, .bool (am (rd l 327)).2.2.2.1, .int .i64 0, .int .i64 0, .int .u8 0, .int .u16 0] 30))
 generalize w1.alloc (.cells #[.string ⟨#[]⟩, .int .u8 (rd l 327), .int .i64 (am (rd l 327)).1, .bool (am (rd l 327)).2.1, .bool (am (rd l 327)).2.2.1, .bool (am (rd l 327)).2.2.2.1, .int .i64 0, .int .i64 0, .int .u8 0, .int .u16 0] 30) = W1 at C0 C1 C2 C3 ⊢
 generalize w1.heap.size = gx at hg C3 ⊢
 clear B0 B1 B2
 dsimp only
 obtain ⟨ad', ea, c328⟩ := Kd.at_int (Kd.C_below HR.out C2.out) 328 (by omega) (by omega)
 obtain rfl := Option.some.inj ea
 clear ea
 replace c328 : W1.cell? ⟨ad.block, ad.off + 328, none⟩ = some (.int .u8 (rd l 328)) := c328
 obtain ⟨ad', ea, c329⟩ := Kd.at_int (Kd.C_below HR.out C2.out) 329 (by omega) (by omega)
 obtain rfl := Option.some.inj ea
 clear ea
 replace c329 : W1.cell? ⟨ad.block, ad.off + 329, none⟩ = some (.int .u8 (rd l 329)) := c329
 go_wp2_with fail
 go_quiet (fail)
 go_wp2_with fail
 (with_reducible refine (bH.calls (rd l 328) _ _ (by unfold bH.f; rw [if_pos h80])).mono ?_)
 rintro e' w' ⟨rfl, ⟨nd, rfl⟩⟩
 go_wp2_with fail
 refine (bu 5 _).mono ?_
 rintro e' w' ⟨rfl, rfl⟩
 clear c328 c329
 have D0 := ab.mk (au C0.out (nq + nd))
 have D1 := ab.mk (au C1.out (nq + nd))
 have D2 := ab.mk (ai C2.out (nq + nd))
 have D3 := ab.mk (au C3.out (nq + nd))
 generalize W1.drewN (nq + nd) = W2 at D0 D1 D2 D3 ⊢
 dsimp only
 clear C0 C1 C2 C3
 obtain ⟨ad', ea, c333⟩ := Kd.at_int (Kd.C_below HR.out D2.out) 333 (by omega) (by omega)
 obtain rfl := Option.some.inj ea
 clear ea
 replace c333 : W2.cell? ⟨ad.block, ad.off + 333, none⟩ = some (.int .u8 (rd l 333)) := c333
 have hsum : bU.f l = some (sumTo l 25) := by unfold bU.f; rw [if_pos (by omega)]
 go_wp2_with fail
 have p333 : (333 : Int) < l.length := by omega
 have c333d : W2.drew.cell? ⟨ad.block, ad.off + 333, none⟩ = some (.int .u8 (rd l 333)) := c333
 go_still_tail 6, (by kernel_rfl)
 still_call (bU.calls _ c l (sumTo l 25) _ (Kd.C_below HR.out (aj D2.out)) hc hsum)
 repeat still_step
 refine wpStill_nil ?_
 change wpList _ _ _ _ _ W2.drew
 have F0 := ap D0.out
 have F1 := ap D1.out
 have F2 := aj D2.out
 have F3 := ap D3.out
 generalize W2.drew = W3 at F0 F1 F2 F3 ⊢
 clear c333 c333d p333 hsum D0 D1 D2 D3
 go_wp2_with fail
 refine (need_no 3 _).mono ?_
 rintro e' w' ⟨rfl, hw⟩
 replace hw := hw.symm
 subst hw
 refine leaves_cons (f := 53) (args := #[.pointer (some ⟨w.heap.size + 1, 0, none⟩)]) (by simp) (by simp [go_sem]) ?_
 refine (bX ⟨w.heap.size + 1, 0, none⟩ 0 3 [] _ ((aa (F1) 0).trans rfl) (ae (F1) 0)).mono ?_
 rintro e u' w'' ⟨rfl, rfl, rfl⟩
 have m0 : ((W3).setCell ⟨w.heap.size + 1, 0, none⟩ (.int .i64 3)).heap[w.heap.size]? = some (.cells #[.string ⟨#[]⟩, .int .u8 0, .int .i64 0, .bool false, .bool false, .bool false, .int .i64 0, .int .i64 0, .int .u8 0, .int .u16 0] 30 (0, 0)) := al (F0) (by simp) _
 have m1 : ((W3).setCell ⟨w.heap.size + 1, 0, none⟩ (.int .i64 3)).heap[w.heap.size + 1]? = some (.cells #[.int .i64 3] 26 (0, 0)) := an (F1) 0 _ rfl
 have m2 : Below w.heap.size w ((W3).setCell ⟨w.heap.size + 1, 0, none⟩ (.int .i64 3)) := ag (F2) (Nat.le_succ _)
 generalize ((W3).setCell ⟨w.heap.size + 1, 0, none⟩ (.int .i64 3)) = Y at m0 m1 m2 ⊢
 have u0 : Y.cell? ⟨w.heap.size, 0, none⟩ = some (.string ⟨#[]⟩) := (aa m0 0).trans rfl
 have u1 : Y.cell? ⟨w.heap.size, 1, none⟩ = some (.int .u8 0) := (aa m0 1).trans rfl
 have u2 : Y.cell? ⟨w.heap.size, 2, none⟩ = some (.int .i64 0) := (aa m0 2).trans rfl
 have u3 : Y.cell? ⟨w.heap.size, 3, none⟩ = some (.bool false) := (aa m0 3).trans rfl
 have u4 : Y.cell? ⟨w.heap.size, 4, none⟩ = some (.bool false) := (aa m0 4).trans rfl
 have u5 : Y.cell? ⟨w.heap.size, 5, none⟩ = some (.bool false) := (aa m0 5).trans rfl
 have u6 : Y.cell? ⟨w.heap.size, 6, none⟩ = some (.int .i64 0) := (aa m0 6).trans rfl
 have u7 : Y.cell? ⟨w.heap.size, 7, none⟩ = some (.int .i64 0) := (aa m0 7).trans rfl
 have u8 : Y.cell? ⟨w.heap.size, 8, none⟩ = some (.int .u8 0) := (aa m0 8).trans rfl
 have u9 : Y.cell? ⟨w.heap.size, 9, none⟩ = some (.int .u16 0) := (aa m0 9).trans rfl
 have v0 : Y.cell? ⟨w.heap.size + 1, 0, none⟩ = some (.int .i64 3) := (aa m1 0).trans rfl
 simp [Leaves, settle, results, Try.results28, go_sem, u0, u1, u2, u3, u4, u5, u6, u7, u8, u9, v0, m2]
def prb (b : Int) : Bool := decide (b ≥ 32) && decide (b ≤ 126)
def titleTo (l : List Int) : Nat → Nat → Nat
 | 0, j => j
 | f + 1, j => if prb (rd l (308 + (j : Int))) = true then titleTo l f (j + 1) else j
def aI (l : List Int) : Nat := titleTo l 16 0
theorem titleTo_le (l : List Int) : ∀ f j, j ≤ titleTo l f j ∧ titleTo l f j ≤ j + f
 | 0, j => ⟨Nat.le_refl _, Nat.le_refl _⟩
 | f + 1, j => by
  unfold titleTo
  have ih := titleTo_le l f (j + 1)
  split <;> omega
theorem prb_calls (b : Int) : bj.f b = some (prb b) := by
 unfold bj.f prb
 by_cases h : b ≥ 32
 ·rw [if_pos h, decide_eq_true h]; rfl
 ·rw [if_neg h, decide_eq_false h]; rfl
def sizeT (m : Int) : Int := if m = 1 then 2048 else if m = 2 then 8192 else if m = 3 then 32768 else if m = 4 then 131072 else if m = 5 then 65536 else 0
def ramT (r : Bool) (m : Int) : Int := if r = true then sizeT m else 0
theorem idx_ok (m : Int) (h : 0 ≤ m ∧ m ≤ 5) (W : World) : (Instr.index 103 (.agg #[.int .i64 0, .int .i64 2048, .int .i64 8192, .int .i64 32768, .int .i64 131072, .int .i64 65536]) (.int .u8 m)).run Try.prog W = .ok (.int .i64 (sizeT m)) W := by
 have h6 : m = 0 ∨ m = 1 ∨ m = 2 ∨ m = 3 ∨ m = 4 ∨ m = 5 := by omega
 rcases h6 with rfl | rfl | rfl | rfl | rfl | rfl <;> (first | rfl | kernel_rfl)
theorem hparse_ok (A : Option Addr) (c : Nat) (l : List Int) (hl : 336 ≤ l.length) (w : World) (hr : Kd.C (Kd.int .u8) w A l.length l) (hc : l.length ≤ c) (hk : 0 ≤ rd l 327 ∧ rd l 327 ≤ 255) (hok : (am (rd l 327)).2.2.2.2 = true) (h80 : 0 ≤ rd l 328) (h8 : decide (rd l 328 ≤ 8) = true) (h5 : decide (rd l 329 ≤ 5) = true) (hm : decide ((l.length : Int) ≤ shl .i64 32768 (rd l 328)) = true) (h50 : 0 ≤ rd l 329) (hs : (rd l 333 == sumTo l 25) = true) :
  Calls Try.prog 28 #[.slice A l.length c] w fun e' w' => e' = .returned (.tuple #[.agg #[.string (strOfNums ((l.take (308 + aI l)).drop 308)), .int .u8 (rd l 327), .int .i64 (am (rd l 327)).1, .bool (am (rd l 327)).2.1, .bool (am (rd l 327)).2.2.1, .bool (am (rd l 327)).2.2.2.1, .int .i64 (wrap64 (2 * 2 ^ min (rd l 328).toNat 64)), .int .i64 (ramT (am (rd l 327)).2.1 (rd l 329)), .int .u8 (rd l 333), .int .u16 (Go.bits .or .u16 (IntKind.u16.wrap (IntKind.u16.wrap (rd l 334) * 256)) (IntKind.u16.wrap (rd l 335)))], .int .i64 0]) ∧ Below w.heap.size w w' := by
 have hmf : ∀ (fn : Fn) (first cap : Array Value) (w : World), (Instr.makeFunc fn first cap).run Try.prog w = .ok (.func fn first cap) w := fun _ _ _ _ => rfl
 obtain ⟨ad, rfl, _⟩ := Kd.at_int hr 0 (by omega) (by omega)
 have HR := ab.mk hr
 have hli : (336 : Int) ≤ l.length := by omega
 have hci : (336 : Int) ≤ c := by omega
 clear hr
 go_enter_defers Try.func28, Try.ntmps28
 go_wp2_with fail
 have z0 := ah (aC w (.cells #[.string ⟨#[]⟩, .int .u8 0, .int .i64 0, .bool false, .bool false, .bool false, .int .i64 0, .int .i64 0, .int .u8 0, .int .u16 0] 30)) (.cells #[.int .i64 0] 26)
 have z1 := heap_alloc_new (w.alloc (.cells #[.string ⟨#[]⟩, .int .u8 0, .int .i64 0, .bool false, .bool false, .bool false, .int .i64 0, .int .i64 0, .int .u8 0, .int .u16 0] 30)) (.cells #[.int .i64 0] 26)
 rw [show (w.alloc (.cells #[.string ⟨#[]⟩, .int .u8 0, .int .i64 0, .bool false, .bool false, .bool false, .int .i64 0, .int .i64 0, .int .u8 0, .int .u16 0] 30)).heap.size = w.heap.size + 1 by simp] at z1
 have z2 := ac (ac (Below.refl w.heap.size w) (.cells #[.string ⟨#[]⟩, .int .u8 0, .int .i64 0, .bool false, .bool false, .bool false, .int .i64 0, .int .i64 0, .int .u8 0, .int .u16 0] 30)) (.cells #[.int .i64 0] 26)
 generalize (w.alloc (.cells #[.string ⟨#[]⟩, .int .u8 0, .int .i64 0, .bool false, .bool false, .bool false, .int .i64 0, .int .i64 0, .int .u8 0, .int .u16 0] 30)).alloc (.cells #[.int .i64 0] 26) = W0 at z0 z1 z2 ⊢
 refine (bu 2 _).mono ?_
 rintro e' w' ⟨rfl, hw⟩
 replace hw := hw.symm
 subst hw
 obtain ⟨ad', ea, c327⟩ := Kd.at_int (Kd.C_below HR.out z2) 327 (by omega) (by omega)
 obtain rfl := Option.some.inj ea
 clear ea
 replace c327 : W0.cell? ⟨ad.block, ad.off + 327, none⟩ = some (.int .u8 (rd l 327)) := c327
 go_wp2_with fail
 refine (bL.calls (rd l 327) hk _).mono ?_
 rintro e' w1 ⟨rfl, hb⟩
 have B0 := ab.mk (af z0 hb)
 have B1 := ab.mk (af z1 hb)
 have B2 := ab.mk (Below.trans z2 (hb.mono z2.size))
 clear z0 z1 z2 hb c327
 rw [hok]
 go_wp2_with fail
 refine (bu 4 _).mono ?_
 rintro e' w' ⟨rfl, rfl⟩
 have hg : w.heap.size + 1 < w1.heap.size := aZ B1.out
 have C0 := ab.mk (ah B0.out (.cells #[.string ⟨#[]⟩, .int .u8 (rd l 327), .int .i64 (am (rd l 327)).1, .bool (am (rd l 327)).2.1, .bool (am (rd l 327)).2.2.1, .bool (am (rd l 327)).2.2.2.1, .int .i64 0, .int .i64 0, .int .u8 0, .int .u16 0] 30))
 have C1 := ab.mk (ah B1.out (.cells #[.string ⟨#[]⟩, .int .u8 (rd l 327), .int .i64 (am (rd l 327)).1, .bool (am (rd l 327)).2.1, .bool (am (rd l 327)).2.2.1, .bool (am (rd l 327)).2.2.2.1, .int .i64 0, .int .i64 0, .int .u8 0, .int .u16 0] 30))
 have C2 := ab.mk (ac B2.out (.cells #[.string ⟨#[]⟩, .int .u8 (rd l 327), .int .i64 (am (rd l 327)).1, .bool (am (rd l 327)).2.1, .bool (am (rd l 327)).2.2.1, .bool (am (rd l 327)).2.2.2.1, .int .i64 0, .int .i64 0, .int .u8 0, .int .u16 0] 30))
 have C3 := ab.mk (heap_alloc_new w1 (.cells #[.string ⟨#[]⟩, .int .u8 (rd l 327), .int .i64 (am (rd l 327)).1, .bool (am (rd l 327)).2.1, .bool (am (rd l 327)).2.2.1, .bool (am (rd l 327)).2.2.2.1, .int .i64 0, .int .i64 0, .int .u8 0, .int .u16 0] 30))
 generalize w1.alloc (.cells #[.string ⟨#[]⟩, .int .u8 (rd l 327), .int .i64 (am (rd l 327)).1, .bool (am (rd l 327)).2.1, .bool (am (rd l 327)).2.2.1, .bool (am (rd l 327)).2.2.2.1, .int .i64 0, .int .i64 0, .int .u8 0, .int .u16 0] 30) = W1 at C0 C1 C2 C3 ⊢
 generalize w1.heap.size = gx at hg C3 ⊢
 clear B0 B1 B2
 dsimp only
 obtain ⟨ad', ea, c328⟩ := Kd.at_int (Kd.C_below HR.out C2.out) 328 (by omega) (by omega)
 obtain rfl := Option.some.inj ea
 clear ea
 replace c328 : W1.cell? ⟨ad.block, ad.off + 328, none⟩ = some (.int .u8 (rd l 328)) := c328
 obtain ⟨ad', ea, c329⟩ := Kd.at_int (Kd.C_below HR.out C2.out) 329 (by omega) (by omega)
 obtain rfl := Option.some.inj ea
 clear ea
 replace c329 : W1.cell? ⟨ad.block, ad.off + 329, none⟩ = some (.int .u8 (rd l 329)) := c329
 go_wp2_with fail
 go_quiet (fail)
 go_wp2_with fail
 (with_reducible refine (bH.calls (rd l 328) _ _ (by unfold bH.f; rw [if_pos h80])).mono ?_)
 rintro e' w' ⟨rfl, ⟨nd, rfl⟩⟩
 go_wp2_with fail
 refine (bu 5 _).mono ?_
 rintro e' w' ⟨rfl, rfl⟩
 clear c328 c329
 have D0 := ab.mk (au C0.out (nq + nd))
 have D1 := ab.mk (au C1.out (nq + nd))
 have D2 := ab.mk (ai C2.out (nq + nd))
 have D3 := ab.mk (au C3.out (nq + nd))
 generalize W1.drewN (nq + nd) = W2 at D0 D1 D2 D3 ⊢
 dsimp only
 clear C0 C1 C2 C3
 obtain ⟨ad', ea, c333⟩ := Kd.at_int (Kd.C_below HR.out D2.out) 333 (by omega) (by omega)
 obtain rfl := Option.some.inj ea
 clear ea
 replace c333 : W2.cell? ⟨ad.block, ad.off + 333, none⟩ = some (.int .u8 (rd l 333)) := c333
 have hsum : bU.f l = some (sumTo l 25) := by unfold bU.f; rw [if_pos (by omega)]
 go_wp2_with fail
 have p333 : (333 : Int) < l.length := by omega
 have c333d : W2.drew.cell? ⟨ad.block, ad.off + 333, none⟩ = some (.int .u8 (rd l 333)) := c333
 go_still_tail 6, (by kernel_rfl)
 still_call (bU.calls _ c l (sumTo l 25) _ (Kd.C_below HR.out (aj D2.out)) hc hsum)
 repeat still_step
 refine wpStill_nil ?_
 change wpList _ _ _ _ _ W2.drew
 have F0 := ap D0.out
 have F1 := ap D1.out
 have F2 := aj D2.out
 have F3 := ap D3.out
 generalize W2.drew = W3 at F0 F1 F2 F3 ⊢
 clear c333 c333d p333 hsum D0 D1 D2 D3
 go_wp2_with fail
 refine (bu 3 _).mono ?_
 rintro e' w' ⟨rfl, hw⟩
 replace hw := hw.symm
 subst hw
 go_wp2_with fail
 have hN := titleTo_le l 16 0
 go_loopw [8] (fun n w' => ∃ (j : Nat), n = .int .i64 j ∧ ab (j ≤ 16 ∧ titleTo l (16 - j) j = aI l ∧ w'.heap[w.heap.size]? = some (.cells #[.string ⟨#[]⟩, .int .u8 0, .int .i64 0, .bool false, .bool false, .bool false, .int .i64 0, .int .i64 0, .int .u8 0, .int .u16 0] 30 (0, 0)) ∧ w'.heap[w.heap.size + 1]? = some (.cells #[.int .i64 0] 26 (0, 0)) ∧ w'.heap[gx]? = some (.cells #[.string ⟨#[]⟩, .int .u8 (rd l 327), .int .i64 (am (rd l 327)).1, .bool (am (rd l 327)).2.1, .bool (am (rd l 327)).2.2.1, .bool (am (rd l 327)).2.2.2.1, .int .i64 0, .int .i64 0, .int .u8 0, .int .u16 0] 30 (0, 0)) ∧ Below w.heap.size w w')) (fun n _ => 20 - (intOf n).toNat)
 case atStart => exact ⟨0, rfl, ab.mk ⟨by omega, rfl, F0, F1, F3, F2⟩⟩
 case round =>
  obtain ⟨j, rfl, HA⟩ := hrel
  obtain ⟨hj, ht, f0, f1, f3, f2⟩ := HA.out
  clear HA F0 F1 F2 F3
  have F0 := ab.mk f0
  have F1 := ab.mk f1
  have F2 := ab.mk f2
  have F3 := ab.mk f3
  clear f0 f1 f2 f3
  by_cases hj16 : j = 16
  case' pos =>
   have hn : aI l = j := by rw [← ht, hj16]; rfl
   have hnl : ¬ (j : Int) < 16 := by omega
   clear ht hj16
   generalize wr = W at F0 F1 F2 F3 ⊢
  case' neg =>
   have hlt : (j : Int) < 16 := by omega
   obtain ⟨ad', ea, cb⟩ := Kd.at_int (Kd.C_below HR.out F2.out) (308 + (j : Int)) (by omega) (by omega)
   obtain rfl := Option.some.inj ea
   clear ea
   rw [show (308 + (j : Int)).toNat = 308 + j by omega] at cb
   have cb' : wr.cell? ⟨ad.block, ad.off + (308 + j), none⟩ = some (.int .u8 (rd l (308 + (j : Int)))) := by simpa [Addr.add] using cb
   have hf : 16 - j = (15 - j) + 1 := by omega
   rw [hf, titleTo] at ht
   go_wp2_with fail
   (with_reducible refine (bj.calls _ _ _ (prb_calls _)).mono ?_)
   rintro e' w' ⟨rfl, ⟨nd, rfl⟩⟩
   cases hp : prb (rd l (308 + (j : Int)))
   case true =>
    rw [if_pos hp] at ht
    go_wp2_with fail
    refine ⟨⟨j + 1, by simp, ab.mk ⟨by omega, ?_, au F0.out _, au F1.out _, au F3.out _, ai F2.out _⟩⟩, by simp [intOf]; omega⟩
    rw [show 16 - (j + 1) = 15 - j by omega]; exact ht
   case' false =>
    rw [if_neg (by rw [hp]; simp)] at ht
    have hn : aI l = j := ht.symm
    have F0 := ab.mk (au F0.out nd)
    have F1 := ab.mk (au F1.out nd)
    have F2 := ab.mk (ai F2.out nd)
    have F3 := ab.mk (au F3.out nd)
    clear ht cb cb' hf hp
    generalize wr.drewN nd = W at F0 F1 F2 F3 ⊢
  all_goals
   subst hn
   have hcj : (308 + (aI l : Int)) ≤ c := by omega
   have KD : Kd.C (Kd.int .u8) W (some ⟨ad.block, ad.off + 308, none⟩) (aI l) ((l.take (308 + aI l)).drop 308) := by
    have q := Kd.C_drop (m := 308) (Kd.C_take (m := 308 + aI l) (Kd.C_below HR.out F2.out) (by omega)) (by simp; omega) (show (l.take (308 + aI l)).length ≤ c by simp; omega)
    have e : ((l.take (308 + aI l)).drop 308).length = aI l := by simp; omega
    rw [e, if_neg (by omega)] at q
    exact q
   have hcv : (convert 22 9 (.slice (some ⟨ad.block, ad.off + 308, none⟩) (aI l) (c - 308))).run Try.prog W = .ok (.string (strOfNums ((l.take (308 + aI l)).drop 308))) W := Kd.C_string Try.underlying22 Try.underlying5 Try.underlying9 KD
   have a0 : W.cell? ⟨gx, 0, none⟩ = some (.string ⟨#[]⟩) := (aa F3.out 0).trans rfl
   have a1 : W.cell? ⟨gx, 1, none⟩ = some (.int .u8 (rd l 327)) := (aa F3.out 1).trans rfl
   have a2 : W.cell? ⟨gx, 2, none⟩ = some (.int .i64 (am (rd l 327)).1) := (aa F3.out 2).trans rfl
   have a3 : W.cell? ⟨gx, 3, none⟩ = some (.bool (am (rd l 327)).2.1) := (aa F3.out 3).trans rfl
   have a4 : W.cell? ⟨gx, 4, none⟩ = some (.bool (am (rd l 327)).2.2.1) := (aa F3.out 4).trans rfl
   have a5 : W.cell? ⟨gx, 5, none⟩ = some (.bool (am (rd l 327)).2.2.2.1) := (aa F3.out 5).trans rfl
   have a6 : W.cell? ⟨gx, 6, none⟩ = some (.int .i64 0) := (aa F3.out 6).trans rfl
   have a7 : W.cell? ⟨gx, 7, none⟩ = some (.int .i64 0) := (aa F3.out 7).trans rfl
   have a8 : W.cell? ⟨gx, 8, none⟩ = some (.int .u8 0) := (aa F3.out 8).trans rfl
   have a9 : W.cell? ⟨gx, 9, none⟩ = some (.int .u16 0) := (aa F3.out 9).trans rfl
   have fz := fun i => ae F3.out i
   obtain ⟨ad', ea, c333⟩ := Kd.at_int (Kd.C_below HR.out F2.out) 333 (by omega) (by omega)
   obtain rfl := Option.some.inj ea
   clear ea
   replace c333 : W.cell? ⟨ad.block, ad.off + 333, none⟩ = some (.int .u8 (rd l 333)) := c333
   have hix := fun W => idx_ok (rd l 329) ⟨h50, of_decide_eq_true h5⟩ W
   cases hram : (am (rd l 327)).2.1 with
   | true =>
    rw [hram] at a3
    go_wp2_with fail
    have p : W.heap[gx]? = some (.cells #[.string ⟨#[]⟩, .int .u8 (rd l 327), .int .i64 (am (rd l 327)).1, .bool true, .bool (am (rd l 327)).2.2.1, .bool (am (rd l 327)).2.2.2.1, .int .i64 0, .int .i64 0, .int .u8 0, .int .u16 0] 30 (0, 0)) := by have q := F3.out; rw [hram] at q; exact q
    have p := an (cs' := #[.string (strOfNums ((l.take (308 + aI l)).drop 308)), .int .u8 (rd l 327), .int .i64 (am (rd l 327)).1, .bool true, .bool (am (rd l 327)).2.2.1, .bool (am (rd l 327)).2.2.2.1, .int .i64 0, .int .i64 0, .int .u8 0, .int .u16 0]) p 0 (.string (strOfNums ((l.take (308 + aI l)).drop 308))) rfl
    have p := an (cs' := #[.string (strOfNums ((l.take (308 + aI l)).drop 308)), .int .u8 (rd l 327), .int .i64 (am (rd l 327)).1, .bool true, .bool (am (rd l 327)).2.2.1, .bool (am (rd l 327)).2.2.2.1, .int .i64 (wrap64 (2 * 2 ^ min (rd l 328).toNat 64)), .int .i64 0, .int .u8 0, .int .u16 0]) p 6 (.int .i64 (wrap64 (2 * 2 ^ min (rd l 328).toNat 64))) rfl
    have p := an (cs' := #[.string (strOfNums ((l.take (308 + aI l)).drop 308)), .int .u8 (rd l 327), .int .i64 (am (rd l 327)).1, .bool true, .bool (am (rd l 327)).2.2.1, .bool (am (rd l 327)).2.2.2.1, .int .i64 (wrap64 (2 * 2 ^ min (rd l 328).toNat 64)), .int .i64 (sizeT (rd l 329)), .int .u8 0, .int .u16 0]) p 7 (.int .i64 (sizeT (rd l 329))) rfl
    have p := an (cs' := #[.string (strOfNums ((l.take (308 + aI l)).drop 308)), .int .u8 (rd l 327), .int .i64 (am (rd l 327)).1, .bool true, .bool (am (rd l 327)).2.2.1, .bool (am (rd l 327)).2.2.2.1, .int .i64 (wrap64 (2 * 2 ^ min (rd l 328).toNat 64)), .int .i64 (sizeT (rd l 329)), .int .u8 (rd l 333), .int .u16 0]) p 8 (.int .u8 (rd l 333)) rfl
    have q0 : ((((W.setCell ⟨gx, 0, none⟩ (.string (strOfNums ((l.take (308 + aI l)).drop 308)))).setCell ⟨gx, 6, none⟩ (.int .i64 (wrap64 (2 * 2 ^ min (rd l 328).toNat 64)))).setCell ⟨gx, 7, none⟩ (.int .i64 (sizeT (rd l 329)))).setCell ⟨gx, 8, none⟩ (.int .u8 (rd l 333))).heap[w.heap.size]? = some (.cells #[.string ⟨#[]⟩, .int .u8 0, .int .i64 0, .bool false, .bool false, .bool false, .int .i64 0, .int .i64 0, .int .u8 0, .int .u16 0] 30 (0, 0)) := (al (al (al (al F0.out (by simp; omega) _) (by simp; omega) _) (by simp; omega) _) (by simp; omega) _)
    have q1 : ((((W.setCell ⟨gx, 0, none⟩ (.string (strOfNums ((l.take (308 + aI l)).drop 308)))).setCell ⟨gx, 6, none⟩ (.int .i64 (wrap64 (2 * 2 ^ min (rd l 328).toNat 64)))).setCell ⟨gx, 7, none⟩ (.int .i64 (sizeT (rd l 329)))).setCell ⟨gx, 8, none⟩ (.int .u8 (rd l 333))).heap[w.heap.size + 1]? = some (.cells #[.int .i64 0] 26 (0, 0)) := (al (al (al (al F1.out (by simp; omega) _) (by simp; omega) _) (by simp; omega) _) (by simp; omega) _)
    have q2 : Below w.heap.size w ((((W.setCell ⟨gx, 0, none⟩ (.string (strOfNums ((l.take (308 + aI l)).drop 308)))).setCell ⟨gx, 6, none⟩ (.int .i64 (wrap64 (2 * 2 ^ min (rd l 328).toNat 64)))).setCell ⟨gx, 7, none⟩ (.int .i64 (sizeT (rd l 329)))).setCell ⟨gx, 8, none⟩ (.int .u8 (rd l 333))) := (ag (ag (ag (ag F2.out (by omega)) (by omega)) (by omega)) (by omega))
    clear a0 a1 a2 a3 a4 a5 a6 a7 a8 a9 c333 hcv KD fz
    generalize ((((W.setCell ⟨gx, 0, none⟩ (.string (strOfNums ((l.take (308 + aI l)).drop 308)))).setCell ⟨gx, 6, none⟩ (.int .i64 (wrap64 (2 * 2 ^ min (rd l 328).toNat 64)))).setCell ⟨gx, 7, none⟩ (.int .i64 (sizeT (rd l 329)))).setCell ⟨gx, 8, none⟩ (.int .u8 (rd l 333))) = W4 at p q0 q1 q2 ⊢
    obtain ⟨ad', ea, c334⟩ := Kd.at_int (Kd.C_below HR.out q2) 334 (by omega) (by omega)
    obtain rfl := Option.some.inj ea
    clear ea
    replace c334 : W4.cell? ⟨ad.block, ad.off + 334, none⟩ = some (.int .u8 (rd l 334)) := c334
    have c334d : W4.drew.cell? ⟨ad.block, ad.off + 334, none⟩ = some (.int .u8 (rd l 334)) := (World.cell?_drew _ _).trans c334
    have p334 : (334 : Int) < l.length := Int.lt_of_lt_of_le (by decide) hli
    obtain ⟨ad', ea, c335⟩ := Kd.at_int (Kd.C_below HR.out q2) 335 (by omega) (by omega)
    obtain rfl := Option.some.inj ea
    clear ea
    replace c335 : W4.cell? ⟨ad.block, ad.off + 335, none⟩ = some (.int .u8 (rd l 335)) := c335
    have c335d : W4.drew.cell? ⟨ad.block, ad.off + 335, none⟩ = some (.int .u8 (rd l 335)) := (World.cell?_drew _ _).trans c335
    have p335 : (335 : Int) < l.length := Int.lt_of_lt_of_le (by decide) hli
    go_still_tail 11, (by kernel_rfl)
    change wpList _ _ _ _ _ W4.drew
    have p := ap p
    have q0 := ap q0
    have q1 := ap q1
    have q2 := aj q2
    generalize W4.drew = W5 at p q0 q1 q2 ⊢
    clear c334 c335 c334d c335d p334 p335
    have x0 : W5.cell? ⟨gx, 0, none⟩ = some (.string (strOfNums ((l.take (308 + aI l)).drop 308))) := (aa p 0).trans rfl
    have x1 : W5.cell? ⟨gx, 1, none⟩ = some (.int .u8 (rd l 327)) := (aa p 1).trans rfl
    have x2 : W5.cell? ⟨gx, 2, none⟩ = some (.int .i64 (am (rd l 327)).1) := (aa p 2).trans rfl
    have x3 : W5.cell? ⟨gx, 3, none⟩ = some (.bool true) := (aa p 3).trans rfl
    have x4 : W5.cell? ⟨gx, 4, none⟩ = some (.bool (am (rd l 327)).2.2.1) := (aa p 4).trans rfl
    have x5 : W5.cell? ⟨gx, 5, none⟩ = some (.bool (am (rd l 327)).2.2.2.1) := (aa p 5).trans rfl
    have x6 : W5.cell? ⟨gx, 6, none⟩ = some (.int .i64 (wrap64 (2 * 2 ^ min (rd l 328).toNat 64))) := (aa p 6).trans rfl
    have x7 : W5.cell? ⟨gx, 7, none⟩ = some (.int .i64 (sizeT (rd l 329))) := (aa p 7).trans rfl
    have x8 : W5.cell? ⟨gx, 8, none⟩ = some (.int .u8 (rd l 333)) := (aa p 8).trans rfl
    have x9 : W5.cell? ⟨gx, 9, none⟩ = some (.int .u16 0) := (aa p 9).trans rfl
    have y0 : W5.cell? ⟨w.heap.size, 0, none⟩ = some (.string ⟨#[]⟩) := (aa q0 0).trans rfl
    have y1 : W5.cell? ⟨w.heap.size, 1, none⟩ = some (.int .u8 0) := (aa q0 1).trans rfl
    have y2 : W5.cell? ⟨w.heap.size, 2, none⟩ = some (.int .i64 0) := (aa q0 2).trans rfl
    have y3 : W5.cell? ⟨w.heap.size, 3, none⟩ = some (.bool false) := (aa q0 3).trans rfl
    have y4 : W5.cell? ⟨w.heap.size, 4, none⟩ = some (.bool false) := (aa q0 4).trans rfl
    have y5 : W5.cell? ⟨w.heap.size, 5, none⟩ = some (.bool false) := (aa q0 5).trans rfl
    have y6 : W5.cell? ⟨w.heap.size, 6, none⟩ = some (.int .i64 0) := (aa q0 6).trans rfl
    have y7 : W5.cell? ⟨w.heap.size, 7, none⟩ = some (.int .i64 0) := (aa q0 7).trans rfl
    have y8 : W5.cell? ⟨w.heap.size, 8, none⟩ = some (.int .u8 0) := (aa q0 8).trans rfl
    have y9 : W5.cell? ⟨w.heap.size, 9, none⟩ = some (.int .u16 0) := (aa q0 9).trans rfl
    have e0 : W5.cell? ⟨w.heap.size + 1, 0, none⟩ = some (.int .i64 0) := (aa q1 0).trans rfl
    have fx := fun i => ae p i
    have fh := fun i => ae q0 i
    have fe := fun i => ae q1 i
    have hne : ¬ w.heap.size = gx := by omega
    have hne1 : ¬ w.heap.size + 1 = gx := by omega
    have hne2 : ¬ gx = w.heap.size := by omega
    have hne3 : ¬ gx = w.heap.size + 1 := by omega
    go_wp2_with fail
    have m0 : (W5.setCell ⟨gx, 9, none⟩ (.int .u16 (Go.bits .or .u16 (IntKind.u16.wrap (IntKind.u16.wrap (rd l 334) * 256)) (IntKind.u16.wrap (rd l 335))))).heap[w.heap.size]? = some (.cells #[.string ⟨#[]⟩, .int .u8 0, .int .i64 0, .bool false, .bool false, .bool false, .int .i64 0, .int .i64 0, .int .u8 0, .int .u16 0] 30 (0, 0)) := al q0 (by simp; omega) _
    have m0 := an (cs' := #[.string (strOfNums ((l.take (308 + aI l)).drop 308)), .int .u8 0, .int .i64 0, .bool false, .bool false, .bool false, .int .i64 0, .int .i64 0, .int .u8 0, .int .u16 0]) m0 0 (.string (strOfNums ((l.take (308 + aI l)).drop 308))) rfl
    have m0 := an (cs' := #[.string (strOfNums ((l.take (308 + aI l)).drop 308)), .int .u8 (rd l 327), .int .i64 0, .bool false, .bool false, .bool false, .int .i64 0, .int .i64 0, .int .u8 0, .int .u16 0]) m0 1 (.int .u8 (rd l 327)) rfl
    have m0 := an (cs' := #[.string (strOfNums ((l.take (308 + aI l)).drop 308)), .int .u8 (rd l 327), .int .i64 (am (rd l 327)).1, .bool false, .bool false, .bool false, .int .i64 0, .int .i64 0, .int .u8 0, .int .u16 0]) m0 2 (.int .i64 (am (rd l 327)).1) rfl
    have m0 := an (cs' := #[.string (strOfNums ((l.take (308 + aI l)).drop 308)), .int .u8 (rd l 327), .int .i64 (am (rd l 327)).1, .bool true, .bool false, .bool false, .int .i64 0, .int .i64 0, .int .u8 0, .int .u16 0]) m0 3 (.bool true) rfl
    have m0 := an (cs' := #[.string (strOfNums ((l.take (308 + aI l)).drop 308)), .int .u8 (rd l 327), .int .i64 (am (rd l 327)).1, .bool true, .bool (am (rd l 327)).2.2.1, .bool false, .int .i64 0, .int .i64 0, .int .u8 0, .int .u16 0]) m0 4 (.bool (am (rd l 327)).2.2.1) rfl
    have m0 := an (cs' := #[.string (strOfNums ((l.take (308 + aI l)).drop 308)), .int .u8 (rd l 327), .int .i64 (am (rd l 327)).1, .bool true, .bool (am (rd l 327)).2.2.1, .bool (am (rd l 327)).2.2.2.1, .int .i64 0, .int .i64 0, .int .u8 0, .int .u16 0]) m0 5 (.bool (am (rd l 327)).2.2.2.1) rfl
    have m0 := an (cs' := #[.string (strOfNums ((l.take (308 + aI l)).drop 308)), .int .u8 (rd l 327), .int .i64 (am (rd l 327)).1, .bool true, .bool (am (rd l 327)).2.2.1, .bool (am (rd l 327)).2.2.2.1, .int .i64 (wrap64 (2 * 2 ^ min (rd l 328).toNat 64)), .int .i64 0, .int .u8 0, .int .u16 0]) m0 6 (.int .i64 (wrap64 (2 * 2 ^ min (rd l 328).toNat 64))) rfl
    have m0 := an (cs' := #[.string (strOfNums ((l.take (308 + aI l)).drop 308)), .int .u8 (rd l 327), .int .i64 (am (rd l 327)).1, .bool true, .bool (am (rd l 327)).2.2.1, .bool (am (rd l 327)).2.2.2.1, .int .i64 (wrap64 (2 * 2 ^ min (rd l 328).toNat 64)), .int .i64 (sizeT (rd l 329)), .int .u8 0, .int .u16 0]) m0 7 (.int .i64 (sizeT (rd l 329))) rfl
    have m0 := an (cs' := #[.string (strOfNums ((l.take (308 + aI l)).drop 308)), .int .u8 (rd l 327), .int .i64 (am (rd l 327)).1, .bool true, .bool (am (rd l 327)).2.2.1, .bool (am (rd l 327)).2.2.2.1, .int .i64 (wrap64 (2 * 2 ^ min (rd l 328).toNat 64)), .int .i64 (sizeT (rd l 329)), .int .u8 (rd l 333), .int .u16 0]) m0 8 (.int .u8 (rd l 333)) rfl
    have m0 := an (cs' := #[.string (strOfNums ((l.take (308 + aI l)).drop 308)), .int .u8 (rd l 327), .int .i64 (am (rd l 327)).1, .bool true, .bool (am (rd l 327)).2.2.1, .bool (am (rd l 327)).2.2.2.1, .int .i64 (wrap64 (2 * 2 ^ min (rd l 328).toNat 64)), .int .i64 (sizeT (rd l 329)), .int .u8 (rd l 333), .int .u16 (Go.bits .or .u16 (IntKind.u16.wrap (IntKind.u16.wrap (rd l 334) * 256)) (IntKind.u16.wrap (rd l 335)))]) m0 9 (.int .u16 (Go.bits .or .u16 (IntKind.u16.wrap (IntKind.u16.wrap (rd l 334) * 256)) (IntKind.u16.wrap (rd l 335)))) rfl
    have m0 : ((((((((((((W5.setCell ⟨gx, 9, none⟩ (.int .u16 (Go.bits .or .u16 (IntKind.u16.wrap (IntKind.u16.wrap (rd l 334) * 256)) (IntKind.u16.wrap (rd l 335))))).setCell ⟨w.heap.size, 0, none⟩ (.string (strOfNums ((l.take (308 + aI l)).drop 308)))).setCell ⟨w.heap.size, 1, none⟩ (.int .u8 (rd l 327))).setCell ⟨w.heap.size, 2, none⟩ (.int .i64 (am (rd l 327)).1)).setCell ⟨w.heap.size, 3, none⟩ (.bool true)).setCell ⟨w.heap.size, 4, none⟩ (.bool (am (rd l 327)).2.2.1)).setCell ⟨w.heap.size, 5, none⟩ (.bool (am (rd l 327)).2.2.2.1)).setCell ⟨w.heap.size, 6, none⟩ (.int .i64 (wrap64 (2 * 2 ^ min (rd l 328).toNat 64)))).setCell ⟨w.heap.size, 7, none⟩ (.int .i64 (sizeT (rd l 329)))).setCell ⟨w.heap.size, 8, none⟩ (.int .u8 (rd l 333))).setCell ⟨w.heap.size, 9, none⟩ (.int .u16 (Go.bits .or .u16 (IntKind.u16.wrap (IntKind.u16.wrap (rd l 334) * 256)) (IntKind.u16.wrap (rd l 335))))).setCell ⟨w.heap.size + 1, 0, none⟩ (.int .i64 0)).heap[w.heap.size]? = some (.cells #[.string (strOfNums ((l.take (308 + aI l)).drop 308)), .int .u8 (rd l 327), .int .i64 (am (rd l 327)).1, .bool true, .bool (am (rd l 327)).2.2.1, .bool (am (rd l 327)).2.2.2.1, .int .i64 (wrap64 (2 * 2 ^ min (rd l 328).toNat 64)), .int .i64 (sizeT (rd l 329)), .int .u8 (rd l 333), .int .u16 (Go.bits .or .u16 (IntKind.u16.wrap (IntKind.u16.wrap (rd l 334) * 256)) (IntKind.u16.wrap (rd l 335)))] 30 (0, 0)) := al m0 (by simp) _
    have m1 : ((((((((((((W5.setCell ⟨gx, 9, none⟩ (.int .u16 (Go.bits .or .u16 (IntKind.u16.wrap (IntKind.u16.wrap (rd l 334) * 256)) (IntKind.u16.wrap (rd l 335))))).setCell ⟨w.heap.size, 0, none⟩ (.string (strOfNums ((l.take (308 + aI l)).drop 308)))).setCell ⟨w.heap.size, 1, none⟩ (.int .u8 (rd l 327))).setCell ⟨w.heap.size, 2, none⟩ (.int .i64 (am (rd l 327)).1)).setCell ⟨w.heap.size, 3, none⟩ (.bool true)).setCell ⟨w.heap.size, 4, none⟩ (.bool (am (rd l 327)).2.2.1)).setCell ⟨w.heap.size, 5, none⟩ (.bool (am (rd l 327)).2.2.2.1)).setCell ⟨w.heap.size, 6, none⟩ (.int .i64 (wrap64 (2 * 2 ^ min (rd l 328).toNat 64)))).setCell ⟨w.heap.size, 7, none⟩ (.int .i64 (sizeT (rd l 329)))).setCell ⟨w.heap.size, 8, none⟩ (.int .u8 (rd l 333))).setCell ⟨w.heap.size, 9, none⟩ (.int .u16 (Go.bits .or .u16 (IntKind.u16.wrap (IntKind.u16.wrap (rd l 334) * 256)) (IntKind.u16.wrap (rd l 335))))).setCell ⟨w.heap.size + 1, 0, none⟩ (.int .i64 0)).heap[w.heap.size + 1]? = some (.cells #[.int .i64 0] 26 (0, 0)) := an (al (al (al (al (al (al (al (al (al (al (al q1 (by simp; omega) _) (by simp) _) (by simp) _) (by simp) _) (by simp) _) (by simp) _) (by simp) _) (by simp) _) (by simp) _) (by simp) _) (by simp) _) 0 _ rfl
    have m2 : Below w.heap.size w ((((((((((((W5.setCell ⟨gx, 9, none⟩ (.int .u16 (Go.bits .or .u16 (IntKind.u16.wrap (IntKind.u16.wrap (rd l 334) * 256)) (IntKind.u16.wrap (rd l 335))))).setCell ⟨w.heap.size, 0, none⟩ (.string (strOfNums ((l.take (308 + aI l)).drop 308)))).setCell ⟨w.heap.size, 1, none⟩ (.int .u8 (rd l 327))).setCell ⟨w.heap.size, 2, none⟩ (.int .i64 (am (rd l 327)).1)).setCell ⟨w.heap.size, 3, none⟩ (.bool true)).setCell ⟨w.heap.size, 4, none⟩ (.bool (am (rd l 327)).2.2.1)).setCell ⟨w.heap.size, 5, none⟩ (.bool (am (rd l 327)).2.2.2.1)).setCell ⟨w.heap.size, 6, none⟩ (.int .i64 (wrap64 (2 * 2 ^ min (rd l 328).toNat 64)))).setCell ⟨w.heap.size, 7, none⟩ (.int .i64 (sizeT (rd l 329)))).setCell ⟨w.heap.size, 8, none⟩ (.int .u8 (rd l 333))).setCell ⟨w.heap.size, 9, none⟩ (.int .u16 (Go.bits .or .u16 (IntKind.u16.wrap (IntKind.u16.wrap (rd l 334) * 256)) (IntKind.u16.wrap (rd l 335))))).setCell ⟨w.heap.size + 1, 0, none⟩ (.int .i64 0)) := ag (ag (ag (ag (ag (ag (ag (ag (ag (ag (ag (ag q2 (by omega)) (Nat.le_refl _)) (Nat.le_refl _)) (Nat.le_refl _)) (Nat.le_refl _)) (Nat.le_refl _)) (Nat.le_refl _)) (Nat.le_refl _)) (Nat.le_refl _)) (Nat.le_refl _)) (Nat.le_refl _)) (Nat.le_succ _)
    generalize ((((((((((((W5.setCell ⟨gx, 9, none⟩ (.int .u16 (Go.bits .or .u16 (IntKind.u16.wrap (IntKind.u16.wrap (rd l 334) * 256)) (IntKind.u16.wrap (rd l 335))))).setCell ⟨w.heap.size, 0, none⟩ (.string (strOfNums ((l.take (308 + aI l)).drop 308)))).setCell ⟨w.heap.size, 1, none⟩ (.int .u8 (rd l 327))).setCell ⟨w.heap.size, 2, none⟩ (.int .i64 (am (rd l 327)).1)).setCell ⟨w.heap.size, 3, none⟩ (.bool true)).setCell ⟨w.heap.size, 4, none⟩ (.bool (am (rd l 327)).2.2.1)).setCell ⟨w.heap.size, 5, none⟩ (.bool (am (rd l 327)).2.2.2.1)).setCell ⟨w.heap.size, 6, none⟩ (.int .i64 (wrap64 (2 * 2 ^ min (rd l 328).toNat 64)))).setCell ⟨w.heap.size, 7, none⟩ (.int .i64 (sizeT (rd l 329)))).setCell ⟨w.heap.size, 8, none⟩ (.int .u8 (rd l 333))).setCell ⟨w.heap.size, 9, none⟩ (.int .u16 (Go.bits .or .u16 (IntKind.u16.wrap (IntKind.u16.wrap (rd l 334) * 256)) (IntKind.u16.wrap (rd l 335))))).setCell ⟨w.heap.size + 1, 0, none⟩ (.int .i64 0)) = Y at m0 m1 m2 ⊢
    clear p q0 q1 q2 fx fh fe hne hne1 hne2 hne3 e0 x0 x1 x2 x3 x4 x5 x6 x7 x8 x9 y0 y1 y2 y3 y4 y5 y6 y7 y8 y9
    have u0 : Y.cell? ⟨w.heap.size, 0, none⟩ = some (.string (strOfNums ((l.take (308 + aI l)).drop 308))) := (aa m0 0).trans rfl
    have u1 : Y.cell? ⟨w.heap.size, 1, none⟩ = some (.int .u8 (rd l 327)) := (aa m0 1).trans rfl
    have u2 : Y.cell? ⟨w.heap.size, 2, none⟩ = some (.int .i64 (am (rd l 327)).1) := (aa m0 2).trans rfl
    have u3 : Y.cell? ⟨w.heap.size, 3, none⟩ = some (.bool true) := (aa m0 3).trans rfl
    have u4 : Y.cell? ⟨w.heap.size, 4, none⟩ = some (.bool (am (rd l 327)).2.2.1) := (aa m0 4).trans rfl
    have u5 : Y.cell? ⟨w.heap.size, 5, none⟩ = some (.bool (am (rd l 327)).2.2.2.1) := (aa m0 5).trans rfl
    have u6 : Y.cell? ⟨w.heap.size, 6, none⟩ = some (.int .i64 (wrap64 (2 * 2 ^ min (rd l 328).toNat 64))) := (aa m0 6).trans rfl
    have u7 : Y.cell? ⟨w.heap.size, 7, none⟩ = some (.int .i64 (sizeT (rd l 329))) := (aa m0 7).trans rfl
    have u8 : Y.cell? ⟨w.heap.size, 8, none⟩ = some (.int .u8 (rd l 333)) := (aa m0 8).trans rfl
    have u9 : Y.cell? ⟨w.heap.size, 9, none⟩ = some (.int .u16 (Go.bits .or .u16 (IntKind.u16.wrap (IntKind.u16.wrap (rd l 334) * 256)) (IntKind.u16.wrap (rd l 335)))) := (aa m0 9).trans rfl
    have v0 : Y.cell? ⟨w.heap.size + 1, 0, none⟩ = some (.int .i64 0) := (aa m1 0).trans rfl
    refine leaves_cons (f := 53) (args := #[.pointer (some ⟨w.heap.size + 1, 0, none⟩)]) (by simp) (by simp [go_sem]) ?_
    refine (parse_idle ⟨w.heap.size + 1, 0, none⟩ _).mono ?_
    rintro e u' w'' ⟨rfl, rfl, rfl⟩
    simp [Leaves, settle, results, Try.results28, go_sem, ramT, hram, u0, u1, u2, u3, u4, u5, u6, u7, u8, u9, v0, m2]
   | false =>
    rw [hram] at a3
    go_wp2_with fail
    have p : W.heap[gx]? = some (.cells #[.string ⟨#[]⟩, .int .u8 (rd l 327), .int .i64 (am (rd l 327)).1, .bool false, .bool (am (rd l 327)).2.2.1, .bool (am (rd l 327)).2.2.2.1, .int .i64 0, .int .i64 0, .int .u8 0, .int .u16 0] 30 (0, 0)) := by have q := F3.out; rw [hram] at q; exact q
    have p := an (cs' := #[.string (strOfNums ((l.take (308 + aI l)).drop 308)), .int .u8 (rd l 327), .int .i64 (am (rd l 327)).1, .bool false, .bool (am (rd l 327)).2.2.1, .bool (am (rd l 327)).2.2.2.1, .int .i64 0, .int .i64 0, .int .u8 0, .int .u16 0]) p 0 (.string (strOfNums ((l.take (308 + aI l)).drop 308))) rfl
    have p := an (cs' := #[.string (strOfNums ((l.take (308 + aI l)).drop 308)), .int .u8 (rd l 327), .int .i64 (am (rd l 327)).1, .bool false, .bool (am (rd l 327)).2.2.1, .bool (am (rd l 327)).2.2.2.1, .int .i64 (wrap64 (2 * 2 ^ min (rd l 328).toNat 64)), .int .i64 0, .int .u8 0, .int .u16 0]) p 6 (.int .i64 (wrap64 (2 * 2 ^ min (rd l 328).toNat 64))) rfl
    have p := an (cs' := #[.string (strOfNums ((l.take (308 + aI l)).drop 308)), .int .u8 (rd l 327), .int .i64 (am (rd l 327)).1, .bool false, .bool (am (rd l 327)).2.2.1, .bool (am (rd l 327)).2.2.2.1, .int .i64 (wrap64 (2 * 2 ^ min (rd l 328).toNat 64)), .int .i64 0, .int .u8 (rd l 333), .int .u16 0]) p 8 (.int .u8 (rd l 333)) rfl
    have q0 : (((W.setCell ⟨gx, 0, none⟩ (.string (strOfNums ((l.take (308 + aI l)).drop 308)))).setCell ⟨gx, 6, none⟩ (.int .i64 (wrap64 (2 * 2 ^ min (rd l 328).toNat 64)))).setCell ⟨gx, 8, none⟩ (.int .u8 (rd l 333))).heap[w.heap.size]? = some (.cells #[.string ⟨#[]⟩, .int .u8 0, .int .i64 0, .bool false, .bool false, .bool false, .int .i64 0, .int .i64 0, .int .u8 0, .int .u16 0] 30 (0, 0)) := (al (al (al F0.out (by simp; omega) _) (by simp; omega) _) (by simp; omega) _)
    have q1 : (((W.setCell ⟨gx, 0, none⟩ (.string (strOfNums ((l.take (308 + aI l)).drop 308)))).setCell ⟨gx, 6, none⟩ (.int .i64 (wrap64 (2 * 2 ^ min (rd l 328).toNat 64)))).setCell ⟨gx, 8, none⟩ (.int .u8 (rd l 333))).heap[w.heap.size + 1]? = some (.cells #[.int .i64 0] 26 (0, 0)) := (al (al (al F1.out (by simp; omega) _) (by simp; omega) _) (by simp; omega) _)
    have q2 : Below w.heap.size w (((W.setCell ⟨gx, 0, none⟩ (.string (strOfNums ((l.take (308 + aI l)).drop 308)))).setCell ⟨gx, 6, none⟩ (.int .i64 (wrap64 (2 * 2 ^ min (rd l 328).toNat 64)))).setCell ⟨gx, 8, none⟩ (.int .u8 (rd l 333))) := (ag (ag (ag F2.out (by omega)) (by omega)) (by omega))
    clear a0 a1 a2 a3 a4 a5 a6 a7 a8 a9 c333 hcv KD fz
    generalize (((W.setCell ⟨gx, 0, none⟩ (.string (strOfNums ((l.take (308 + aI l)).drop 308)))).setCell ⟨gx, 6, none⟩ (.int .i64 (wrap64 (2 * 2 ^ min (rd l 328).toNat 64)))).setCell ⟨gx, 8, none⟩ (.int .u8 (rd l 333))) = W4 at p q0 q1 q2 ⊢
    obtain ⟨ad', ea, c334⟩ := Kd.at_int (Kd.C_below HR.out q2) 334 (by omega) (by omega)
    obtain rfl := Option.some.inj ea
    clear ea
    replace c334 : W4.cell? ⟨ad.block, ad.off + 334, none⟩ = some (.int .u8 (rd l 334)) := c334
    have c334d : W4.drew.cell? ⟨ad.block, ad.off + 334, none⟩ = some (.int .u8 (rd l 334)) := (World.cell?_drew _ _).trans c334
    have p334 : (334 : Int) < l.length := Int.lt_of_lt_of_le (by decide) hli
    obtain ⟨ad', ea, c335⟩ := Kd.at_int (Kd.C_below HR.out q2) 335 (by omega) (by omega)
    obtain rfl := Option.some.inj ea
    clear ea
    replace c335 : W4.cell? ⟨ad.block, ad.off + 335, none⟩ = some (.int .u8 (rd l 335)) := c335
    have c335d : W4.drew.cell? ⟨ad.block, ad.off + 335, none⟩ = some (.int .u8 (rd l 335)) := (World.cell?_drew _ _).trans c335
    have p335 : (335 : Int) < l.length := Int.lt_of_lt_of_le (by decide) hli
    go_still_tail 11, (by kernel_rfl)
    change wpList _ _ _ _ _ W4.drew
    have p := ap p
    have q0 := ap q0
    have q1 := ap q1
    have q2 := aj q2
    generalize W4.drew = W5 at p q0 q1 q2 ⊢
    clear c334 c335 c334d c335d p334 p335
    have x0 : W5.cell? ⟨gx, 0, none⟩ = some (.string (strOfNums ((l.take (308 + aI l)).drop 308))) := (aa p 0).trans rfl
    have x1 : W5.cell? ⟨gx, 1, none⟩ = some (.int .u8 (rd l 327)) := (aa p 1).trans rfl
    have x2 : W5.cell? ⟨gx, 2, none⟩ = some (.int .i64 (am (rd l 327)).1) := (aa p 2).trans rfl
    have x3 : W5.cell? ⟨gx, 3, none⟩ = some (.bool false) := (aa p 3).trans rfl
    have x4 : W5.cell? ⟨gx, 4, none⟩ = some (.bool (am (rd l 327)).2.2.1) := (aa p 4).trans rfl
    have x5 : W5.cell? ⟨gx, 5, none⟩ = some (.bool (am (rd l 327)).2.2.2.1) := (aa p 5).trans rfl
    have x6 : W5.cell? ⟨gx, 6, none⟩ = some (.int .i64 (wrap64 (2 * 2 ^ min (rd l 328).toNat 64))) := (aa p 6).trans rfl
    have x7 : W5.cell? ⟨gx, 7, none⟩ = some (.int .i64 0) := (aa p 7).trans rfl
    have x8 : W5.cell? ⟨gx, 8, none⟩ = some (.int .u8 (rd l 333)) := (aa p 8).trans rfl
    have x9 : W5.cell? ⟨gx, 9, none⟩ = some (.int .u16 0) := (aa p 9).trans rfl
    have y0 : W5.cell? ⟨w.heap.size, 0, none⟩ = some (.string ⟨#[]⟩) := (aa q0 0).trans rfl
    have y1 : W5.cell? ⟨w.heap.size, 1, none⟩ = some (.int .u8 0) := (aa q0 1).trans rfl
    have y2 : W5.cell? ⟨w.heap.size, 2, none⟩ = some (.int .i64 0) := (aa q0 2).trans rfl
    have y3 : W5.cell? ⟨w.heap.size, 3, none⟩ = some (.bool false) := (aa q0 3).trans rfl
    have y4 : W5.cell? ⟨w.heap.size, 4, none⟩ = some (.bool false) := (aa q0 4).trans rfl
    have y5 : W5.cell? ⟨w.heap.size, 5, none⟩ = some (.bool false) := (aa q0 5).trans rfl
    have y6 : W5.cell? ⟨w.heap.size, 6, none⟩ = some (.int .i64 0) := (aa q0 6).trans rfl
    have y7 : W5.cell? ⟨w.heap.size, 7, none⟩ = some (.int .i64 0) := (aa q0 7).trans rfl
    have y8 : W5.cell? ⟨w.heap.size, 8, none⟩ = some (.int .u8 0) := (aa q0 8).trans rfl
    have y9 : W5.cell? ⟨w.heap.size, 9, none⟩ = some (.int .u16 0) := (aa q0 9).trans rfl
    have e0 : W5.cell? ⟨w.heap.size + 1, 0, none⟩ = some (.int .i64 0) := (aa q1 0).trans rfl
    have fx := fun i => ae p i
    have fh := fun i => ae q0 i
    have fe := fun i => ae q1 i
    have hne : ¬ w.heap.size = gx := by omega
    have hne1 : ¬ w.heap.size + 1 = gx := by omega
    have hne2 : ¬ gx = w.heap.size := by omega
    have hne3 : ¬ gx = w.heap.size + 1 := by omega
    go_wp2_with fail
    have m0 : (W5.setCell ⟨gx, 9, none⟩ (.int .u16 (Go.bits .or .u16 (IntKind.u16.wrap (IntKind.u16.wrap (rd l 334) * 256)) (IntKind.u16.wrap (rd l 335))))).heap[w.heap.size]? = some (.cells #[.string ⟨#[]⟩, .int .u8 0, .int .i64 0, .bool false, .bool false, .bool false, .int .i64 0, .int .i64 0, .int .u8 0, .int .u16 0] 30 (0, 0)) := al q0 (by simp; omega) _
    have m0 := an (cs' := #[.string (strOfNums ((l.take (308 + aI l)).drop 308)), .int .u8 0, .int .i64 0, .bool false, .bool false, .bool false, .int .i64 0, .int .i64 0, .int .u8 0, .int .u16 0]) m0 0 (.string (strOfNums ((l.take (308 + aI l)).drop 308))) rfl
    have m0 := an (cs' := #[.string (strOfNums ((l.take (308 + aI l)).drop 308)), .int .u8 (rd l 327), .int .i64 0, .bool false, .bool false, .bool false, .int .i64 0, .int .i64 0, .int .u8 0, .int .u16 0]) m0 1 (.int .u8 (rd l 327)) rfl
    have m0 := an (cs' := #[.string (strOfNums ((l.take (308 + aI l)).drop 308)), .int .u8 (rd l 327), .int .i64 (am (rd l 327)).1, .bool false, .bool false, .bool false, .int .i64 0, .int .i64 0, .int .u8 0, .int .u16 0]) m0 2 (.int .i64 (am (rd l 327)).1) rfl
    have m0 := an (cs' := #[.string (strOfNums ((l.take (308 + aI l)).drop 308)), .int .u8 (rd l 327), .int .i64 (am (rd l 327)).1, .bool false, .bool false, .bool false, .int .i64 0, .int .i64 0, .int .u8 0, .int .u16 0]) m0 3 (.bool false) rfl
    have m0 := an (cs' := #[.string (strOfNums ((l.take (308 + aI l)).drop 308)), .int .u8 (rd l 327), .int .i64 (am (rd l 327)).1, .bool false, .bool (am (rd l 327)).2.2.1, .bool false, .int .i64 0, .int .i64 0, .int .u8 0, .int .u16 0]) m0 4 (.bool (am (rd l 327)).2.2.1) rfl
    have m0 := an (cs' := #[.string (strOfNums ((l.take (308 + aI l)).drop 308)), .int .u8 (rd l 327), .int .i64 (am (rd l 327)).1, .bool false, .bool (am (rd l 327)).2.2.1, .bool (am (rd l 327)).2.2.2.1, .int .i64 0, .int .i64 0, .int .u8 0, .int .u16 0]) m0 5 (.bool (am (rd l 327)).2.2.2.1) rfl
    have m0 := an (cs' := #[.string (strOfNums ((l.take (308 + aI l)).drop 308)), .int .u8 (rd l 327), .int .i64 (am (rd l 327)).1, .bool false, .bool (am (rd l 327)).2.2.1, .bool (am (rd l 327)).2.2.2.1, .int .i64 (wrap64 (2 * 2 ^ min (rd l 328).toNat 64)), .int .i64 0, .int .u8 0, .int .u16 0]) m0 6 (.int .i64 (wrap64 (2 * 2 ^ min (rd l 328).toNat 64))) rfl
    have m0 := an (cs' := #[.string (strOfNums ((l.take (308 + aI l)).drop 308)), .int .u8 (rd l 327), .int .i64 (am (rd l 327)).1, .bool false, .bool (am (rd l 327)).2.2.1, .bool (am (rd l 327)).2.2.2.1, .int .i64 (wrap64 (2 * 2 ^ min (rd l 328).toNat 64)), .int .i64 0, .int .u8 0, .int .u16 0]) m0 7 (.int .i64 0) rfl
    have m0 := an (cs' := #[.string (strOfNums ((l.take (308 + aI l)).drop 308)), .int .u8 (rd l 327), .int .i64 (am (rd l 327)).1, .bool false, .bool (am (rd l 327)).2.2.1, .bool (am (rd l 327)).2.2.2.1, .int .i64 (wrap64 (2 * 2 ^ min (rd l 328).toNat 64)), .int .i64 0, .int .u8 (rd l 333), .int .u16 0]) m0 8 (.int .u8 (rd l 333)) rfl
    have m0 := an (cs' := #[.string (strOfNums ((l.take (308 + aI l)).drop 308)), .int .u8 (rd l 327), .int .i64 (am (rd l 327)).1, .bool false, .bool (am (rd l 327)).2.2.1, .bool (am (rd l 327)).2.2.2.1, .int .i64 (wrap64 (2 * 2 ^ min (rd l 328).toNat 64)), .int .i64 0, .int .u8 (rd l 333), .int .u16 (Go.bits .or .u16 (IntKind.u16.wrap (IntKind.u16.wrap (rd l 334) * 256)) (IntKind.u16.wrap (rd l 335)))]) m0 9 (.int .u16 (Go.bits .or .u16 (IntKind.u16.wrap (IntKind.u16.wrap (rd l 334) * 256)) (IntKind.u16.wrap (rd l 335)))) rfl
    have m0 : ((((((((((((W5.setCell ⟨gx, 9, none⟩ (.int .u16 (Go.bits .or .u16 (IntKind.u16.wrap (IntKind.u16.wrap (rd l 334) * 256)) (IntKind.u16.wrap (rd l 335))))).setCell ⟨w.heap.size, 0, none⟩ (.string (strOfNums ((l.take (308 + aI l)).drop 308)))).setCell ⟨w.heap.size, 1, none⟩ (.int .u8 (rd l 327))).setCell ⟨w.heap.size, 2, none⟩ (.int .i64 (am (rd l 327)).1)).setCell ⟨w.heap.size, 3, none⟩ (.bool false)).setCell ⟨w.heap.size, 4, none⟩ (.bool (am (rd l 327)).2.2.1)).setCell ⟨w.heap.size, 5, none⟩ (.bool (am (rd l 327)).2.2.2.1)).setCell ⟨w.heap.size, 6, none⟩ (.int .i64 (wrap64 (2 * 2 ^ min (rd l 328).toNat 64)))).setCell ⟨w.heap.size, 7, none⟩ (.int .i64 0)).setCell ⟨w.heap.size, 8, none⟩ (.int .u8 (rd l 333))).setCell ⟨w.heap.size, 9, none⟩ (.int .u16 (Go.bits .or .u16 (IntKind.u16.wrap (IntKind.u16.wrap (rd l 334) * 256)) (IntKind.u16.wrap (rd l 335))))).setCell ⟨w.heap.size + 1, 0, none⟩ (.int .i64 0)).heap[w.heap.size]? = some (.cells #[.string (strOfNums ((l.take (308 + aI l)).drop 308)), .int .u8 (rd l 327), .int .i64 (am (rd l 327)).1, .bool false, .bool (am (rd l 327)).2.2.1, .bool (am (rd l 327)).2.2.2.1, .int .i64 (wrap64 (2 * 2 ^ min (rd l 328).toNat 64)), .int .i64 0, .int .u8 (rd l 333), .int .u16 (Go.bits .or .u16 (IntKind.u16.wrap (IntKind.u16.wrap (rd l 334) * 256)) (IntKind.u16.wrap (rd l 335)))] 30 (0, 0)) := al m0 (by simp) _
    have m1 : ((((((((((((W5.setCell ⟨gx, 9, none⟩ (.int .u16 (Go.bits .or .u16 (IntKind.u16.wrap (IntKind.u16.wrap (rd l 334) * 256)) (IntKind.u16.wrap (rd l 335))))).setCell ⟨w.heap.size, 0, none⟩ (.string (strOfNums ((l.take (308 + aI l)).drop 308)))).setCell ⟨w.heap.size, 1, none⟩ (.int .u8 (rd l 327))).setCell ⟨w.heap.size, 2, none⟩ (.int .i64 (am (rd l 327)).1)).setCell ⟨w.heap.size, 3, none⟩ (.bool false)).setCell ⟨w.heap.size, 4, none⟩ (.bool (am (rd l 327)).2.2.1)).setCell ⟨w.heap.size, 5, none⟩ (.bool (am (rd l 327)).2.2.2.1)).setCell ⟨w.heap.size, 6, none⟩ (.int .i64 (wrap64 (2 * 2 ^ min (rd l 328).toNat 64)))).setCell ⟨w.heap.size, 7, none⟩ (.int .i64 0)).setCell ⟨w.heap.size, 8, none⟩ (.int .u8 (rd l 333))).setCell ⟨w.heap.size, 9, none⟩ (.int .u16 (Go.bits .or .u16 (IntKind.u16.wrap (IntKind.u16.wrap (rd l 334) * 256)) (IntKind.u16.wrap (rd l 335))))).setCell ⟨w.heap.size + 1, 0, none⟩ (.int .i64 0)).heap[w.heap.size + 1]? = some (.cells #[.int .i64 0] 26 (0, 0)) := an (al (al (al (al (al (al (al (al (al (al (al q1 (by simp; omega) _) (by simp) _) (by simp) _) (by simp) _) (by simp) _) (by simp) _) (by simp) _) (by simp) _) (by simp) _) (by simp) _) (by simp) _) 0 _ rfl
    have m2 : Below w.heap.size w ((((((((((((W5.setCell ⟨gx, 9, none⟩ (.int .u16 (Go.bits .or .u16 (IntKind.u16.wrap (IntKind.u16.wrap (rd l 334) * 256)) (IntKind.u16.wrap (rd l 335))))).setCell ⟨w.heap.size, 0, none⟩ (.string (strOfNums ((l.take (308 + aI l)).drop 308)))).setCell ⟨w.heap.size, 1, none⟩ (.int .u8 (rd l 327))).setCell ⟨w.heap.size, 2, none⟩ (.int .i64 (am (rd l 327)).1)).setCell ⟨w.heap.size, 3, none⟩ (.bool false)).setCell ⟨w.heap.size, 4, none⟩ (.bool (am (rd l 327)).2.2.1)).setCell ⟨w.heap.size, 5, none⟩ (.bool (am (rd l 327)).2.2.2.1)).setCell ⟨w.heap.size, 6, none⟩ (.int .i64 (wrap64 (2 * 2 ^ min (rd l 328).toNat 64)))).setCell ⟨w.heap.size, 7, none⟩ (.int .i64 0)).setCell ⟨w.heap.size, 8, none⟩ (.int .u8 (rd l 333))).setCell ⟨w.heap.size, 9, none⟩ (.int .u16 (Go.bits .or .u16 (IntKind.u16.wrap (IntKind.u16.wrap (rd l 334) * 256)) (IntKind.u16.wrap (rd l 335))))).setCell ⟨w.heap.size + 1, 0, none⟩ (.int .i64 0)) := ag (ag (ag (ag (ag (ag (ag (ag (ag (ag (ag (ag q2 (by omega)) (Nat.le_refl _)) (Nat.le_refl _)) (Nat.le_refl _)) (Nat.le_refl _)) (Nat.le_refl _)) (Nat.le_refl _)) (Nat.le_refl _)) (Nat.le_refl _)) (Nat.le_refl _)) (Nat.le_refl _)) (Nat.le_succ _)
    generalize ((((((((((((W5.setCell ⟨gx, 9, none⟩ (.int .u16 (Go.bits .or .u16 (IntKind.u16.wrap (IntKind.u16.wrap (rd l 334) * 256)) (IntKind.u16.wrap (rd l 335))))).setCell ⟨w.heap.size, 0, none⟩ (.string (strOfNums ((l.take (308 + aI l)).drop 308)))).setCell ⟨w.heap.size, 1, none⟩ (.int .u8 (rd l 327))).setCell ⟨w.heap.size, 2, none⟩ (.int .i64 (am (rd l 327)).1)).setCell ⟨w.heap.size, 3, none⟩ (.bool false)).setCell ⟨w.heap.size, 4, none⟩ (.bool (am (rd l 327)).2.2.1)).setCell ⟨w.heap.size, 5, none⟩ (.bool (am (rd l 327)).2.2.2.1)).setCell ⟨w.heap.size, 6, none⟩ (.int .i64 (wrap64 (2 * 2 ^ min (rd l 328).toNat 64)))).setCell ⟨w.heap.size, 7, none⟩ (.int .i64 0)).setCell ⟨w.heap.size, 8, none⟩ (.int .u8 (rd l 333))).setCell ⟨w.heap.size, 9, none⟩ (.int .u16 (Go.bits .or .u16 (IntKind.u16.wrap (IntKind.u16.wrap (rd l 334) * 256)) (IntKind.u16.wrap (rd l 335))))).setCell ⟨w.heap.size + 1, 0, none⟩ (.int .i64 0)) = Y at m0 m1 m2 ⊢
    clear p q0 q1 q2 fx fh fe hne hne1 hne2 hne3 e0 x0 x1 x2 x3 x4 x5 x6 x7 x8 x9 y0 y1 y2 y3 y4 y5 y6 y7 y8 y9
    have u0 : Y.cell? ⟨w.heap.size, 0, none⟩ = some (.string (strOfNums ((l.take (308 + aI l)).drop 308))) := (aa m0 0).trans rfl
    have u1 : Y.cell? ⟨w.heap.size, 1, none⟩ = some (.int .u8 (rd l 327)) := (aa m0 1).trans rfl
    have u2 : Y.cell? ⟨w.heap.size, 2, none⟩ = some (.int .i64 (am (rd l 327)).1) := (aa m0 2).trans rfl
    have u3 : Y.cell? ⟨w.heap.size, 3, none⟩ = some (.bool false) := (aa m0 3).trans rfl
    have u4 : Y.cell? ⟨w.heap.size, 4, none⟩ = some (.bool (am (rd l 327)).2.2.1) := (aa m0 4).trans rfl
    have u5 : Y.cell? ⟨w.heap.size, 5, none⟩ = some (.bool (am (rd l 327)).2.2.2.1) := (aa m0 5).trans rfl
    have u6 : Y.cell? ⟨w.heap.size, 6, none⟩ = some (.int .i64 (wrap64 (2 * 2 ^ min (rd l 328).toNat 64))) := (aa m0 6).trans rfl
    have u7 : Y.cell? ⟨w.heap.size, 7, none⟩ = some (.int .i64 0) := (aa m0 7).trans rfl
    have u8 : Y.cell? ⟨w.heap.size, 8, none⟩ = some (.int .u8 (rd l 333)) := (aa m0 8).trans rfl
    have u9 : Y.cell? ⟨w.heap.size, 9, none⟩ = some (.int .u16 (Go.bits .or .u16 (IntKind.u16.wrap (IntKind.u16.wrap (rd l 334) * 256)) (IntKind.u16.wrap (rd l 335)))) := (aa m0 9).trans rfl
    have v0 : Y.cell? ⟨w.heap.size + 1, 0, none⟩ = some (.int .i64 0) := (aa m1 0).trans rfl
    refine leaves_cons (f := 53) (args := #[.pointer (some ⟨w.heap.size + 1, 0, none⟩)]) (by simp) (by simp [go_sem]) ?_
    refine (parse_idle ⟨w.heap.size + 1, 0, none⟩ _).mono ?_
    rintro e u' w'' ⟨rfl, rfl, rfl⟩
    simp [Leaves, settle, results, Try.results28, go_sem, ramT, hram, u0, u1, u2, u3, u4, u5, u6, u7, u8, u9, v0, m2]
theorem hparse_short (A : Option Addr) (c : Nat) (l : List Int) (hl : ¬ (336 : Int) ≤ l.length) (w : World) :
  Calls Try.prog 28 #[.slice A l.length c] w fun e' w' => e' = .returned (.tuple #[.agg #[.string ⟨#[]⟩, .int .u8 0, .int .i64 0, .bool false, .bool false, .bool false, .int .i64 0, .int .i64 0, .int .u8 0, .int .u16 0], .int .i64 2]) ∧ Below w.heap.size w w' := by
 have hmf : ∀ (fn : Fn) (first cap : Array Value) (w : World), (Instr.makeFunc fn first cap).run Try.prog w = .ok (.func fn first cap) w := fun _ _ _ _ => rfl
 go_enter_defers Try.func28, Try.ntmps28
 go_wp2_with fail
 have z0 := ah (aC w (.cells #[.string ⟨#[]⟩, .int .u8 0, .int .i64 0, .bool false, .bool false, .bool false, .int .i64 0, .int .i64 0, .int .u8 0, .int .u16 0] 30)) (.cells #[.int .i64 0] 26)
 have z1 := heap_alloc_new (w.alloc (.cells #[.string ⟨#[]⟩, .int .u8 0, .int .i64 0, .bool false, .bool false, .bool false, .int .i64 0, .int .i64 0, .int .u8 0, .int .u16 0] 30)) (.cells #[.int .i64 0] 26)
 rw [show (w.alloc (.cells #[.string ⟨#[]⟩, .int .u8 0, .int .i64 0, .bool false, .bool false, .bool false, .int .i64 0, .int .i64 0, .int .u8 0, .int .u16 0] 30)).heap.size = w.heap.size + 1 by simp] at z1
 have z2 := ac (ac (Below.refl w.heap.size w) (.cells #[.string ⟨#[]⟩, .int .u8 0, .int .i64 0, .bool false, .bool false, .bool false, .int .i64 0, .int .i64 0, .int .u8 0, .int .u16 0] 30)) (.cells #[.int .i64 0] 26)
 generalize (w.alloc (.cells #[.string ⟨#[]⟩, .int .u8 0, .int .i64 0, .bool false, .bool false, .bool false, .int .i64 0, .int .i64 0, .int .u8 0, .int .u16 0] 30)).alloc (.cells #[.int .i64 0] 26) = W0 at z0 z1 z2 ⊢
 refine (need_no 2 _).mono ?_
 rintro e' w' ⟨rfl, hw⟩
 replace hw := hw.symm
 subst hw
 refine leaves_cons (f := 53) (args := #[.pointer (some ⟨w.heap.size + 1, 0, none⟩)]) (by simp) (by simp [go_sem]) ?_
 refine (bX ⟨w.heap.size + 1, 0, none⟩ 0 2 [] _ ((aa (z1) 0).trans rfl) (ae (z1) 0)).mono ?_
 rintro e u' w'' ⟨rfl, rfl, rfl⟩
 have m0 : ((W0).setCell ⟨w.heap.size + 1, 0, none⟩ (.int .i64 2)).heap[w.heap.size]? = some (.cells #[.string ⟨#[]⟩, .int .u8 0, .int .i64 0, .bool false, .bool false, .bool false, .int .i64 0, .int .i64 0, .int .u8 0, .int .u16 0] 30 (0, 0)) := al (z0) (by simp) _
 have m1 : ((W0).setCell ⟨w.heap.size + 1, 0, none⟩ (.int .i64 2)).heap[w.heap.size + 1]? = some (.cells #[.int .i64 2] 26 (0, 0)) := an (z1) 0 _ rfl
 have m2 : Below w.heap.size w ((W0).setCell ⟨w.heap.size + 1, 0, none⟩ (.int .i64 2)) := ag (z2) (Nat.le_succ _)
 generalize ((W0).setCell ⟨w.heap.size + 1, 0, none⟩ (.int .i64 2)) = Y at m0 m1 m2 ⊢
 have u0 : Y.cell? ⟨w.heap.size, 0, none⟩ = some (.string ⟨#[]⟩) := (aa m0 0).trans rfl
 have u1 : Y.cell? ⟨w.heap.size, 1, none⟩ = some (.int .u8 0) := (aa m0 1).trans rfl
 have u2 : Y.cell? ⟨w.heap.size, 2, none⟩ = some (.int .i64 0) := (aa m0 2).trans rfl
 have u3 : Y.cell? ⟨w.heap.size, 3, none⟩ = some (.bool false) := (aa m0 3).trans rfl
 have u4 : Y.cell? ⟨w.heap.size, 4, none⟩ = some (.bool false) := (aa m0 4).trans rfl
 have u5 : Y.cell? ⟨w.heap.size, 5, none⟩ = some (.bool false) := (aa m0 5).trans rfl
 have u6 : Y.cell? ⟨w.heap.size, 6, none⟩ = some (.int .i64 0) := (aa m0 6).trans rfl
 have u7 : Y.cell? ⟨w.heap.size, 7, none⟩ = some (.int .i64 0) := (aa m0 7).trans rfl
 have u8 : Y.cell? ⟨w.heap.size, 8, none⟩ = some (.int .u8 0) := (aa m0 8).trans rfl
 have u9 : Y.cell? ⟨w.heap.size, 9, none⟩ = some (.int .u16 0) := (aa m0 9).trans rfl
 have v0 : Y.cell? ⟨w.heap.size + 1, 0, none⟩ = some (.int .i64 2) := (aa m1 0).trans rfl
 simp [Leaves, settle, results, Try.results28, go_sem, u0, u1, u2, u3, u4, u5, u6, u7, u8, u9, v0, m2]
def aU.f (l : List Int) : Option (ByteArray × Int × Int × Bool × Bool × Bool × Int × Int × Int × Int × Int) :=
 if (336 : Int) ≤ l.length then
  if 0 ≤ rd l 327 ∧ rd l 327 ≤ 255 ∧ 0 ≤ rd l 328 ∧ 0 ≤ rd l 329 then
   if (am (rd l 327)).2.2.2.2 = true then
    if rd l 328 ≤ 8 ∧ rd l 329 ≤ 5 ∧ (l.length : Int) ≤ shl .i64 32768 (rd l 328) then
     if rd l 333 = sumTo l 25 then some ((strOfNums ((l.take (308 + aI l)).drop 308)), rd l 327, (am (rd l 327)).1, (am (rd l 327)).2.1, (am (rd l 327)).2.2.1, (am (rd l 327)).2.2.2.1, wrap64 (2 * 2 ^ min (rd l 328).toNat 64), ramT (am (rd l 327)).2.1 (rd l 329), rd l 333, (Go.bits .or .u16 (IntKind.u16.wrap (IntKind.u16.wrap (rd l 334) * 256)) (IntKind.u16.wrap (rd l 335))), 0) else some ((⟨#[]⟩ : ByteArray), 0, 0, false, false, false, 0, 0, 0, 0, 3)
    else some ((⟨#[]⟩ : ByteArray), 0, 0, false, false, false, 0, 0, 0, 0, 5)
   else some ((⟨#[]⟩ : ByteArray), 0, 0, false, false, false, 0, 0, 0, 0, 4)
  else none
 else some ((⟨#[]⟩ : ByteArray), 0, 0, false, false, false, 0, 0, 0, 0, 2)
theorem aU.calls (A0 : Option Addr) (c0 : Nat) (l0 : List Int) (r1 : ByteArray) (r2 : Int) (r3 : Int) (r4 : Bool) (r5 : Bool) (r6 : Bool) (r7 : Int) (r8 : Int) (r9 : Int) (r10 : Int) (r11 : Int) (w : World) (hr0 : Kd.C (Kd.int .u8) w A0 l0.length l0) (hc0 : l0.length ≤ c0) (h : aU.f l0 = some (r1, r2, r3, r4, r5, r6, r7, r8, r9, r10, r11)) :
  Calls Try.prog 28 #[.slice A0 l0.length c0] w fun e w' => e = .returned (.tuple #[.agg #[.string r1, .int .u8 r2, .int .i64 r3, .bool r4, .bool r5, .bool r6, .int .i64 r7, .int .i64 r8, .int .u8 r9, .int .u16 r10], .int .i64 r11]) ∧ Below w.heap.size w w' := by
 unfold aU.f at h
 by_cases hl : (336 : Int) ≤ l0.length
 case neg =>
  rw [if_neg hl] at h
  cases h
  exact hparse_short A0 c0 l0 hl w
 rw [if_pos hl] at h
 by_cases hk : 0 ≤ rd l0 327 ∧ rd l0 327 ≤ 255 ∧ 0 ≤ rd l0 328 ∧ 0 ≤ rd l0 329
 case neg => rw [if_neg hk] at h; cases h
 rw [if_pos hk] at h
 obtain ⟨k1, k2, k3, k4⟩ := hk
 have hn : 336 ≤ l0.length := by omega
 by_cases hok : (am (rd l0 327)).2.2.2.2 = true
 case neg =>
  rw [if_neg hok] at h
  cases h
  exact hparse_kind A0 c0 l0 hn w hr0 hc0 ⟨k1, k2⟩ (Bool.eq_false_iff.mpr hok)
 rw [if_pos hok] at h
 by_cases h8 : rd l0 328 ≤ 8
 case neg =>
  rw [if_neg (fun z => h8 z.1)] at h
  cases h
  exact hparse_size_a A0 c0 l0 hn w hr0 hc0 ⟨k1, k2⟩ hok (decide_eq_false h8)
 by_cases h5 : rd l0 329 ≤ 5
 case neg =>
  rw [if_neg (fun z => h5 z.2.1)] at h
  cases h
  exact hparse_size_b A0 c0 l0 hn w hr0 hc0 ⟨k1, k2⟩ hok (decide_eq_true h8) (decide_eq_false h5)
 by_cases hm : (l0.length : Int) ≤ shl .i64 32768 (rd l0 328)
 case neg =>
  rw [if_neg (fun z => hm z.2.2)] at h
  cases h
  exact hparse_size_c A0 c0 l0 hn w hr0 hc0 ⟨k1, k2⟩ hok k3 (decide_eq_true h8) (decide_eq_true h5) (decide_eq_false hm)
 rw [if_pos ⟨h8, h5, hm⟩] at h
 by_cases hs : rd l0 333 = sumTo l0 25
 case neg =>
  rw [if_neg hs] at h
  cases h
  exact hparse_sum A0 c0 l0 hn w hr0 hc0 ⟨k1, k2⟩ hok k3 (decide_eq_true h8) (decide_eq_true h5) (decide_eq_true hm) (beq_eq_false_iff_ne.mpr hs)
 rw [if_pos hs] at h
 cases h
 have q := hparse_ok A0 c0 l0 hn w hr0 hc0 ⟨k1, k2⟩ hok k3 (decide_eq_true h8) (decide_eq_true h5) (decide_eq_true hm) k4 (beq_iff_eq.mpr hs)
 exact q
end Go.Proofs.Ytmjjojbedllmgaa.Hand
namespace Go.Proofs.Ytmjjojbedllmgaa.G
def co.f (a0 : Int) : Option (Int × Bool × Int × Int × Int × Bool × Int) := if a0 = 0 then (some (a0, false, 0, 0, 0, false, 0)) else (if a0 = 1 then (some (a0, false, 0, 0, 0, false, 0)) else (if a0 = 3 then (some (a0, false, 0, 0, 0, false, 0)) else (if a0 = 5 then (some (a0, false, 0, 0, 0, false, 0)) else (some (0, false, 0, 0, 0, false, 4)))))
theorem co.calls (a0 : Int) (r1 : Int) (r2 : Bool) (r3 : Int) (r4 : Int) (r5 : Int) (r6 : Bool) (r7 : Int) (w : World) (h : co.f a0 = some (r1, r2, r3, r4, r5, r6, r7)) :
  Calls Try.prog 29 #[.int .i64 a0] w fun e w' => e = .returned (.tuple #[.agg #[.int .i64 r1, .bool r2, .int .u8 r3, .int .u8 r4, .int .u8 r5, .bool r6], .int .i64 r7]) ∧ Below w.heap.size w w' := by
 unfold co.f at h
 by_cases k0 : a0 = 0
 ·rw [if_pos k0] at h
  subst k0
  simp only [Option.some.injEq, Prod.mk.injEq] at h
  obtain ⟨rfl, rfl, rfl, rfl, rfl, rfl, rfl⟩ := h
  go_enter Try.func29, Try.ntmps29
  go_wp2
  go_returns
  exact ⟨rfl, by go_grown⟩
 rw [if_neg k0] at h
 by_cases k1 : a0 = 1
 ·rw [if_pos k1] at h
  subst k1
  simp only [Option.some.injEq, Prod.mk.injEq] at h
  obtain ⟨rfl, rfl, rfl, rfl, rfl, rfl, rfl⟩ := h
  go_enter Try.func29, Try.ntmps29
  go_wp2
  go_returns
  exact ⟨rfl, by go_grown⟩
 rw [if_neg k1] at h
 by_cases k3 : a0 = 3
 ·rw [if_pos k3] at h
  subst k3
  simp only [Option.some.injEq, Prod.mk.injEq] at h
  obtain ⟨rfl, rfl, rfl, rfl, rfl, rfl, rfl⟩ := h
  go_enter Try.func29, Try.ntmps29
  go_wp2
  go_returns
  exact ⟨rfl, by go_grown⟩
 rw [if_neg k3] at h
 by_cases k5 : a0 = 5
 ·rw [if_pos k5] at h
  subst k5
  simp only [Option.some.injEq, Prod.mk.injEq] at h
  obtain ⟨rfl, rfl, rfl, rfl, rfl, rfl, rfl⟩ := h
  go_enter Try.func29, Try.ntmps29
  go_wp2
  go_returns
  exact ⟨rfl, by go_grown⟩
 rw [if_neg k5] at h
 simp only [Option.some.injEq, Prod.mk.injEq] at h
 obtain ⟨rfl, rfl, rfl, rfl, rfl, rfl, rfl⟩ := h
 replace k0 := beq_eq_false_iff_ne.mpr k0
 replace k1 := beq_eq_false_iff_ne.mpr k1
 replace k3 := beq_eq_false_iff_ne.mpr k3
 replace k5 := beq_eq_false_iff_ne.mpr k5
 go_enter Try.func29, Try.ntmps29
 go_wp2
 go_returns
 exact ⟨rfl, by go_grown⟩
end Go.Proofs.Ytmjjojbedllmgaa.G
