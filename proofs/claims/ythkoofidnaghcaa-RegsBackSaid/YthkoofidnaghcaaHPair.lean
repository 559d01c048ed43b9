/- regs.Pair by hand: two registers, or SP. -/
import Derived.Test.YthkoofidnaghcaaHGet
import Derived.Test.YthkoofidnaghcaaG5
import Derived.Test.YthkoofidnaghcaaG6
namespace Go.Proofs.Ythkoofidnaghcaa.Hand
open Go.RowKit
open Go.Proofs.Ythkoofidnaghcaa.G
open Go.Proofs.YthkoofidnaghcaaW.PrintWords Go.Proofs.YthkoofidnaghcaaW.PrintLast Go.Proofs.YthkoofidnaghcaaW.PrintMore
set_option linter.unusedVariables false
set_option maxRecDepth 100000 in
set_option maxHeartbeats 4000000 in
theorem pair0 (a f b c d e h l s p : Int) (j : Int) (hj : word_Join.f b c = some j) (w : World) :
    Calls Try.prog 15 #[.agg #[.int .u8 a, .int .u8 f, .int .u8 b, .int .u8 c, .int .u8 d, .int .u8 e, .int .u8 h, .int .u8 l, .int .u16 s, .int .u16 p], .int .i64 0] w fun e' w' => e' = .returned (.tuple #[.int .u16 j, .int .i64 0]) ∧ Below w.heap.size w w' := by
  have HH := Aside0.mk (show regs_halves.f 0 = some (0, 1) by kernel_rfl)
  have HJ := Aside0.mk hj
  clear hj
  go_enter Try.func15, Try.ntmps15
  go_wp2_with (first | (go_at_call 36; ((with_reducible refine (regs_halves.calls _ _ _ _ HH.out).mono ?_)); rintro e' w1 ⟨rfl, ⟨nd, rfl⟩⟩))
  refine (open_calls _ _ _ _ _ _ _ _ _ _ _).mono ?_
  rintro e' w1 ⟨rfl, hb⟩
  have hn1 : ¬ w.heap.size = w1.heap.size := by have := hb.size; simp at this; omega
  have HB := Aside0.mk hb
  clear hb
  go_wp2_with fail
  go_region_held3 (fun w' => w'.cell? ⟨w1.heap.size, 0, none⟩ = some (.int .u8 b) ∧ w'.cell? ⟨w1.heap.size, 1, none⟩ = some (.int .u8 c)) (go_keep)
    (first | (go_at_call 37; ((with_reducible refine (word_Join.calls _ _ j _ HJ.out).mono ?_)); rintro e' w2 ⟨rfl, ⟨nd2, rfl⟩⟩))
  rename_i hHeld
  clear hHeld
  go_wp2
  go_ret2
  refine ⟨rfl, ?_⟩
  repeat (first | exact Below.refl _ _ | apply below_alloc | apply below_drew1 | apply pw_below_drewN | (refine Below.trans ?_ (HB.out.mono (by simp))))
set_option maxRecDepth 100000 in
set_option maxHeartbeats 4000000 in
theorem pair1 (a f b c d e h l s p : Int) (j : Int) (hj : word_Join.f d e = some j) (w : World) :
    Calls Try.prog 15 #[.agg #[.int .u8 a, .int .u8 f, .int .u8 b, .int .u8 c, .int .u8 d, .int .u8 e, .int .u8 h, .int .u8 l, .int .u16 s, .int .u16 p], .int .i64 1] w fun e' w' => e' = .returned (.tuple #[.int .u16 j, .int .i64 0]) ∧ Below w.heap.size w w' := by
  have HH := Aside0.mk (show regs_halves.f 1 = some (2, 3) by kernel_rfl)
  have HJ := Aside0.mk hj
  clear hj
  go_enter Try.func15, Try.ntmps15
  go_wp2_with (first | (go_at_call 36; ((with_reducible refine (regs_halves.calls _ _ _ _ HH.out).mono ?_)); rintro e' w1 ⟨rfl, ⟨nd, rfl⟩⟩))
  refine (open_calls _ _ _ _ _ _ _ _ _ _ _).mono ?_
  rintro e' w1 ⟨rfl, hb⟩
  have hn1 : ¬ w.heap.size = w1.heap.size := by have := hb.size; simp at this; omega
  have HB := Aside0.mk hb
  clear hb
  go_wp2_with fail
  go_region_held3 (fun w' => w'.cell? ⟨w1.heap.size, 2, none⟩ = some (.int .u8 d) ∧ w'.cell? ⟨w1.heap.size, 3, none⟩ = some (.int .u8 e)) (go_keep)
    (first | (go_at_call 37; ((with_reducible refine (word_Join.calls _ _ j _ HJ.out).mono ?_)); rintro e' w2 ⟨rfl, ⟨nd2, rfl⟩⟩))
  rename_i hHeld
  clear hHeld
  go_wp2
  go_ret2
  refine ⟨rfl, ?_⟩
  repeat (first | exact Below.refl _ _ | apply below_alloc | apply below_drew1 | apply pw_below_drewN | (refine Below.trans ?_ (HB.out.mono (by simp))))
set_option maxRecDepth 100000 in
set_option maxHeartbeats 4000000 in
theorem pair2 (a f b c d e h l s p : Int) (j : Int) (hj : word_Join.f h l = some j) (w : World) :
    Calls Try.prog 15 #[.agg #[.int .u8 a, .int .u8 f, .int .u8 b, .int .u8 c, .int .u8 d, .int .u8 e, .int .u8 h, .int .u8 l, .int .u16 s, .int .u16 p], .int .i64 2] w fun e' w' => e' = .returned (.tuple #[.int .u16 j, .int .i64 0]) ∧ Below w.heap.size w w' := by
  have HH := Aside0.mk (show regs_halves.f 2 = some (4, 5) by kernel_rfl)
  have HJ := Aside0.mk hj
  clear hj
  go_enter Try.func15, Try.ntmps15
  go_wp2_with (first | (go_at_call 36; ((with_reducible refine (regs_halves.calls _ _ _ _ HH.out).mono ?_)); rintro e' w1 ⟨rfl, ⟨nd, rfl⟩⟩))
  refine (open_calls _ _ _ _ _ _ _ _ _ _ _).mono ?_
  rintro e' w1 ⟨rfl, hb⟩
  have hn1 : ¬ w.heap.size = w1.heap.size := by have := hb.size; simp at this; omega
  have HB := Aside0.mk hb
  clear hb
  go_wp2_with fail
  go_region_held3 (fun w' => w'.cell? ⟨w1.heap.size, 4, none⟩ = some (.int .u8 h) ∧ w'.cell? ⟨w1.heap.size, 5, none⟩ = some (.int .u8 l)) (go_keep)
    (first | (go_at_call 37; ((with_reducible refine (word_Join.calls _ _ j _ HJ.out).mono ?_)); rintro e' w2 ⟨rfl, ⟨nd2, rfl⟩⟩))
  rename_i hHeld
  clear hHeld
  go_wp2
  go_ret2
  refine ⟨rfl, ?_⟩
  repeat (first | exact Below.refl _ _ | apply below_alloc | apply below_drew1 | apply pw_below_drewN | (refine Below.trans ?_ (HB.out.mono (by simp))))
set_option maxRecDepth 100000 in
set_option maxHeartbeats 4000000 in
theorem pair4 (a f b c d e h l s p : Int) (j : Int) (hj : word_Join.f a f = some j) (w : World) :
    Calls Try.prog 15 #[.agg #[.int .u8 a, .int .u8 f, .int .u8 b, .int .u8 c, .int .u8 d, .int .u8 e, .int .u8 h, .int .u8 l, .int .u16 s, .int .u16 p], .int .i64 4] w fun e' w' => e' = .returned (.tuple #[.int .u16 j, .int .i64 0]) ∧ Below w.heap.size w w' := by
  have HH := Aside0.mk (show regs_halves.f 4 = some (7, 6) by kernel_rfl)
  have HJ := Aside0.mk hj
  clear hj
  go_enter Try.func15, Try.ntmps15
  go_wp2_with (first | (go_at_call 36; ((with_reducible refine (regs_halves.calls _ _ _ _ HH.out).mono ?_)); rintro e' w1 ⟨rfl, ⟨nd, rfl⟩⟩))
  refine (open_calls _ _ _ _ _ _ _ _ _ _ _).mono ?_
  rintro e' w1 ⟨rfl, hb⟩
  have hn1 : ¬ w.heap.size = w1.heap.size := by have := hb.size; simp at this; omega
  have HB := Aside0.mk hb
  clear hb
  go_wp2_with fail
  go_region_held3 (fun w' => w'.cell? ⟨w1.heap.size, 7, none⟩ = some (.int .u8 a) ∧ w'.cell? ⟨w1.heap.size, 6, none⟩ = some (.int .u8 f)) (go_keep)
    (first | (go_at_call 37; ((with_reducible refine (word_Join.calls _ _ j _ HJ.out).mono ?_)); rintro e' w2 ⟨rfl, ⟨nd2, rfl⟩⟩))
  rename_i hHeld
  clear hHeld
  go_wp2
  go_ret2
  refine ⟨rfl, ?_⟩
  repeat (first | exact Below.refl _ _ | apply below_alloc | apply below_drew1 | apply pw_below_drewN | (refine Below.trans ?_ (HB.out.mono (by simp))))
set_option maxRecDepth 100000 in
set_option maxHeartbeats 4000000 in
theorem pair3 (a f b c d e h l s p : Int) (w : World) :
    Calls Try.prog 15 #[.agg #[.int .u8 a, .int .u8 f, .int .u8 b, .int .u8 c, .int .u8 d, .int .u8 e, .int .u8 h, .int .u8 l, .int .u16 s, .int .u16 p], .int .i64 3] w fun e' w' => e' = .returned (.tuple #[.int .u16 s, .int .i64 0]) ∧ Below w.heap.size w w' := by
  go_enter Try.func15, Try.ntmps15
  go_wp2_with fail
  all_goals
    go_ret2
    refine ⟨rfl, ?_⟩
    repeat (first | exact Below.refl _ _ | apply below_alloc | apply below_drew1 | apply pw_below_drewN)
set_option maxRecDepth 100000 in
set_option maxHeartbeats 4000000 in
theorem pair_no (a f b c d e h l s p : Int) (n : Int) (hn : n < 0 ∨ 4 < n) (w : World) :
    Calls Try.prog 15 #[.agg #[.int .u8 a, .int .u8 f, .int .u8 b, .int .u8 c, .int .u8 d, .int .u8 e, .int .u8 h, .int .u8 l, .int .u16 s, .int .u16 p], .int .i64 n] w fun e' w' => e' = .returned (.tuple #[.int .u16 0, .int .i64 1]) ∧ Below w.heap.size w w' := by
  by_cases c1 : n < 0
  · go_enter Try.func15, Try.ntmps15
    go_wp2_with fail
    go_ret2
    exact ⟨rfl, below_alloc (Below.refl _ _) _⟩
  have c2 : n > 4 := by omega
  clear hn
  go_enter Try.func15, Try.ntmps15
  go_wp2_with fail
  all_goals
    go_ret2
    refine ⟨rfl, ?_⟩
    repeat (first | exact Below.refl _ _ | apply below_alloc | apply below_drew1 | apply pw_below_drewN)
def regs_Pair.f (a0_0 : Int) (a0_1 : Int) (a0_2 : Int) (a0_3 : Int) (a0_4 : Int) (a0_5 : Int) (a0_6 : Int) (a0_7 : Int) (a0_8 : Int) (a0_9 : Int) (a1 : Int) : Option (Int × Int) :=
  if a1 < 0 ∨ 4 < a1 then some (0, 1) else if a1 = 3 then some (a0_8, 0) else if a1 = 0 then (word_Join.f a0_2 a0_3).bind fun j => some (j, 0) else if a1 = 1 then (word_Join.f a0_4 a0_5).bind fun j => some (j, 0) else if a1 = 2 then (word_Join.f a0_6 a0_7).bind fun j => some (j, 0) else (word_Join.f a0_0 a0_1).bind fun j => some (j, 0)
theorem regs_Pair.calls (a0_0 : Int) (a0_1 : Int) (a0_2 : Int) (a0_3 : Int) (a0_4 : Int) (a0_5 : Int) (a0_6 : Int) (a0_7 : Int) (a0_8 : Int) (a0_9 : Int) (a1 : Int) (r1 r2 : Int) (w : World) (h : regs_Pair.f a0_0 a0_1 a0_2 a0_3 a0_4 a0_5 a0_6 a0_7 a0_8 a0_9 a1 = some (r1, r2)) :
    Calls Try.prog 15 #[.agg #[.int .u8 a0_0, .int .u8 a0_1, .int .u8 a0_2, .int .u8 a0_3, .int .u8 a0_4, .int .u8 a0_5, .int .u8 a0_6, .int .u8 a0_7, .int .u16 a0_8, .int .u16 a0_9], .int .i64 a1] w fun e w' => e = .returned (.tuple #[.int .u16 r1, .int .i64 r2]) ∧ Below w.heap.size w w' := by
  unfold regs_Pair.f at h
  by_cases c9 : a1 < 0 ∨ 4 < a1
  · rw [if_pos c9] at h
    simp only [Option.some.injEq, Prod.mk.injEq] at h
    obtain ⟨rfl, rfl⟩ := h
    exact pair_no _ _ _ _ _ _ _ _ _ _ a1 c9 w
  rw [if_neg c9] at h
  by_cases c3 : a1 = 3
  · rw [if_pos c3] at h
    simp only [Option.some.injEq, Prod.mk.injEq] at h
    obtain ⟨rfl, rfl⟩ := h
    subst c3
    exact pair3 _ _ _ _ _ _ _ _ _ _ w
  rw [if_neg c3] at h
  by_cases c0 : a1 = 0
  · rw [if_pos c0] at h
    obtain ⟨j, hj, h⟩ := Option.bind_eq_some_iff.mp h
    simp only [Option.some.injEq, Prod.mk.injEq] at h
    obtain ⟨rfl, rfl⟩ := h
    subst c0
    exact pair0 _ _ _ _ _ _ _ _ _ _ _ hj w
  rw [if_neg c0] at h
  by_cases c1 : a1 = 1
  · rw [if_pos c1] at h
    obtain ⟨j, hj, h⟩ := Option.bind_eq_some_iff.mp h
    simp only [Option.some.injEq, Prod.mk.injEq] at h
    obtain ⟨rfl, rfl⟩ := h
    subst c1
    exact pair1 _ _ _ _ _ _ _ _ _ _ _ hj w
  rw [if_neg c1] at h
  by_cases c2 : a1 = 2
  · rw [if_pos c2] at h
    obtain ⟨j, hj, h⟩ := Option.bind_eq_some_iff.mp h
    simp only [Option.some.injEq, Prod.mk.injEq] at h
    obtain ⟨rfl, rfl⟩ := h
    subst c2
    exact pair2 _ _ _ _ _ _ _ _ _ _ _ hj w
  rw [if_neg c2] at h
  obtain ⟨j, hj, h⟩ := Option.bind_eq_some_iff.mp h
  simp only [Option.some.injEq, Prod.mk.injEq] at h
  obtain ⟨rfl, rfl⟩ := h
  obtain rfl : a1 = 4 := by omega
  exact pair4 _ _ _ _ _ _ _ _ _ _ _ hj w
end Go.Proofs.Ythkoofidnaghcaa.Hand
