/- regs.open and regs.Get by hand: a register by its number. -/
import Derived.Test.YthkoofidnaghcaaG3
namespace Go.Proofs.Ythkoofidnaghcaa.Hand
open Go.RowKit
open Go.Proofs.Ythkoofidnaghcaa.G
open Go.Proofs.YthkoofidnaghcaaW.PrintWords Go.Proofs.YthkoofidnaghcaaW.PrintLast Go.Proofs.YthkoofidnaghcaaW.PrintMore
set_option linter.unusedVariables false
theorem bcell {W w1 : World} (hb : Below W.heap.size W w1) : (∀ b o, b < W.heap.size → w1.cell? ⟨b, o, none⟩ = W.cell? ⟨b, o, none⟩) ∧ (∀ b o, b < W.heap.size → w1.frozen? ⟨b, o, none⟩ = W.frozen? ⟨b, o, none⟩) :=
  ⟨fun b o h => hb.cell (p := ⟨b, o, none⟩) h, fun b o h => hb.frozen (p := ⟨b, o, none⟩) h⟩
set_option maxRecDepth 100000 in
set_option maxHeartbeats 1000000 in
theorem open_calls (a f b c d e h l s p : Int) (w : World) :
    Calls Try.prog 34 #[.agg #[.int .u8 a, .int .u8 f, .int .u8 b, .int .u8 c, .int .u8 d, .int .u8 e, .int .u8 h, .int .u8 l, .int .u16 s, .int .u16 p]] w fun e' w' => e' = .returned (.agg #[.int .u8 b, .int .u8 c, .int .u8 d, .int .u8 e, .int .u8 h, .int .u8 l, .int .u8 f, .int .u8 a]) ∧ Below w.heap.size w w' := by
  go_enter Try.func34, Try.ntmps34
  go_wp2
  exact bodyPost_ret (v := .agg #[.int .u8 b, .int .u8 c, .int .u8 d, .int .u8 e, .int .u8 h, .int .u8 l, .int .u8 f, .int .u8 a]) (by simp [results, Try.results34, go_sem]) rfl ⟨rfl, below_alloc (below_alloc (Below.refl _ _) _) _⟩
theorem may_in (n : Int) (h1 : 0 ≤ n) (h2 : n ≤ 7) (h3 : n ≠ 6) : regs_may.f 3 n = some 0 := by
  have h4 : ¬ n < 0 := by omega
  have h5 : ¬ n > 7 := by omega
  simp [regs_may.f, regs_may.j0, h4, h5, h3]
theorem may_six : regs_may.f 3 6 = some 7 := by rfl
theorem may_out (n : Int) (h : n < 0 ∨ 7 < n) : regs_may.f 3 n = some 1 := by
  rcases h with h | h
  · simp [regs_may.f, regs_may.j0, h]
  · have h4 : ¬ n < 0 := by omega
    simp [regs_may.f, regs_may.j0, h4, h]
set_option maxRecDepth 100000 in
set_option maxHeartbeats 1000000 in
theorem get0 (a f b c d e h l s p : Int) (w : World) :
    Calls Try.prog 13 #[.agg #[.int .u8 a, .int .u8 f, .int .u8 b, .int .u8 c, .int .u8 d, .int .u8 e, .int .u8 h, .int .u8 l, .int .u16 s, .int .u16 p], .int .i64 0] w fun e' w' => e' = .returned (.tuple #[.int .u8 b, .int .i64 0]) ∧ Below w.heap.size w w' := by
  have HM := Aside0.mk (may_in 0 (by omega) (by omega) (by omega))
  have hix : ∀ w : World, (Instr.index 59 (.agg #[.int .u8 b, .int .u8 c, .int .u8 d, .int .u8 e, .int .u8 h, .int .u8 l, .int .u8 f, .int .u8 a]) (.int .i64 0)).run Try.prog w = .ok (.int .u8 b) w := fun _ => by kernel_rfl
  go_enter Try.func13, Try.ntmps13
  go_wp2_with (first | (go_at_call 33; ((with_reducible refine (regs_may.calls 3 _ 0 _ HM.out).mono ?_)); rintro e' w1 ⟨rfl, ⟨nd, rfl⟩⟩) | (go_at_call 34; refine (open_calls _ _ _ _ _ _ _ _ _ _ _).mono ?_; rintro e' w1 ⟨rfl, hb⟩; have HB := Aside0.mk hb; clear hb))
  go_ret2
  exact ⟨rfl, Below.trans (pw_below_drewN (below_alloc (Below.refl _ _) _) _) (HB.out.mono (by simp))⟩
set_option maxRecDepth 100000 in
set_option maxHeartbeats 1000000 in
theorem get1 (a f b c d e h l s p : Int) (w : World) :
    Calls Try.prog 13 #[.agg #[.int .u8 a, .int .u8 f, .int .u8 b, .int .u8 c, .int .u8 d, .int .u8 e, .int .u8 h, .int .u8 l, .int .u16 s, .int .u16 p], .int .i64 1] w fun e' w' => e' = .returned (.tuple #[.int .u8 c, .int .i64 0]) ∧ Below w.heap.size w w' := by
  have HM := Aside0.mk (may_in 1 (by omega) (by omega) (by omega))
  have hix : ∀ w : World, (Instr.index 59 (.agg #[.int .u8 b, .int .u8 c, .int .u8 d, .int .u8 e, .int .u8 h, .int .u8 l, .int .u8 f, .int .u8 a]) (.int .i64 1)).run Try.prog w = .ok (.int .u8 c) w := fun _ => by kernel_rfl
  go_enter Try.func13, Try.ntmps13
  go_wp2_with (first | (go_at_call 33; ((with_reducible refine (regs_may.calls 3 _ 0 _ HM.out).mono ?_)); rintro e' w1 ⟨rfl, ⟨nd, rfl⟩⟩) | (go_at_call 34; refine (open_calls _ _ _ _ _ _ _ _ _ _ _).mono ?_; rintro e' w1 ⟨rfl, hb⟩; have HB := Aside0.mk hb; clear hb))
  go_ret2
  exact ⟨rfl, Below.trans (pw_below_drewN (below_alloc (Below.refl _ _) _) _) (HB.out.mono (by simp))⟩
set_option maxRecDepth 100000 in
set_option maxHeartbeats 1000000 in
theorem get2 (a f b c d e h l s p : Int) (w : World) :
    Calls Try.prog 13 #[.agg #[.int .u8 a, .int .u8 f, .int .u8 b, .int .u8 c, .int .u8 d, .int .u8 e, .int .u8 h, .int .u8 l, .int .u16 s, .int .u16 p], .int .i64 2] w fun e' w' => e' = .returned (.tuple #[.int .u8 d, .int .i64 0]) ∧ Below w.heap.size w w' := by
  have HM := Aside0.mk (may_in 2 (by omega) (by omega) (by omega))
  have hix : ∀ w : World, (Instr.index 59 (.agg #[.int .u8 b, .int .u8 c, .int .u8 d, .int .u8 e, .int .u8 h, .int .u8 l, .int .u8 f, .int .u8 a]) (.int .i64 2)).run Try.prog w = .ok (.int .u8 d) w := fun _ => by kernel_rfl
  go_enter Try.func13, Try.ntmps13
  go_wp2_with (first | (go_at_call 33; ((with_reducible refine (regs_may.calls 3 _ 0 _ HM.out).mono ?_)); rintro e' w1 ⟨rfl, ⟨nd, rfl⟩⟩) | (go_at_call 34; refine (open_calls _ _ _ _ _ _ _ _ _ _ _).mono ?_; rintro e' w1 ⟨rfl, hb⟩; have HB := Aside0.mk hb; clear hb))
  go_ret2
  exact ⟨rfl, Below.trans (pw_below_drewN (below_alloc (Below.refl _ _) _) _) (HB.out.mono (by simp))⟩
set_option maxRecDepth 100000 in
set_option maxHeartbeats 1000000 in
theorem get3 (a f b c d e h l s p : Int) (w : World) :
    Calls Try.prog 13 #[.agg #[.int .u8 a, .int .u8 f, .int .u8 b, .int .u8 c, .int .u8 d, .int .u8 e, .int .u8 h, .int .u8 l, .int .u16 s, .int .u16 p], .int .i64 3] w fun e' w' => e' = .returned (.tuple #[.int .u8 e, .int .i64 0]) ∧ Below w.heap.size w w' := by
  have HM := Aside0.mk (may_in 3 (by omega) (by omega) (by omega))
  have hix : ∀ w : World, (Instr.index 59 (.agg #[.int .u8 b, .int .u8 c, .int .u8 d, .int .u8 e, .int .u8 h, .int .u8 l, .int .u8 f, .int .u8 a]) (.int .i64 3)).run Try.prog w = .ok (.int .u8 e) w := fun _ => by kernel_rfl
  go_enter Try.func13, Try.ntmps13
  go_wp2_with (first | (go_at_call 33; ((with_reducible refine (regs_may.calls 3 _ 0 _ HM.out).mono ?_)); rintro e' w1 ⟨rfl, ⟨nd, rfl⟩⟩) | (go_at_call 34; refine (open_calls _ _ _ _ _ _ _ _ _ _ _).mono ?_; rintro e' w1 ⟨rfl, hb⟩; have HB := Aside0.mk hb; clear hb))
  go_ret2
  exact ⟨rfl, Below.trans (pw_below_drewN (below_alloc (Below.refl _ _) _) _) (HB.out.mono (by simp))⟩
set_option maxRecDepth 100000 in
set_option maxHeartbeats 1000000 in
theorem get4 (a f b c d e h l s p : Int) (w : World) :
    Calls Try.prog 13 #[.agg #[.int .u8 a, .int .u8 f, .int .u8 b, .int .u8 c, .int .u8 d, .int .u8 e, .int .u8 h, .int .u8 l, .int .u16 s, .int .u16 p], .int .i64 4] w fun e' w' => e' = .returned (.tuple #[.int .u8 h, .int .i64 0]) ∧ Below w.heap.size w w' := by
  have HM := Aside0.mk (may_in 4 (by omega) (by omega) (by omega))
  have hix : ∀ w : World, (Instr.index 59 (.agg #[.int .u8 b, .int .u8 c, .int .u8 d, .int .u8 e, .int .u8 h, .int .u8 l, .int .u8 f, .int .u8 a]) (.int .i64 4)).run Try.prog w = .ok (.int .u8 h) w := fun _ => by kernel_rfl
  go_enter Try.func13, Try.ntmps13
  go_wp2_with (first | (go_at_call 33; ((with_reducible refine (regs_may.calls 3 _ 0 _ HM.out).mono ?_)); rintro e' w1 ⟨rfl, ⟨nd, rfl⟩⟩) | (go_at_call 34; refine (open_calls _ _ _ _ _ _ _ _ _ _ _).mono ?_; rintro e' w1 ⟨rfl, hb⟩; have HB := Aside0.mk hb; clear hb))
  go_ret2
  exact ⟨rfl, Below.trans (pw_below_drewN (below_alloc (Below.refl _ _) _) _) (HB.out.mono (by simp))⟩
set_option maxRecDepth 100000 in
set_option maxHeartbeats 1000000 in
theorem get5 (a f b c d e h l s p : Int) (w : World) :
    Calls Try.prog 13 #[.agg #[.int .u8 a, .int .u8 f, .int .u8 b, .int .u8 c, .int .u8 d, .int .u8 e, .int .u8 h, .int .u8 l, .int .u16 s, .int .u16 p], .int .i64 5] w fun e' w' => e' = .returned (.tuple #[.int .u8 l, .int .i64 0]) ∧ Below w.heap.size w w' := by
  have HM := Aside0.mk (may_in 5 (by omega) (by omega) (by omega))
  have hix : ∀ w : World, (Instr.index 59 (.agg #[.int .u8 b, .int .u8 c, .int .u8 d, .int .u8 e, .int .u8 h, .int .u8 l, .int .u8 f, .int .u8 a]) (.int .i64 5)).run Try.prog w = .ok (.int .u8 l) w := fun _ => by kernel_rfl
  go_enter Try.func13, Try.ntmps13
  go_wp2_with (first | (go_at_call 33; ((with_reducible refine (regs_may.calls 3 _ 0 _ HM.out).mono ?_)); rintro e' w1 ⟨rfl, ⟨nd, rfl⟩⟩) | (go_at_call 34; refine (open_calls _ _ _ _ _ _ _ _ _ _ _).mono ?_; rintro e' w1 ⟨rfl, hb⟩; have HB := Aside0.mk hb; clear hb))
  go_ret2
  exact ⟨rfl, Below.trans (pw_below_drewN (below_alloc (Below.refl _ _) _) _) (HB.out.mono (by simp))⟩
set_option maxRecDepth 100000 in
set_option maxHeartbeats 1000000 in
theorem get7 (a f b c d e h l s p : Int) (w : World) :
    Calls Try.prog 13 #[.agg #[.int .u8 a, .int .u8 f, .int .u8 b, .int .u8 c, .int .u8 d, .int .u8 e, .int .u8 h, .int .u8 l, .int .u16 s, .int .u16 p], .int .i64 7] w fun e' w' => e' = .returned (.tuple #[.int .u8 a, .int .i64 0]) ∧ Below w.heap.size w w' := by
  have HM := Aside0.mk (may_in 7 (by omega) (by omega) (by omega))
  have hix : ∀ w : World, (Instr.index 59 (.agg #[.int .u8 b, .int .u8 c, .int .u8 d, .int .u8 e, .int .u8 h, .int .u8 l, .int .u8 f, .int .u8 a]) (.int .i64 7)).run Try.prog w = .ok (.int .u8 a) w := fun _ => by kernel_rfl
  go_enter Try.func13, Try.ntmps13
  go_wp2_with (first | (go_at_call 33; ((with_reducible refine (regs_may.calls 3 _ 0 _ HM.out).mono ?_)); rintro e' w1 ⟨rfl, ⟨nd, rfl⟩⟩) | (go_at_call 34; refine (open_calls _ _ _ _ _ _ _ _ _ _ _).mono ?_; rintro e' w1 ⟨rfl, hb⟩; have HB := Aside0.mk hb; clear hb))
  go_ret2
  exact ⟨rfl, Below.trans (pw_below_drewN (below_alloc (Below.refl _ _) _) _) (HB.out.mono (by simp))⟩
set_option maxRecDepth 100000 in
set_option maxHeartbeats 1000000 in
theorem get_no (a f b c d e h l s p : Int) (n q : Int) (hq : (q != 0) = true) (hm : regs_may.f 3 n = some q) (w : World) :
    Calls Try.prog 13 #[.agg #[.int .u8 a, .int .u8 f, .int .u8 b, .int .u8 c, .int .u8 d, .int .u8 e, .int .u8 h, .int .u8 l, .int .u16 s, .int .u16 p], .int .i64 n] w fun e' w' => e' = .returned (.tuple #[.int .u8 0, .int .i64 q]) ∧ Below w.heap.size w w' := by
  have HM := Aside0.mk hm
  clear hm
  go_enter Try.func13, Try.ntmps13
  go_wp2_with (first | (go_at_call 33; ((with_reducible refine (regs_may.calls 3 _ q _ HM.out).mono ?_)); rintro e' w1 ⟨rfl, ⟨nd, rfl⟩⟩))
  go_ret2
  exact ⟨rfl, pw_below_drewN (below_alloc (Below.refl _ _) _) _⟩
def regs_Get.f (a0_0 : Int) (a0_1 : Int) (a0_2 : Int) (a0_3 : Int) (a0_4 : Int) (a0_5 : Int) (a0_6 : Int) (a0_7 : Int) (a0_8 : Int) (a0_9 : Int) (a1 : Int) : Option (Int × Int) :=
  if a1 < 0 ∨ 7 < a1 then some (0, 1) else if a1 = 6 then some (0, 7) else if a1 = 0 then some (a0_2, 0) else if a1 = 1 then some (a0_3, 0) else if a1 = 2 then some (a0_4, 0) else if a1 = 3 then some (a0_5, 0) else if a1 = 4 then some (a0_6, 0) else if a1 = 5 then some (a0_7, 0) else some (a0_0, 0)
theorem regs_Get.calls (a0_0 : Int) (a0_1 : Int) (a0_2 : Int) (a0_3 : Int) (a0_4 : Int) (a0_5 : Int) (a0_6 : Int) (a0_7 : Int) (a0_8 : Int) (a0_9 : Int) (a1 : Int) (r1 : Int) (r2 : Int) (w : World) (h : regs_Get.f a0_0 a0_1 a0_2 a0_3 a0_4 a0_5 a0_6 a0_7 a0_8 a0_9 a1 = some (r1, r2)) :
    Calls Try.prog 13 #[.agg #[.int .u8 a0_0, .int .u8 a0_1, .int .u8 a0_2, .int .u8 a0_3, .int .u8 a0_4, .int .u8 a0_5, .int .u8 a0_6, .int .u8 a0_7, .int .u16 a0_8, .int .u16 a0_9], .int .i64 a1] w fun e w' => e = .returned (.tuple #[.int .u8 r1, .int .i64 r2]) ∧ Below w.heap.size w w' := by
  unfold regs_Get.f at h
  by_cases c9 : a1 < 0 ∨ 7 < a1
  · rw [if_pos c9] at h
    obtain ⟨rfl, rfl⟩ : 0 = r1 ∧ 1 = r2 := by simpa using h
    exact get_no _ _ _ _ _ _ _ _ _ _ a1 1 (by decide) (may_out a1 c9) w
  rw [if_neg c9] at h
  by_cases c6 : a1 = 6
  · rw [if_pos c6] at h
    obtain ⟨rfl, rfl⟩ : 0 = r1 ∧ 7 = r2 := by simpa using h
    subst c6
    exact get_no _ _ _ _ _ _ _ _ _ _ 6 7 (by decide) may_six w
  rw [if_neg c6] at h
  by_cases c0 : a1 = 0
  · rw [if_pos c0] at h
    obtain ⟨rfl, rfl⟩ : a0_2 = r1 ∧ 0 = r2 := by simpa using h
    subst c0
    exact get0 _ _ _ _ _ _ _ _ _ _ w
  rw [if_neg c0] at h
  by_cases c1 : a1 = 1
  · rw [if_pos c1] at h
    obtain ⟨rfl, rfl⟩ : a0_3 = r1 ∧ 0 = r2 := by simpa using h
    subst c1
    exact get1 _ _ _ _ _ _ _ _ _ _ w
  rw [if_neg c1] at h
  by_cases c2 : a1 = 2
  · rw [if_pos c2] at h
    obtain ⟨rfl, rfl⟩ : a0_4 = r1 ∧ 0 = r2 := by simpa using h
    subst c2
    exact get2 _ _ _ _ _ _ _ _ _ _ w
  rw [if_neg c2] at h
  by_cases c3 : a1 = 3
  · rw [if_pos c3] at h
    obtain ⟨rfl, rfl⟩ : a0_5 = r1 ∧ 0 = r2 := by simpa using h
    subst c3
    exact get3 _ _ _ _ _ _ _ _ _ _ w
  rw [if_neg c3] at h
  by_cases c4 : a1 = 4
  · rw [if_pos c4] at h
    obtain ⟨rfl, rfl⟩ : a0_6 = r1 ∧ 0 = r2 := by simpa using h
    subst c4
    exact get4 _ _ _ _ _ _ _ _ _ _ w
  rw [if_neg c4] at h
  by_cases c5 : a1 = 5
  · rw [if_pos c5] at h
    obtain ⟨rfl, rfl⟩ : a0_7 = r1 ∧ 0 = r2 := by simpa using h
    subst c5
    exact get5 _ _ _ _ _ _ _ _ _ _ w
  rw [if_neg c5] at h
  obtain ⟨rfl, rfl⟩ : a0_0 = r1 ∧ 0 = r2 := by simpa using h
  obtain rfl : a1 = 7 := by omega
  exact get7 _ _ _ _ _ _ _ _ _ _ w
end Go.Proofs.Ythkoofidnaghcaa.Hand
