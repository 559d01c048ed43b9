/- timer.Hot by hand: the bit that is watched stands in an array; then the line. -/
import Derived.Test.YtjfpbdecklkldaaG2
namespace Go.Proofs.Ytjfpbdecklkldaa.Hand
open Go.RowKit Go.Proofs.Ytjfpbdecklkldaa.G
open Go.Proofs.YtjfpbdecklkldaaW.PrintWords Go.Proofs.YtjfpbdecklkldaaW.PrintLast Go.Proofs.YtjfpbdecklkldaaW.PrintMore
set_option linter.unusedVariables false
set_option linter.unusedSimpArgs false
set_option maxRecDepth 100000 in
set_option maxHeartbeats 1000000 in
theorem hot0_true (d a m t s : Int) (w : World) (h0 : bits .and .u8 t 3 = 0) (hb : word_Bit.f t 2 = some true) :
    Calls Try.prog 11 #[.agg #[.int .u16 d, .int .u8 a, .int .u8 m, .int .u8 t, .int .u8 s]] w fun e w' => e = .returned (.bool (bits .and .u16 (shr .u16 d 9) 1 == 1)) ∧ Below w.heap.size w w' := by
  have HB := Aside0.mk hb
  clear hb
  have hix : ∀ w : World, (Instr.index 37 (.agg #[.int .u64 9, .int .u64 3, .int .u64 5, .int .u64 7]) (.int .u8 0)).run Try.prog w = .ok (.int .u64 9) w := fun _ => by kernel_rfl
  go_enter Try.func11, Try.ntmps11
  go_wp2_with (go_at_call 20; ((with_reducible refine (word_Bit.calls _ _ true _ HB.out).mono ?_)); rintro e w1 ⟨rfl, ⟨nd, rfl⟩⟩)
  go_ret
  exact ⟨rfl, pw_below_drewN (below_alloc (Below.refl _ _) _) _⟩
set_option maxRecDepth 100000 in
set_option maxHeartbeats 1000000 in
theorem hot0_false (d a m t s : Int) (w : World) (h0 : bits .and .u8 t 3 = 0) (hb : word_Bit.f t 2 = some false) :
    Calls Try.prog 11 #[.agg #[.int .u16 d, .int .u8 a, .int .u8 m, .int .u8 t, .int .u8 s]] w fun e w' => e = .returned (.bool false) ∧ Below w.heap.size w w' := by
  have HB := Aside0.mk hb
  clear hb
  have hix : ∀ w : World, (Instr.index 37 (.agg #[.int .u64 9, .int .u64 3, .int .u64 5, .int .u64 7]) (.int .u8 0)).run Try.prog w = .ok (.int .u64 9) w := fun _ => by kernel_rfl
  go_enter Try.func11, Try.ntmps11
  go_wp2_with (go_at_call 20; ((with_reducible refine (word_Bit.calls _ _ false _ HB.out).mono ?_)); rintro e w1 ⟨rfl, ⟨nd, rfl⟩⟩)
  go_ret
  exact ⟨rfl, pw_below_drewN (below_alloc (Below.refl _ _) _) _⟩
set_option maxRecDepth 100000 in
set_option maxHeartbeats 1000000 in
theorem hot1_true (d a m t s : Int) (w : World) (h0 : bits .and .u8 t 3 = 1) (hb : word_Bit.f t 2 = some true) :
    Calls Try.prog 11 #[.agg #[.int .u16 d, .int .u8 a, .int .u8 m, .int .u8 t, .int .u8 s]] w fun e w' => e = .returned (.bool (bits .and .u16 (shr .u16 d 3) 1 == 1)) ∧ Below w.heap.size w w' := by
  have HB := Aside0.mk hb
  clear hb
  have hix : ∀ w : World, (Instr.index 37 (.agg #[.int .u64 9, .int .u64 3, .int .u64 5, .int .u64 7]) (.int .u8 1)).run Try.prog w = .ok (.int .u64 3) w := fun _ => by kernel_rfl
  go_enter Try.func11, Try.ntmps11
  go_wp2_with (go_at_call 20; ((with_reducible refine (word_Bit.calls _ _ true _ HB.out).mono ?_)); rintro e w1 ⟨rfl, ⟨nd, rfl⟩⟩)
  go_ret
  exact ⟨rfl, pw_below_drewN (below_alloc (Below.refl _ _) _) _⟩
set_option maxRecDepth 100000 in
set_option maxHeartbeats 1000000 in
theorem hot1_false (d a m t s : Int) (w : World) (h0 : bits .and .u8 t 3 = 1) (hb : word_Bit.f t 2 = some false) :
    Calls Try.prog 11 #[.agg #[.int .u16 d, .int .u8 a, .int .u8 m, .int .u8 t, .int .u8 s]] w fun e w' => e = .returned (.bool false) ∧ Below w.heap.size w w' := by
  have HB := Aside0.mk hb
  clear hb
  have hix : ∀ w : World, (Instr.index 37 (.agg #[.int .u64 9, .int .u64 3, .int .u64 5, .int .u64 7]) (.int .u8 1)).run Try.prog w = .ok (.int .u64 3) w := fun _ => by kernel_rfl
  go_enter Try.func11, Try.ntmps11
  go_wp2_with (go_at_call 20; ((with_reducible refine (word_Bit.calls _ _ false _ HB.out).mono ?_)); rintro e w1 ⟨rfl, ⟨nd, rfl⟩⟩)
  go_ret
  exact ⟨rfl, pw_below_drewN (below_alloc (Below.refl _ _) _) _⟩
set_option maxRecDepth 100000 in
set_option maxHeartbeats 1000000 in
theorem hot2_true (d a m t s : Int) (w : World) (h0 : bits .and .u8 t 3 = 2) (hb : word_Bit.f t 2 = some true) :
    Calls Try.prog 11 #[.agg #[.int .u16 d, .int .u8 a, .int .u8 m, .int .u8 t, .int .u8 s]] w fun e w' => e = .returned (.bool (bits .and .u16 (shr .u16 d 5) 1 == 1)) ∧ Below w.heap.size w w' := by
  have HB := Aside0.mk hb
  clear hb
  have hix : ∀ w : World, (Instr.index 37 (.agg #[.int .u64 9, .int .u64 3, .int .u64 5, .int .u64 7]) (.int .u8 2)).run Try.prog w = .ok (.int .u64 5) w := fun _ => by kernel_rfl
  go_enter Try.func11, Try.ntmps11
  go_wp2_with (go_at_call 20; ((with_reducible refine (word_Bit.calls _ _ true _ HB.out).mono ?_)); rintro e w1 ⟨rfl, ⟨nd, rfl⟩⟩)
  go_ret
  exact ⟨rfl, pw_below_drewN (below_alloc (Below.refl _ _) _) _⟩
set_option maxRecDepth 100000 in
set_option maxHeartbeats 1000000 in
theorem hot2_false (d a m t s : Int) (w : World) (h0 : bits .and .u8 t 3 = 2) (hb : word_Bit.f t 2 = some false) :
    Calls Try.prog 11 #[.agg #[.int .u16 d, .int .u8 a, .int .u8 m, .int .u8 t, .int .u8 s]] w fun e w' => e = .returned (.bool false) ∧ Below w.heap.size w w' := by
  have HB := Aside0.mk hb
  clear hb
  have hix : ∀ w : World, (Instr.index 37 (.agg #[.int .u64 9, .int .u64 3, .int .u64 5, .int .u64 7]) (.int .u8 2)).run Try.prog w = .ok (.int .u64 5) w := fun _ => by kernel_rfl
  go_enter Try.func11, Try.ntmps11
  go_wp2_with (go_at_call 20; ((with_reducible refine (word_Bit.calls _ _ false _ HB.out).mono ?_)); rintro e w1 ⟨rfl, ⟨nd, rfl⟩⟩)
  go_ret
  exact ⟨rfl, pw_below_drewN (below_alloc (Below.refl _ _) _) _⟩
set_option maxRecDepth 100000 in
set_option maxHeartbeats 1000000 in
theorem hot3_true (d a m t s : Int) (w : World) (h0 : bits .and .u8 t 3 = 3) (hb : word_Bit.f t 2 = some true) :
    Calls Try.prog 11 #[.agg #[.int .u16 d, .int .u8 a, .int .u8 m, .int .u8 t, .int .u8 s]] w fun e w' => e = .returned (.bool (bits .and .u16 (shr .u16 d 7) 1 == 1)) ∧ Below w.heap.size w w' := by
  have HB := Aside0.mk hb
  clear hb
  have hix : ∀ w : World, (Instr.index 37 (.agg #[.int .u64 9, .int .u64 3, .int .u64 5, .int .u64 7]) (.int .u8 3)).run Try.prog w = .ok (.int .u64 7) w := fun _ => by kernel_rfl
  go_enter Try.func11, Try.ntmps11
  go_wp2_with (go_at_call 20; ((with_reducible refine (word_Bit.calls _ _ true _ HB.out).mono ?_)); rintro e w1 ⟨rfl, ⟨nd, rfl⟩⟩)
  go_ret
  exact ⟨rfl, pw_below_drewN (below_alloc (Below.refl _ _) _) _⟩
set_option maxRecDepth 100000 in
set_option maxHeartbeats 1000000 in
theorem hot3_false (d a m t s : Int) (w : World) (h0 : bits .and .u8 t 3 = 3) (hb : word_Bit.f t 2 = some false) :
    Calls Try.prog 11 #[.agg #[.int .u16 d, .int .u8 a, .int .u8 m, .int .u8 t, .int .u8 s]] w fun e w' => e = .returned (.bool false) ∧ Below w.heap.size w w' := by
  have HB := Aside0.mk hb
  clear hb
  have hix : ∀ w : World, (Instr.index 37 (.agg #[.int .u64 9, .int .u64 3, .int .u64 5, .int .u64 7]) (.int .u8 3)).run Try.prog w = .ok (.int .u64 7) w := fun _ => by kernel_rfl
  go_enter Try.func11, Try.ntmps11
  go_wp2_with (go_at_call 20; ((with_reducible refine (word_Bit.calls _ _ false _ HB.out).mono ?_)); rintro e w1 ⟨rfl, ⟨nd, rfl⟩⟩)
  go_ret
  exact ⟨rfl, pw_below_drewN (below_alloc (Below.refl _ _) _) _⟩
/-- What timer.Hot answers. -/
def timer_Hot.f (a0_0 : Int) (a0_1 : Int) (a0_2 : Int) (a0_3 : Int) (a0_4 : Int) : Option Bool :=
  if Go.bits .and .u8 a0_3 3 = 0 then (word_Bit.f a0_3 2).bind fun b => if b = true then some (Go.bits .and .u16 (shr .u16 a0_0 9) 1 == 1) else some false
  else if Go.bits .and .u8 a0_3 3 = 1 then (word_Bit.f a0_3 2).bind fun b => if b = true then some (Go.bits .and .u16 (shr .u16 a0_0 3) 1 == 1) else some false
  else if Go.bits .and .u8 a0_3 3 = 2 then (word_Bit.f a0_3 2).bind fun b => if b = true then some (Go.bits .and .u16 (shr .u16 a0_0 5) 1 == 1) else some false
  else if Go.bits .and .u8 a0_3 3 = 3 then (word_Bit.f a0_3 2).bind fun b => if b = true then some (Go.bits .and .u16 (shr .u16 a0_0 7) 1 == 1) else some false
  else none
theorem timer_Hot.calls (a0_0 : Int) (a0_1 : Int) (a0_2 : Int) (a0_3 : Int) (a0_4 : Int) (r : Bool) (w : World) (h : timer_Hot.f a0_0 a0_1 a0_2 a0_3 a0_4 = some r) :
    Calls Try.prog 11 #[.agg #[.int .u16 a0_0, .int .u8 a0_1, .int .u8 a0_2, .int .u8 a0_3, .int .u8 a0_4]] w fun e w' => e = .returned (.bool r) ∧ Below w.heap.size w w' := by
  unfold timer_Hot.f at h
  by_cases c0 : Go.bits .and .u8 a0_3 3 = 0
  · rw [if_pos c0] at h
    obtain ⟨b, hb, h⟩ := Option.bind_eq_some_iff.mp h
    cases b with
    | true =>
      obtain rfl := Option.some.inj h
      exact hot0_true _ _ _ _ _ w c0 hb
    | false =>
      obtain rfl := Option.some.inj h
      exact hot0_false _ _ _ _ _ w c0 hb
  rw [if_neg c0] at h
  by_cases c1 : Go.bits .and .u8 a0_3 3 = 1
  · rw [if_pos c1] at h
    obtain ⟨b, hb, h⟩ := Option.bind_eq_some_iff.mp h
    cases b with
    | true =>
      obtain rfl := Option.some.inj h
      exact hot1_true _ _ _ _ _ w c1 hb
    | false =>
      obtain rfl := Option.some.inj h
      exact hot1_false _ _ _ _ _ w c1 hb
  rw [if_neg c1] at h
  by_cases c2 : Go.bits .and .u8 a0_3 3 = 2
  · rw [if_pos c2] at h
    obtain ⟨b, hb, h⟩ := Option.bind_eq_some_iff.mp h
    cases b with
    | true =>
      obtain rfl := Option.some.inj h
      exact hot2_true _ _ _ _ _ w c2 hb
    | false =>
      obtain rfl := Option.some.inj h
      exact hot2_false _ _ _ _ _ w c2 hb
  rw [if_neg c2] at h
  by_cases c3 : Go.bits .and .u8 a0_3 3 = 3
  · rw [if_pos c3] at h
    obtain ⟨b, hb, h⟩ := Option.bind_eq_some_iff.mp h
    cases b with
    | true =>
      obtain rfl := Option.some.inj h
      exact hot3_true _ _ _ _ _ w c3 hb
    | false =>
      obtain rfl := Option.some.inj h
      exact hot3_false _ _ _ _ _ w c3 hb
  rw [if_neg c3] at h
  cases h
end Go.Proofs.Ytjfpbdecklkldaa.Hand
