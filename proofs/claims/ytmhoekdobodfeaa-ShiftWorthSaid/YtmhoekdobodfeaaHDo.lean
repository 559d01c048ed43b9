/- shift.Do by hand: the switch. -/
import Derived.Test.YtmhoekdobodfeaaHDo1
namespace Go.Proofs.Ytmhoekdobodfeaa.Hand
open Go.RowKit Go.Proofs.Ytmhoekdobodfeaa.G
open Go.Proofs.YtmhoekdobodfeaaW.PrintWords Go.Proofs.YtmhoekdobodfeaaW.PrintLast Go.Proofs.YtmhoekdobodfeaaW.PrintMore
set_option linter.unusedVariables false
set_option maxRecDepth 100000 in
set_option maxHeartbeats 4000000 in
theorem do0_calls (a0 v : Int) (z n h c : Bool) (w : World) (h0 : bits .and .i64 a0 7 = 0) (k : Nat) (r : Int) (hr : word_Put.f k (IntKind.u8.wrap (v * 2)) 0 (bits .and .u8 v 128 != 0) = some r) :
    Calls Try.prog 11 #[.int .i64 a0, .int .u8 v, .agg #[.bool z, .bool n, .bool h, .bool c]] w fun e w' => e = .returned (.tuple #[.int .u8 (r), .agg #[.bool (r == 0), .bool false, .bool false, .bool (bits .and .u8 v 128 != 0)]]) ∧ Below w.heap.size w w' := by
  have hmf : ∀ (fn : Fn) (first cap : Array Value) (w : World), (Instr.makeFunc fn first cap).run Try.prog w = .ok (.func fn first cap) w := fun _ _ _ _ => rfl
  have HR := Aside0.mk hr
  clear hr
  go_enter Try.func11, Try.ntmps11
  go_wp2_with fail
  refine (up_calls v _ _ (w.heap.size + 1 + 1 + 1) w.heap.size ?c1 ?c2 k r HR.out).mono ?_
  case c1 => go_simp
  case c2 => go_simp
  rintro e w1 ⟨rfl, hb⟩
  obtain ⟨hc, hf⟩ := bcell hb
  have HB := Aside0.mk hb
  clear hb
  go_wp2
  refine bodyPost_ret (v := .tuple #[.int .u8 (r), .agg #[.bool (r == 0), .bool false, .bool false, .bool (bits .and .u8 v 128 != 0)]]) (by simp [results, Try.results11, go_sem, hc]) rfl ⟨rfl, ?_⟩
  repeat (first | exact Below.refl _ _ | (refine Below.trans ?_ (HB.out.mono (by simp; omega))) | apply below_alloc | apply pw_below_drewN | apply below_drew | (refine Below.setCell ?_ (by simp; try omega) _))
set_option maxRecDepth 100000 in
set_option maxHeartbeats 4000000 in
theorem do1_calls (a0 v : Int) (z n h c : Bool) (w : World) (h0 : bits .and .i64 a0 7 = 1) (k : Nat) (r : Int) (hr : word_Put.f k (v / 2) 7 (bits .and .u8 v 1 != 0) = some r) :
    Calls Try.prog 11 #[.int .i64 a0, .int .u8 v, .agg #[.bool z, .bool n, .bool h, .bool c]] w fun e w' => e = .returned (.tuple #[.int .u8 (r), .agg #[.bool (r == 0), .bool false, .bool false, .bool (bits .and .u8 v 1 != 0)]]) ∧ Below w.heap.size w w' := by
  have hmf : ∀ (fn : Fn) (first cap : Array Value) (w : World), (Instr.makeFunc fn first cap).run Try.prog w = .ok (.func fn first cap) w := fun _ _ _ _ => rfl
  have HR := Aside0.mk hr
  clear hr
  go_enter Try.func11, Try.ntmps11
  go_wp2_with fail
  refine (down_calls v _ _ (w.heap.size + 1 + 1 + 1) w.heap.size ?c1 ?c2 k r HR.out).mono ?_
  case c1 => go_simp
  case c2 => go_simp
  rintro e w1 ⟨rfl, hb⟩
  obtain ⟨hc, hf⟩ := bcell hb
  have HB := Aside0.mk hb
  clear hb
  go_wp2
  refine bodyPost_ret (v := .tuple #[.int .u8 (r), .agg #[.bool (r == 0), .bool false, .bool false, .bool (bits .and .u8 v 1 != 0)]]) (by simp [results, Try.results11, go_sem, hc]) rfl ⟨rfl, ?_⟩
  repeat (first | exact Below.refl _ _ | (refine Below.trans ?_ (HB.out.mono (by simp; omega))) | apply below_alloc | apply pw_below_drewN | apply below_drew | (refine Below.setCell ?_ (by simp; try omega) _))
set_option maxRecDepth 100000 in
set_option maxHeartbeats 4000000 in
theorem do2_calls (a0 v : Int) (z n h c : Bool) (w : World) (h0 : bits .and .i64 a0 7 = 2) (k : Nat) (r : Int) (hr : word_Put.f k (IntKind.u8.wrap (v * 2)) 0 c = some r) :
    Calls Try.prog 11 #[.int .i64 a0, .int .u8 v, .agg #[.bool z, .bool n, .bool h, .bool c]] w fun e w' => e = .returned (.tuple #[.int .u8 (r), .agg #[.bool (r == 0), .bool false, .bool false, .bool (bits .and .u8 v 128 != 0)]]) ∧ Below w.heap.size w w' := by
  have hmf : ∀ (fn : Fn) (first cap : Array Value) (w : World), (Instr.makeFunc fn first cap).run Try.prog w = .ok (.func fn first cap) w := fun _ _ _ _ => rfl
  have HR := Aside0.mk hr
  clear hr
  go_enter Try.func11, Try.ntmps11
  go_wp2_with fail
  refine (up_calls v _ _ (w.heap.size + 1 + 1 + 1) w.heap.size ?c1 ?c2 k r HR.out).mono ?_
  case c1 => go_simp
  case c2 => go_simp
  rintro e w1 ⟨rfl, hb⟩
  obtain ⟨hc, hf⟩ := bcell hb
  have HB := Aside0.mk hb
  clear hb
  go_wp2
  refine bodyPost_ret (v := .tuple #[.int .u8 (r), .agg #[.bool (r == 0), .bool false, .bool false, .bool (bits .and .u8 v 128 != 0)]]) (by simp [results, Try.results11, go_sem, hc]) rfl ⟨rfl, ?_⟩
  repeat (first | exact Below.refl _ _ | (refine Below.trans ?_ (HB.out.mono (by simp; omega))) | apply below_alloc | apply pw_below_drewN | apply below_drew | (refine Below.setCell ?_ (by simp; try omega) _))
set_option maxRecDepth 100000 in
set_option maxHeartbeats 4000000 in
theorem do3_calls (a0 v : Int) (z n h c : Bool) (w : World) (h0 : bits .and .i64 a0 7 = 3) (k : Nat) (r : Int) (hr : word_Put.f k (v / 2) 7 c = some r) :
    Calls Try.prog 11 #[.int .i64 a0, .int .u8 v, .agg #[.bool z, .bool n, .bool h, .bool c]] w fun e w' => e = .returned (.tuple #[.int .u8 (r), .agg #[.bool (r == 0), .bool false, .bool false, .bool (bits .and .u8 v 1 != 0)]]) ∧ Below w.heap.size w w' := by
  have hmf : ∀ (fn : Fn) (first cap : Array Value) (w : World), (Instr.makeFunc fn first cap).run Try.prog w = .ok (.func fn first cap) w := fun _ _ _ _ => rfl
  have HR := Aside0.mk hr
  clear hr
  go_enter Try.func11, Try.ntmps11
  go_wp2_with fail
  refine (down_calls v _ _ (w.heap.size + 1 + 1 + 1) w.heap.size ?c1 ?c2 k r HR.out).mono ?_
  case c1 => go_simp
  case c2 => go_simp
  rintro e w1 ⟨rfl, hb⟩
  obtain ⟨hc, hf⟩ := bcell hb
  have HB := Aside0.mk hb
  clear hb
  go_wp2
  refine bodyPost_ret (v := .tuple #[.int .u8 (r), .agg #[.bool (r == 0), .bool false, .bool false, .bool (bits .and .u8 v 1 != 0)]]) (by simp [results, Try.results11, go_sem, hc]) rfl ⟨rfl, ?_⟩
  repeat (first | exact Below.refl _ _ | (refine Below.trans ?_ (HB.out.mono (by simp; omega))) | apply below_alloc | apply pw_below_drewN | apply below_drew | (refine Below.setCell ?_ (by simp; try omega) _))
set_option maxRecDepth 100000 in
set_option maxHeartbeats 4000000 in
theorem do4_calls (a0 v : Int) (z n h c : Bool) (w : World) (h0 : bits .and .i64 a0 7 = 4) (k : Nat) (r : Int) (hr : word_Put.f k (IntKind.u8.wrap (v * 2)) 0 false = some r) :
    Calls Try.prog 11 #[.int .i64 a0, .int .u8 v, .agg #[.bool z, .bool n, .bool h, .bool c]] w fun e w' => e = .returned (.tuple #[.int .u8 (r), .agg #[.bool (r == 0), .bool false, .bool false, .bool (bits .and .u8 v 128 != 0)]]) ∧ Below w.heap.size w w' := by
  have hmf : ∀ (fn : Fn) (first cap : Array Value) (w : World), (Instr.makeFunc fn first cap).run Try.prog w = .ok (.func fn first cap) w := fun _ _ _ _ => rfl
  have HR := Aside0.mk hr
  clear hr
  go_enter Try.func11, Try.ntmps11
  go_wp2_with fail
  refine (up_calls v _ _ (w.heap.size + 1 + 1 + 1) w.heap.size ?c1 ?c2 k r HR.out).mono ?_
  case c1 => go_simp
  case c2 => go_simp
  rintro e w1 ⟨rfl, hb⟩
  obtain ⟨hc, hf⟩ := bcell hb
  have HB := Aside0.mk hb
  clear hb
  go_wp2
  refine bodyPost_ret (v := .tuple #[.int .u8 (r), .agg #[.bool (r == 0), .bool false, .bool false, .bool (bits .and .u8 v 128 != 0)]]) (by simp [results, Try.results11, go_sem, hc]) rfl ⟨rfl, ?_⟩
  repeat (first | exact Below.refl _ _ | (refine Below.trans ?_ (HB.out.mono (by simp; omega))) | apply below_alloc | apply pw_below_drewN | apply below_drew | (refine Below.setCell ?_ (by simp; try omega) _))
set_option maxRecDepth 100000 in
set_option maxHeartbeats 4000000 in
theorem do5_calls (a0 v : Int) (z n h c : Bool) (w : World) (h0 : bits .and .i64 a0 7 = 5) (k : Nat) (r : Int) (hr : word_Put.f k (v / 2) 7 (bits .and .u8 v 128 != 0) = some r) :
    Calls Try.prog 11 #[.int .i64 a0, .int .u8 v, .agg #[.bool z, .bool n, .bool h, .bool c]] w fun e w' => e = .returned (.tuple #[.int .u8 (r), .agg #[.bool (r == 0), .bool false, .bool false, .bool (bits .and .u8 v 1 != 0)]]) ∧ Below w.heap.size w w' := by
  have hmf : ∀ (fn : Fn) (first cap : Array Value) (w : World), (Instr.makeFunc fn first cap).run Try.prog w = .ok (.func fn first cap) w := fun _ _ _ _ => rfl
  have HR := Aside0.mk hr
  clear hr
  go_enter Try.func11, Try.ntmps11
  go_wp2_with fail
  refine (down_calls v _ _ (w.heap.size + 1 + 1 + 1) w.heap.size ?c1 ?c2 k r HR.out).mono ?_
  case c1 => go_simp
  case c2 => go_simp
  rintro e w1 ⟨rfl, hb⟩
  obtain ⟨hc, hf⟩ := bcell hb
  have HB := Aside0.mk hb
  clear hb
  go_wp2
  refine bodyPost_ret (v := .tuple #[.int .u8 (r), .agg #[.bool (r == 0), .bool false, .bool false, .bool (bits .and .u8 v 1 != 0)]]) (by simp [results, Try.results11, go_sem, hc]) rfl ⟨rfl, ?_⟩
  repeat (first | exact Below.refl _ _ | (refine Below.trans ?_ (HB.out.mono (by simp; omega))) | apply below_alloc | apply pw_below_drewN | apply below_drew | (refine Below.setCell ?_ (by simp; try omega) _))
set_option maxRecDepth 100000 in
set_option maxHeartbeats 4000000 in
theorem do6_calls (a0 v : Int) (z n h c : Bool) (w : World) (h0 : bits .and .i64 a0 7 = 6) :
    Calls Try.prog 11 #[.int .i64 a0, .int .u8 v, .agg #[.bool z, .bool n, .bool h, .bool c]] w fun e w' => e = .returned (.tuple #[.int .u8 (bits .or .u8 (v * 16 % 256) (v / 16)), .agg #[.bool (bits .or .u8 (v * 16 % 256) (v / 16) == 0), .bool false, .bool false, .bool false]]) ∧ Below w.heap.size w w' := by
  have hmf : ∀ (fn : Fn) (first cap : Array Value) (w : World), (Instr.makeFunc fn first cap).run Try.prog w = .ok (.func fn first cap) w := fun _ _ _ _ => rfl
  go_enter Try.func11, Try.ntmps11
  go_wp2_with fail
  refine (done_calls _ _ _).mono ?_
  rintro e w1 ⟨rfl, rfl⟩
  go_wp2
  refine bodyPost_ret (v := .tuple #[.int .u8 (bits .or .u8 (v * 16 % 256) (v / 16)), .agg #[.bool (bits .or .u8 (v * 16 % 256) (v / 16) == 0), .bool false, .bool false, .bool false]]) (by simp [results, Try.results11, go_sem]) rfl ⟨rfl, ?_⟩
  repeat (first | exact Below.refl _ _ | apply below_alloc | apply pw_below_drewN | apply below_drew | (refine Below.setCell ?_ (by simp; try omega) _))
set_option maxRecDepth 100000 in
set_option maxHeartbeats 4000000 in
theorem do7_calls (a0 v : Int) (z n h c : Bool) (w : World) (h0 : bits .and .i64 a0 7 = 7) (k : Nat) (r : Int) (hr : word_Put.f k (v / 2) 7 false = some r) :
    Calls Try.prog 11 #[.int .i64 a0, .int .u8 v, .agg #[.bool z, .bool n, .bool h, .bool c]] w fun e w' => e = .returned (.tuple #[.int .u8 (r), .agg #[.bool (r == 0), .bool false, .bool false, .bool (bits .and .u8 v 1 != 0)]]) ∧ Below w.heap.size w w' := by
  have hmf : ∀ (fn : Fn) (first cap : Array Value) (w : World), (Instr.makeFunc fn first cap).run Try.prog w = .ok (.func fn first cap) w := fun _ _ _ _ => rfl
  have HR := Aside0.mk hr
  clear hr
  go_enter Try.func11, Try.ntmps11
  go_wp2_with fail
  refine (down_calls v _ _ (w.heap.size + 1 + 1 + 1) w.heap.size ?c1 ?c2 k r HR.out).mono ?_
  case c1 => go_simp
  case c2 => go_simp
  rintro e w1 ⟨rfl, hb⟩
  obtain ⟨hc, hf⟩ := bcell hb
  have HB := Aside0.mk hb
  clear hb
  go_wp2
  refine bodyPost_ret (v := .tuple #[.int .u8 (r), .agg #[.bool (r == 0), .bool false, .bool false, .bool (bits .and .u8 v 1 != 0)]]) (by simp [results, Try.results11, go_sem, hc]) rfl ⟨rfl, ?_⟩
  repeat (first | exact Below.refl _ _ | (refine Below.trans ?_ (HB.out.mono (by simp; omega))) | apply below_alloc | apply pw_below_drewN | apply below_drew | (refine Below.setCell ?_ (by simp; try omega) _))
/-- What shift.Do answers. -/
def shift_Do.f (a0 : Int) (a1 : Int) (a2_0 : Bool) (a2_1 : Bool) (a2_2 : Bool) (a2_3 : Bool) : Option (Int × Bool × Bool × Bool × Bool) :=
  if Go.bits .and .i64 a0 7 = 0 then (word_Put.f 1 (IntKind.u8.wrap (a1 * 2)) 0 (Go.bits .and .u8 a1 128 != 0)).bind fun r => some (r, r == 0, false, false, Go.bits .and .u8 a1 128 != 0)
  else if Go.bits .and .i64 a0 7 = 1 then (word_Put.f 1 (a1 / 2) 7 (Go.bits .and .u8 a1 1 != 0)).bind fun r => some (r, r == 0, false, false, Go.bits .and .u8 a1 1 != 0)
  else if Go.bits .and .i64 a0 7 = 2 then (word_Put.f 1 (IntKind.u8.wrap (a1 * 2)) 0 a2_3).bind fun r => some (r, r == 0, false, false, Go.bits .and .u8 a1 128 != 0)
  else if Go.bits .and .i64 a0 7 = 3 then (word_Put.f 1 (a1 / 2) 7 a2_3).bind fun r => some (r, r == 0, false, false, Go.bits .and .u8 a1 1 != 0)
  else if Go.bits .and .i64 a0 7 = 4 then (word_Put.f 1 (IntKind.u8.wrap (a1 * 2)) 0 false).bind fun r => some (r, r == 0, false, false, Go.bits .and .u8 a1 128 != 0)
  else if Go.bits .and .i64 a0 7 = 5 then (word_Put.f 1 (a1 / 2) 7 (Go.bits .and .u8 a1 128 != 0)).bind fun r => some (r, r == 0, false, false, Go.bits .and .u8 a1 1 != 0)
  else if Go.bits .and .i64 a0 7 = 6 then some (Go.bits .or .u8 (a1 * 16 % 256) (a1 / 16), Go.bits .or .u8 (a1 * 16 % 256) (a1 / 16) == 0, false, false, false)
  else if Go.bits .and .i64 a0 7 = 7 then (word_Put.f 1 (a1 / 2) 7 false).bind fun r => some (r, r == 0, false, false, Go.bits .and .u8 a1 1 != 0)
  else none
theorem shift_Do.calls (a0 : Int) (a1 : Int) (a2_0 : Bool) (a2_1 : Bool) (a2_2 : Bool) (a2_3 : Bool) (r1 : Int) (r2 : Bool) (r3 : Bool) (r4 : Bool) (r5 : Bool) (w : World) (h : shift_Do.f a0 a1 a2_0 a2_1 a2_2 a2_3 = some (r1, r2, r3, r4, r5)) :
    Calls Try.prog 11 #[.int .i64 a0, .int .u8 a1, .agg #[.bool a2_0, .bool a2_1, .bool a2_2, .bool a2_3]] w fun e w' => e = .returned (.tuple #[.int .u8 r1, .agg #[.bool r2, .bool r3, .bool r4, .bool r5]]) ∧ Below w.heap.size w w' := by
  unfold shift_Do.f at h
  by_cases c0 : Go.bits .and .i64 a0 7 = 0
  · rw [if_pos c0] at h
    obtain ⟨r, hr, h⟩ := Option.bind_eq_some_iff.mp h
    simp only [Option.some.injEq, Prod.mk.injEq] at h
    obtain ⟨rfl, rfl, rfl, rfl, rfl⟩ := h
    exact do0_calls a0 a1 _ _ _ _ w c0 1 r hr
  rw [if_neg c0] at h
  by_cases c1 : Go.bits .and .i64 a0 7 = 1
  · rw [if_pos c1] at h
    obtain ⟨r, hr, h⟩ := Option.bind_eq_some_iff.mp h
    simp only [Option.some.injEq, Prod.mk.injEq] at h
    obtain ⟨rfl, rfl, rfl, rfl, rfl⟩ := h
    exact do1_calls a0 a1 _ _ _ _ w c1 1 r hr
  rw [if_neg c1] at h
  by_cases c2 : Go.bits .and .i64 a0 7 = 2
  · rw [if_pos c2] at h
    obtain ⟨r, hr, h⟩ := Option.bind_eq_some_iff.mp h
    simp only [Option.some.injEq, Prod.mk.injEq] at h
    obtain ⟨rfl, rfl, rfl, rfl, rfl⟩ := h
    exact do2_calls a0 a1 _ _ _ _ w c2 1 r hr
  rw [if_neg c2] at h
  by_cases c3 : Go.bits .and .i64 a0 7 = 3
  · rw [if_pos c3] at h
    obtain ⟨r, hr, h⟩ := Option.bind_eq_some_iff.mp h
    simp only [Option.some.injEq, Prod.mk.injEq] at h
    obtain ⟨rfl, rfl, rfl, rfl, rfl⟩ := h
    exact do3_calls a0 a1 _ _ _ _ w c3 1 r hr
  rw [if_neg c3] at h
  by_cases c4 : Go.bits .and .i64 a0 7 = 4
  · rw [if_pos c4] at h
    obtain ⟨r, hr, h⟩ := Option.bind_eq_some_iff.mp h
    simp only [Option.some.injEq, Prod.mk.injEq] at h
    obtain ⟨rfl, rfl, rfl, rfl, rfl⟩ := h
    exact do4_calls a0 a1 _ _ _ _ w c4 1 r hr
  rw [if_neg c4] at h
  by_cases c5 : Go.bits .and .i64 a0 7 = 5
  · rw [if_pos c5] at h
    obtain ⟨r, hr, h⟩ := Option.bind_eq_some_iff.mp h
    simp only [Option.some.injEq, Prod.mk.injEq] at h
    obtain ⟨rfl, rfl, rfl, rfl, rfl⟩ := h
    exact do5_calls a0 a1 _ _ _ _ w c5 1 r hr
  rw [if_neg c5] at h
  by_cases c6 : Go.bits .and .i64 a0 7 = 6
  · rw [if_pos c6] at h
    simp only [Option.some.injEq, Prod.mk.injEq] at h
    obtain ⟨rfl, rfl, rfl, rfl, rfl⟩ := h
    exact do6_calls a0 a1 _ _ _ _ w c6
  rw [if_neg c6] at h
  by_cases c7 : Go.bits .and .i64 a0 7 = 7
  · rw [if_pos c7] at h
    obtain ⟨r, hr, h⟩ := Option.bind_eq_some_iff.mp h
    simp only [Option.some.injEq, Prod.mk.injEq] at h
    obtain ⟨rfl, rfl, rfl, rfl, rfl⟩ := h
    exact do7_calls a0 a1 _ _ _ _ w c7 1 r hr
  rw [if_neg c7] at h
  cases h
end Go.Proofs.Ytmhoekdobodfeaa.Hand
