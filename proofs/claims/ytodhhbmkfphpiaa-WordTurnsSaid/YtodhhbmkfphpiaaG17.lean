/- Written by a program of this session, after the kit's print: Go functions as Lean functions, each with the proof that the Go text comes to it. -/
import Derived.Test.YtodhhbmkfphpiaaG0
import Derived.Test.YtodhhbmkfphpiaaG12
import Derived.Test.YtodhhbmkfphpiaaG13
namespace Go.Proofs.Ytodhhbmkfphpiaa.G
open Go.RowKit Go.Proofs.YtodhhbmkfphpiaaW.PrintWords Go.Proofs.YtodhhbmkfphpiaaW.PrintLast Go.Proofs.YtodhhbmkfphpiaaW.PrintMore
attribute [local go_sem] max2_int min2_int max_two min_two max_three min_three max_four min_four   -- for this text's walks alone
set_option linter.unusedVariables false
set_option linter.unusedSimpArgs false

/-! ### whirligigref01_Turn: function 19 -/
mutual
def whirligigref01_Turn.j0 : Nat → Int → Int → Int → Option (Int)
  | 0, _, _, _ => none
  | k + 1, x0, x5, x6 => whirligigref01_Turn.l0 k x0 x5 x6 0
def whirligigref01_Turn.l0 : Nat → Int → Int → Int → Int → Option (Int)
  | 0, _, _, _, _ => none
  | k + 1, x0, x5, x6, x7 => if x7 < 8 then ((whirligigref01_Bit.f k x0 x7).bind fun t130 => ((whirligigref01_Put.f k x5 (Int.tmod (wrap64 (x7 + x6)) 8) t130).bind fun t131 => (whirligigref01_Turn.l0 k x0 t131 x6 (wrap64 (x7 + 1))))) else (some x5)
end
def whirligigref01_Turn.f (k : Nat) (a0 : Int) (a1 : Int) : Option (Int) := if (Int.tmod a1 8) < 0 then (whirligigref01_Turn.j0 k a0 0 (wrap64 ((Int.tmod a1 8) + 8))) else (whirligigref01_Turn.j0 k a0 0 (Int.tmod a1 8))
theorem whirligigref01_Turn.mono_l : ∀ k, (∀ y0 y1 y2, LeO (whirligigref01_Turn.j0 k y0 y1 y2) (whirligigref01_Turn.j0 (k + 1) y0 y1 y2)) ∧ (∀ y0 y1 y2 y3, LeO (whirligigref01_Turn.l0 k y0 y1 y2 y3) (whirligigref01_Turn.l0 (k + 1) y0 y1 y2 y3))
  | 0 => ⟨fun _ _ _ r h => by simp [whirligigref01_Turn.j0] at h, fun _ _ _ _ r h => by simp [whirligigref01_Turn.l0] at h⟩
  | k + 1 => by
    obtain ⟨ih0, ih1⟩ := whirligigref01_Turn.mono_l k
    refine ⟨?_, ?_⟩
    · intro y0 y1 y2
      unfold whirligigref01_Turn.j0
      repeat' first
      | (with_reducible exact ih0 _ _ _)
      | (with_reducible exact ih1 _ _ _ _)
      | (with_reducible exact whirligigref01_Bit.mono _ _ _)
      | (with_reducible exact whirligigref01_Put.mono _ _ _ _)
      | (with_reducible exact LeO.refl _)
      | (with_reducible exact LeO.none _)
      | (with_reducible refine LeO.ite ?_ ?_)
      | (with_reducible refine LeO.bind ?_ (fun _ => ?_))
      | exact ih0 _ _ _
      | exact ih1 _ _ _ _
      | exact whirligigref01_Bit.mono _ _ _
      | exact whirligigref01_Put.mono _ _ _ _
      | exact LeO.none _
      | refine LeO.ite ?_ ?_
      | refine LeO.bind ?_ (fun _ => ?_)
    · intro y0 y1 y2 y3
      unfold whirligigref01_Turn.l0
      repeat' first
      | (with_reducible exact ih0 _ _ _)
      | (with_reducible exact ih1 _ _ _ _)
      | (with_reducible exact whirligigref01_Bit.mono _ _ _)
      | (with_reducible exact whirligigref01_Put.mono _ _ _ _)
      | (with_reducible exact LeO.refl _)
      | (with_reducible exact LeO.none _)
      | (with_reducible refine LeO.ite ?_ ?_)
      | (with_reducible refine LeO.bind ?_ (fun _ => ?_))
      | exact ih0 _ _ _
      | exact ih1 _ _ _ _
      | exact whirligigref01_Bit.mono _ _ _
      | exact whirligigref01_Put.mono _ _ _ _
      | exact LeO.none _
      | refine LeO.ite ?_ ?_
      | refine LeO.bind ?_ (fun _ => ?_)
theorem whirligigref01_Turn.mono : ∀ a0 a1 k, LeO (whirligigref01_Turn.f k a0 a1) (whirligigref01_Turn.f (k + 1) a0 a1) := by
  intro a0 a1 k
  obtain ⟨ih0, ih1⟩ := whirligigref01_Turn.mono_l k
  unfold whirligigref01_Turn.f
  repeat' first
      | (with_reducible exact ih0 _ _ _)
      | (with_reducible exact ih1 _ _ _ _)
      | (with_reducible exact whirligigref01_Bit.mono _ _ _)
      | (with_reducible exact whirligigref01_Put.mono _ _ _ _)
      | (with_reducible exact LeO.refl _)
      | (with_reducible exact LeO.none _)
      | (with_reducible refine LeO.ite ?_ ?_)
      | (with_reducible refine LeO.bind ?_ (fun _ => ?_))
      | exact ih0 _ _ _
      | exact ih1 _ _ _ _
      | exact whirligigref01_Bit.mono _ _ _
      | exact whirligigref01_Put.mono _ _ _ _
      | exact LeO.none _
      | refine LeO.ite ?_ ?_
      | refine LeO.bind ?_ (fun _ => ?_)
set_option maxHeartbeats 8000000 in
set_option maxRecDepth 100000 in
theorem whirligigref01_Turn.calls (k : Nat) (a0 : Int) (a1 : Int) (r : Int) (w : World) (h : whirligigref01_Turn.f k a0 a1 = some r) :
    Calls Try.prog 19 #[.int .u8 a0, .int .i64 a1] w fun e w' => e = .returned (.int .u8 r) ∧ Drawn0 w w' := by
  have H : (if (Int.tmod a1 8) < 0 then (whirligigref01_Turn.j0 k a0 0 (wrap64 ((Int.tmod a1 8) + 8))) else (whirligigref01_Turn.j0 k a0 0 (Int.tmod a1 8))) = some r := h
  clear h
  have HC3 := Aside0.mk H
  clear H
  go_enter Try.func19, Try.ntmps19
  go_upto_if 11 with (fail)
  go_cut [6] (fun v6 wc => ∃ (kq : Nat) (x6_2 : Int), v6 = .int .i64 x6_2 ∧ Aside0 (whirligigref01_Turn.j0 kq a0 0 x6_2 = some r) ∧ Aside0 (kq ≤ k) ∧ Drawn0 w wc)
  case first =>
    have H := HC3.out
    clear HC3
    by_cases c4 : (Int.tmod a1 8) < 0
    · rw [if_pos c4] at H
      have c4b0 : decide ((Int.tmod a1 8) < 0) = true := decide_eq_true c4
      clear c4
      (first | rw [c4b0] | (simp only [i64_w, i32_w]; rw [c4b0]) | skip)
      have H' := Aside0.mk H
      clear H
      go_wp2
      go_meet
      case rel => exact ⟨_, (wrap64 ((Int.tmod a1 8) + 8)), (by first | rfl | (simp; done) | (simp [*]; done)), H', ⟨by first | omega | exact Nat.le_refl _⟩, by repeat (first | exact Drawn0.refl _ | apply Drawn0.step)⟩
    · rw [if_neg c4] at H
      have c4b0 : decide ((Int.tmod a1 8) < 0) = false := decide_eq_false c4
      clear c4
      (first | rw [c4b0] | (simp only [i64_w, i32_w]; rw [c4b0]) | skip)
      have H' := Aside0.mk H
      clear H
      go_wp2
      go_meet
      case rel => exact ⟨_, (Int.tmod a1 8), (by first | rfl | (simp; done) | (simp [*]; done)), H', ⟨by first | omega | exact Nat.le_refl _⟩, by repeat (first | exact Drawn0.refl _ | apply Drawn0.step)⟩
  case rest =>
    clear HC3
    try clear c1
    try clear p2
    try clear c4
    try clear c4b0
    obtain ⟨kq, x6_2, rfl, HA, HJ2, ⟨mc2, rfl⟩⟩ := hcut
    cases kq with
    | zero => exact absurd HA.out (by simp [whirligigref01_Turn.j0])
    | succ kj2 =>
      have H := HA.out
      clear HA
      simp only [whirligigref01_Turn.j0] at H
      have H' := Aside0.mk H
      clear H
      go_wp2
      go_loopg [5, 7] kj2 (fun kq v5 v7 w' => ∃ (x5_2 : Int) (x7_2 : Int), v5 = .int .u8 x5_2 ∧ v7 = .int .i64 x7_2 ∧ Aside0 (whirligigref01_Turn.l0 kq a0 x5_2 x6_2 x7_2 = some r) ∧ Aside0 (kq ≤ kj2) ∧ Drawn0 w w')
      case atStart => exact ⟨(0), (0), (by first | rfl | (simp; done) | (simp [*]; done)), (by first | rfl | (simp; done) | (simp [*]; done)), H', ⟨Nat.le_refl _⟩, by repeat (first | exact Drawn0.refl _ | apply Drawn0.step)⟩
      case round =>
        clear H'
        try clear c1
        try clear c2
        try clear p2
        try clear c4
        try clear c4b0
        try clear p2
        obtain ⟨x5_2, x7_2, rfl, rfl, HA, HK2, ⟨m2, rfl⟩⟩ := hrel
        cases gk with
        | zero => exact absurd HA.out (by simp [whirligigref01_Turn.l0])
        | succ k2 =>
          have H := HA.out
          clear HA
          simp only [whirligigref01_Turn.l0] at H
          by_cases c5 : x7_2 < 8
          · rw [if_pos c5] at H
            have c5b0 : decide (x7_2 < 8) = true := decide_eq_true c5
            clear c5
            replace H := Option.bind_eq_some_iff.mp H
            obtain ⟨t130, A60, H⟩ := H
            replace H : ((whirligigref01_Put.f k2 x5_2 (Int.tmod (wrap64 (x7_2 + x6_2)) 8) t130).bind fun t131 => (whirligigref01_Turn.l0 k2 a0 t131 x6_2 (wrap64 (x7_2 + 1)))) = some r := H
            have A6 := Aside0.mk A60
            clear A60
            replace H := Option.bind_eq_some_iff.mp H
            obtain ⟨t131, A70, H⟩ := H
            replace H : (whirligigref01_Turn.l0 k2 a0 t131 x6_2 (wrap64 (x7_2 + 1))) = some r := H
            have A7 := Aside0.mk A70
            clear A70
            have H' := Aside0.mk H
            clear H
            go_wp2_with (first | ((with_reducible refine gate_callee (f := 32) rfl ?_); refine goesL_ (some 25) rfl rfl Try.func32 (by kernel_rfl) rfl #[.int .u8 a0, .int .i64 x7_2] rfl (by (try simp only [List.map_toArray, List.map_cons, List.map_nil]); first | done | rfl | (simp only [List.length_drop, List.length_take]; rfl)) ?_; (with_reducible refine (whirligigref01_Bit.calls k2 a0 x7_2 t130 _ A6.out).mono ?_); rintro e w' ⟨rfl, ⟨nd, rfl⟩⟩; refine ⟨_, rfl, ?_⟩) | ((with_reducible refine gate_callee (f := 15) rfl ?_); refine goesL_ (some 26) rfl rfl Try.func15 (by kernel_rfl) rfl #[.int .u8 x5_2, .int .i64 (Int.tmod (wrap64 (x7_2 + x6_2)) 8), .bool t130] rfl (by (try simp only [List.map_toArray, List.map_cons, List.map_nil]); first | done | rfl | (simp only [List.length_drop, List.length_take]; rfl)) ?_; (with_reducible refine (whirligigref01_Put.calls k2 x5_2 (Int.tmod (wrap64 (x7_2 + x6_2)) 8) t130 t131 _ A7.out).mono ?_); rintro e w' ⟨rfl, ⟨nd, rfl⟩⟩; refine ⟨_, rfl, ?_⟩))
            go_roundg k2
            case measure => have := HJ2.out; have := HK2.out; omega
            case rel => exact ⟨(t131), (wrap64 (x7_2 + 1)), (by first | rfl | (simp; done) | (simp [*]; done)), (by first | rfl | (simp; done) | (simp [*]; done)), H', ⟨by have := HJ2.out; have := HK2.out; omega⟩, by repeat (first | exact Drawn0.refl _ | apply Drawn0.step)⟩
          · rw [if_neg c5] at H
            have c5b0 : decide (x7_2 < 8) = false := decide_eq_false c5
            clear c5
            obtain rfl := Option.some.inj H
            go_wp2
            go_ret
            exact ⟨by first | rfl | (simp; done) | (simp [*]; done), by repeat (first | exact Drawn0.refl _ | apply Drawn0.step)⟩

end Go.Proofs.Ytodhhbmkfphpiaa.G
