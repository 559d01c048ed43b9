/- Written by a program of this session, after the kit's print: Go functions as Lean functions, each with the proof that the Go text comes to it. -/
import Derived.Test.YtdfpaebbejdjlaaG0
import Derived.Test.YtdfpaebbejdjlaaG9
import Derived.Test.YtdfpaebbejdjlaaG10
namespace Go.Proofs.Ytdfpaebbejdjlaa.G
open Go.RowKit Go.Proofs.YtdfpaebbejdjlaaW.PrintWords Go.Proofs.YtdfpaebbejdjlaaW.PrintLast Go.Proofs.YtdfpaebbejdjlaaW.PrintMore
attribute [local go_sem] max2_int min2_int max_two min_two max_three min_three max_four min_four   -- for this text's walks alone
set_option linter.unusedVariables false
set_option linter.unusedSimpArgs false

/-! ### whirligigref02_each: function 38 -/
mutual
def whirligigref02_each.l0 : Nat → Int → Int → Int → Int → Int → Option (Int)
  | 0, _, _, _, _, _ => none
  | k + 1, x0, x1, x2, x7, x8 => if x8 < 8 then ((whirligigref01_Bit.f k x1 x8).bind fun t185 => ((whirligigref01_Bit.f k x2 x8).bind fun t186 => (if t185 = true then (whirligigref02_each.j1 k x0 x1 x2 x7 x8 t185 t186 true) else (whirligigref02_each.j1 k x0 x1 x2 x7 x8 t185 t186 t186)))) else (some x7)
def whirligigref02_each.j1 : Nat → Int → Int → Int → Int → Int → Bool → Bool → Bool → Option (Int)
  | 0, _, _, _, _, _, _, _, _ => none
  | k + 1, x0, x1, x2, x7, x8, x9, x10, x11 => if x0 = 4 then (if x9 = true then (if x0 = 5 then ((whirligigref01_Put.f k x7 x8 (x9 != x10)).bind fun t187 => (whirligigref02_each.l0 k x0 x1 x2 t187 (wrap64 (x8 + 1)))) else ((whirligigref01_Put.f k x7 x8 x10).bind fun t188 => (whirligigref02_each.l0 k x0 x1 x2 t188 (wrap64 (x8 + 1))))) else (if x0 = 5 then ((whirligigref01_Put.f k x7 x8 (x9 != x10)).bind fun t189 => (whirligigref02_each.l0 k x0 x1 x2 t189 (wrap64 (x8 + 1)))) else ((whirligigref01_Put.f k x7 x8 false).bind fun t190 => (whirligigref02_each.l0 k x0 x1 x2 t190 (wrap64 (x8 + 1)))))) else (if x0 = 5 then ((whirligigref01_Put.f k x7 x8 (x9 != x10)).bind fun t191 => (whirligigref02_each.l0 k x0 x1 x2 t191 (wrap64 (x8 + 1)))) else ((whirligigref01_Put.f k x7 x8 x11).bind fun t192 => (whirligigref02_each.l0 k x0 x1 x2 t192 (wrap64 (x8 + 1)))))
end
def whirligigref02_each.f (k : Nat) (a0 : Int) (a1 : Int) (a2 : Int) : Option (Int) := whirligigref02_each.l0 k a0 a1 a2 0 0
theorem whirligigref02_each.mono_l : ∀ k, (∀ y0 y1 y2 y3 y4, LeO (whirligigref02_each.l0 k y0 y1 y2 y3 y4) (whirligigref02_each.l0 (k + 1) y0 y1 y2 y3 y4)) ∧ (∀ y0 y1 y2 y3 y4 y5 y6 y7, LeO (whirligigref02_each.j1 k y0 y1 y2 y3 y4 y5 y6 y7) (whirligigref02_each.j1 (k + 1) y0 y1 y2 y3 y4 y5 y6 y7))
  | 0 => ⟨fun _ _ _ _ _ r h => by simp [whirligigref02_each.l0] at h, fun _ _ _ _ _ _ _ _ r h => by simp [whirligigref02_each.j1] at h⟩
  | k + 1 => by
    obtain ⟨ih0, ih1⟩ := whirligigref02_each.mono_l k
    refine ⟨?_, ?_⟩
    · intro y0 y1 y2 y3 y4
      unfold whirligigref02_each.l0
      repeat' first
      | (with_reducible exact ih0 _ _ _ _ _)
      | (with_reducible exact ih1 _ _ _ _ _ _ _ _)
      | (with_reducible exact whirligigref01_Bit.mono _ _ _)
      | (with_reducible exact whirligigref01_Put.mono _ _ _ _)
      | (with_reducible exact LeO.refl _)
      | (with_reducible exact LeO.none _)
      | (with_reducible refine LeO.ite ?_ ?_)
      | (with_reducible refine LeO.bind ?_ (fun _ => ?_))
      | exact ih0 _ _ _ _ _
      | exact ih1 _ _ _ _ _ _ _ _
      | exact whirligigref01_Bit.mono _ _ _
      | exact whirligigref01_Put.mono _ _ _ _
      | exact LeO.none _
      | refine LeO.ite ?_ ?_
      | refine LeO.bind ?_ (fun _ => ?_)
    · intro y0 y1 y2 y3 y4 y5 y6 y7
      unfold whirligigref02_each.j1
      repeat' first
      | (with_reducible exact ih0 _ _ _ _ _)
      | (with_reducible exact ih1 _ _ _ _ _ _ _ _)
      | (with_reducible exact whirligigref01_Bit.mono _ _ _)
      | (with_reducible exact whirligigref01_Put.mono _ _ _ _)
      | (with_reducible exact LeO.refl _)
      | (with_reducible exact LeO.none _)
      | (with_reducible refine LeO.ite ?_ ?_)
      | (with_reducible refine LeO.bind ?_ (fun _ => ?_))
      | exact ih0 _ _ _ _ _
      | exact ih1 _ _ _ _ _ _ _ _
      | exact whirligigref01_Bit.mono _ _ _
      | exact whirligigref01_Put.mono _ _ _ _
      | exact LeO.none _
      | refine LeO.ite ?_ ?_
      | refine LeO.bind ?_ (fun _ => ?_)
theorem whirligigref02_each.mono : ∀ a0 a1 a2 k, LeO (whirligigref02_each.f k a0 a1 a2) (whirligigref02_each.f (k + 1) a0 a1 a2) := by
  intro a0 a1 a2 k
  obtain ⟨ih0, ih1⟩ := whirligigref02_each.mono_l k
  unfold whirligigref02_each.f
  repeat' first
      | (with_reducible exact ih0 _ _ _ _ _)
      | (with_reducible exact ih1 _ _ _ _ _ _ _ _)
      | (with_reducible exact whirligigref01_Bit.mono _ _ _)
      | (with_reducible exact whirligigref01_Put.mono _ _ _ _)
      | (with_reducible exact LeO.refl _)
      | (with_reducible exact LeO.none _)
      | (with_reducible refine LeO.ite ?_ ?_)
      | (with_reducible refine LeO.bind ?_ (fun _ => ?_))
      | exact ih0 _ _ _ _ _
      | exact ih1 _ _ _ _ _ _ _ _
      | exact whirligigref01_Bit.mono _ _ _
      | exact whirligigref01_Put.mono _ _ _ _
      | exact LeO.none _
      | refine LeO.ite ?_ ?_
      | refine LeO.bind ?_ (fun _ => ?_)
set_option maxHeartbeats 8000000 in
set_option maxRecDepth 100000 in
theorem whirligigref02_each.calls (k : Nat) (a0 : Int) (a1 : Int) (a2 : Int) (r : Int) (w : World) (h : whirligigref02_each.f k a0 a1 a2 = some r) :
    Calls Try.prog 38 #[.int .i64 a0, .int .u8 a1, .int .u8 a2] w fun e w' => e = .returned (.int .u8 r) ∧ Drawn0 w w' := by
  have H : (whirligigref02_each.l0 k a0 a1 a2 0 0) = some r := h
  clear h
  have H' := Aside0.mk H
  clear H
  go_enter Try.func38, Try.ntmps38
  go_wp2
  go_loopg [7, 8] k (fun kq v7 v8 w' => ∃ (x7_1 : Int) (x8_1 : Int), v7 = .int .u8 x7_1 ∧ v8 = .int .i64 x8_1 ∧ Aside0 (whirligigref02_each.l0 kq a0 a1 a2 x7_1 x8_1 = some r) ∧ Aside0 (kq ≤ k) ∧ Drawn0 w w')
  case atStart => exact ⟨(0), (0), (by first | rfl | (simp; done) | (simp [*]; done)), (by first | rfl | (simp; done) | (simp [*]; done)), H', ⟨Nat.le_refl _⟩, by repeat (first | exact Drawn0.refl _ | apply Drawn0.step)⟩
  case round =>
    clear H'
    try clear p2
    try clear c3
    obtain ⟨x7_1, x8_1, rfl, rfl, HA, HK1, ⟨m1, rfl⟩⟩ := hrel
    cases gk with
    | zero => exact absurd HA.out (by simp [whirligigref02_each.l0])
    | succ k1 =>
      have H := HA.out
      clear HA
      simp only [whirligigref02_each.l0] at H
      by_cases c4 : x8_1 < 8
      · rw [if_pos c4] at H
        have c4b0 : decide (x8_1 < 8) = true := decide_eq_true c4
        clear c4
        replace H := Option.bind_eq_some_iff.mp H
        obtain ⟨t185, A50, H⟩ := H
        replace H : ((whirligigref01_Bit.f k1 a2 x8_1).bind fun t186 => (if t185 = true then (whirligigref02_each.j1 k1 a0 a1 a2 x7_1 x8_1 t185 t186 true) else (whirligigref02_each.j1 k1 a0 a1 a2 x7_1 x8_1 t185 t186 t186))) = some r := H
        have A5 := Aside0.mk A50
        clear A50
        replace H := Option.bind_eq_some_iff.mp H
        obtain ⟨t186, A60, H⟩ := H
        replace H : (if t185 = true then (whirligigref02_each.j1 k1 a0 a1 a2 x7_1 x8_1 t185 t186 true) else (whirligigref02_each.j1 k1 a0 a1 a2 x7_1 x8_1 t185 t186 t186)) = some r := H
        have A6 := Aside0.mk A60
        clear A60
        have HC7 := Aside0.mk H
        clear H
        go_upto_region 7 with (first | ((with_reducible refine gate_callee (f := 41) rfl ?_); refine goesL_ (some 18) rfl rfl Try.func41 (by kernel_rfl) rfl #[.int .u8 a1, .int .i64 x8_1] rfl (by (try simp only [List.map_toArray, List.map_cons, List.map_nil]); first | done | rfl | (simp only [List.length_drop, List.length_take]; rfl)) ?_; (with_reducible refine (whirligigref01_Bit.calls k1 a1 x8_1 t185 _ A5.out).mono ?_); rintro e w' ⟨rfl, ⟨nd, rfl⟩⟩; refine ⟨_, rfl, ?_⟩) | ((with_reducible refine gate_callee (f := 41) rfl ?_); refine goesL_ (some 21) rfl rfl Try.func41 (by kernel_rfl) rfl #[.int .u8 a2, .int .i64 x8_1] rfl (by (try simp only [List.map_toArray, List.map_cons, List.map_nil]); first | done | rfl | (simp only [List.length_drop, List.length_take]; rfl)) ?_; (with_reducible refine (whirligigref01_Bit.calls k1 a2 x8_1 t186 _ A6.out).mono ?_); rintro e w' ⟨rfl, ⟨nd, rfl⟩⟩; refine ⟨_, rfl, ?_⟩))
        (try simp only [Act.put, List.setIfInBounds_toArray, List.set_cons_zero, List.set_cons_succ])
        go_cut [11] (fun v11 wc => ∃ (kq : Nat) (x11_6 : Bool), v11 = .bool x11_6 ∧ Aside0 (whirligigref02_each.j1 kq a0 a1 a2 x7_1 x8_1 t185 t186 x11_6 = some r) ∧ Aside0 (kq ≤ k1) ∧ Drawn0 w wc)
        case first =>
          have H := HC7.out
          clear HC7
          by_cases c8 : t185 = true
          · subst c8
            have H1 : (whirligigref02_each.j1 k1 a0 a1 a2 x7_1 x8_1 true t186 true) = some r := by rw [if_pos rfl] at H; exact H
            clear H
            have H := H1
            clear H1
            have H' := Aside0.mk H
            clear H
            go_wp2
            go_meet
            case rel => exact ⟨_, (true), (by first | rfl | (simp; done) | (simp [*]; done)), H', ⟨by have := HK1.out; first | omega | exact Nat.le_refl _⟩, by repeat (first | exact Drawn0.refl _ | apply Drawn0.step)⟩
          · replace c8 := Bool.eq_false_iff.mpr c8
            subst c8
            have H1 : (whirligigref02_each.j1 k1 a0 a1 a2 x7_1 x8_1 false t186 t186) = some r := by rw [if_neg (show ¬ (false = true) by decide)] at H; exact H
            clear H
            have H := H1
            clear H1
            have H' := Aside0.mk H
            clear H
            go_wp2
            go_meet
            case rel => exact ⟨_, (t186), (by first | rfl | (simp; done) | (simp [*]; done)), H', ⟨by have := HK1.out; first | omega | exact Nat.le_refl _⟩, by repeat (first | exact Drawn0.refl _ | apply Drawn0.step)⟩
        case rest =>
          clear HC7
          try clear p2
          try clear c3
          try clear c4
          try clear c4b0
          try clear c8
          try clear p2
          obtain ⟨kq, x11_6, rfl, HA, HJ6, ⟨mc6, rfl⟩⟩ := hcut
          cases kq with
          | zero => exact absurd HA.out (by simp [whirligigref02_each.j1])
          | succ kj6 =>
            have H := HA.out
            clear HA
            simp only [whirligigref02_each.j1] at H
            by_cases c9 : a0 = 4
            · rw [if_pos c9] at H
              have c9b0 : (a0 == 4) = true := beq_iff_eq.mpr c9
              have c9b1 : (a0 != 4) = false := bne_eq_false_iff_eq.mpr c9
              clear c9
              by_cases c10 : t185 = true
              · subst c10
                have H1 : (if a0 = 5 then ((whirligigref01_Put.f kj6 x7_1 x8_1 (!t186)).bind fun t187 => (whirligigref02_each.l0 kj6 a0 a1 a2 t187 (wrap64 (x8_1 + 1)))) else ((whirligigref01_Put.f kj6 x7_1 x8_1 t186).bind fun t188 => (whirligigref02_each.l0 kj6 a0 a1 a2 t188 (wrap64 (x8_1 + 1))))) = some r := by rw [if_pos rfl] at H; (try rw [show (true != t186) = (!t186) from by cases t186 <;> rfl] at H); exact H
                clear H
                have H := H1
                clear H1
                by_cases c11 : a0 = 5
                · rw [if_pos c11] at H
                  have c11b0 : (a0 == 5) = true := beq_iff_eq.mpr c11
                  have c11b1 : (a0 != 5) = false := bne_eq_false_iff_eq.mpr c11
                  clear c11
                  replace H := Option.bind_eq_some_iff.mp H
                  obtain ⟨t187, A120, H⟩ := H
                  replace H : (whirligigref02_each.l0 kj6 a0 a1 a2 t187 (wrap64 (x8_1 + 1))) = some r := H
                  have A12 := Aside0.mk A120
                  clear A120
                  have H' := Aside0.mk H
                  clear H
                  go_wp2_with (first | ((with_reducible refine gate_callee (f := 42) rfl ?_); refine goesL_ (some 40) rfl rfl Try.func42 (by kernel_rfl) rfl #[.int .u8 x7_1, .int .i64 x8_1, .bool (!t186)] rfl (by (try simp only [List.map_toArray, List.map_cons, List.map_nil]); first | done | rfl | (simp only [List.length_drop, List.length_take]; rfl)) ?_; (with_reducible refine (whirligigref01_Put.calls kj6 x7_1 x8_1 (!t186) t187 _ A12.out).mono ?_); rintro e w' ⟨rfl, ⟨nd, rfl⟩⟩; refine ⟨_, rfl, ?_⟩))
                  go_roundg kj6
                  case measure => have := HK1.out; have := HJ6.out; omega
                  case rel => exact ⟨(t187), (wrap64 (x8_1 + 1)), (by first | rfl | (simp; done) | (simp [*]; done)), (by first | rfl | (simp; done) | (simp [*]; done)), H', ⟨by have := HK1.out; have := HJ6.out; omega⟩, by repeat (first | exact Drawn0.refl _ | apply Drawn0.step)⟩
                · rw [if_neg c11] at H
                  have c11b0 : (a0 == 5) = false := beq_eq_false_iff_ne.mpr c11
                  have c11b1 : (a0 != 5) = true := bne_iff_ne.mpr c11
                  replace H := Option.bind_eq_some_iff.mp H
                  obtain ⟨t188, A130, H⟩ := H
                  replace H : (whirligigref02_each.l0 kj6 a0 a1 a2 t188 (wrap64 (x8_1 + 1))) = some r := H
                  have A13 := Aside0.mk A130
                  clear A130
                  have H' := Aside0.mk H
                  clear H
                  go_wp2_with (first | ((with_reducible refine gate_callee (f := 42) rfl ?_); refine goesL_ (some 40) rfl rfl Try.func42 (by kernel_rfl) rfl #[.int .u8 x7_1, .int .i64 x8_1, .bool t186] rfl (by (try simp only [List.map_toArray, List.map_cons, List.map_nil]); first | done | rfl | (simp only [List.length_drop, List.length_take]; rfl)) ?_; (with_reducible refine (whirligigref01_Put.calls kj6 x7_1 x8_1 t186 t188 _ A13.out).mono ?_); rintro e w' ⟨rfl, ⟨nd, rfl⟩⟩; refine ⟨_, rfl, ?_⟩))
                  go_roundg kj6
                  case measure => have := HK1.out; have := HJ6.out; omega
                  case rel => exact ⟨(t188), (wrap64 (x8_1 + 1)), (by first | rfl | (simp; done) | (simp [*]; done)), (by first | rfl | (simp; done) | (simp [*]; done)), H', ⟨by have := HK1.out; have := HJ6.out; omega⟩, by repeat (first | exact Drawn0.refl _ | apply Drawn0.step)⟩
              · replace c10 := Bool.eq_false_iff.mpr c10
                subst c10
                have H1 : (if a0 = 5 then ((whirligigref01_Put.f kj6 x7_1 x8_1 t186).bind fun t189 => (whirligigref02_each.l0 kj6 a0 a1 a2 t189 (wrap64 (x8_1 + 1)))) else ((whirligigref01_Put.f kj6 x7_1 x8_1 false).bind fun t190 => (whirligigref02_each.l0 kj6 a0 a1 a2 t190 (wrap64 (x8_1 + 1))))) = some r := by rw [if_neg (show ¬ (false = true) by decide)] at H; (try rw [show (false != t186) = (t186) from by cases t186 <;> rfl] at H); exact H
                clear H
                have H := H1
                clear H1
                by_cases c14 : a0 = 5
                · rw [if_pos c14] at H
                  have c14b0 : (a0 == 5) = true := beq_iff_eq.mpr c14
                  have c14b1 : (a0 != 5) = false := bne_eq_false_iff_eq.mpr c14
                  clear c14
                  replace H := Option.bind_eq_some_iff.mp H
                  obtain ⟨t189, A150, H⟩ := H
                  replace H : (whirligigref02_each.l0 kj6 a0 a1 a2 t189 (wrap64 (x8_1 + 1))) = some r := H
                  have A15 := Aside0.mk A150
                  clear A150
                  have H' := Aside0.mk H
                  clear H
                  go_wp2_with (first | ((with_reducible refine gate_callee (f := 42) rfl ?_); refine goesL_ (some 40) rfl rfl Try.func42 (by kernel_rfl) rfl #[.int .u8 x7_1, .int .i64 x8_1, .bool t186] rfl (by (try simp only [List.map_toArray, List.map_cons, List.map_nil]); first | done | rfl | (simp only [List.length_drop, List.length_take]; rfl)) ?_; (with_reducible refine (whirligigref01_Put.calls kj6 x7_1 x8_1 t186 t189 _ A15.out).mono ?_); rintro e w' ⟨rfl, ⟨nd, rfl⟩⟩; refine ⟨_, rfl, ?_⟩))
                  go_roundg kj6
                  case measure => have := HK1.out; have := HJ6.out; omega
                  case rel => exact ⟨(t189), (wrap64 (x8_1 + 1)), (by first | rfl | (simp; done) | (simp [*]; done)), (by first | rfl | (simp; done) | (simp [*]; done)), H', ⟨by have := HK1.out; have := HJ6.out; omega⟩, by repeat (first | exact Drawn0.refl _ | apply Drawn0.step)⟩
                · rw [if_neg c14] at H
                  have c14b0 : (a0 == 5) = false := beq_eq_false_iff_ne.mpr c14
                  have c14b1 : (a0 != 5) = true := bne_iff_ne.mpr c14
                  replace H := Option.bind_eq_some_iff.mp H
                  obtain ⟨t190, A160, H⟩ := H
                  replace H : (whirligigref02_each.l0 kj6 a0 a1 a2 t190 (wrap64 (x8_1 + 1))) = some r := H
                  have A16 := Aside0.mk A160
                  clear A160
                  have H' := Aside0.mk H
                  clear H
                  go_wp2_with (first | ((with_reducible refine gate_callee (f := 42) rfl ?_); refine goesL_ (some 40) rfl rfl Try.func42 (by kernel_rfl) rfl #[.int .u8 x7_1, .int .i64 x8_1, .bool false] rfl (by (try simp only [List.map_toArray, List.map_cons, List.map_nil]); first | done | rfl | (simp only [List.length_drop, List.length_take]; rfl)) ?_; (with_reducible refine (whirligigref01_Put.calls kj6 x7_1 x8_1 false t190 _ A16.out).mono ?_); rintro e w' ⟨rfl, ⟨nd, rfl⟩⟩; refine ⟨_, rfl, ?_⟩))
                  go_roundg kj6
                  case measure => have := HK1.out; have := HJ6.out; omega
                  case rel => exact ⟨(t190), (wrap64 (x8_1 + 1)), (by first | rfl | (simp; done) | (simp [*]; done)), (by first | rfl | (simp; done) | (simp [*]; done)), H', ⟨by have := HK1.out; have := HJ6.out; omega⟩, by repeat (first | exact Drawn0.refl _ | apply Drawn0.step)⟩
            · rw [if_neg c9] at H
              have c9b0 : (a0 == 4) = false := beq_eq_false_iff_ne.mpr c9
              have c9b1 : (a0 != 4) = true := bne_iff_ne.mpr c9
              by_cases c17 : a0 = 5
              · rw [if_pos c17] at H
                have c17b0 : (a0 == 5) = true := beq_iff_eq.mpr c17
                have c17b1 : (a0 != 5) = false := bne_eq_false_iff_eq.mpr c17
                clear c17
                replace H := Option.bind_eq_some_iff.mp H
                obtain ⟨t191, A180, H⟩ := H
                replace H : (whirligigref02_each.l0 kj6 a0 a1 a2 t191 (wrap64 (x8_1 + 1))) = some r := H
                have A18 := Aside0.mk A180
                clear A180
                have H' := Aside0.mk H
                clear H
                go_wp2_with (first | ((with_reducible refine gate_callee (f := 42) rfl ?_); refine goesL_ (some 40) rfl rfl Try.func42 (by kernel_rfl) rfl #[.int .u8 x7_1, .int .i64 x8_1, .bool (t185 != t186)] rfl (by (try simp only [List.map_toArray, List.map_cons, List.map_nil]); first | done | rfl | (simp only [List.length_drop, List.length_take]; rfl)) ?_; (with_reducible refine (whirligigref01_Put.calls kj6 x7_1 x8_1 (t185 != t186) t191 _ A18.out).mono ?_); rintro e w' ⟨rfl, ⟨nd, rfl⟩⟩; refine ⟨_, rfl, ?_⟩))
                go_roundg kj6
                case measure => have := HK1.out; have := HJ6.out; omega
                case rel => exact ⟨(t191), (wrap64 (x8_1 + 1)), (by first | rfl | (simp; done) | (simp [*]; done)), (by first | rfl | (simp; done) | (simp [*]; done)), H', ⟨by have := HK1.out; have := HJ6.out; omega⟩, by repeat (first | exact Drawn0.refl _ | apply Drawn0.step)⟩
              · rw [if_neg c17] at H
                have c17b0 : (a0 == 5) = false := beq_eq_false_iff_ne.mpr c17
                have c17b1 : (a0 != 5) = true := bne_iff_ne.mpr c17
                replace H := Option.bind_eq_some_iff.mp H
                obtain ⟨t192, A190, H⟩ := H
                replace H : (whirligigref02_each.l0 kj6 a0 a1 a2 t192 (wrap64 (x8_1 + 1))) = some r := H
                have A19 := Aside0.mk A190
                clear A190
                have H' := Aside0.mk H
                clear H
                go_wp2_with (first | ((with_reducible refine gate_callee (f := 42) rfl ?_); refine goesL_ (some 40) rfl rfl Try.func42 (by kernel_rfl) rfl #[.int .u8 x7_1, .int .i64 x8_1, .bool x11_6] rfl (by (try simp only [List.map_toArray, List.map_cons, List.map_nil]); first | done | rfl | (simp only [List.length_drop, List.length_take]; rfl)) ?_; (with_reducible refine (whirligigref01_Put.calls kj6 x7_1 x8_1 x11_6 t192 _ A19.out).mono ?_); rintro e w' ⟨rfl, ⟨nd, rfl⟩⟩; refine ⟨_, rfl, ?_⟩))
                go_roundg kj6
                case measure => have := HK1.out; have := HJ6.out; omega
                case rel => exact ⟨(t192), (wrap64 (x8_1 + 1)), (by first | rfl | (simp; done) | (simp [*]; done)), (by first | rfl | (simp; done) | (simp [*]; done)), H', ⟨by have := HK1.out; have := HJ6.out; omega⟩, by repeat (first | exact Drawn0.refl _ | apply Drawn0.step)⟩
      · rw [if_neg c4] at H
        have c4b0 : decide (x8_1 < 8) = false := decide_eq_false c4
        clear c4
        obtain rfl := Option.some.inj H
        go_wp2
        go_ret
        exact ⟨by first | rfl | (simp; done) | (simp [*]; done), by repeat (first | exact Drawn0.refl _ | apply Drawn0.step)⟩

end Go.Proofs.Ytdfpaebbejdjlaa.G
