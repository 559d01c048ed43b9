/- Written by a program of this session, after the kit's print: Go functions as Lean functions, each with the proof that the Go text comes to it. -/
import Derived.Test.YtodhhbmkfphpiaaG0
import Derived.Test.YtodhhbmkfphpiaaG1
import Derived.Test.YtodhhbmkfphpiaaG2
import Derived.Test.YtodhhbmkfphpiaaG10
import Derived.Test.YtodhhbmkfphpiaaG13
namespace Go.Proofs.Ytodhhbmkfphpiaa.G
open Go.RowKit Go.Proofs.YtodhhbmkfphpiaaW.PrintWords Go.Proofs.YtodhhbmkfphpiaaW.PrintLast Go.Proofs.YtodhhbmkfphpiaaW.PrintMore
attribute [local go_sem] max2_int min2_int max_two min_two max_three min_three max_four min_four   -- for this text's walks alone
set_option linter.unusedVariables false
set_option linter.unusedSimpArgs false

/-! ### whirligiglaw01_WordPuts: function 3 -/
def whirligiglaw01_WordPuts.l0 : Nat → Int → Int → Bool → Bool → Int → Int → Option (Bool)
  | 0, _, _, _, _, _, _ => none
  | k + 1, x0, x1, x2, x7, x8, x9 => if x9 < 8 then (if x9 = x1 then (whirligiglaw01_WordPuts.l0 k x0 x1 x2 x7 x8 (wrap64 (x9 + 1))) else ((word_Bit.f x8 x9).bind fun t125 => ((word_Bit.f x0 x9).bind fun t126 => (if (t125 != t126) = true then (some false) else (whirligiglaw01_WordPuts.l0 k x0 x1 x2 x7 x8 (wrap64 (x9 + 1))))))) else (if x7 = true then ((whirligigref01_Put.f k x0 x1 x2).bind fun t124 => (some (x8 == t124))) else (some false))
def whirligiglaw01_WordPuts.f (k : Nat) (a0 : Int) (a1 : Int) (a2 : Bool) : Option (Bool) := (whirligiglaw01_shown.f k).bind fun t122 => ((word_Put.f k a0 a1 a2).bind fun t123 => (whirligiglaw01_WordPuts.l0 k a0 a1 a2 t122 t123 0))
theorem whirligiglaw01_WordPuts.mono_l : ∀ k, (∀ y0 y1 y2 y3 y4 y5, LeO (whirligiglaw01_WordPuts.l0 k y0 y1 y2 y3 y4 y5) (whirligiglaw01_WordPuts.l0 (k + 1) y0 y1 y2 y3 y4 y5))
  | 0 => fun _ _ _ _ _ _ r h => by simp [whirligiglaw01_WordPuts.l0] at h
  | k + 1 => by
    have ih0 := whirligiglaw01_WordPuts.mono_l k
    · intro y0 y1 y2 y3 y4 y5
      unfold whirligiglaw01_WordPuts.l0
      repeat' first
      | (with_reducible exact ih0 _ _ _ _ _ _)
      | (with_reducible exact whirligiglaw01_shown.mono _)
      | (with_reducible exact whirligigref01_Put.mono _ _ _ _)
      | (with_reducible exact word_Put.mono _ _ _ _)
      | (with_reducible exact LeO.refl _)
      | (with_reducible exact LeO.none _)
      | (with_reducible refine LeO.ite ?_ ?_)
      | (with_reducible refine LeO.bind ?_ (fun _ => ?_))
      | exact ih0 _ _ _ _ _ _
      | exact whirligiglaw01_shown.mono _
      | exact whirligigref01_Put.mono _ _ _ _
      | exact word_Put.mono _ _ _ _
      | exact LeO.none _
      | refine LeO.ite ?_ ?_
      | refine LeO.bind ?_ (fun _ => ?_)
theorem whirligiglaw01_WordPuts.mono : ∀ a0 a1 a2 k, LeO (whirligiglaw01_WordPuts.f k a0 a1 a2) (whirligiglaw01_WordPuts.f (k + 1) a0 a1 a2) := by
  intro a0 a1 a2 k
  have ih0 := whirligiglaw01_WordPuts.mono_l k
  unfold whirligiglaw01_WordPuts.f
  repeat' first
      | (with_reducible exact ih0 _ _ _ _ _ _)
      | (with_reducible exact whirligiglaw01_shown.mono _)
      | (with_reducible exact whirligigref01_Put.mono _ _ _ _)
      | (with_reducible exact word_Put.mono _ _ _ _)
      | (with_reducible exact LeO.refl _)
      | (with_reducible exact LeO.none _)
      | (with_reducible refine LeO.ite ?_ ?_)
      | (with_reducible refine LeO.bind ?_ (fun _ => ?_))
      | exact ih0 _ _ _ _ _ _
      | exact whirligiglaw01_shown.mono _
      | exact whirligigref01_Put.mono _ _ _ _
      | exact word_Put.mono _ _ _ _
      | exact LeO.none _
      | refine LeO.ite ?_ ?_
      | refine LeO.bind ?_ (fun _ => ?_)
set_option maxHeartbeats 8000000 in
set_option maxRecDepth 100000 in
theorem whirligiglaw01_WordPuts.calls (k : Nat) (a0 : Int) (a1 : Int) (a2 : Bool) (r : Bool) (w : World) (h : whirligiglaw01_WordPuts.f k a0 a1 a2 = some r) :
    Calls Try.prog 3 #[.int .u8 a0, .int .i64 a1, .bool a2] w fun e w' => e = .returned (.bool r) ∧ Below w.heap.size w w' := by
  have HB := Aside0.mk (Below.refl w.heap.size w)
  have H : ((whirligiglaw01_shown.f k).bind fun t122 => ((word_Put.f k a0 a1 a2).bind fun t123 => (whirligiglaw01_WordPuts.l0 k a0 a1 a2 t122 t123 0))) = some r := h
  clear h
  replace H := Option.bind_eq_some_iff.mp H
  obtain ⟨t122, A40, H⟩ := H
  replace H : ((word_Put.f k a0 a1 a2).bind fun t123 => (whirligiglaw01_WordPuts.l0 k a0 a1 a2 t122 t123 0)) = some r := H
  have A4 := Aside0.mk A40
  clear A40
  replace H := Option.bind_eq_some_iff.mp H
  obtain ⟨t123, A50, H⟩ := H
  replace H : (whirligiglaw01_WordPuts.l0 k a0 a1 a2 t122 t123 0) = some r := H
  have A5 := Aside0.mk A50
  clear A50
  have H' := Aside0.mk H
  clear H
  go_enter Try.func3, Try.ntmps3
  go_wp2_with (first | ((with_reducible refine gate_callee (f := 12) rfl ?_); refine goesL_ (some 10) rfl rfl Try.func12 (by kernel_rfl) rfl #[] rfl (by (try simp only [List.map_toArray, List.map_cons, List.map_nil]); first | done | rfl | (simp only [List.length_drop, List.length_take]; rfl)) ?_; (with_reducible refine (whirligiglaw01_shown.calls k  t122 _ A4.out).mono ?_); rintro e w6 ⟨rfl, hb⟩; refine ⟨_, rfl, ?_⟩; have n0_ := Aside0.mk (below_step (by repeat (first | (with_reducible first | exact HB.out | apply below_alloc | apply pw_below_drewN | apply below_drew1) | exact HB.out)) hb); clear HB; have HB := n0_; clear n0_; (try clear hb); (try clear hb2); (try clear hk); (try clear hi)) | ((with_reducible refine gate_callee (f := 13) rfl ?_); refine goesL_ (some 14) rfl rfl Try.func13 (by kernel_rfl) rfl #[.int .u8 a0, .int .i64 a1, .bool a2] rfl (by (try simp only [List.map_toArray, List.map_cons, List.map_nil]); first | done | rfl | (simp only [List.length_drop, List.length_take]; rfl)) ?_; (with_reducible refine (word_Put.calls k a0 a1 a2 t123 _ A5.out).mono ?_); rintro e w' ⟨rfl, ⟨nd, rfl⟩⟩; refine ⟨_, rfl, ?_⟩))
  go_loopg [9] k (fun kq v9 w' => ∃ (x9_1 : Int), v9 = .int .i64 x9_1 ∧ Aside0 (whirligiglaw01_WordPuts.l0 kq a0 a1 a2 t122 t123 x9_1 = some r) ∧ Aside0 (kq ≤ k) ∧ Aside0 (Below w.heap.size w w'))
  case atStart => exact ⟨(0), (by first | rfl | (simp; done) | (simp [*]; done)), H', ⟨Nat.le_refl _⟩, ⟨by repeat (first | (with_reducible first | exact HB.out | apply below_alloc | apply pw_below_drewN | apply below_drew1) | exact HB.out)⟩⟩
  case round =>
    clear H'
    try clear c1
    try clear p2
    try clear c3
    obtain ⟨x9_1, rfl, HA, HK1, HB⟩ := hrel
    cases gk with
    | zero => exact absurd HA.out (by simp [whirligiglaw01_WordPuts.l0])
    | succ k1 =>
      have H := HA.out
      clear HA
      simp only [whirligiglaw01_WordPuts.l0] at H
      by_cases c7 : x9_1 < 8
      · rw [if_pos c7] at H
        have c7b0 : decide (x9_1 < 8) = true := decide_eq_true c7
        clear c7
        by_cases c8 : x9_1 = a1
        · rw [if_pos c8] at H
          have c8b0 : (x9_1 == a1) = true := beq_iff_eq.mpr c8
          have c8b1 : (x9_1 != a1) = false := bne_eq_false_iff_eq.mpr c8
          clear c8
          have H' := Aside0.mk H
          clear H
          go_wp2
          go_roundg k1
          case measure => have := HK1.out; omega
          case rel => exact ⟨(wrap64 (x9_1 + 1)), (by first | rfl | (simp; done) | (simp [*]; done)), H', ⟨by have := HK1.out; omega⟩, ⟨by repeat (first | (with_reducible first | exact HB.out | apply below_alloc | apply pw_below_drewN | apply below_drew1) | exact HB.out)⟩⟩
        · rw [if_neg c8] at H
          have c8b0 : (x9_1 == a1) = false := beq_eq_false_iff_ne.mpr c8
          have c8b1 : (x9_1 != a1) = true := bne_iff_ne.mpr c8
          replace H := Option.bind_eq_some_iff.mp H
          obtain ⟨t125, A90, H⟩ := H
          replace H : ((word_Bit.f a0 x9_1).bind fun t126 => (if (t125 != t126) = true then (some false) else (whirligiglaw01_WordPuts.l0 k1 a0 a1 a2 t122 t123 (wrap64 (x9_1 + 1))))) = some r := H
          have A9 := Aside0.mk A90
          clear A90
          replace H := Option.bind_eq_some_iff.mp H
          obtain ⟨t126, A100, H⟩ := H
          replace H : (if (t125 != t126) = true then (some false) else (whirligiglaw01_WordPuts.l0 k1 a0 a1 a2 t122 t123 (wrap64 (x9_1 + 1)))) = some r := H
          have A10 := Aside0.mk A100
          clear A100
          by_cases c11 : (t125 != t126) = true
          · rw [if_pos c11] at H
            have c11b0 : (t125 != t126) = true := c11
            (try (have c11b1 : decide (t125 = t126) = false := by simpa using c11))
            (try (have c11b2 : (t125 == t126) = false := by simpa using c11))
            (try (have c11b3 : ¬ (t125 = t126) := by simpa using c11))
            clear c11
            obtain rfl := Option.some.inj H
            go_wp2_with (first | (go_at_call 14; (with_reducible refine (word_Bit.calls t123 x9_1 t125 _ A9.out).mono ?_); rintro e w' ⟨rfl, ⟨nd, rfl⟩⟩) | (go_at_call 14; (with_reducible refine (word_Bit.calls a0 x9_1 t126 _ A10.out).mono ?_); rintro e w' ⟨rfl, ⟨nd, rfl⟩⟩))
            go_ret
            exact ⟨by first | rfl | (simp [errW_none, errW_some] <;> rfl) | (simp [*, errW_none, errW_some] <;> rfl), by repeat (first | (with_reducible first | exact HB.out | apply below_alloc | apply pw_below_drewN | apply below_drew1) | exact HB.out)⟩
          · rw [if_neg c11] at H
            have c11b0 : (t125 != t126) = false := by simpa using c11
            (try (have c11b1 : decide (t125 = t126) = true := by simpa using c11))
            (try (have c11b2 : (t125 == t126) = true := by simpa using c11))
            clear c11
            have H' := Aside0.mk H
            clear H
            go_wp2_with (first | (go_at_call 14; (with_reducible refine (word_Bit.calls t123 x9_1 t125 _ A9.out).mono ?_); rintro e w' ⟨rfl, ⟨nd, rfl⟩⟩) | (go_at_call 14; (with_reducible refine (word_Bit.calls a0 x9_1 t126 _ A10.out).mono ?_); rintro e w' ⟨rfl, ⟨nd, rfl⟩⟩))
            go_roundg k1
            case measure => have := HK1.out; omega
            case rel => exact ⟨(wrap64 (x9_1 + 1)), (by first | rfl | (simp; done) | (simp [*]; done)), H', ⟨by have := HK1.out; omega⟩, ⟨by repeat (first | (with_reducible first | exact HB.out | apply below_alloc | apply pw_below_drewN | apply below_drew1) | exact HB.out)⟩⟩
      · rw [if_neg c7] at H
        have c7b0 : decide (x9_1 < 8) = false := decide_eq_false c7
        clear c7
        by_cases c12 : t122 = true
        · subst c12
          have H1 : ((whirligigref01_Put.f k1 a0 a1 a2).bind fun t124 => (some (t123 == t124))) = some r := by rw [if_pos rfl] at H; exact H
          clear H
          have H := H1
          clear H1
          replace H := Option.bind_eq_some_iff.mp H
          obtain ⟨t124, A130, H⟩ := H
          replace H : (some (t123 == t124)) = some r := H
          have A13 := Aside0.mk A130
          clear A130
          obtain rfl := Option.some.inj H
          go_wp2_with (first | (go_at_call 15; (with_reducible refine (whirligigref01_Put.calls k1 a0 a1 a2 t124 _ A13.out).mono ?_); rintro e w' ⟨rfl, ⟨nd, rfl⟩⟩))
          go_ret
          exact ⟨by first | rfl | (simp [errW_none, errW_some] <;> rfl) | (simp [*, errW_none, errW_some] <;> rfl), by repeat (first | (with_reducible first | exact HB.out | apply below_alloc | apply pw_below_drewN | apply below_drew1) | exact HB.out)⟩
        · replace c12 := Bool.eq_false_iff.mpr c12
          subst c12
          have H1 : (some false) = some r := by rw [if_neg (show ¬ (false = true) by decide)] at H; exact H
          clear H
          have H := H1
          clear H1
          obtain rfl := Option.some.inj H
          go_wp2
          go_ret
          exact ⟨by first | rfl | (simp [errW_none, errW_some] <;> rfl) | (simp [*, errW_none, errW_some] <;> rfl), by repeat (first | (with_reducible first | exact HB.out | apply below_alloc | apply pw_below_drewN | apply below_drew1) | exact HB.out)⟩

end Go.Proofs.Ytodhhbmkfphpiaa.G
