/- Written by a program of this session, after the kit's print: Go functions as Lean functions, each with the proof that the Go text comes to it. -/
import Derived.Test.YtodhhbmkfphpiaaG0
import Derived.Test.YtodhhbmkfphpiaaG5
import Derived.Test.YtodhhbmkfphpiaaG6
import Derived.Test.YtodhhbmkfphpiaaG10
import Derived.Test.YtodhhbmkfphpiaaG17
import Derived.Test.YtodhhbmkfphpiaaG18
namespace Go.Proofs.Ytodhhbmkfphpiaa.G
open Go.RowKit Go.Proofs.YtodhhbmkfphpiaaW.PrintWords Go.Proofs.YtodhhbmkfphpiaaW.PrintLast Go.Proofs.YtodhhbmkfphpiaaW.PrintMore
attribute [local go_sem] max2_int min2_int max_two min_two max_three min_three max_four min_four   -- for this text's walks alone
set_option linter.unusedVariables false
set_option linter.unusedSimpArgs false

/-! ### whirligiglaw01_WordTurns: function 5 -/
def whirligiglaw01_WordTurns.f (k : Nat) (a0 : Int) (a1 : Int) : Option (Bool) := (whirligiglaw01_shown.f k).bind fun t134 => (if t134 = true then ((word_Turn.f a0 a1).bind fun t135 => ((whirligigref01_Turn.f k a0 a1).bind fun t136 => (if t135 = t136 then ((word_Mirror.f a0).bind fun t137 => ((whirligigref01_Mirror.f k a0).bind fun t138 => (some (t137 == t138)))) else (some false)))) else (some false))
theorem whirligiglaw01_WordTurns.mono : ∀ a0 a1 k, LeO (whirligiglaw01_WordTurns.f k a0 a1) (whirligiglaw01_WordTurns.f (k + 1) a0 a1) := by
  intro a0 a1 k
  unfold whirligiglaw01_WordTurns.f
  repeat' first
      | (with_reducible exact whirligiglaw01_shown.mono _)
      | (with_reducible exact whirligigref01_Mirror.mono _ _)
      | (with_reducible exact whirligigref01_Turn.mono _ _ _)
      | (with_reducible exact LeO.refl _)
      | (with_reducible exact LeO.none _)
      | (with_reducible refine LeO.ite ?_ ?_)
      | (with_reducible refine LeO.bind ?_ (fun _ => ?_))
      | exact whirligiglaw01_shown.mono _
      | exact whirligigref01_Mirror.mono _ _
      | exact whirligigref01_Turn.mono _ _ _
      | exact LeO.none _
      | refine LeO.ite ?_ ?_
      | refine LeO.bind ?_ (fun _ => ?_)
set_option maxHeartbeats 8000000 in
set_option maxRecDepth 100000 in
theorem whirligiglaw01_WordTurns.calls (k : Nat) (a0 : Int) (a1 : Int) (r : Bool) (w : World) (h : whirligiglaw01_WordTurns.f k a0 a1 = some r) :
    Calls Try.prog 5 #[.int .u8 a0, .int .i64 a1] w fun e w' => e = .returned (.bool r) ∧ Below w.heap.size w w' := by
  have HB := Aside0.mk (Below.refl w.heap.size w)
  have H : ((whirligiglaw01_shown.f k).bind fun t134 => (if t134 = true then ((word_Turn.f a0 a1).bind fun t135 => ((whirligigref01_Turn.f k a0 a1).bind fun t136 => (if t135 = t136 then ((word_Mirror.f a0).bind fun t137 => ((whirligigref01_Mirror.f k a0).bind fun t138 => (some (t137 == t138)))) else (some false)))) else (some false))) = some r := h
  clear h
  replace H := Option.bind_eq_some_iff.mp H
  obtain ⟨t134, A30, H⟩ := H
  replace H : (if t134 = true then ((word_Turn.f a0 a1).bind fun t135 => ((whirligigref01_Turn.f k a0 a1).bind fun t136 => (if t135 = t136 then ((word_Mirror.f a0).bind fun t137 => ((whirligigref01_Mirror.f k a0).bind fun t138 => (some (t137 == t138)))) else (some false)))) else (some false)) = some r := H
  have A3 := Aside0.mk A30
  clear A30
  by_cases c4 : t134 = true
  · subst c4
    have H1 : ((word_Turn.f a0 a1).bind fun t135 => ((whirligigref01_Turn.f k a0 a1).bind fun t136 => (if t135 = t136 then ((word_Mirror.f a0).bind fun t137 => ((whirligigref01_Mirror.f k a0).bind fun t138 => (some (t137 == t138)))) else (some false)))) = some r := by rw [if_pos rfl] at H; exact H
    clear H
    have H := H1
    clear H1
    replace H := Option.bind_eq_some_iff.mp H
    obtain ⟨t135, A50, H⟩ := H
    replace H : ((whirligigref01_Turn.f k a0 a1).bind fun t136 => (if t135 = t136 then ((word_Mirror.f a0).bind fun t137 => ((whirligigref01_Mirror.f k a0).bind fun t138 => (some (t137 == t138)))) else (some false))) = some r := H
    have A5 := Aside0.mk A50
    clear A50
    replace H := Option.bind_eq_some_iff.mp H
    obtain ⟨t136, A60, H⟩ := H
    replace H : (if t135 = t136 then ((word_Mirror.f a0).bind fun t137 => ((whirligigref01_Mirror.f k a0).bind fun t138 => (some (t137 == t138)))) else (some false)) = some r := H
    have A6 := Aside0.mk A60
    clear A60
    by_cases c7 : t135 = t136
    · rw [if_pos c7] at H
      have c7b0 : (t135 == t136) = true := beq_iff_eq.mpr c7
      have c7b1 : (t135 != t136) = false := bne_eq_false_iff_eq.mpr c7
      clear c7
      replace H := Option.bind_eq_some_iff.mp H
      obtain ⟨t137, A80, H⟩ := H
      replace H : ((whirligigref01_Mirror.f k a0).bind fun t138 => (some (t137 == t138))) = some r := H
      have A8 := Aside0.mk A80
      clear A80
      replace H := Option.bind_eq_some_iff.mp H
      obtain ⟨t138, A90, H⟩ := H
      replace H : (some (t137 == t138)) = some r := H
      have A9 := Aside0.mk A90
      clear A90
      obtain rfl := Option.some.inj H
      go_enter Try.func5, Try.ntmps5
      go_wp2_with (first | ((with_reducible refine gate_callee (f := 12) rfl ?_); refine goesL_ (some 6) rfl rfl Try.func12 (by kernel_rfl) rfl #[] rfl (by (try simp only [List.map_toArray, List.map_cons, List.map_nil]); first | done | rfl | (simp only [List.length_drop, List.length_take]; rfl)) ?_; (with_reducible refine (whirligiglaw01_shown.calls k  true _ A3.out).mono ?_); rintro e w10 ⟨rfl, hb⟩; refine ⟨_, rfl, ?_⟩; have n0_ := Aside0.mk (below_step (by repeat (first | (with_reducible first | exact HB.out | apply below_alloc | apply pw_below_drewN | apply below_drew1) | exact HB.out)) hb); clear HB; have HB := n0_; clear n0_; (try clear hb); (try clear hb2); (try clear hk); (try clear hi)) | (go_at_call 18; (with_reducible refine (word_Turn.calls a0 a1 t135 _ A5.out).mono ?_); rintro e w' ⟨rfl, ⟨nd, rfl⟩⟩) | (go_at_call 19; (with_reducible refine (whirligigref01_Turn.calls k a0 a1 t136 _ A6.out).mono ?_); rintro e w' ⟨rfl, ⟨nd, rfl⟩⟩) | (go_at_call 20; (with_reducible refine (word_Mirror.calls a0 t137 _ A8.out).mono ?_); rintro e w' ⟨rfl, ⟨nd, rfl⟩⟩) | (go_at_call 21; (with_reducible refine (whirligigref01_Mirror.calls k a0 t138 _ A9.out).mono ?_); rintro e w' ⟨rfl, ⟨nd, rfl⟩⟩))
      go_ret
      exact ⟨by first | rfl | (simp [errW_none, errW_some] <;> rfl) | (simp [*, errW_none, errW_some] <;> rfl), by repeat (first | (with_reducible first | exact HB.out | apply below_alloc | apply pw_below_drewN | apply below_drew1) | exact HB.out)⟩
    · rw [if_neg c7] at H
      have c7b0 : (t135 == t136) = false := beq_eq_false_iff_ne.mpr c7
      have c7b1 : (t135 != t136) = true := bne_iff_ne.mpr c7
      obtain rfl := Option.some.inj H
      go_enter Try.func5, Try.ntmps5
      go_wp2_with (first | ((with_reducible refine gate_callee (f := 12) rfl ?_); refine goesL_ (some 6) rfl rfl Try.func12 (by kernel_rfl) rfl #[] rfl (by (try simp only [List.map_toArray, List.map_cons, List.map_nil]); first | done | rfl | (simp only [List.length_drop, List.length_take]; rfl)) ?_; (with_reducible refine (whirligiglaw01_shown.calls k  true _ A3.out).mono ?_); rintro e w11 ⟨rfl, hb⟩; refine ⟨_, rfl, ?_⟩; have n0_ := Aside0.mk (below_step (by repeat (first | (with_reducible first | exact HB.out | apply below_alloc | apply pw_below_drewN | apply below_drew1) | exact HB.out)) hb); clear HB; have HB := n0_; clear n0_; (try clear hb); (try clear hb2); (try clear hk); (try clear hi)) | (go_at_call 18; (with_reducible refine (word_Turn.calls a0 a1 t135 _ A5.out).mono ?_); rintro e w' ⟨rfl, ⟨nd, rfl⟩⟩) | (go_at_call 19; (with_reducible refine (whirligigref01_Turn.calls k a0 a1 t136 _ A6.out).mono ?_); rintro e w' ⟨rfl, ⟨nd, rfl⟩⟩))
      go_ret
      exact ⟨by first | rfl | (simp [errW_none, errW_some] <;> rfl) | (simp [*, errW_none, errW_some] <;> rfl), by repeat (first | (with_reducible first | exact HB.out | apply below_alloc | apply pw_below_drewN | apply below_drew1) | exact HB.out)⟩
  · replace c4 := Bool.eq_false_iff.mpr c4
    subst c4
    have H1 : (some false) = some r := by rw [if_neg (show ¬ (false = true) by decide)] at H; exact H
    clear H
    have H := H1
    clear H1
    obtain rfl := Option.some.inj H
    go_enter Try.func5, Try.ntmps5
    go_wp2_with (first | ((with_reducible refine gate_callee (f := 12) rfl ?_); refine goesL_ (some 6) rfl rfl Try.func12 (by kernel_rfl) rfl #[] rfl (by (try simp only [List.map_toArray, List.map_cons, List.map_nil]); first | done | rfl | (simp only [List.length_drop, List.length_take]; rfl)) ?_; (with_reducible refine (whirligiglaw01_shown.calls k  false _ A3.out).mono ?_); rintro e w12 ⟨rfl, hb⟩; refine ⟨_, rfl, ?_⟩; have n0_ := Aside0.mk (below_step (by repeat (first | (with_reducible first | exact HB.out | apply below_alloc | apply pw_below_drewN | apply below_drew1) | exact HB.out)) hb); clear HB; have HB := n0_; clear n0_; (try clear hb); (try clear hb2); (try clear hk); (try clear hi)))
    go_ret
    exact ⟨by first | rfl | (simp [errW_none, errW_some] <;> rfl) | (simp [*, errW_none, errW_some] <;> rfl), by repeat (first | (with_reducible first | exact HB.out | apply below_alloc | apply pw_below_drewN | apply below_drew1) | exact HB.out)⟩

end Go.Proofs.Ytodhhbmkfphpiaa.G
