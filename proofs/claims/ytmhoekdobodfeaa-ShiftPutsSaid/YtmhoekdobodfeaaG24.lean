/- Written by a program of this session, after the kit's print: Go functions as Lean functions, each with the proof that the Go text comes to it. -/
import Derived.Test.YtmhoekdobodfeaaG0
import Derived.Test.YtmhoekdobodfeaaG6
import Derived.Test.YtmhoekdobodfeaaG7
import Derived.Test.YtmhoekdobodfeaaG21
import Derived.Test.YtmhoekdobodfeaaG22
import Derived.Test.YtmhoekdobodfeaaG23
namespace Go.Proofs.Ytmhoekdobodfeaa.G
open Go.RowKit Go.Proofs.YtmhoekdobodfeaaW.PrintWords Go.Proofs.YtmhoekdobodfeaaW.PrintLast Go.Proofs.YtmhoekdobodfeaaW.PrintMore
attribute [local go_sem] max2_int min2_int max_two min_two max_three min_three max_four min_four   -- for this text's walks alone
set_option linter.unusedVariables false
set_option linter.unusedSimpArgs false

/-! ### whirligiglaw03_ShiftPuts: function 8 -/
def whirligiglaw03_ShiftPuts.f (k : Nat) (a0 : Int) (a1 : Int) : Option (Bool) := (whirligiglaw03_shown.f k).bind fun t255 => (if t255 = true then ((shift_Res.f k a0 a1).bind fun t256 => ((whirligigref03_Res.f k a0 a1).bind fun t257 => (if t256 = t257 then ((shift_Set.f k a0 a1).bind fun t258 => ((whirligigref03_Set.f k a0 a1).bind fun t259 => (some (t258 == t259)))) else (some false)))) else (some false))
theorem whirligiglaw03_ShiftPuts.mono : ∀ a0 a1 k, LeO (whirligiglaw03_ShiftPuts.f k a0 a1) (whirligiglaw03_ShiftPuts.f (k + 1) a0 a1) := by
  intro a0 a1 k
  unfold whirligiglaw03_ShiftPuts.f
  repeat' first
      | (with_reducible exact shift_Res.mono _ _ _)
      | (with_reducible exact shift_Set.mono _ _ _)
      | (with_reducible exact whirligiglaw03_shown.mono _)
      | (with_reducible exact whirligigref03_Res.mono _ _ _)
      | (with_reducible exact whirligigref03_Set.mono _ _ _)
      | (with_reducible exact LeO.refl _)
      | (with_reducible exact LeO.none _)
      | (with_reducible refine LeO.ite ?_ ?_)
      | (with_reducible refine LeO.bind ?_ (fun _ => ?_))
      | exact shift_Res.mono _ _ _
      | exact shift_Set.mono _ _ _
      | exact whirligiglaw03_shown.mono _
      | exact whirligigref03_Res.mono _ _ _
      | exact whirligigref03_Set.mono _ _ _
      | exact LeO.none _
      | refine LeO.ite ?_ ?_
      | refine LeO.bind ?_ (fun _ => ?_)
set_option maxHeartbeats 8000000 in
set_option maxRecDepth 100000 in
theorem whirligiglaw03_ShiftPuts.calls (k : Nat) (a0 : Int) (a1 : Int) (r : Bool) (w : World) (h : whirligiglaw03_ShiftPuts.f k a0 a1 = some r) :
    Calls Try.prog 8 #[.int .i64 a0, .int .u8 a1] w fun e w' => e = .returned (.bool r) ∧ Below w.heap.size w w' := by
  have HB := Aside0.mk (Below.refl w.heap.size w)
  have H : ((whirligiglaw03_shown.f k).bind fun t255 => (if t255 = true then ((shift_Res.f k a0 a1).bind fun t256 => ((whirligigref03_Res.f k a0 a1).bind fun t257 => (if t256 = t257 then ((shift_Set.f k a0 a1).bind fun t258 => ((whirligigref03_Set.f k a0 a1).bind fun t259 => (some (t258 == t259)))) else (some false)))) else (some false))) = some r := h
  clear h
  replace H := Option.bind_eq_some_iff.mp H
  obtain ⟨t255, A30, H⟩ := H
  replace H : (if t255 = true then ((shift_Res.f k a0 a1).bind fun t256 => ((whirligigref03_Res.f k a0 a1).bind fun t257 => (if t256 = t257 then ((shift_Set.f k a0 a1).bind fun t258 => ((whirligigref03_Set.f k a0 a1).bind fun t259 => (some (t258 == t259)))) else (some false)))) else (some false)) = some r := H
  have A3 := Aside0.mk A30
  clear A30
  by_cases c4 : t255 = true
  · subst c4
    have H1 : ((shift_Res.f k a0 a1).bind fun t256 => ((whirligigref03_Res.f k a0 a1).bind fun t257 => (if t256 = t257 then ((shift_Set.f k a0 a1).bind fun t258 => ((whirligigref03_Set.f k a0 a1).bind fun t259 => (some (t258 == t259)))) else (some false)))) = some r := by rw [if_pos rfl] at H; exact H
    clear H
    have H := H1
    clear H1
    replace H := Option.bind_eq_some_iff.mp H
    obtain ⟨t256, A50, H⟩ := H
    replace H : ((whirligigref03_Res.f k a0 a1).bind fun t257 => (if t256 = t257 then ((shift_Set.f k a0 a1).bind fun t258 => ((whirligigref03_Set.f k a0 a1).bind fun t259 => (some (t258 == t259)))) else (some false))) = some r := H
    have A5 := Aside0.mk A50
    clear A50
    replace H := Option.bind_eq_some_iff.mp H
    obtain ⟨t257, A60, H⟩ := H
    replace H : (if t256 = t257 then ((shift_Set.f k a0 a1).bind fun t258 => ((whirligigref03_Set.f k a0 a1).bind fun t259 => (some (t258 == t259)))) else (some false)) = some r := H
    have A6 := Aside0.mk A60
    clear A60
    by_cases c7 : t256 = t257
    · rw [if_pos c7] at H
      have c7b0 : (t256 == t257) = true := beq_iff_eq.mpr c7
      have c7b1 : (t256 != t257) = false := bne_eq_false_iff_eq.mpr c7
      clear c7
      replace H := Option.bind_eq_some_iff.mp H
      obtain ⟨t258, A80, H⟩ := H
      replace H : ((whirligigref03_Set.f k a0 a1).bind fun t259 => (some (t258 == t259))) = some r := H
      have A8 := Aside0.mk A80
      clear A80
      replace H := Option.bind_eq_some_iff.mp H
      obtain ⟨t259, A90, H⟩ := H
      replace H : (some (t258 == t259)) = some r := H
      have A9 := Aside0.mk A90
      clear A90
      obtain rfl := Option.some.inj H
      go_enter Try.func8, Try.ntmps8
      go_wp2_with (first | ((with_reducible refine gate_callee (f := 10) rfl ?_); refine goesL_ (some 6) rfl rfl Try.func10 (by kernel_rfl) rfl #[] rfl (by (try simp only [List.map_toArray, List.map_cons, List.map_nil]); first | done | rfl | (simp only [List.length_drop, List.length_take]; rfl)) ?_; (with_reducible refine (whirligiglaw03_shown.calls k  true _ A3.out).mono ?_); rintro e w10 ⟨rfl, hb⟩; refine ⟨_, rfl, ?_⟩; have n0_ := Aside0.mk (below_step (by repeat (first | (with_reducible first | exact HB.out | apply below_alloc | apply pw_below_drewN | apply below_drew1) | exact HB.out)) hb); clear HB; have HB := n0_; clear n0_; (try clear hb); (try clear hb2); (try clear hk); (try clear hi)) | (go_at_call 17; (with_reducible refine (shift_Res.calls k a0 a1 t256 _ A5.out).mono ?_); rintro e w' ⟨rfl, ⟨nd, rfl⟩⟩) | (go_at_call 18; (with_reducible refine (whirligigref03_Res.calls k a0 a1 t257 _ A6.out).mono ?_); rintro e w' ⟨rfl, ⟨nd, rfl⟩⟩) | (go_at_call 19; (with_reducible refine (shift_Set.calls k a0 a1 t258 _ A8.out).mono ?_); rintro e w' ⟨rfl, ⟨nd, rfl⟩⟩) | (go_at_call 20; (with_reducible refine (whirligigref03_Set.calls k a0 a1 t259 _ A9.out).mono ?_); rintro e w' ⟨rfl, ⟨nd, rfl⟩⟩))
      go_ret
      exact ⟨by first | rfl | (simp [errW_none, errW_some] <;> rfl) | (simp [*, errW_none, errW_some] <;> rfl), by repeat (first | (with_reducible first | exact HB.out | apply below_alloc | apply pw_below_drewN | apply below_drew1) | exact HB.out)⟩
    · rw [if_neg c7] at H
      have c7b0 : (t256 == t257) = false := beq_eq_false_iff_ne.mpr c7
      have c7b1 : (t256 != t257) = true := bne_iff_ne.mpr c7
      obtain rfl := Option.some.inj H
      go_enter Try.func8, Try.ntmps8
      go_wp2_with (first | ((with_reducible refine gate_callee (f := 10) rfl ?_); refine goesL_ (some 6) rfl rfl Try.func10 (by kernel_rfl) rfl #[] rfl (by (try simp only [List.map_toArray, List.map_cons, List.map_nil]); first | done | rfl | (simp only [List.length_drop, List.length_take]; rfl)) ?_; (with_reducible refine (whirligiglaw03_shown.calls k  true _ A3.out).mono ?_); rintro e w11 ⟨rfl, hb⟩; refine ⟨_, rfl, ?_⟩; have n0_ := Aside0.mk (below_step (by repeat (first | (with_reducible first | exact HB.out | apply below_alloc | apply pw_below_drewN | apply below_drew1) | exact HB.out)) hb); clear HB; have HB := n0_; clear n0_; (try clear hb); (try clear hb2); (try clear hk); (try clear hi)) | (go_at_call 17; (with_reducible refine (shift_Res.calls k a0 a1 t256 _ A5.out).mono ?_); rintro e w' ⟨rfl, ⟨nd, rfl⟩⟩) | (go_at_call 18; (with_reducible refine (whirligigref03_Res.calls k a0 a1 t257 _ A6.out).mono ?_); rintro e w' ⟨rfl, ⟨nd, rfl⟩⟩))
      go_ret
      exact ⟨by first | rfl | (simp [errW_none, errW_some] <;> rfl) | (simp [*, errW_none, errW_some] <;> rfl), by repeat (first | (with_reducible first | exact HB.out | apply below_alloc | apply pw_below_drewN | apply below_drew1) | exact HB.out)⟩
  · replace c4 := Bool.eq_false_iff.mpr c4
    subst c4
    have H1 : (some false) = some r := by rw [if_neg (show ¬ (false = true) by decide)] at H; exact H
    clear H
    have H := H1
    clear H1
    obtain rfl := Option.some.inj H
    go_enter Try.func8, Try.ntmps8
    go_wp2_with (first | ((with_reducible refine gate_callee (f := 10) rfl ?_); refine goesL_ (some 6) rfl rfl Try.func10 (by kernel_rfl) rfl #[] rfl (by (try simp only [List.map_toArray, List.map_cons, List.map_nil]); first | done | rfl | (simp only [List.length_drop, List.length_take]; rfl)) ?_; (with_reducible refine (whirligiglaw03_shown.calls k  false _ A3.out).mono ?_); rintro e w12 ⟨rfl, hb⟩; refine ⟨_, rfl, ?_⟩; have n0_ := Aside0.mk (below_step (by repeat (first | (with_reducible first | exact HB.out | apply below_alloc | apply pw_below_drewN | apply below_drew1) | exact HB.out)) hb); clear HB; have HB := n0_; clear n0_; (try clear hb); (try clear hb2); (try clear hk); (try clear hi)))
    go_ret
    exact ⟨by first | rfl | (simp [errW_none, errW_some] <;> rfl) | (simp [*, errW_none, errW_some] <;> rfl), by repeat (first | (with_reducible first | exact HB.out | apply below_alloc | apply pw_below_drewN | apply below_drew1) | exact HB.out)⟩

end Go.Proofs.Ytmhoekdobodfeaa.G
