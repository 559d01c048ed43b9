/- Written by a program of this session, after the kit's print: Go functions as Lean functions, each with the proof that the Go text comes to it. -/
import Derived.Test.YtmlpijlnchnabaaG0
import Derived.Test.YtmlpijlnchnabaaG7
import Derived.Test.YtmlpijlnchnabaaG8
import Derived.Test.YtmlpijlnchnabaaG9
import Derived.Test.YtmlpijlnchnabaaG16
import Derived.Test.YtmlpijlnchnabaaHSum
namespace Go.Proofs.Ytmlpijlnchnabaa.G
open Go.RowKit Go.Proofs.YtmlpijlnchnabaaW.PrintWords Go.Proofs.YtmlpijlnchnabaaW.PrintLast Go.Proofs.YtmlpijlnchnabaaW.PrintMore
attribute [local go_sem] max2_int min2_int max_two min_two max_three min_three max_four min_four   -- for this text's walks alone
set_option linter.unusedVariables false
set_option linter.unusedSimpArgs false

open Go.Proofs.Ytmlpijlnchnabaa.Hand
/-! ### whirligiglaw07_HeaderSums: function 7 -/
def whirligiglaw07_HeaderSums.f (k : Nat) (l0 : List Int) : Option (Bool) := (whirligiglaw07_shown.f k).bind fun t243 => ((header_Sum.f l0).bind fun bt244 => ((whirligigref07_Sum.f k l0).bind fun bt246 => (if t243 = true then (if bt244.1 = bt246.1 then (if bt244.2 = bt246.2 then ((header_Whole.f k l0).bind fun t248 => ((whirligigref07_Whole.f k l0).bind fun t249 => (some (t248 == t249)))) else (some false)) else (some false)) else (some false))))
theorem whirligiglaw07_HeaderSums.mono : ∀ a0 k, LeO (whirligiglaw07_HeaderSums.f k a0) (whirligiglaw07_HeaderSums.f (k + 1) a0) := by
  intro a0 k
  unfold whirligiglaw07_HeaderSums.f
  repeat' first
      | (with_reducible exact header_Whole.mono _ _)
      | (with_reducible exact whirligiglaw07_shown.mono _)
      | (with_reducible exact whirligigref07_Sum.mono _ _)
      | (with_reducible exact whirligigref07_Whole.mono _ _)
      | (with_reducible exact LeO.refl _)
      | (with_reducible exact LeO.none _)
      | (with_reducible refine LeO.ite ?_ ?_)
      | (with_reducible refine LeO.bind ?_ (fun _ => ?_))
      | exact header_Whole.mono _ _
      | exact whirligiglaw07_shown.mono _
      | exact whirligigref07_Sum.mono _ _
      | exact whirligigref07_Whole.mono _ _
      | exact LeO.none _
      | refine LeO.ite ?_ ?_
      | refine LeO.bind ?_ (fun _ => ?_)
set_option maxHeartbeats 8000000 in
set_option maxRecDepth 100000 in
theorem whirligiglaw07_HeaderSums.calls (k : Nat) (A0 : Option Addr) (c0 : Nat) (l0 : List Int) (r : Bool) (w : World) (hr0 : Kd.C (Kd.int .u8) w A0 l0.length l0) (hc0 : l0.length ≤ c0) (h : whirligiglaw07_HeaderSums.f k l0 = some r) (ht : r = true) :
    Calls Try.prog 7 #[.slice A0 l0.length c0] w fun e w' => e = .returned (.bool r) ∧ Below w.heap.size w w' := by
  have HT := Aside0.mk ht
  clear ht
  have HR0 := Aside0.mk hr0
  have HC0 := Aside0.mk hc0
  clear hr0 hc0
  have HB := Aside0.mk (Below.refl w.heap.size w)
  have H : ((whirligiglaw07_shown.f k).bind fun t243 => ((header_Sum.f l0).bind fun bt244 => ((whirligigref07_Sum.f k l0).bind fun bt246 => (if t243 = true then (if bt244.1 = bt246.1 then (if bt244.2 = bt246.2 then ((header_Whole.f k l0).bind fun t248 => ((whirligigref07_Whole.f k l0).bind fun t249 => (some (t248 == t249)))) else (some false)) else (some false)) else (some false))))) = some r := h
  clear h
  replace H := Option.bind_eq_some_iff.mp H
  obtain ⟨t243, A20, H⟩ := H
  replace H : ((header_Sum.f l0).bind fun bt244 => ((whirligigref07_Sum.f k l0).bind fun bt246 => (if t243 = true then (if bt244.1 = bt246.1 then (if bt244.2 = bt246.2 then ((header_Whole.f k l0).bind fun t248 => ((whirligigref07_Whole.f k l0).bind fun t249 => (some (t248 == t249)))) else (some false)) else (some false)) else (some false)))) = some r := H
  have A2 := Aside0.mk A20
  clear A20
  replace H := Option.bind_eq_some_iff.mp H
  obtain ⟨⟨t244, t245⟩, A30, H⟩ := H
  replace H : ((whirligigref07_Sum.f k l0).bind fun bt246 => (if t243 = true then (if t244 = bt246.1 then (if t245 = bt246.2 then ((header_Whole.f k l0).bind fun t248 => ((whirligigref07_Whole.f k l0).bind fun t249 => (some (t248 == t249)))) else (some false)) else (some false)) else (some false))) = some r := H
  have A3 := Aside0.mk A30
  clear A30
  replace H := Option.bind_eq_some_iff.mp H
  obtain ⟨⟨t246, t247⟩, A40, H⟩ := H
  replace H : (if t243 = true then (if t244 = t246 then (if t245 = t247 then ((header_Whole.f k l0).bind fun t248 => ((whirligigref07_Whole.f k l0).bind fun t249 => (some (t248 == t249)))) else (some false)) else (some false)) else (some false)) = some r := H
  have A4 := Aside0.mk A40
  clear A40
  by_cases c5 : t243 = true
  · subst c5
    have H1 : (if t244 = t246 then (if t245 = t247 then ((header_Whole.f k l0).bind fun t248 => ((whirligigref07_Whole.f k l0).bind fun t249 => (some (t248 == t249)))) else (some false)) else (some false)) = some r := by rw [if_pos rfl] at H; exact H
    clear H
    have H := H1
    clear H1
    by_cases c6 : t244 = t246
    · rw [if_pos c6] at H
      have c6b0 : (t244 == t246) = true := beq_iff_eq.mpr c6
      have c6b1 : (t244 != t246) = false := bne_eq_false_iff_eq.mpr c6
      clear c6
      by_cases c7 : t245 = t247
      · rw [if_pos c7] at H
        have c7b0 : (t245 == t247) = true := beq_iff_eq.mpr c7
        have c7b1 : (t245 != t247) = false := bne_eq_false_iff_eq.mpr c7
        clear c7
        replace H := Option.bind_eq_some_iff.mp H
        obtain ⟨t248, A80, H⟩ := H
        replace H : ((whirligigref07_Whole.f k l0).bind fun t249 => (some (t248 == t249))) = some r := H
        have A8 := Aside0.mk A80
        clear A80
        replace H := Option.bind_eq_some_iff.mp H
        obtain ⟨t249, A90, H⟩ := H
        replace H : (some (t248 == t249)) = some r := H
        have A9 := Aside0.mk A90
        clear A90
        obtain rfl := Option.some.inj H
        go_enter Try.func7, Try.ntmps7
        go_wp2_with (first | ((with_reducible refine gate_callee (f := 9) rfl ?_); refine goesL_ (some 8) rfl rfl Try.func9 (by kernel_rfl) rfl #[] rfl (by (try simp only [List.map_toArray, List.map_cons, List.map_nil]); first | done | rfl | (simp only [List.length_drop, List.length_take]; rfl)) ?_; (with_reducible refine (whirligiglaw07_shown.calls k  true _ A2.out).mono ?_); rintro e w10 ⟨rfl, hb⟩; refine ⟨_, rfl, ?_⟩; have n0_ := Aside0.mk (below_step (by repeat (first | (with_reducible first | exact HB.out | apply below_alloc | apply pw_below_drewN | apply below_drew1) | exact HB.out)) hb); clear HB; have HB := n0_; clear n0_; (try clear hb); (try clear hb2); (try clear hk); (try clear hi)) | ((with_reducible refine gate_callee (f := 14) rfl ?_); refine goesL_ (some 11) rfl rfl Try.func14 (by kernel_rfl) rfl #[.slice A0 l0.length c0] rfl (by (try simp only [List.map_toArray, List.map_cons, List.map_nil]); first | done | rfl | (simp only [List.length_drop, List.length_take]; rfl)) ?_; (with_reducible refine (header_Sum.calls _ _ l0 t244 t245 _ ?side1 ?side2 A3.out).mono ?_); (case side1 => repeat (first | exact (Kd.C_below HR0.out HB.out) | (with_reducible refine Kd.C_alloc ?_ _) | (with_reducible refine Kd.C_drewN ?_ _) | (with_reducible refine Kd.C_drew ?_))); (case side2 => exact HC0.out); rintro e w11 ⟨rfl, hb⟩; refine ⟨_, rfl, ?_⟩; have n0_ := Aside0.mk (below_step (by repeat (first | (with_reducible first | exact HB.out | apply below_alloc | apply pw_below_drewN | apply below_drew1) | exact HB.out)) hb); clear HB; have HB := n0_; clear n0_; (try clear hb); (try clear hb2); (try clear hk); (try clear hi)) | ((with_reducible refine gate_callee (f := 15) rfl ?_); refine goesL_ (some 16) rfl rfl Try.func15 (by kernel_rfl) rfl #[.slice A0 l0.length c0] rfl (by (try simp only [List.map_toArray, List.map_cons, List.map_nil]); first | done | rfl | (simp only [List.length_drop, List.length_take]; rfl)) ?_; (with_reducible refine (whirligigref07_Sum.calls k _ _ l0 t246 t247 _ ?side1 ?side2 A4.out).mono ?_); (case side1 => repeat (first | exact (Kd.C_below HR0.out HB.out) | (with_reducible refine Kd.C_alloc ?_ _) | (with_reducible refine Kd.C_drewN ?_ _) | (with_reducible refine Kd.C_drew ?_))); (case side2 => exact HC0.out); rintro e w' ⟨rfl, ⟨nd, rfl⟩⟩; refine ⟨_, rfl, ?_⟩) | (go_at_call 16; (with_reducible refine (header_Whole.calls k _ _ l0 t248 _ ?side1 ?side2 A8.out).mono ?_); (case side1 => repeat (first | exact (Kd.C_below HR0.out (by repeat (first | (with_reducible first | exact HB.out | apply below_alloc | apply pw_below_drewN | apply below_drew1) | exact HB.out))) | (with_reducible refine Kd.C_alloc ?_ _) | (with_reducible refine Kd.C_drewN ?_ _) | (with_reducible refine Kd.C_drew ?_))); (case side2 => exact HC0.out); rintro e w' ⟨rfl, ⟨nd, rfl⟩⟩) | (go_at_call 17; (with_reducible refine (whirligigref07_Whole.calls k _ _ l0 t249 _ ?side1 ?side2 A9.out).mono ?_); (case side1 => repeat (first | exact (Kd.C_below HR0.out (by repeat (first | (with_reducible first | exact HB.out | apply below_alloc | apply pw_below_drewN | apply below_drew1) | exact HB.out))) | (with_reducible refine Kd.C_alloc ?_ _) | (with_reducible refine Kd.C_drewN ?_ _) | (with_reducible refine Kd.C_drew ?_))); (case side2 => exact HC0.out); rintro e w' ⟨rfl, ⟨nd, rfl⟩⟩))
        go_ret
        exact ⟨by first | rfl | (simp [errW_none, errW_some] <;> rfl) | (simp [*, errW_none, errW_some] <;> rfl), by repeat (first | (with_reducible first | exact HB.out | apply below_alloc | apply pw_below_drewN | apply below_drew1) | exact HB.out)⟩
      · rw [if_neg c7] at H
        have c7b0 : (t245 == t247) = false := beq_eq_false_iff_ne.mpr c7
        have c7b1 : (t245 != t247) = true := bne_iff_ne.mpr c7
        exact absurd ((Option.some.inj H).trans HT.out) (by simp)
    · rw [if_neg c6] at H
      have c6b0 : (t244 == t246) = false := beq_eq_false_iff_ne.mpr c6
      have c6b1 : (t244 != t246) = true := bne_iff_ne.mpr c6
      exact absurd ((Option.some.inj H).trans HT.out) (by simp)
  · replace c5 := Bool.eq_false_iff.mpr c5
    subst c5
    have H1 : (some false) = some r := by rw [if_neg (show ¬ (false = true) by decide)] at H; exact H
    clear H
    have H := H1
    clear H1
    exact absurd ((Option.some.inj H).trans HT.out) (by simp)

end Go.Proofs.Ytmlpijlnchnabaa.G
