/- Written by a program of this session, after the kit's print: Go functions as Lean functions, each with the proof that the Go text comes to it. -/
import Derived.Test.YtmhoekdobodfeaaG0
import Derived.Test.YtmhoekdobodfeaaG8
import Derived.Test.YtmhoekdobodfeaaG11
namespace Go.Proofs.Ytmhoekdobodfeaa.G
open Go.RowKit Go.Proofs.YtmhoekdobodfeaaW.PrintWords Go.Proofs.YtmhoekdobodfeaaW.PrintLast Go.Proofs.YtmhoekdobodfeaaW.PrintMore
attribute [local go_sem] max2_int min2_int max_two min_two max_three min_three max_four min_four   -- for this text's walks alone
set_option linter.unusedVariables false
set_option linter.unusedSimpArgs false

/-! ### whirligigref03_Set: function 20 -/
def whirligigref03_Set.f (k : Nat) (a0 : Int) (a1 : Int) : Option (Int) := (whirligigref02_Op.f a0).bind fun t253 => ((whirligigref01_Put.f k a1 t253 true).bind fun t254 => (some t254))
theorem whirligigref03_Set.mono : ∀ a0 a1 k, LeO (whirligigref03_Set.f k a0 a1) (whirligigref03_Set.f (k + 1) a0 a1) := by
  intro a0 a1 k
  unfold whirligigref03_Set.f
  repeat' first
      | (with_reducible exact whirligigref01_Put.mono _ _ _ _)
      | (with_reducible exact LeO.refl _)
      | (with_reducible exact LeO.none _)
      | (with_reducible refine LeO.ite ?_ ?_)
      | (with_reducible refine LeO.bind ?_ (fun _ => ?_))
      | exact whirligigref01_Put.mono _ _ _ _
      | exact LeO.none _
      | refine LeO.ite ?_ ?_
      | refine LeO.bind ?_ (fun _ => ?_)
set_option maxHeartbeats 8000000 in
set_option maxRecDepth 100000 in
theorem whirligigref03_Set.calls (k : Nat) (a0 : Int) (a1 : Int) (r : Int) (w : World) (h : whirligigref03_Set.f k a0 a1 = some r) :
    Calls Try.prog 20 #[.int .i64 a0, .int .u8 a1] w fun e w' => e = .returned (.int .u8 r) ∧ Drawn0 w w' := by
  have H : ((whirligigref02_Op.f a0).bind fun t253 => ((whirligigref01_Put.f k a1 t253 true).bind fun t254 => (some t254))) = some r := h
  clear h
  replace H := Option.bind_eq_some_iff.mp H
  obtain ⟨t253, A30, H⟩ := H
  replace H : ((whirligigref01_Put.f k a1 t253 true).bind fun t254 => (some t254)) = some r := H
  have A3 := Aside0.mk A30
  clear A30
  replace H := Option.bind_eq_some_iff.mp H
  obtain ⟨t254, A40, H⟩ := H
  replace H : (some t254) = some r := H
  have A4 := Aside0.mk A40
  clear A40
  obtain rfl := Option.some.inj H
  go_enter Try.func20, Try.ntmps20
  go_wp2_with (first | ((with_reducible refine gate_callee (f := 25) rfl ?_); refine goesL_ (some 7) rfl rfl Try.func25 (by kernel_rfl) rfl #[.int .i64 a0] rfl (by (try simp only [List.map_toArray, List.map_cons, List.map_nil]); first | done | rfl | (simp only [List.length_drop, List.length_take]; rfl)) ?_; (with_reducible refine (whirligigref02_Op.calls a0 t253 _ A3.out).mono ?_); rintro e w' ⟨rfl, ⟨nd, rfl⟩⟩; refine ⟨_, rfl, ?_⟩) | ((with_reducible refine gate_callee (f := 29) rfl ?_); refine goesL_ (some 8) rfl rfl Try.func29 (by kernel_rfl) rfl #[.int .u8 a1, .int .i64 t253, .bool true] rfl (by (try simp only [List.map_toArray, List.map_cons, List.map_nil]); first | done | rfl | (simp only [List.length_drop, List.length_take]; rfl)) ?_; (with_reducible refine (whirligigref01_Put.calls k a1 t253 true t254 _ A4.out).mono ?_); rintro e w' ⟨rfl, ⟨nd, rfl⟩⟩; refine ⟨_, rfl, ?_⟩))
  go_ret
  exact ⟨by first | rfl | (simp; done) | (simp [*]; done), by repeat (first | exact Drawn0.refl _ | apply Drawn0.step)⟩

end Go.Proofs.Ytmhoekdobodfeaa.G
