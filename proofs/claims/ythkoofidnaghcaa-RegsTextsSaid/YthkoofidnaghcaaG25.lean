/- Written by a program of this session, after the kit's print: Go functions as Lean functions, each with the proof that the Go text comes to it. -/
import Derived.Test.YthkoofidnaghcaaG0
import Derived.Test.YthkoofidnaghcaaG22
import Derived.Test.YthkoofidnaghcaaG24
namespace Go.Proofs.Ythkoofidnaghcaa.G
open Go.RowKit Go.Proofs.YthkoofidnaghcaaW.PrintWords Go.Proofs.YthkoofidnaghcaaW.PrintLast Go.Proofs.YthkoofidnaghcaaW.PrintMore
attribute [local go_sem] max2_int min2_int max_two min_two max_three min_three max_four min_four   -- for this text's walks alone
set_option linter.unusedVariables false
set_option linter.unusedSimpArgs false

/-! ### whirligigref01_Hex16: function 41 -/
def whirligigref01_Hex16.f (a0 : Int) : Option (ByteArray) := (whirligigref01_Split.f a0).bind fun bt169 => ((whirligigref01_Hex8.f bt169.1).bind fun t171 => ((whirligigref01_Hex8.f bt169.2).bind fun t172 => (if t171.size + t172.size ≤ 9223372036854775807 then (some (t171 ++ t172)) else (none))))
set_option maxHeartbeats 8000000 in
set_option maxRecDepth 100000 in
theorem whirligigref01_Hex16.calls (a0 : Int) (r : ByteArray) (w : World) (h : whirligigref01_Hex16.f a0 = some r) :
    Calls Try.prog 41 #[.int .u16 a0] w fun e w' => e = .returned (.string r) ∧ Drawn0 w w' := by
  have H : ((whirligigref01_Split.f a0).bind fun bt169 => ((whirligigref01_Hex8.f bt169.1).bind fun t171 => ((whirligigref01_Hex8.f bt169.2).bind fun t172 => (if t171.size + t172.size ≤ 9223372036854775807 then (some (t171 ++ t172)) else (none))))) = some r := h
  clear h
  replace H := Option.bind_eq_some_iff.mp H
  obtain ⟨⟨t169, t170⟩, A20, H⟩ := H
  replace H : ((whirligigref01_Hex8.f t169).bind fun t171 => ((whirligigref01_Hex8.f t170).bind fun t172 => (if t171.size + t172.size ≤ 9223372036854775807 then (some (t171 ++ t172)) else (none)))) = some r := H
  have A2 := Aside0.mk A20
  clear A20
  replace H := Option.bind_eq_some_iff.mp H
  obtain ⟨t171, A30, H⟩ := H
  replace H : ((whirligigref01_Hex8.f t170).bind fun t172 => (if t171.size + t172.size ≤ 9223372036854775807 then (some (t171 ++ t172)) else (none))) = some r := H
  have A3 := Aside0.mk A30
  clear A30
  replace H := Option.bind_eq_some_iff.mp H
  obtain ⟨t172, A40, H⟩ := H
  replace H : (if t171.size + t172.size ≤ 9223372036854775807 then (some (t171 ++ t172)) else (none)) = some r := H
  have A4 := Aside0.mk A40
  clear A40
  by_cases c5 : t171.size + t172.size ≤ 9223372036854775807
  · rw [if_pos c5] at H
    have c5b0 := eq_true c5
    have c5b1 : decide (t171.size + t172.size ≤ 9223372036854775807) = true := decide_eq_true c5
    try have c5b2 : (9223372036854775807 < t171.size + t172.size) = False := eq_false (Nat.not_lt.2 c5)
    obtain rfl := Option.some.inj H
    go_enter Try.func41, Try.ntmps41
    go_wp2_with (first | ((with_reducible refine gate_callee (f := 49) rfl ?_); refine goesL_ (some 7) rfl rfl Try.func49 (by kernel_rfl) rfl #[.int .u16 a0] rfl (by (try simp only [List.map_toArray, List.map_cons, List.map_nil]); first | done | rfl | (simp only [List.length_drop, List.length_take]; rfl)) ?_; (with_reducible refine (whirligigref01_Split.calls a0 t169 t170 _ A2.out).mono ?_); rintro e w' ⟨rfl, ⟨nd, rfl⟩⟩; refine ⟨_, rfl, ?_⟩) | ((with_reducible refine gate_callee (f := 54) rfl ?_); refine goesL_ (some 11) rfl rfl Try.func54 (by kernel_rfl) rfl #[.int .u8 t169] rfl (by (try simp only [List.map_toArray, List.map_cons, List.map_nil]); first | done | rfl | (simp only [List.length_drop, List.length_take]; rfl)) ?_; (with_reducible refine (whirligigref01_Hex8.calls t169 t171 _ A3.out).mono ?_); rintro e w' ⟨rfl, ⟨nd, rfl⟩⟩; refine ⟨_, rfl, ?_⟩) | ((with_reducible refine gate_callee (f := 54) rfl ?_); refine goesL_ (some 13) rfl rfl Try.func54 (by kernel_rfl) rfl #[.int .u8 t170] rfl (by (try simp only [List.map_toArray, List.map_cons, List.map_nil]); first | done | rfl | (simp only [List.length_drop, List.length_take]; rfl)) ?_; (with_reducible refine (whirligigref01_Hex8.calls t170 t172 _ A4.out).mono ?_); rintro e w' ⟨rfl, ⟨nd, rfl⟩⟩; refine ⟨_, rfl, ?_⟩))
    go_ret
    exact ⟨by first | rfl | (simp; done) | (simp [*]; done), by repeat (first | exact Drawn0.refl _ | apply Drawn0.step)⟩
  · rw [if_neg c5] at H
    exact absurd H (by simp)

end Go.Proofs.Ythkoofidnaghcaa.G
