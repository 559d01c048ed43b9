/- Written by a program of this session, after the kit's print: Go functions as Lean functions, each with the proof that the Go text comes to it. -/
import Derived.Test.YtmhoekdobodfeaaG0
import Derived.Test.YtmhoekdobodfeaaG4
import Derived.Test.YtmhoekdobodfeaaG6
import Derived.Test.YtmhoekdobodfeaaG7
import Derived.Test.YtmhoekdobodfeaaG21
import Derived.Test.YtmhoekdobodfeaaHDo
namespace Go.Proofs.Ytmhoekdobodfeaa.G
open Go.RowKit Go.Proofs.YtmhoekdobodfeaaW.PrintWords Go.Proofs.YtmhoekdobodfeaaW.PrintLast Go.Proofs.YtmhoekdobodfeaaW.PrintMore
attribute [local go_sem] max2_int min2_int max_two min_two max_three min_three max_four min_four   -- for this text's walks alone
set_option linter.unusedVariables false
set_option linter.unusedSimpArgs false

open Go.Proofs.Ytmhoekdobodfeaa.Hand
/-! ### whirligiglaw03_ShiftWorth: function 9 -/
mutual
def whirligiglaw03_ShiftWorth.j0 : Nat → Int → Int → Bool → Int → Int → Int → Int → Int → Bool → Bool → Bool → Bool → Bool → Bool → Bool → Bool → Bool → Bool → Bool → Bool → Option (Bool)
  | 0, _, _, _, _, _, _, _, _, _, _, _, _, _, _, _, _, _, _, _, _ => none
  | k + 1, x0, x1, x7, x8, x10, x12, x16, x18, x261000, x261001, x261002, x261003, x274000, x274001, x274002, x274003, x280000, x280001, x280002, x280003 => if x274003 = true then (whirligiglaw03_ShiftWorth.j1 k x0 x1 x7 x8 x10 x12 x16 x18 1 x261000 x261001 x261002 x261003 x274000 x274001 x274002 x274003 x280000 x280001 x280002 x280003) else (whirligiglaw03_ShiftWorth.j1 k x0 x1 x7 x8 x10 x12 x16 x18 0 x261000 x261001 x261002 x261003 x274000 x274001 x274002 x274003 x280000 x280001 x280002 x280003)
def whirligiglaw03_ShiftWorth.j1 : Nat → Int → Int → Bool → Int → Int → Int → Int → Int → Int → Bool → Bool → Bool → Bool → Bool → Bool → Bool → Bool → Bool → Bool → Bool → Bool → Option (Bool)
  | 0, _, _, _, _, _, _, _, _, _, _, _, _, _, _, _, _, _, _, _, _, _ => none
  | k + 1, x0, x1, x7, x8, x10, x12, x16, x18, x19, x261000, x261001, x261002, x261003, x274000, x274001, x274002, x274003, x280000, x280001, x280002, x280003 => (shift_Set.f k x1 x0).bind fun t292 => ((shift_Test.f x1 t292 x261000 x261001 x261002 x261003).bind fun bt293 => ((shift_Res.f k x1 x0).bind fun t298 => ((shift_Test.f x1 t298 x261000 x261001 x261002 x261003).bind fun bt299 => (if x7 = true then (if (wrap64 ((wrap64 (x8)) + x18)) = (wrap64 (2 * (wrap64 (x0)))) then (if (wrap64 ((wrap64 (2 * (wrap64 (x10)))) + x19)) = (wrap64 (x0)) then (if (wrap64 ((wrap64 (2 * (wrap64 (IntKind.i8.wrap (x12))))) + x19)) = (wrap64 (IntKind.i8.wrap (x0))) then (if (x280003 == x274003) = true then (if x16 = x0 then (if bt293.1 = true then (some false) else (some bt299.1)) else (some false)) else (some false)) else (some false)) else (some false)) else (some false)) else (some false)))))
end
def whirligiglaw03_ShiftWorth.f (k : Nat) (a0 : Int) (a1 : Int) (a2_0 : Bool) (a2_1 : Bool) (a2_2 : Bool) (a2_3 : Bool) : Option (Bool) := (whirligiglaw03_shown.f k).bind fun t261 => ((shift_Do.f 4 a0 a2_0 a2_1 a2_2 a2_3).bind fun bt262 => ((shift_Do.f 7 a0 a2_0 a2_1 a2_2 a2_3).bind fun bt268 => ((shift_Do.f 5 a0 a2_0 a2_1 a2_2 a2_3).bind fun bt274 => ((shift_Do.f 6 a0 a2_0 a2_1 a2_2 a2_3).bind fun bt280 => ((shift_Do.f 6 bt280.1 a2_0 a2_1 a2_2 a2_3).bind fun bt286 => (if bt262.2.2.2.2 = true then (whirligiglaw03_ShiftWorth.j0 k a0 a1 t261 bt262.1 bt268.1 bt274.1 bt286.1 256 a2_0 a2_1 a2_2 a2_3 bt268.2.1 bt268.2.2.1 bt268.2.2.2.1 bt268.2.2.2.2 bt274.2.1 bt274.2.2.1 bt274.2.2.2.1 bt274.2.2.2.2) else (whirligiglaw03_ShiftWorth.j0 k a0 a1 t261 bt262.1 bt268.1 bt274.1 bt286.1 0 a2_0 a2_1 a2_2 a2_3 bt268.2.1 bt268.2.2.1 bt268.2.2.2.1 bt268.2.2.2.2 bt274.2.1 bt274.2.2.1 bt274.2.2.2.1 bt274.2.2.2.2)))))))
theorem whirligiglaw03_ShiftWorth.mono_l : ∀ k, (∀ y0 y1 y2 y3 y4 y5 y6 y7 y8 y9 y10 y11 y12 y13 y14 y15 y16 y17 y18 y19, LeO (whirligiglaw03_ShiftWorth.j0 k y0 y1 y2 y3 y4 y5 y6 y7 y8 y9 y10 y11 y12 y13 y14 y15 y16 y17 y18 y19) (whirligiglaw03_ShiftWorth.j0 (k + 1) y0 y1 y2 y3 y4 y5 y6 y7 y8 y9 y10 y11 y12 y13 y14 y15 y16 y17 y18 y19)) ∧ (∀ y0 y1 y2 y3 y4 y5 y6 y7 y8 y9 y10 y11 y12 y13 y14 y15 y16 y17 y18 y19 y20, LeO (whirligiglaw03_ShiftWorth.j1 k y0 y1 y2 y3 y4 y5 y6 y7 y8 y9 y10 y11 y12 y13 y14 y15 y16 y17 y18 y19 y20) (whirligiglaw03_ShiftWorth.j1 (k + 1) y0 y1 y2 y3 y4 y5 y6 y7 y8 y9 y10 y11 y12 y13 y14 y15 y16 y17 y18 y19 y20))
  | 0 => ⟨fun _ _ _ _ _ _ _ _ _ _ _ _ _ _ _ _ _ _ _ _ r h => by simp [whirligiglaw03_ShiftWorth.j0] at h, fun _ _ _ _ _ _ _ _ _ _ _ _ _ _ _ _ _ _ _ _ _ r h => by simp [whirligiglaw03_ShiftWorth.j1] at h⟩
  | k + 1 => by
    obtain ⟨ih0, ih1⟩ := whirligiglaw03_ShiftWorth.mono_l k
    refine ⟨?_, ?_⟩
    · intro y0 y1 y2 y3 y4 y5 y6 y7 y8 y9 y10 y11 y12 y13 y14 y15 y16 y17 y18 y19
      unfold whirligiglaw03_ShiftWorth.j0
      repeat' first
      | (with_reducible exact ih0 _ _ _ _ _ _ _ _ _ _ _ _ _ _ _ _ _ _ _ _)
      | (with_reducible exact ih1 _ _ _ _ _ _ _ _ _ _ _ _ _ _ _ _ _ _ _ _ _)
      | (with_reducible exact shift_Res.mono _ _ _)
      | (with_reducible exact shift_Set.mono _ _ _)
      | (with_reducible exact whirligiglaw03_shown.mono _)
      | (with_reducible exact LeO.refl _)
      | (with_reducible exact LeO.none _)
      | (with_reducible refine LeO.ite ?_ ?_)
      | (with_reducible refine LeO.bind ?_ (fun _ => ?_))
      | exact ih0 _ _ _ _ _ _ _ _ _ _ _ _ _ _ _ _ _ _ _ _
      | exact ih1 _ _ _ _ _ _ _ _ _ _ _ _ _ _ _ _ _ _ _ _ _
      | exact shift_Res.mono _ _ _
      | exact shift_Set.mono _ _ _
      | exact whirligiglaw03_shown.mono _
      | exact LeO.none _
      | refine LeO.ite ?_ ?_
      | refine LeO.bind ?_ (fun _ => ?_)
    · intro y0 y1 y2 y3 y4 y5 y6 y7 y8 y9 y10 y11 y12 y13 y14 y15 y16 y17 y18 y19 y20
      unfold whirligiglaw03_ShiftWorth.j1
      repeat' first
      | (with_reducible exact ih0 _ _ _ _ _ _ _ _ _ _ _ _ _ _ _ _ _ _ _ _)
      | (with_reducible exact ih1 _ _ _ _ _ _ _ _ _ _ _ _ _ _ _ _ _ _ _ _ _)
      | (with_reducible exact shift_Res.mono _ _ _)
      | (with_reducible exact shift_Set.mono _ _ _)
      | (with_reducible exact whirligiglaw03_shown.mono _)
      | (with_reducible exact LeO.refl _)
      | (with_reducible exact LeO.none _)
      | (with_reducible refine LeO.ite ?_ ?_)
      | (with_reducible refine LeO.bind ?_ (fun _ => ?_))
      | exact ih0 _ _ _ _ _ _ _ _ _ _ _ _ _ _ _ _ _ _ _ _
      | exact ih1 _ _ _ _ _ _ _ _ _ _ _ _ _ _ _ _ _ _ _ _ _
      | exact shift_Res.mono _ _ _
      | exact shift_Set.mono _ _ _
      | exact whirligiglaw03_shown.mono _
      | exact LeO.none _
      | refine LeO.ite ?_ ?_
      | refine LeO.bind ?_ (fun _ => ?_)
theorem whirligiglaw03_ShiftWorth.mono : ∀ a0 a1 a2 a3 a4 a5 k, LeO (whirligiglaw03_ShiftWorth.f k a0 a1 a2 a3 a4 a5) (whirligiglaw03_ShiftWorth.f (k + 1) a0 a1 a2 a3 a4 a5) := by
  intro a0 a1 a2 a3 a4 a5 k
  obtain ⟨ih0, ih1⟩ := whirligiglaw03_ShiftWorth.mono_l k
  unfold whirligiglaw03_ShiftWorth.f
  repeat' first
      | (with_reducible exact ih0 _ _ _ _ _ _ _ _ _ _ _ _ _ _ _ _ _ _ _ _)
      | (with_reducible exact ih1 _ _ _ _ _ _ _ _ _ _ _ _ _ _ _ _ _ _ _ _ _)
      | (with_reducible exact shift_Res.mono _ _ _)
      | (with_reducible exact shift_Set.mono _ _ _)
      | (with_reducible exact whirligiglaw03_shown.mono _)
      | (with_reducible exact LeO.refl _)
      | (with_reducible exact LeO.none _)
      | (with_reducible refine LeO.ite ?_ ?_)
      | (with_reducible refine LeO.bind ?_ (fun _ => ?_))
      | exact ih0 _ _ _ _ _ _ _ _ _ _ _ _ _ _ _ _ _ _ _ _
      | exact ih1 _ _ _ _ _ _ _ _ _ _ _ _ _ _ _ _ _ _ _ _ _
      | exact shift_Res.mono _ _ _
      | exact shift_Set.mono _ _ _
      | exact whirligiglaw03_shown.mono _
      | exact LeO.none _
      | refine LeO.ite ?_ ?_
      | refine LeO.bind ?_ (fun _ => ?_)
def whirligiglaw03_ShiftWorth.T13 : Bool × List (List Nat × List Nat) := (true, [([], []), ([], []), ([], []), ([1, 2], [1, 2]), ([], []), ([0, 3, 4, 3], [0, 3, 4]), ([], []), ([6, 5, 5, 0, 1, 2, 3, 4, 5, 6], [5, 6])])
def whirligiglaw03_ShiftWorth.B13 : List Nat := [0, 0, 0, 6, 0, 31, 0, 127]
theorem whirligiglaw03_ShiftWorth.tab13 : rtab .any (opsOf Try.f9 13) = whirligiglaw03_ShiftWorth.T13 := by kernel_rfl
theorem whirligiglaw03_ShiftWorth.bits13 : waitsOk whirligiglaw03_ShiftWorth.T13.2 whirligiglaw03_ShiftWorth.B13 = true := by kernel_rfl
def whirligiglaw03_ShiftWorth.T14 : Bool × List (List Nat × List Nat) := (true, [([], []), ([], []), ([], []), ([1, 2], [1, 2]), ([], []), ([0, 3, 4, 3], [0, 3, 4]), ([], []), ([6, 5, 5, 0, 1, 2, 3, 4, 5, 6], [5, 6])])
def whirligiglaw03_ShiftWorth.B14 : List Nat := [0, 0, 0, 6, 0, 31, 0, 127]
theorem whirligiglaw03_ShiftWorth.tab14 : rtab .any (opsOf Try.f9 14) = whirligiglaw03_ShiftWorth.T14 := by kernel_rfl
theorem whirligiglaw03_ShiftWorth.bits14 : waitsOk whirligiglaw03_ShiftWorth.T14.2 whirligiglaw03_ShiftWorth.B14 = true := by kernel_rfl
set_option maxHeartbeats 8000000 in
set_option maxRecDepth 100000 in
theorem whirligiglaw03_ShiftWorth.calls (k : Nat) (a0 : Int) (a1 : Int) (a2_0 : Bool) (a2_1 : Bool) (a2_2 : Bool) (a2_3 : Bool) (r : Bool) (w : World) (h : whirligiglaw03_ShiftWorth.f k a0 a1 a2_0 a2_1 a2_2 a2_3 = some r) (ht : r = true) :
    Calls Try.prog 9 #[.int .u8 a0, .int .i64 a1, .agg #[.bool a2_0, .bool a2_1, .bool a2_2, .bool a2_3]] w fun e w' => e = .returned (.bool r) ∧ Below w.heap.size w w' := by
  have HT := Aside0.mk ht
  clear ht
  have hu23 := Try.underlying23
  have HB := Aside0.mk (Below.refl w.heap.size w)
  have H : ((whirligiglaw03_shown.f k).bind fun t261 => ((shift_Do.f 4 a0 a2_0 a2_1 a2_2 a2_3).bind fun bt262 => ((shift_Do.f 7 a0 a2_0 a2_1 a2_2 a2_3).bind fun bt268 => ((shift_Do.f 5 a0 a2_0 a2_1 a2_2 a2_3).bind fun bt274 => ((shift_Do.f 6 a0 a2_0 a2_1 a2_2 a2_3).bind fun bt280 => ((shift_Do.f 6 bt280.1 a2_0 a2_1 a2_2 a2_3).bind fun bt286 => (if bt262.2.2.2.2 = true then (whirligiglaw03_ShiftWorth.j0 k a0 a1 t261 bt262.1 bt268.1 bt274.1 bt286.1 256 a2_0 a2_1 a2_2 a2_3 bt268.2.1 bt268.2.2.1 bt268.2.2.2.1 bt268.2.2.2.2 bt274.2.1 bt274.2.2.1 bt274.2.2.2.1 bt274.2.2.2.2) else (whirligiglaw03_ShiftWorth.j0 k a0 a1 t261 bt262.1 bt268.1 bt274.1 bt286.1 0 a2_0 a2_1 a2_2 a2_3 bt268.2.1 bt268.2.2.1 bt268.2.2.2.1 bt268.2.2.2.2 bt274.2.1 bt274.2.2.1 bt274.2.2.2.1 bt274.2.2.2.2)))))))) = some r := h
  clear h
  replace H := Option.bind_eq_some_iff.mp H
  obtain ⟨t261, A40, H⟩ := H
  replace H : ((shift_Do.f 4 a0 a2_0 a2_1 a2_2 a2_3).bind fun bt262 => ((shift_Do.f 7 a0 a2_0 a2_1 a2_2 a2_3).bind fun bt268 => ((shift_Do.f 5 a0 a2_0 a2_1 a2_2 a2_3).bind fun bt274 => ((shift_Do.f 6 a0 a2_0 a2_1 a2_2 a2_3).bind fun bt280 => ((shift_Do.f 6 bt280.1 a2_0 a2_1 a2_2 a2_3).bind fun bt286 => (if bt262.2.2.2.2 = true then (whirligiglaw03_ShiftWorth.j0 k a0 a1 t261 bt262.1 bt268.1 bt274.1 bt286.1 256 a2_0 a2_1 a2_2 a2_3 bt268.2.1 bt268.2.2.1 bt268.2.2.2.1 bt268.2.2.2.2 bt274.2.1 bt274.2.2.1 bt274.2.2.2.1 bt274.2.2.2.2) else (whirligiglaw03_ShiftWorth.j0 k a0 a1 t261 bt262.1 bt268.1 bt274.1 bt286.1 0 a2_0 a2_1 a2_2 a2_3 bt268.2.1 bt268.2.2.1 bt268.2.2.2.1 bt268.2.2.2.2 bt274.2.1 bt274.2.2.1 bt274.2.2.2.1 bt274.2.2.2.2))))))) = some r := H
  have A4 := Aside0.mk A40
  clear A40
  replace H := Option.bind_eq_some_iff.mp H
  obtain ⟨⟨t262, t263, t264, t265, t266⟩, A50, H⟩ := H
  replace H : ((shift_Do.f 7 a0 a2_0 a2_1 a2_2 a2_3).bind fun bt268 => ((shift_Do.f 5 a0 a2_0 a2_1 a2_2 a2_3).bind fun bt274 => ((shift_Do.f 6 a0 a2_0 a2_1 a2_2 a2_3).bind fun bt280 => ((shift_Do.f 6 bt280.1 a2_0 a2_1 a2_2 a2_3).bind fun bt286 => (if t266 = true then (whirligiglaw03_ShiftWorth.j0 k a0 a1 t261 t262 bt268.1 bt274.1 bt286.1 256 a2_0 a2_1 a2_2 a2_3 bt268.2.1 bt268.2.2.1 bt268.2.2.2.1 bt268.2.2.2.2 bt274.2.1 bt274.2.2.1 bt274.2.2.2.1 bt274.2.2.2.2) else (whirligiglaw03_ShiftWorth.j0 k a0 a1 t261 t262 bt268.1 bt274.1 bt286.1 0 a2_0 a2_1 a2_2 a2_3 bt268.2.1 bt268.2.2.1 bt268.2.2.2.1 bt268.2.2.2.2 bt274.2.1 bt274.2.2.1 bt274.2.2.2.1 bt274.2.2.2.2)))))) = some r := H
  have A5 := Aside0.mk A50
  clear A50
  replace H := Option.bind_eq_some_iff.mp H
  obtain ⟨⟨t268, t269, t270, t271, t272⟩, A60, H⟩ := H
  replace H : ((shift_Do.f 5 a0 a2_0 a2_1 a2_2 a2_3).bind fun bt274 => ((shift_Do.f 6 a0 a2_0 a2_1 a2_2 a2_3).bind fun bt280 => ((shift_Do.f 6 bt280.1 a2_0 a2_1 a2_2 a2_3).bind fun bt286 => (if t266 = true then (whirligiglaw03_ShiftWorth.j0 k a0 a1 t261 t262 t268 bt274.1 bt286.1 256 a2_0 a2_1 a2_2 a2_3 t269 t270 t271 t272 bt274.2.1 bt274.2.2.1 bt274.2.2.2.1 bt274.2.2.2.2) else (whirligiglaw03_ShiftWorth.j0 k a0 a1 t261 t262 t268 bt274.1 bt286.1 0 a2_0 a2_1 a2_2 a2_3 t269 t270 t271 t272 bt274.2.1 bt274.2.2.1 bt274.2.2.2.1 bt274.2.2.2.2))))) = some r := H
  have A6 := Aside0.mk A60
  clear A60
  replace H := Option.bind_eq_some_iff.mp H
  obtain ⟨⟨t274, t275, t276, t277, t278⟩, A70, H⟩ := H
  replace H : ((shift_Do.f 6 a0 a2_0 a2_1 a2_2 a2_3).bind fun bt280 => ((shift_Do.f 6 bt280.1 a2_0 a2_1 a2_2 a2_3).bind fun bt286 => (if t266 = true then (whirligiglaw03_ShiftWorth.j0 k a0 a1 t261 t262 t268 t274 bt286.1 256 a2_0 a2_1 a2_2 a2_3 t269 t270 t271 t272 t275 t276 t277 t278) else (whirligiglaw03_ShiftWorth.j0 k a0 a1 t261 t262 t268 t274 bt286.1 0 a2_0 a2_1 a2_2 a2_3 t269 t270 t271 t272 t275 t276 t277 t278)))) = some r := H
  have A7 := Aside0.mk A70
  clear A70
  replace H := Option.bind_eq_some_iff.mp H
  obtain ⟨⟨t280, t281, t282, t283, t284⟩, A80, H⟩ := H
  replace H : ((shift_Do.f 6 t280 a2_0 a2_1 a2_2 a2_3).bind fun bt286 => (if t266 = true then (whirligiglaw03_ShiftWorth.j0 k a0 a1 t261 t262 t268 t274 bt286.1 256 a2_0 a2_1 a2_2 a2_3 t269 t270 t271 t272 t275 t276 t277 t278) else (whirligiglaw03_ShiftWorth.j0 k a0 a1 t261 t262 t268 t274 bt286.1 0 a2_0 a2_1 a2_2 a2_3 t269 t270 t271 t272 t275 t276 t277 t278))) = some r := H
  have A8 := Aside0.mk A80
  clear A80
  replace H := Option.bind_eq_some_iff.mp H
  obtain ⟨⟨t286, t287, t288, t289, t290⟩, A90, H⟩ := H
  replace H : (if t266 = true then (whirligiglaw03_ShiftWorth.j0 k a0 a1 t261 t262 t268 t274 t286 256 a2_0 a2_1 a2_2 a2_3 t269 t270 t271 t272 t275 t276 t277 t278) else (whirligiglaw03_ShiftWorth.j0 k a0 a1 t261 t262 t268 t274 t286 0 a2_0 a2_1 a2_2 a2_3 t269 t270 t271 t272 t275 t276 t277 t278)) = some r := H
  have A9 := Aside0.mk A90
  clear A90
  have HC10 := Aside0.mk H
  clear H
  go_enter Try.func9, Try.ntmps9
  go_upto_if 54 with (first | ((with_reducible refine gate_dst (N := 5) rfl ?_); refine box_event ?hg (N := 5) ?hd (cs := #[.bool a2_0, .bool a2_1, .bool a2_2, .bool a2_3]) (t := 23) ?hr ?_; (case hd => rfl); (case hg => rfl); (case hr => first | (go_simp; done) | (go_simp; rfl)); intro gb260 hg w11 hbox hb; have n0_ := Aside0.mk (below_step (by repeat (first | (with_reducible first | exact HB.out | apply below_alloc | apply pw_below_drewN | apply below_drew1) | exact HB.out)) hb); have n1_ := Aside0.mk (hbox); have n2_ := Aside0.mk ((by rw [hg]; exact (below_size (by repeat (first | (with_reducible first | exact HB.out | apply below_alloc | apply pw_below_drewN | apply below_drew1) | exact HB.out))) : w.heap.size ≤ gb260)); have n3_ := Aside0.mk ((by rw [hg]; exact (below_size (by repeat (first | (with_reducible first | exact HB.out | apply below_alloc | apply pw_below_drewN | apply below_drew1) | exact HB.out))) : w.heap.size ≤ gb260)); clear HB; have HB := n0_; have BK260 := n1_; have GW260 := n2_; have GE260 := n3_; clear n0_ n1_ n2_ n3_; clear hb hbox hg) | ((with_reducible refine gate_callee (f := 10) rfl ?_); refine goesL_ (some 22) rfl rfl Try.func10 (by kernel_rfl) rfl #[] rfl (by (try simp only [List.map_toArray, List.map_cons, List.map_nil]); first | done | rfl | (simp only [List.length_drop, List.length_take]; rfl)) ?_; (with_reducible refine (whirligiglaw03_shown.calls k  t261 _ A4.out).mono ?_); rintro e w12 ⟨rfl, hb⟩; refine ⟨_, rfl, ?_⟩; have n0_ := Aside0.mk (blk_below (g := gb260) (o := .cells #[.bool a2_0, .bool a2_1, .bool a2_2, .bool a2_3] 23 (0, 0)) (by (with_reducible repeat (first | refine blk_drewN ?_ _ | refine blk_drew ?_ | refine blk_alloc ?_ _)); exact BK260.out) hb); have n1_ := Aside0.mk (below_step (by repeat (first | (with_reducible first | exact HB.out | apply below_alloc | apply pw_below_drewN | apply below_drew1 | refine below_set ?_ GE260.out) | exact HB.out)) hb); clear BK260; clear HB; have BK260 := n0_; have HB := n1_; clear n0_ n1_; (try clear hb); (try clear hb2); (try clear hk); (try clear hi); have hcz13_0 : w12.cell? ⟨gb260, 0, none⟩ = some (.bool a2_0) := (blk_cell BK260.out 0).trans rfl; have hcz13_1 : w12.cell? ⟨gb260, 1, none⟩ = some (.bool a2_1) := (blk_cell BK260.out 1).trans rfl; have hcz13_2 : w12.cell? ⟨gb260, 2, none⟩ = some (.bool a2_2) := (blk_cell BK260.out 2).trans rfl; have hcz13_3 : w12.cell? ⟨gb260, 3, none⟩ = some (.bool a2_3) := (blk_cell BK260.out 3).trans rfl; have hfz13_0 := blk_frozen BK260.out 0; have hfz13_1 := blk_frozen BK260.out 1; have hfz13_2 := blk_frozen BK260.out 2; have hfz13_3 := blk_frozen BK260.out 3) | ((with_reducible refine gate_callee (f := 11) rfl ?_); refine goesL_ (some 26) rfl rfl Try.func11 (by kernel_rfl) rfl #[.int .i64 4, .int .u8 a0, .agg #[.bool a2_0, .bool a2_1, .bool a2_2, .bool a2_3]] rfl (by (try simp only [List.map_toArray, List.map_cons, List.map_nil]); first | done | rfl | (simp only [List.length_drop, List.length_take]; rfl)) ?_; (with_reducible refine (shift_Do.calls 4 a0 a2_0 a2_1 a2_2 a2_3 t262 t263 t264 t265 t266 _ A5.out).mono ?_); rintro e w14 ⟨rfl, hb⟩; refine ⟨_, rfl, ?_⟩; have n0_ := Aside0.mk (blk_below (g := gb260) (o := .cells #[.bool a2_0, .bool a2_1, .bool a2_2, .bool a2_3] 23 (0, 0)) (by (with_reducible repeat (first | refine blk_drewN ?_ _ | refine blk_drew ?_ | refine blk_alloc ?_ _)); exact BK260.out) hb); have n1_ := Aside0.mk (below_step (by repeat (first | (with_reducible first | exact HB.out | apply below_alloc | apply pw_below_drewN | apply below_drew1 | refine below_set ?_ GE260.out) | exact HB.out)) hb); clear BK260; clear HB; have BK260 := n0_; have HB := n1_; clear n0_ n1_; (try clear hb); (try clear hb2); (try clear hk); (try clear hi)) | ((with_reducible refine gate_dst (N := 9) rfl ?_); refine box_event ?hg (N := 9) ?hd (cs := #[.bool false, .bool false, .bool false, .bool false]) (t := 23) ?hr ?_; (case hd => rfl); (case hg => rfl); (case hr => first | (go_simp; done) | (go_simp; rfl)); intro gb267 hg w15 hbox hb; have n0_ := Aside0.mk (blk_below (g := gb260) (o := .cells #[.bool a2_0, .bool a2_1, .bool a2_2, .bool a2_3] 23 (0, 0)) (by (with_reducible repeat (first | refine blk_drewN ?_ _ | refine blk_drew ?_ | refine blk_alloc ?_ _)); exact BK260.out) hb); have n1_ := Aside0.mk (below_step (by repeat (first | (with_reducible first | exact HB.out | apply below_alloc | apply pw_below_drewN | apply below_drew1 | refine below_set ?_ GE260.out) | exact HB.out)) hb); have n2_ := Aside0.mk (hbox); have n3_ := Aside0.mk ((by rw [hg]; exact (below_size (by repeat (first | (with_reducible first | exact HB.out | apply below_alloc | apply pw_below_drewN | apply below_drew1 | refine below_set ?_ GE260.out) | exact HB.out))) : w.heap.size ≤ gb267)); have n4_ := Aside0.mk ((by rw [hg]; exact (below_size (by repeat (first | (with_reducible first | exact HB.out | apply below_alloc | apply pw_below_drewN | apply below_drew1 | refine below_set ?_ GE260.out) | exact HB.out))) : w.heap.size ≤ gb267)); have n5_ := Aside0.mk ((by rw [hg]; exact Nat.ne_of_lt (blk_lt (g := gb260) (o := .cells #[.bool a2_0, .bool a2_1, .bool a2_2, .bool a2_3] 23 (0, 0)) (by (with_reducible repeat (first | refine blk_drewN ?_ _ | refine blk_drew ?_ | refine blk_alloc ?_ _)); exact BK260.out)) : gb260 ≠ gb267)); have n6_ := Aside0.mk ((by rw [hg]; exact Nat.ne_of_gt (blk_lt (g := gb260) (o := .cells #[.bool a2_0, .bool a2_1, .bool a2_2, .bool a2_3] 23 (0, 0)) (by (with_reducible repeat (first | refine blk_drewN ?_ _ | refine blk_drew ?_ | refine blk_alloc ?_ _)); exact BK260.out)) : gb267 ≠ gb260)); clear BK260; clear HB; have BK260 := n0_; have HB := n1_; have BK267 := n2_; have GW267 := n3_; have GE267 := n4_; have NB260_267 := n5_; have NB267_260 := n6_; clear n0_ n1_ n2_ n3_ n4_ n5_ n6_; clear hb hbox hg; have hnb16 := NB267_260.out; have hnc16 := NB260_267.out; have hcz17_0 : w15.cell? ⟨gb267, 0, none⟩ = some (.bool false) := (blk_cell BK267.out 0).trans rfl; have hcz17_1 : w15.cell? ⟨gb267, 1, none⟩ = some (.bool false) := (blk_cell BK267.out 1).trans rfl; have hcz17_2 : w15.cell? ⟨gb267, 2, none⟩ = some (.bool false) := (blk_cell BK267.out 2).trans rfl; have hcz17_3 : w15.cell? ⟨gb267, 3, none⟩ = some (.bool false) := (blk_cell BK267.out 3).trans rfl; have hfz17_0 := blk_frozen BK267.out 0; have hfz17_1 := blk_frozen BK267.out 1; have hfz17_2 := blk_frozen BK267.out 2; have hfz17_3 := blk_frozen BK267.out 3; have hcz18_0 : w15.cell? ⟨gb260, 0, none⟩ = some (.bool a2_0) := (blk_cell BK260.out 0).trans rfl; have hcz18_1 : w15.cell? ⟨gb260, 1, none⟩ = some (.bool a2_1) := (blk_cell BK260.out 1).trans rfl; have hcz18_2 : w15.cell? ⟨gb260, 2, none⟩ = some (.bool a2_2) := (blk_cell BK260.out 2).trans rfl; have hcz18_3 : w15.cell? ⟨gb260, 3, none⟩ = some (.bool a2_3) := (blk_cell BK260.out 3).trans rfl; have hfz18_0 := blk_frozen BK260.out 0; have hfz18_1 := blk_frozen BK260.out 1; have hfz18_2 := blk_frozen BK260.out 2; have hfz18_3 := blk_frozen BK260.out 3) | ((with_reducible refine gate_callee (f := 11) rfl ?_); refine goesL_ (some 32) rfl rfl Try.func11 (by kernel_rfl) rfl #[.int .i64 7, .int .u8 a0, .agg #[.bool a2_0, .bool a2_1, .bool a2_2, .bool a2_3]] rfl (by (try simp only [List.map_toArray, List.map_cons, List.map_nil]); first | done | rfl | (simp only [List.length_drop, List.length_take]; rfl)) ?_; (with_reducible refine (shift_Do.calls 7 a0 a2_0 a2_1 a2_2 a2_3 t268 t269 t270 t271 t272 _ A6.out).mono ?_); rintro e w19 ⟨rfl, hb⟩; refine ⟨_, rfl, ?_⟩; have n0_ := Aside0.mk (blk_below (g := gb260) (o := .cells #[.bool a2_0, .bool a2_1, .bool a2_2, .bool a2_3] 23 (0, 0)) (by (with_reducible repeat (first | refine blk_drewN ?_ _ | refine blk_drew ?_ | refine blk_alloc ?_ _)); refine blk_far ?_ NB260_267.out _; (with_reducible repeat (first | refine blk_drewN ?_ _ | refine blk_drew ?_ | refine blk_alloc ?_ _)); refine blk_far ?_ NB260_267.out _; (with_reducible repeat (first | refine blk_drewN ?_ _ | refine blk_drew ?_ | refine blk_alloc ?_ _)); refine blk_far ?_ NB260_267.out _; (with_reducible repeat (first | refine blk_drewN ?_ _ | refine blk_drew ?_ | refine blk_alloc ?_ _)); refine blk_far ?_ NB260_267.out _; (with_reducible repeat (first | refine blk_drewN ?_ _ | refine blk_drew ?_ | refine blk_alloc ?_ _)); exact BK260.out) hb); have n1_ := Aside0.mk (blk_below (g := gb267) (o := .cells #[.bool t263, .bool t264, .bool t265, .bool t266] 23 (0, 0)) (by (with_reducible repeat (first | refine blk_drewN ?_ _ | refine blk_drew ?_ | refine blk_alloc ?_ _)); refine blk_put (cs := #[.bool t263, .bool t264, .bool t265, .bool false]) ?_ 3 _ rfl; (with_reducible repeat (first | refine blk_drewN ?_ _ | refine blk_drew ?_ | refine blk_alloc ?_ _)); refine blk_put (cs := #[.bool t263, .bool t264, .bool false, .bool false]) ?_ 2 _ rfl; (with_reducible repeat (first | refine blk_drewN ?_ _ | refine blk_drew ?_ | refine blk_alloc ?_ _)); refine blk_put (cs := #[.bool t263, .bool false, .bool false, .bool false]) ?_ 1 _ rfl; (with_reducible repeat (first | refine blk_drewN ?_ _ | refine blk_drew ?_ | refine blk_alloc ?_ _)); refine blk_put (cs := #[.bool false, .bool false, .bool false, .bool false]) ?_ 0 _ rfl; (with_reducible repeat (first | refine blk_drewN ?_ _ | refine blk_drew ?_ | refine blk_alloc ?_ _)); exact BK267.out) hb); have n2_ := Aside0.mk (below_step (by repeat (first | (with_reducible first | exact HB.out | apply below_alloc | apply pw_below_drewN | apply below_drew1 | refine below_set ?_ GE260.out | refine below_set ?_ GE267.out) | exact HB.out)) hb); clear BK260; clear BK267; clear HB; have BK260 := n0_; have BK267 := n1_; have HB := n2_; clear n0_ n1_ n2_; (try clear hb); (try clear hb2); (try clear hk); (try clear hi)) | ((with_reducible refine gate_dst (N := 11) rfl ?_); refine box_event ?hg (N := 11) ?hd (cs := #[.bool false, .bool false, .bool false, .bool false]) (t := 23) ?hr ?_; (case hd => rfl); (case hg => rfl); (case hr => first | (go_simp; done) | (go_simp; rfl)); intro gb273 hg w20 hbox hb; have n0_ := Aside0.mk (blk_below (g := gb260) (o := .cells #[.bool a2_0, .bool a2_1, .bool a2_2, .bool a2_3] 23 (0, 0)) (by (with_reducible repeat (first | refine blk_drewN ?_ _ | refine blk_drew ?_ | refine blk_alloc ?_ _)); exact BK260.out) hb); have n1_ := Aside0.mk (blk_below (g := gb267) (o := .cells #[.bool t263, .bool t264, .bool t265, .bool t266] 23 (0, 0)) (by (with_reducible repeat (first | refine blk_drewN ?_ _ | refine blk_drew ?_ | refine blk_alloc ?_ _)); exact BK267.out) hb); have n2_ := Aside0.mk (below_step (by repeat (first | (with_reducible first | exact HB.out | apply below_alloc | apply pw_below_drewN | apply below_drew1 | refine below_set ?_ GE260.out | refine below_set ?_ GE267.out) | exact HB.out)) hb); have n3_ := Aside0.mk (hbox); have n4_ := Aside0.mk ((by rw [hg]; exact (below_size (by repeat (first | (with_reducible first | exact HB.out | apply below_alloc | apply pw_below_drewN | apply below_drew1 | refine below_set ?_ GE260.out | refine below_set ?_ GE267.out) | exact HB.out))) : w.heap.size ≤ gb273)); have n5_ := Aside0.mk ((by rw [hg]; exact (below_size (by repeat (first | (with_reducible first | exact HB.out | apply below_alloc | apply pw_below_drewN | apply below_drew1 | refine below_set ?_ GE260.out | refine below_set ?_ GE267.out) | exact HB.out))) : w.heap.size ≤ gb273)); have n6_ := Aside0.mk ((by rw [hg]; exact Nat.ne_of_lt (blk_lt (g := gb260) (o := .cells #[.bool a2_0, .bool a2_1, .bool a2_2, .bool a2_3] 23 (0, 0)) (by (with_reducible repeat (first | refine blk_drewN ?_ _ | refine blk_drew ?_ | refine blk_alloc ?_ _)); exact BK260.out)) : gb260 ≠ gb273)); have n7_ := Aside0.mk ((by rw [hg]; exact Nat.ne_of_gt (blk_lt (g := gb260) (o := .cells #[.bool a2_0, .bool a2_1, .bool a2_2, .bool a2_3] 23 (0, 0)) (by (with_reducible repeat (first | refine blk_drewN ?_ _ | refine blk_drew ?_ | refine blk_alloc ?_ _)); exact BK260.out)) : gb273 ≠ gb260)); have n8_ := Aside0.mk ((by rw [hg]; exact Nat.ne_of_lt (blk_lt (g := gb267) (o := .cells #[.bool t263, .bool t264, .bool t265, .bool t266] 23 (0, 0)) (by (with_reducible repeat (first | refine blk_drewN ?_ _ | refine blk_drew ?_ | refine blk_alloc ?_ _)); exact BK267.out)) : gb267 ≠ gb273)); have n9_ := Aside0.mk ((by rw [hg]; exact Nat.ne_of_gt (blk_lt (g := gb267) (o := .cells #[.bool t263, .bool t264, .bool t265, .bool t266] 23 (0, 0)) (by (with_reducible repeat (first | refine blk_drewN ?_ _ | refine blk_drew ?_ | refine blk_alloc ?_ _)); exact BK267.out)) : gb273 ≠ gb267)); clear BK260; clear BK267; clear HB; have BK260 := n0_; have BK267 := n1_; have HB := n2_; have BK273 := n3_; have GW273 := n4_; have GE273 := n5_; have NB260_273 := n6_; have NB273_260 := n7_; have NB267_273 := n8_; have NB273_267 := n9_; clear n0_ n1_ n2_ n3_ n4_ n5_ n6_ n7_ n8_ n9_; clear hb hbox hg; have hnb21 := NB273_260.out; have hnc21 := NB260_273.out; have hnb22 := NB273_267.out; have hnc22 := NB267_273.out; have hcz23_0 : w20.cell? ⟨gb273, 0, none⟩ = some (.bool false) := (blk_cell BK273.out 0).trans rfl; have hcz23_1 : w20.cell? ⟨gb273, 1, none⟩ = some (.bool false) := (blk_cell BK273.out 1).trans rfl; have hcz23_2 : w20.cell? ⟨gb273, 2, none⟩ = some (.bool false) := (blk_cell BK273.out 2).trans rfl; have hcz23_3 : w20.cell? ⟨gb273, 3, none⟩ = some (.bool false) := (blk_cell BK273.out 3).trans rfl; have hfz23_0 := blk_frozen BK273.out 0; have hfz23_1 := blk_frozen BK273.out 1; have hfz23_2 := blk_frozen BK273.out 2; have hfz23_3 := blk_frozen BK273.out 3; have hcz24_0 : w20.cell? ⟨gb260, 0, none⟩ = some (.bool a2_0) := (blk_cell BK260.out 0).trans rfl; have hcz24_1 : w20.cell? ⟨gb260, 1, none⟩ = some (.bool a2_1) := (blk_cell BK260.out 1).trans rfl; have hcz24_2 : w20.cell? ⟨gb260, 2, none⟩ = some (.bool a2_2) := (blk_cell BK260.out 2).trans rfl; have hcz24_3 : w20.cell? ⟨gb260, 3, none⟩ = some (.bool a2_3) := (blk_cell BK260.out 3).trans rfl; have hfz24_0 := blk_frozen BK260.out 0; have hfz24_1 := blk_frozen BK260.out 1; have hfz24_2 := blk_frozen BK260.out 2; have hfz24_3 := blk_frozen BK260.out 3) | ((with_reducible refine gate_callee (f := 11) rfl ?_); refine goesL_ (some 38) rfl rfl Try.func11 (by kernel_rfl) rfl #[.int .i64 5, .int .u8 a0, .agg #[.bool a2_0, .bool a2_1, .bool a2_2, .bool a2_3]] rfl (by (try simp only [List.map_toArray, List.map_cons, List.map_nil]); first | done | rfl | (simp only [List.length_drop, List.length_take]; rfl)) ?_; (with_reducible refine (shift_Do.calls 5 a0 a2_0 a2_1 a2_2 a2_3 t274 t275 t276 t277 t278 _ A7.out).mono ?_); rintro e w25 ⟨rfl, hb⟩; refine ⟨_, rfl, ?_⟩; have n0_ := Aside0.mk (blk_below (g := gb260) (o := .cells #[.bool a2_0, .bool a2_1, .bool a2_2, .bool a2_3] 23 (0, 0)) (by (with_reducible repeat (first | refine blk_drewN ?_ _ | refine blk_drew ?_ | refine blk_alloc ?_ _)); refine blk_far ?_ NB260_273.out _; (with_reducible repeat (first | refine blk_drewN ?_ _ | refine blk_drew ?_ | refine blk_alloc ?_ _)); refine blk_far ?_ NB260_273.out _; (with_reducible repeat (first | refine blk_drewN ?_ _ | refine blk_drew ?_ | refine blk_alloc ?_ _)); refine blk_far ?_ NB260_273.out _; (with_reducible repeat (first | refine blk_drewN ?_ _ | refine blk_drew ?_ | refine blk_alloc ?_ _)); refine blk_far ?_ NB260_273.out _; (with_reducible repeat (first | refine blk_drewN ?_ _ | refine blk_drew ?_ | refine blk_alloc ?_ _)); exact BK260.out) hb); have n1_ := Aside0.mk (blk_below (g := gb267) (o := .cells #[.bool t263, .bool t264, .bool t265, .bool t266] 23 (0, 0)) (by (with_reducible repeat (first | refine blk_drewN ?_ _ | refine blk_drew ?_ | refine blk_alloc ?_ _)); refine blk_far ?_ NB267_273.out _; (with_reducible repeat (first | refine blk_drewN ?_ _ | refine blk_drew ?_ | refine blk_alloc ?_ _)); refine blk_far ?_ NB267_273.out _; (with_reducible repeat (first | refine blk_drewN ?_ _ | refine blk_drew ?_ | refine blk_alloc ?_ _)); refine blk_far ?_ NB267_273.out _; (with_reducible repeat (first | refine blk_drewN ?_ _ | refine blk_drew ?_ | refine blk_alloc ?_ _)); refine blk_far ?_ NB267_273.out _; (with_reducible repeat (first | refine blk_drewN ?_ _ | refine blk_drew ?_ | refine blk_alloc ?_ _)); exact BK267.out) hb); have n2_ := Aside0.mk (blk_below (g := gb273) (o := .cells #[.bool t269, .bool t270, .bool t271, .bool t272] 23 (0, 0)) (by (with_reducible repeat (first | refine blk_drewN ?_ _ | refine blk_drew ?_ | refine blk_alloc ?_ _)); refine blk_put (cs := #[.bool t269, .bool t270, .bool t271, .bool false]) ?_ 3 _ rfl; (with_reducible repeat (first | refine blk_drewN ?_ _ | refine blk_drew ?_ | refine blk_alloc ?_ _)); refine blk_put (cs := #[.bool t269, .bool t270, .bool false, .bool false]) ?_ 2 _ rfl; (with_reducible repeat (first | refine blk_drewN ?_ _ | refine blk_drew ?_ | refine blk_alloc ?_ _)); refine blk_put (cs := #[.bool t269, .bool false, .bool false, .bool false]) ?_ 1 _ rfl; (with_reducible repeat (first | refine blk_drewN ?_ _ | refine blk_drew ?_ | refine blk_alloc ?_ _)); refine blk_put (cs := #[.bool false, .bool false, .bool false, .bool false]) ?_ 0 _ rfl; (with_reducible repeat (first | refine blk_drewN ?_ _ | refine blk_drew ?_ | refine blk_alloc ?_ _)); exact BK273.out) hb); have n3_ := Aside0.mk (below_step (by repeat (first | (with_reducible first | exact HB.out | apply below_alloc | apply pw_below_drewN | apply below_drew1 | refine below_set ?_ GE260.out | refine below_set ?_ GE267.out | refine below_set ?_ GE273.out) | exact HB.out)) hb); clear BK260; clear BK267; clear BK273; clear HB; have BK260 := n0_; have BK267 := n1_; have BK273 := n2_; have HB := n3_; clear n0_ n1_ n2_ n3_; (try clear hb); (try clear hb2); (try clear hk); (try clear hi)) | ((with_reducible refine gate_dst (N := 13) rfl ?_); refine box_event ?hg (N := 13) ?hd (cs := #[.bool false, .bool false, .bool false, .bool false]) (t := 23) ?hr ?_; (case hd => rfl); (case hg => rfl); (case hr => first | (go_simp; done) | (go_simp; rfl)); intro gb279 hg w26 hbox hb; have n0_ := Aside0.mk (blk_below (g := gb260) (o := .cells #[.bool a2_0, .bool a2_1, .bool a2_2, .bool a2_3] 23 (0, 0)) (by (with_reducible repeat (first | refine blk_drewN ?_ _ | refine blk_drew ?_ | refine blk_alloc ?_ _)); exact BK260.out) hb); have n1_ := Aside0.mk (blk_below (g := gb267) (o := .cells #[.bool t263, .bool t264, .bool t265, .bool t266] 23 (0, 0)) (by (with_reducible repeat (first | refine blk_drewN ?_ _ | refine blk_drew ?_ | refine blk_alloc ?_ _)); exact BK267.out) hb); have n2_ := Aside0.mk (blk_below (g := gb273) (o := .cells #[.bool t269, .bool t270, .bool t271, .bool t272] 23 (0, 0)) (by (with_reducible repeat (first | refine blk_drewN ?_ _ | refine blk_drew ?_ | refine blk_alloc ?_ _)); exact BK273.out) hb); have n3_ := Aside0.mk (below_step (by repeat (first | (with_reducible first | exact HB.out | apply below_alloc | apply pw_below_drewN | apply below_drew1 | refine below_set ?_ GE260.out | refine below_set ?_ GE267.out | refine below_set ?_ GE273.out) | exact HB.out)) hb); have n4_ := Aside0.mk (hbox); have n5_ := Aside0.mk ((by rw [hg]; exact (below_size (by repeat (first | (with_reducible first | exact HB.out | apply below_alloc | apply pw_below_drewN | apply below_drew1 | refine below_set ?_ GE260.out | refine below_set ?_ GE267.out | refine below_set ?_ GE273.out) | exact HB.out))) : w.heap.size ≤ gb279)); have n6_ := Aside0.mk ((by rw [hg]; exact (below_size (by repeat (first | (with_reducible first | exact HB.out | apply below_alloc | apply pw_below_drewN | apply below_drew1 | refine below_set ?_ GE260.out | refine below_set ?_ GE267.out | refine below_set ?_ GE273.out) | exact HB.out))) : w.heap.size ≤ gb279)); have n7_ := Aside0.mk ((by rw [hg]; exact Nat.ne_of_lt (blk_lt (g := gb260) (o := .cells #[.bool a2_0, .bool a2_1, .bool a2_2, .bool a2_3] 23 (0, 0)) (by (with_reducible repeat (first | refine blk_drewN ?_ _ | refine blk_drew ?_ | refine blk_alloc ?_ _)); exact BK260.out)) : gb260 ≠ gb279)); have n8_ := Aside0.mk ((by rw [hg]; exact Nat.ne_of_gt (blk_lt (g := gb260) (o := .cells #[.bool a2_0, .bool a2_1, .bool a2_2, .bool a2_3] 23 (0, 0)) (by (with_reducible repeat (first | refine blk_drewN ?_ _ | refine blk_drew ?_ | refine blk_alloc ?_ _)); exact BK260.out)) : gb279 ≠ gb260)); have n9_ := Aside0.mk ((by rw [hg]; exact Nat.ne_of_lt (blk_lt (g := gb267) (o := .cells #[.bool t263, .bool t264, .bool t265, .bool t266] 23 (0, 0)) (by (with_reducible repeat (first | refine blk_drewN ?_ _ | refine blk_drew ?_ | refine blk_alloc ?_ _)); exact BK267.out)) : gb267 ≠ gb279)); have n10_ := Aside0.mk ((by rw [hg]; exact Nat.ne_of_gt (blk_lt (g := gb267) (o := .cells #[.bool t263, .bool t264, .bool t265, .bool t266] 23 (0, 0)) (by (with_reducible repeat (first | refine blk_drewN ?_ _ | refine blk_drew ?_ | refine blk_alloc ?_ _)); exact BK267.out)) : gb279 ≠ gb267)); have n11_ := Aside0.mk ((by rw [hg]; exact Nat.ne_of_lt (blk_lt (g := gb273) (o := .cells #[.bool t269, .bool t270, .bool t271, .bool t272] 23 (0, 0)) (by (with_reducible repeat (first | refine blk_drewN ?_ _ | refine blk_drew ?_ | refine blk_alloc ?_ _)); exact BK273.out)) : gb273 ≠ gb279)); have n12_ := Aside0.mk ((by rw [hg]; exact Nat.ne_of_gt (blk_lt (g := gb273) (o := .cells #[.bool t269, .bool t270, .bool t271, .bool t272] 23 (0, 0)) (by (with_reducible repeat (first | refine blk_drewN ?_ _ | refine blk_drew ?_ | refine blk_alloc ?_ _)); exact BK273.out)) : gb279 ≠ gb273)); clear BK260; clear BK267; clear BK273; clear HB; have BK260 := n0_; have BK267 := n1_; have BK273 := n2_; have HB := n3_; have BK279 := n4_; have GW279 := n5_; have GE279 := n6_; have NB260_279 := n7_; have NB279_260 := n8_; have NB267_279 := n9_; have NB279_267 := n10_; have NB273_279 := n11_; have NB279_273 := n12_; clear n0_ n1_ n2_ n3_ n4_ n5_ n6_ n7_ n8_ n9_ n10_ n11_ n12_; clear hb hbox hg; have hnb27 := NB279_260.out; have hnc27 := NB260_279.out; have hnb28 := NB279_267.out; have hnc28 := NB267_279.out; have hnb29 := NB279_273.out; have hnc29 := NB273_279.out; have hcz30_0 : w26.cell? ⟨gb279, 0, none⟩ = some (.bool false) := (blk_cell BK279.out 0).trans rfl; have hcz30_1 : w26.cell? ⟨gb279, 1, none⟩ = some (.bool false) := (blk_cell BK279.out 1).trans rfl; have hcz30_2 : w26.cell? ⟨gb279, 2, none⟩ = some (.bool false) := (blk_cell BK279.out 2).trans rfl; have hcz30_3 : w26.cell? ⟨gb279, 3, none⟩ = some (.bool false) := (blk_cell BK279.out 3).trans rfl; have hfz30_0 := blk_frozen BK279.out 0; have hfz30_1 := blk_frozen BK279.out 1; have hfz30_2 := blk_frozen BK279.out 2; have hfz30_3 := blk_frozen BK279.out 3; have hcz31_0 : w26.cell? ⟨gb260, 0, none⟩ = some (.bool a2_0) := (blk_cell BK260.out 0).trans rfl; have hcz31_1 : w26.cell? ⟨gb260, 1, none⟩ = some (.bool a2_1) := (blk_cell BK260.out 1).trans rfl; have hcz31_2 : w26.cell? ⟨gb260, 2, none⟩ = some (.bool a2_2) := (blk_cell BK260.out 2).trans rfl; have hcz31_3 : w26.cell? ⟨gb260, 3, none⟩ = some (.bool a2_3) := (blk_cell BK260.out 3).trans rfl; have hfz31_0 := blk_frozen BK260.out 0; have hfz31_1 := blk_frozen BK260.out 1; have hfz31_2 := blk_frozen BK260.out 2; have hfz31_3 := blk_frozen BK260.out 3) | ((with_reducible refine gate_callee (f := 11) rfl ?_); refine goesL_ (some 44) rfl rfl Try.func11 (by kernel_rfl) rfl #[.int .i64 6, .int .u8 a0, .agg #[.bool a2_0, .bool a2_1, .bool a2_2, .bool a2_3]] rfl (by (try simp only [List.map_toArray, List.map_cons, List.map_nil]); first | done | rfl | (simp only [List.length_drop, List.length_take]; rfl)) ?_; (with_reducible refine (shift_Do.calls 6 a0 a2_0 a2_1 a2_2 a2_3 t280 t281 t282 t283 t284 _ A8.out).mono ?_); rintro e w32 ⟨rfl, hb⟩; refine ⟨_, rfl, ?_⟩; have n0_ := Aside0.mk (blk_below (g := gb260) (o := .cells #[.bool a2_0, .bool a2_1, .bool a2_2, .bool a2_3] 23 (0, 0)) (by (with_reducible repeat (first | refine blk_drewN ?_ _ | refine blk_drew ?_ | refine blk_alloc ?_ _)); refine blk_far ?_ NB260_279.out _; (with_reducible repeat (first | refine blk_drewN ?_ _ | refine blk_drew ?_ | refine blk_alloc ?_ _)); refine blk_far ?_ NB260_279.out _; (with_reducible repeat (first | refine blk_drewN ?_ _ | refine blk_drew ?_ | refine blk_alloc ?_ _)); refine blk_far ?_ NB260_279.out _; (with_reducible repeat (first | refine blk_drewN ?_ _ | refine blk_drew ?_ | refine blk_alloc ?_ _)); refine blk_far ?_ NB260_279.out _; (with_reducible repeat (first | refine blk_drewN ?_ _ | refine blk_drew ?_ | refine blk_alloc ?_ _)); exact BK260.out) hb); have n1_ := Aside0.mk (blk_below (g := gb267) (o := .cells #[.bool t263, .bool t264, .bool t265, .bool t266] 23 (0, 0)) (by (with_reducible repeat (first | refine blk_drewN ?_ _ | refine blk_drew ?_ | refine blk_alloc ?_ _)); refine blk_far ?_ NB267_279.out _; (with_reducible repeat (first | refine blk_drewN ?_ _ | refine blk_drew ?_ | refine blk_alloc ?_ _)); refine blk_far ?_ NB267_279.out _; (with_reducible repeat (first | refine blk_drewN ?_ _ | refine blk_drew ?_ | refine blk_alloc ?_ _)); refine blk_far ?_ NB267_279.out _; (with_reducible repeat (first | refine blk_drewN ?_ _ | refine blk_drew ?_ | refine blk_alloc ?_ _)); refine blk_far ?_ NB267_279.out _; (with_reducible repeat (first | refine blk_drewN ?_ _ | refine blk_drew ?_ | refine blk_alloc ?_ _)); exact BK267.out) hb); have n2_ := Aside0.mk (blk_below (g := gb273) (o := .cells #[.bool t269, .bool t270, .bool t271, .bool t272] 23 (0, 0)) (by (with_reducible repeat (first | refine blk_drewN ?_ _ | refine blk_drew ?_ | refine blk_alloc ?_ _)); refine blk_far ?_ NB273_279.out _; (with_reducible repeat (first | refine blk_drewN ?_ _ | refine blk_drew ?_ | refine blk_alloc ?_ _)); refine blk_far ?_ NB273_279.out _; (with_reducible repeat (first | refine blk_drewN ?_ _ | refine blk_drew ?_ | refine blk_alloc ?_ _)); refine blk_far ?_ NB273_279.out _; (with_reducible repeat (first | refine blk_drewN ?_ _ | refine blk_drew ?_ | refine blk_alloc ?_ _)); refine blk_far ?_ NB273_279.out _; (with_reducible repeat (first | refine blk_drewN ?_ _ | refine blk_drew ?_ | refine blk_alloc ?_ _)); exact BK273.out) hb); have n3_ := Aside0.mk (blk_below (g := gb279) (o := .cells #[.bool t275, .bool t276, .bool t277, .bool t278] 23 (0, 0)) (by (with_reducible repeat (first | refine blk_drewN ?_ _ | refine blk_drew ?_ | refine blk_alloc ?_ _)); refine blk_put (cs := #[.bool t275, .bool t276, .bool t277, .bool false]) ?_ 3 _ rfl; (with_reducible repeat (first | refine blk_drewN ?_ _ | refine blk_drew ?_ | refine blk_alloc ?_ _)); refine blk_put (cs := #[.bool t275, .bool t276, .bool false, .bool false]) ?_ 2 _ rfl; (with_reducible repeat (first | refine blk_drewN ?_ _ | refine blk_drew ?_ | refine blk_alloc ?_ _)); refine blk_put (cs := #[.bool t275, .bool false, .bool false, .bool false]) ?_ 1 _ rfl; (with_reducible repeat (first | refine blk_drewN ?_ _ | refine blk_drew ?_ | refine blk_alloc ?_ _)); refine blk_put (cs := #[.bool false, .bool false, .bool false, .bool false]) ?_ 0 _ rfl; (with_reducible repeat (first | refine blk_drewN ?_ _ | refine blk_drew ?_ | refine blk_alloc ?_ _)); exact BK279.out) hb); have n4_ := Aside0.mk (below_step (by repeat (first | (with_reducible first | exact HB.out | apply below_alloc | apply pw_below_drewN | apply below_drew1 | refine below_set ?_ GE260.out | refine below_set ?_ GE267.out | refine below_set ?_ GE273.out | refine below_set ?_ GE279.out) | exact HB.out)) hb); clear BK260; clear BK267; clear BK273; clear BK279; clear HB; have BK260 := n0_; have BK267 := n1_; have BK273 := n2_; have BK279 := n3_; have HB := n4_; clear n0_ n1_ n2_ n3_ n4_; (try clear hb); (try clear hb2); (try clear hk); (try clear hi)) | ((with_reducible refine gate_dst (N := 15) rfl ?_); refine box_event ?hg (N := 15) ?hd (cs := #[.bool false, .bool false, .bool false, .bool false]) (t := 23) ?hr ?_; (case hd => rfl); (case hg => rfl); (case hr => first | (go_simp; done) | (go_simp; rfl)); intro gb285 hg w33 hbox hb; have n0_ := Aside0.mk (blk_below (g := gb260) (o := .cells #[.bool a2_0, .bool a2_1, .bool a2_2, .bool a2_3] 23 (0, 0)) (by (with_reducible repeat (first | refine blk_drewN ?_ _ | refine blk_drew ?_ | refine blk_alloc ?_ _)); exact BK260.out) hb); have n1_ := Aside0.mk (blk_below (g := gb267) (o := .cells #[.bool t263, .bool t264, .bool t265, .bool t266] 23 (0, 0)) (by (with_reducible repeat (first | refine blk_drewN ?_ _ | refine blk_drew ?_ | refine blk_alloc ?_ _)); exact BK267.out) hb); have n2_ := Aside0.mk (blk_below (g := gb273) (o := .cells #[.bool t269, .bool t270, .bool t271, .bool t272] 23 (0, 0)) (by (with_reducible repeat (first | refine blk_drewN ?_ _ | refine blk_drew ?_ | refine blk_alloc ?_ _)); exact BK273.out) hb); have n3_ := Aside0.mk (blk_below (g := gb279) (o := .cells #[.bool t275, .bool t276, .bool t277, .bool t278] 23 (0, 0)) (by (with_reducible repeat (first | refine blk_drewN ?_ _ | refine blk_drew ?_ | refine blk_alloc ?_ _)); exact BK279.out) hb); have n4_ := Aside0.mk (below_step (by repeat (first | (with_reducible first | exact HB.out | apply below_alloc | apply pw_below_drewN | apply below_drew1 | refine below_set ?_ GE260.out | refine below_set ?_ GE267.out | refine below_set ?_ GE273.out | refine below_set ?_ GE279.out) | exact HB.out)) hb); have n5_ := Aside0.mk (hbox); have n6_ := Aside0.mk ((by rw [hg]; exact (below_size (by repeat (first | (with_reducible first | exact HB.out | apply below_alloc | apply pw_below_drewN | apply below_drew1 | refine below_set ?_ GE260.out | refine below_set ?_ GE267.out | refine below_set ?_ GE273.out | refine below_set ?_ GE279.out) | exact HB.out))) : w.heap.size ≤ gb285)); have n7_ := Aside0.mk ((by rw [hg]; exact (below_size (by repeat (first | (with_reducible first | exact HB.out | apply below_alloc | apply pw_below_drewN | apply below_drew1 | refine below_set ?_ GE260.out | refine below_set ?_ GE267.out | refine below_set ?_ GE273.out | refine below_set ?_ GE279.out) | exact HB.out))) : w.heap.size ≤ gb285)); have n8_ := Aside0.mk ((by rw [hg]; exact Nat.ne_of_lt (blk_lt (g := gb260) (o := .cells #[.bool a2_0, .bool a2_1, .bool a2_2, .bool a2_3] 23 (0, 0)) (by (with_reducible repeat (first | refine blk_drewN ?_ _ | refine blk_drew ?_ | refine blk_alloc ?_ _)); exact BK260.out)) : gb260 ≠ gb285)); have n9_ := Aside0.mk ((by rw [hg]; exact Nat.ne_of_gt (blk_lt (g := gb260) (o := .cells #[.bool a2_0, .bool a2_1, .bool a2_2, .bool a2_3] 23 (0, 0)) (by (with_reducible repeat (first | refine blk_drewN ?_ _ | refine blk_drew ?_ | refine blk_alloc ?_ _)); exact BK260.out)) : gb285 ≠ gb260)); have n10_ := Aside0.mk ((by rw [hg]; exact Nat.ne_of_lt (blk_lt (g := gb267) (o := .cells #[.bool t263, .bool t264, .bool t265, .bool t266] 23 (0, 0)) (by (with_reducible repeat (first | refine blk_drewN ?_ _ | refine blk_drew ?_ | refine blk_alloc ?_ _)); exact BK267.out)) : gb267 ≠ gb285)); have n11_ := Aside0.mk ((by rw [hg]; exact Nat.ne_of_gt (blk_lt (g := gb267) (o := .cells #[.bool t263, .bool t264, .bool t265, .bool t266] 23 (0, 0)) (by (with_reducible repeat (first | refine blk_drewN ?_ _ | refine blk_drew ?_ | refine blk_alloc ?_ _)); exact BK267.out)) : gb285 ≠ gb267)); have n12_ := Aside0.mk ((by rw [hg]; exact Nat.ne_of_lt (blk_lt (g := gb273) (o := .cells #[.bool t269, .bool t270, .bool t271, .bool t272] 23 (0, 0)) (by (with_reducible repeat (first | refine blk_drewN ?_ _ | refine blk_drew ?_ | refine blk_alloc ?_ _)); exact BK273.out)) : gb273 ≠ gb285)); have n13_ := Aside0.mk ((by rw [hg]; exact Nat.ne_of_gt (blk_lt (g := gb273) (o := .cells #[.bool t269, .bool t270, .bool t271, .bool t272] 23 (0, 0)) (by (with_reducible repeat (first | refine blk_drewN ?_ _ | refine blk_drew ?_ | refine blk_alloc ?_ _)); exact BK273.out)) : gb285 ≠ gb273)); have n14_ := Aside0.mk ((by rw [hg]; exact Nat.ne_of_lt (blk_lt (g := gb279) (o := .cells #[.bool t275, .bool t276, .bool t277, .bool t278] 23 (0, 0)) (by (with_reducible repeat (first | refine blk_drewN ?_ _ | refine blk_drew ?_ | refine blk_alloc ?_ _)); exact BK279.out)) : gb279 ≠ gb285)); have n15_ := Aside0.mk ((by rw [hg]; exact Nat.ne_of_gt (blk_lt (g := gb279) (o := .cells #[.bool t275, .bool t276, .bool t277, .bool t278] 23 (0, 0)) (by (with_reducible repeat (first | refine blk_drewN ?_ _ | refine blk_drew ?_ | refine blk_alloc ?_ _)); exact BK279.out)) : gb285 ≠ gb279)); clear BK260; clear BK267; clear BK273; clear BK279; clear HB; have BK260 := n0_; have BK267 := n1_; have BK273 := n2_; have BK279 := n3_; have HB := n4_; have BK285 := n5_; have GW285 := n6_; have GE285 := n7_; have NB260_285 := n8_; have NB285_260 := n9_; have NB267_285 := n10_; have NB285_267 := n11_; have NB273_285 := n12_; have NB285_273 := n13_; have NB279_285 := n14_; have NB285_279 := n15_; clear n0_ n1_ n2_ n3_ n4_ n5_ n6_ n7_ n8_ n9_ n10_ n11_ n12_ n13_ n14_ n15_; clear hb hbox hg; have hnb34 := NB285_260.out; have hnc34 := NB260_285.out; have hnb35 := NB285_267.out; have hnc35 := NB267_285.out; have hnb36 := NB285_273.out; have hnc36 := NB273_285.out; have hnb37 := NB285_279.out; have hnc37 := NB279_285.out; have hcz38_0 : w33.cell? ⟨gb285, 0, none⟩ = some (.bool false) := (blk_cell BK285.out 0).trans rfl; have hcz38_1 : w33.cell? ⟨gb285, 1, none⟩ = some (.bool false) := (blk_cell BK285.out 1).trans rfl; have hcz38_2 : w33.cell? ⟨gb285, 2, none⟩ = some (.bool false) := (blk_cell BK285.out 2).trans rfl; have hcz38_3 : w33.cell? ⟨gb285, 3, none⟩ = some (.bool false) := (blk_cell BK285.out 3).trans rfl; have hfz38_0 := blk_frozen BK285.out 0; have hfz38_1 := blk_frozen BK285.out 1; have hfz38_2 := blk_frozen BK285.out 2; have hfz38_3 := blk_frozen BK285.out 3; have hcz39_0 : w33.cell? ⟨gb260, 0, none⟩ = some (.bool a2_0) := (blk_cell BK260.out 0).trans rfl; have hcz39_1 : w33.cell? ⟨gb260, 1, none⟩ = some (.bool a2_1) := (blk_cell BK260.out 1).trans rfl; have hcz39_2 : w33.cell? ⟨gb260, 2, none⟩ = some (.bool a2_2) := (blk_cell BK260.out 2).trans rfl; have hcz39_3 : w33.cell? ⟨gb260, 3, none⟩ = some (.bool a2_3) := (blk_cell BK260.out 3).trans rfl; have hfz39_0 := blk_frozen BK260.out 0; have hfz39_1 := blk_frozen BK260.out 1; have hfz39_2 := blk_frozen BK260.out 2; have hfz39_3 := blk_frozen BK260.out 3) | ((with_reducible refine gate_callee (f := 11) rfl ?_); refine goesL_ (some 50) rfl rfl Try.func11 (by kernel_rfl) rfl #[.int .i64 6, .int .u8 t280, .agg #[.bool a2_0, .bool a2_1, .bool a2_2, .bool a2_3]] rfl (by (try simp only [List.map_toArray, List.map_cons, List.map_nil]); first | done | rfl | (simp only [List.length_drop, List.length_take]; rfl)) ?_; (with_reducible refine (shift_Do.calls 6 t280 a2_0 a2_1 a2_2 a2_3 t286 t287 t288 t289 t290 _ A9.out).mono ?_); rintro e w40 ⟨rfl, hb⟩; refine ⟨_, rfl, ?_⟩; have n0_ := Aside0.mk (blk_below (g := gb260) (o := .cells #[.bool a2_0, .bool a2_1, .bool a2_2, .bool a2_3] 23 (0, 0)) (by (with_reducible repeat (first | refine blk_drewN ?_ _ | refine blk_drew ?_ | refine blk_alloc ?_ _)); refine blk_far ?_ NB260_285.out _; (with_reducible repeat (first | refine blk_drewN ?_ _ | refine blk_drew ?_ | refine blk_alloc ?_ _)); refine blk_far ?_ NB260_285.out _; (with_reducible repeat (first | refine blk_drewN ?_ _ | refine blk_drew ?_ | refine blk_alloc ?_ _)); refine blk_far ?_ NB260_285.out _; (with_reducible repeat (first | refine blk_drewN ?_ _ | refine blk_drew ?_ | refine blk_alloc ?_ _)); refine blk_far ?_ NB260_285.out _; (with_reducible repeat (first | refine blk_drewN ?_ _ | refine blk_drew ?_ | refine blk_alloc ?_ _)); exact BK260.out) hb); have n1_ := Aside0.mk (blk_below (g := gb267) (o := .cells #[.bool t263, .bool t264, .bool t265, .bool t266] 23 (0, 0)) (by (with_reducible repeat (first | refine blk_drewN ?_ _ | refine blk_drew ?_ | refine blk_alloc ?_ _)); refine blk_far ?_ NB267_285.out _; (with_reducible repeat (first | refine blk_drewN ?_ _ | refine blk_drew ?_ | refine blk_alloc ?_ _)); refine blk_far ?_ NB267_285.out _; (with_reducible repeat (first | refine blk_drewN ?_ _ | refine blk_drew ?_ | refine blk_alloc ?_ _)); refine blk_far ?_ NB267_285.out _; (with_reducible repeat (first | refine blk_drewN ?_ _ | refine blk_drew ?_ | refine blk_alloc ?_ _)); refine blk_far ?_ NB267_285.out _; (with_reducible repeat (first | refine blk_drewN ?_ _ | refine blk_drew ?_ | refine blk_alloc ?_ _)); exact BK267.out) hb); have n2_ := Aside0.mk (blk_below (g := gb273) (o := .cells #[.bool t269, .bool t270, .bool t271, .bool t272] 23 (0, 0)) (by (with_reducible repeat (first | refine blk_drewN ?_ _ | refine blk_drew ?_ | refine blk_alloc ?_ _)); refine blk_far ?_ NB273_285.out _; (with_reducible repeat (first | refine blk_drewN ?_ _ | refine blk_drew ?_ | refine blk_alloc ?_ _)); refine blk_far ?_ NB273_285.out _; (with_reducible repeat (first | refine blk_drewN ?_ _ | refine blk_drew ?_ | refine blk_alloc ?_ _)); refine blk_far ?_ NB273_285.out _; (with_reducible repeat (first | refine blk_drewN ?_ _ | refine blk_drew ?_ | refine blk_alloc ?_ _)); refine blk_far ?_ NB273_285.out _; (with_reducible repeat (first | refine blk_drewN ?_ _ | refine blk_drew ?_ | refine blk_alloc ?_ _)); exact BK273.out) hb); have n3_ := Aside0.mk (blk_below (g := gb279) (o := .cells #[.bool t275, .bool t276, .bool t277, .bool t278] 23 (0, 0)) (by (with_reducible repeat (first | refine blk_drewN ?_ _ | refine blk_drew ?_ | refine blk_alloc ?_ _)); refine blk_far ?_ NB279_285.out _; (with_reducible repeat (first | refine blk_drewN ?_ _ | refine blk_drew ?_ | refine blk_alloc ?_ _)); refine blk_far ?_ NB279_285.out _; (with_reducible repeat (first | refine blk_drewN ?_ _ | refine blk_drew ?_ | refine blk_alloc ?_ _)); refine blk_far ?_ NB279_285.out _; (with_reducible repeat (first | refine blk_drewN ?_ _ | refine blk_drew ?_ | refine blk_alloc ?_ _)); refine blk_far ?_ NB279_285.out _; (with_reducible repeat (first | refine blk_drewN ?_ _ | refine blk_drew ?_ | refine blk_alloc ?_ _)); exact BK279.out) hb); have n4_ := Aside0.mk (blk_below (g := gb285) (o := .cells #[.bool t281, .bool t282, .bool t283, .bool t284] 23 (0, 0)) (by (with_reducible repeat (first | refine blk_drewN ?_ _ | refine blk_drew ?_ | refine blk_alloc ?_ _)); refine blk_put (cs := #[.bool t281, .bool t282, .bool t283, .bool false]) ?_ 3 _ rfl; (with_reducible repeat (first | refine blk_drewN ?_ _ | refine blk_drew ?_ | refine blk_alloc ?_ _)); refine blk_put (cs := #[.bool t281, .bool t282, .bool false, .bool false]) ?_ 2 _ rfl; (with_reducible repeat (first | refine blk_drewN ?_ _ | refine blk_drew ?_ | refine blk_alloc ?_ _)); refine blk_put (cs := #[.bool t281, .bool false, .bool false, .bool false]) ?_ 1 _ rfl; (with_reducible repeat (first | refine blk_drewN ?_ _ | refine blk_drew ?_ | refine blk_alloc ?_ _)); refine blk_put (cs := #[.bool false, .bool false, .bool false, .bool false]) ?_ 0 _ rfl; (with_reducible repeat (first | refine blk_drewN ?_ _ | refine blk_drew ?_ | refine blk_alloc ?_ _)); exact BK285.out) hb); have n5_ := Aside0.mk (below_step (by repeat (first | (with_reducible first | exact HB.out | apply below_alloc | apply pw_below_drewN | apply below_drew1 | refine below_set ?_ GE260.out | refine below_set ?_ GE267.out | refine below_set ?_ GE273.out | refine below_set ?_ GE279.out | refine below_set ?_ GE285.out) | exact HB.out)) hb); clear BK260; clear BK267; clear BK273; clear BK279; clear BK285; clear HB; have BK260 := n0_; have BK267 := n1_; have BK273 := n2_; have BK279 := n3_; have BK285 := n4_; have HB := n5_; clear n0_ n1_ n2_ n3_ n4_ n5_; (try clear hb); (try clear hb2); (try clear hk); (try clear hi)) | ((with_reducible refine gate_dst (N := 17) rfl ?_); refine box_event ?hg (N := 17) ?hd (cs := #[.bool false, .bool false, .bool false, .bool false]) (t := 23) ?hr ?_; (case hd => rfl); (case hg => rfl); (case hr => first | (go_simp; done) | (go_simp; rfl)); intro gb291 hg w41 hbox hb; have n0_ := Aside0.mk (blk_below (g := gb260) (o := .cells #[.bool a2_0, .bool a2_1, .bool a2_2, .bool a2_3] 23 (0, 0)) (by (with_reducible repeat (first | refine blk_drewN ?_ _ | refine blk_drew ?_ | refine blk_alloc ?_ _)); exact BK260.out) hb); have n1_ := Aside0.mk (blk_below (g := gb267) (o := .cells #[.bool t263, .bool t264, .bool t265, .bool t266] 23 (0, 0)) (by (with_reducible repeat (first | refine blk_drewN ?_ _ | refine blk_drew ?_ | refine blk_alloc ?_ _)); exact BK267.out) hb); have n2_ := Aside0.mk (blk_below (g := gb273) (o := .cells #[.bool t269, .bool t270, .bool t271, .bool t272] 23 (0, 0)) (by (with_reducible repeat (first | refine blk_drewN ?_ _ | refine blk_drew ?_ | refine blk_alloc ?_ _)); exact BK273.out) hb); have n3_ := Aside0.mk (blk_below (g := gb279) (o := .cells #[.bool t275, .bool t276, .bool t277, .bool t278] 23 (0, 0)) (by (with_reducible repeat (first | refine blk_drewN ?_ _ | refine blk_drew ?_ | refine blk_alloc ?_ _)); exact BK279.out) hb); have n4_ := Aside0.mk (blk_below (g := gb285) (o := .cells #[.bool t281, .bool t282, .bool t283, .bool t284] 23 (0, 0)) (by (with_reducible repeat (first | refine blk_drewN ?_ _ | refine blk_drew ?_ | refine blk_alloc ?_ _)); exact BK285.out) hb); have n5_ := Aside0.mk (below_step (by repeat (first | (with_reducible first | exact HB.out | apply below_alloc | apply pw_below_drewN | apply below_drew1 | refine below_set ?_ GE260.out | refine below_set ?_ GE267.out | refine below_set ?_ GE273.out | refine below_set ?_ GE279.out | refine below_set ?_ GE285.out) | exact HB.out)) hb); have n6_ := Aside0.mk (hbox); have n7_ := Aside0.mk ((by rw [hg]; exact (below_size (by repeat (first | (with_reducible first | exact HB.out | apply below_alloc | apply pw_below_drewN | apply below_drew1 | refine below_set ?_ GE260.out | refine below_set ?_ GE267.out | refine below_set ?_ GE273.out | refine below_set ?_ GE279.out | refine below_set ?_ GE285.out) | exact HB.out))) : w.heap.size ≤ gb291)); have n8_ := Aside0.mk ((by rw [hg]; exact (below_size (by repeat (first | (with_reducible first | exact HB.out | apply below_alloc | apply pw_below_drewN | apply below_drew1 | refine below_set ?_ GE260.out | refine below_set ?_ GE267.out | refine below_set ?_ GE273.out | refine below_set ?_ GE279.out | refine below_set ?_ GE285.out) | exact HB.out))) : w.heap.size ≤ gb291)); have n9_ := Aside0.mk ((by rw [hg]; exact Nat.ne_of_lt (blk_lt (g := gb260) (o := .cells #[.bool a2_0, .bool a2_1, .bool a2_2, .bool a2_3] 23 (0, 0)) (by (with_reducible repeat (first | refine blk_drewN ?_ _ | refine blk_drew ?_ | refine blk_alloc ?_ _)); exact BK260.out)) : gb260 ≠ gb291)); have n10_ := Aside0.mk ((by rw [hg]; exact Nat.ne_of_gt (blk_lt (g := gb260) (o := .cells #[.bool a2_0, .bool a2_1, .bool a2_2, .bool a2_3] 23 (0, 0)) (by (with_reducible repeat (first | refine blk_drewN ?_ _ | refine blk_drew ?_ | refine blk_alloc ?_ _)); exact BK260.out)) : gb291 ≠ gb260)); have n11_ := Aside0.mk ((by rw [hg]; exact Nat.ne_of_lt (blk_lt (g := gb267) (o := .cells #[.bool t263, .bool t264, .bool t265, .bool t266] 23 (0, 0)) (by (with_reducible repeat (first | refine blk_drewN ?_ _ | refine blk_drew ?_ | refine blk_alloc ?_ _)); exact BK267.out)) : gb267 ≠ gb291)); have n12_ := Aside0.mk ((by rw [hg]; exact Nat.ne_of_gt (blk_lt (g := gb267) (o := .cells #[.bool t263, .bool t264, .bool t265, .bool t266] 23 (0, 0)) (by (with_reducible repeat (first | refine blk_drewN ?_ _ | refine blk_drew ?_ | refine blk_alloc ?_ _)); exact BK267.out)) : gb291 ≠ gb267)); have n13_ := Aside0.mk ((by rw [hg]; exact Nat.ne_of_lt (blk_lt (g := gb273) (o := .cells #[.bool t269, .bool t270, .bool t271, .bool t272] 23 (0, 0)) (by (with_reducible repeat (first | refine blk_drewN ?_ _ | refine blk_drew ?_ | refine blk_alloc ?_ _)); exact BK273.out)) : gb273 ≠ gb291)); have n14_ := Aside0.mk ((by rw [hg]; exact Nat.ne_of_gt (blk_lt (g := gb273) (o := .cells #[.bool t269, .bool t270, .bool t271, .bool t272] 23 (0, 0)) (by (with_reducible repeat (first | refine blk_drewN ?_ _ | refine blk_drew ?_ | refine blk_alloc ?_ _)); exact BK273.out)) : gb291 ≠ gb273)); have n15_ := Aside0.mk ((by rw [hg]; exact Nat.ne_of_lt (blk_lt (g := gb279) (o := .cells #[.bool t275, .bool t276, .bool t277, .bool t278] 23 (0, 0)) (by (with_reducible repeat (first | refine blk_drewN ?_ _ | refine blk_drew ?_ | refine blk_alloc ?_ _)); exact BK279.out)) : gb279 ≠ gb291)); have n16_ := Aside0.mk ((by rw [hg]; exact Nat.ne_of_gt (blk_lt (g := gb279) (o := .cells #[.bool t275, .bool t276, .bool t277, .bool t278] 23 (0, 0)) (by (with_reducible repeat (first | refine blk_drewN ?_ _ | refine blk_drew ?_ | refine blk_alloc ?_ _)); exact BK279.out)) : gb291 ≠ gb279)); have n17_ := Aside0.mk ((by rw [hg]; exact Nat.ne_of_lt (blk_lt (g := gb285) (o := .cells #[.bool t281, .bool t282, .bool t283, .bool t284] 23 (0, 0)) (by (with_reducible repeat (first | refine blk_drewN ?_ _ | refine blk_drew ?_ | refine blk_alloc ?_ _)); exact BK285.out)) : gb285 ≠ gb291)); have n18_ := Aside0.mk ((by rw [hg]; exact Nat.ne_of_gt (blk_lt (g := gb285) (o := .cells #[.bool t281, .bool t282, .bool t283, .bool t284] 23 (0, 0)) (by (with_reducible repeat (first | refine blk_drewN ?_ _ | refine blk_drew ?_ | refine blk_alloc ?_ _)); exact BK285.out)) : gb291 ≠ gb285)); clear BK260; clear BK267; clear BK273; clear BK279; clear BK285; clear HB; have BK260 := n0_; have BK267 := n1_; have BK273 := n2_; have BK279 := n3_; have BK285 := n4_; have HB := n5_; have BK291 := n6_; have GW291 := n7_; have GE291 := n8_; have NB260_291 := n9_; have NB291_260 := n10_; have NB267_291 := n11_; have NB291_267 := n12_; have NB273_291 := n13_; have NB291_273 := n14_; have NB279_291 := n15_; have NB291_279 := n16_; have NB285_291 := n17_; have NB291_285 := n18_; clear n0_ n1_ n2_ n3_ n4_ n5_ n6_ n7_ n8_ n9_ n10_ n11_ n12_ n13_ n14_ n15_ n16_ n17_ n18_; clear hb hbox hg; have hnb42 := NB291_260.out; have hnc42 := NB260_291.out; have hnb43 := NB291_267.out; have hnc43 := NB267_291.out; have hnb44 := NB291_273.out; have hnc44 := NB273_291.out; have hnb45 := NB291_279.out; have hnc45 := NB279_291.out; have hnb46 := NB291_285.out; have hnc46 := NB285_291.out; have hcz47_0 : w41.cell? ⟨gb291, 0, none⟩ = some (.bool false) := (blk_cell BK291.out 0).trans rfl; have hcz47_1 : w41.cell? ⟨gb291, 1, none⟩ = some (.bool false) := (blk_cell BK291.out 1).trans rfl; have hcz47_2 : w41.cell? ⟨gb291, 2, none⟩ = some (.bool false) := (blk_cell BK291.out 2).trans rfl; have hcz47_3 : w41.cell? ⟨gb291, 3, none⟩ = some (.bool false) := (blk_cell BK291.out 3).trans rfl; have hfz47_0 := blk_frozen BK291.out 0; have hfz47_1 := blk_frozen BK291.out 1; have hfz47_2 := blk_frozen BK291.out 2; have hfz47_3 := blk_frozen BK291.out 3; have hcz48_0 : w41.cell? ⟨gb267, 0, none⟩ = some (.bool t263) := (blk_cell BK267.out 0).trans rfl; have hcz48_1 : w41.cell? ⟨gb267, 1, none⟩ = some (.bool t264) := (blk_cell BK267.out 1).trans rfl; have hcz48_2 : w41.cell? ⟨gb267, 2, none⟩ = some (.bool t265) := (blk_cell BK267.out 2).trans rfl; have hcz48_3 : w41.cell? ⟨gb267, 3, none⟩ = some (.bool t266) := (blk_cell BK267.out 3).trans rfl; have hfz48_0 := blk_frozen BK267.out 0; have hfz48_1 := blk_frozen BK267.out 1; have hfz48_2 := blk_frozen BK267.out 2; have hfz48_3 := blk_frozen BK267.out 3))
  (try simp only [Act.put, List.setIfInBounds_toArray, List.set_cons_zero, List.set_cons_succ])
  go_cut [18] (fun v18 wc => ∃ (kq : Nat) (x18_9 : Int), v18 = .int .i64 x18_9 ∧ Aside0 (whirligiglaw03_ShiftWorth.j0 kq a0 a1 t261 t262 t268 t274 t286 x18_9 a2_0 a2_1 a2_2 a2_3 t269 t270 t271 t272 t275 t276 t277 t278 = some r) ∧ Aside0 (kq ≤ k) ∧ Aside0 (wc.heap[gb260]? = some (.cells #[.bool a2_0, .bool a2_1, .bool a2_2, .bool a2_3] 23 (0, 0))) ∧ Aside0 (wc.heap[gb267]? = some (.cells #[.bool t263, .bool t264, .bool t265, .bool t266] 23 (0, 0))) ∧ Aside0 (wc.heap[gb273]? = some (.cells #[.bool t269, .bool t270, .bool t271, .bool t272] 23 (0, 0))) ∧ Aside0 (wc.heap[gb279]? = some (.cells #[.bool t275, .bool t276, .bool t277, .bool t278] 23 (0, 0))) ∧ Aside0 (wc.heap[gb285]? = some (.cells #[.bool t281, .bool t282, .bool t283, .bool t284] 23 (0, 0))) ∧ Aside0 (wc.heap[gb291]? = some (.cells #[.bool t287, .bool t288, .bool t289, .bool t290] 23 (0, 0))) ∧ Aside0 (Below w.heap.size w wc))
  case first =>
    have H := HC10.out
    clear HC10
    by_cases c49 : t266 = true
    · subst c49
      have H1 : (whirligiglaw03_ShiftWorth.j0 k a0 a1 t261 t262 t268 t274 t286 256 a2_0 a2_1 a2_2 a2_3 t269 t270 t271 t272 t275 t276 t277 t278) = some r := by rw [if_pos rfl] at H; exact H
      clear H
      have H := H1
      clear H1
      have H' := Aside0.mk H
      clear H
      go_wp2
      go_meet
      case rel => exact ⟨_, (256), (by first | rfl | (simp; done) | (simp [*]; done)), H', ⟨by first | omega | exact Nat.le_refl _⟩, ⟨by (with_reducible repeat (first | refine blk_drewN ?_ _ | refine blk_drew ?_ | refine blk_alloc ?_ _)); refine blk_far ?_ NB260_291.out _; (with_reducible repeat (first | refine blk_drewN ?_ _ | refine blk_drew ?_ | refine blk_alloc ?_ _)); refine blk_far ?_ NB260_291.out _; (with_reducible repeat (first | refine blk_drewN ?_ _ | refine blk_drew ?_ | refine blk_alloc ?_ _)); refine blk_far ?_ NB260_291.out _; (with_reducible repeat (first | refine blk_drewN ?_ _ | refine blk_drew ?_ | refine blk_alloc ?_ _)); refine blk_far ?_ NB260_291.out _; (with_reducible repeat (first | refine blk_drewN ?_ _ | refine blk_drew ?_ | refine blk_alloc ?_ _)); exact BK260.out⟩, ⟨by (with_reducible repeat (first | refine blk_drewN ?_ _ | refine blk_drew ?_ | refine blk_alloc ?_ _)); refine blk_far ?_ NB267_291.out _; (with_reducible repeat (first | refine blk_drewN ?_ _ | refine blk_drew ?_ | refine blk_alloc ?_ _)); refine blk_far ?_ NB267_291.out _; (with_reducible repeat (first | refine blk_drewN ?_ _ | refine blk_drew ?_ | refine blk_alloc ?_ _)); refine blk_far ?_ NB267_291.out _; (with_reducible repeat (first | refine blk_drewN ?_ _ | refine blk_drew ?_ | refine blk_alloc ?_ _)); refine blk_far ?_ NB267_291.out _; (with_reducible repeat (first | refine blk_drewN ?_ _ | refine blk_drew ?_ | refine blk_alloc ?_ _)); exact BK267.out⟩, ⟨by (with_reducible repeat (first | refine blk_drewN ?_ _ | refine blk_drew ?_ | refine blk_alloc ?_ _)); refine blk_far ?_ NB273_291.out _; (with_reducible repeat (first | refine blk_drewN ?_ _ | refine blk_drew ?_ | refine blk_alloc ?_ _)); refine blk_far ?_ NB273_291.out _; (with_reducible repeat (first | refine blk_drewN ?_ _ | refine blk_drew ?_ | refine blk_alloc ?_ _)); refine blk_far ?_ NB273_291.out _; (with_reducible repeat (first | refine blk_drewN ?_ _ | refine blk_drew ?_ | refine blk_alloc ?_ _)); refine blk_far ?_ NB273_291.out _; (with_reducible repeat (first | refine blk_drewN ?_ _ | refine blk_drew ?_ | refine blk_alloc ?_ _)); exact BK273.out⟩, ⟨by (with_reducible repeat (first | refine blk_drewN ?_ _ | refine blk_drew ?_ | refine blk_alloc ?_ _)); refine blk_far ?_ NB279_291.out _; (with_reducible repeat (first | refine blk_drewN ?_ _ | refine blk_drew ?_ | refine blk_alloc ?_ _)); refine blk_far ?_ NB279_291.out _; (with_reducible repeat (first | refine blk_drewN ?_ _ | refine blk_drew ?_ | refine blk_alloc ?_ _)); refine blk_far ?_ NB279_291.out _; (with_reducible repeat (first | refine blk_drewN ?_ _ | refine blk_drew ?_ | refine blk_alloc ?_ _)); refine blk_far ?_ NB279_291.out _; (with_reducible repeat (first | refine blk_drewN ?_ _ | refine blk_drew ?_ | refine blk_alloc ?_ _)); exact BK279.out⟩, ⟨by (with_reducible repeat (first | refine blk_drewN ?_ _ | refine blk_drew ?_ | refine blk_alloc ?_ _)); refine blk_far ?_ NB285_291.out _; (with_reducible repeat (first | refine blk_drewN ?_ _ | refine blk_drew ?_ | refine blk_alloc ?_ _)); refine blk_far ?_ NB285_291.out _; (with_reducible repeat (first | refine blk_drewN ?_ _ | refine blk_drew ?_ | refine blk_alloc ?_ _)); refine blk_far ?_ NB285_291.out _; (with_reducible repeat (first | refine blk_drewN ?_ _ | refine blk_drew ?_ | refine blk_alloc ?_ _)); refine blk_far ?_ NB285_291.out _; (with_reducible repeat (first | refine blk_drewN ?_ _ | refine blk_drew ?_ | refine blk_alloc ?_ _)); exact BK285.out⟩, ⟨by (with_reducible repeat (first | refine blk_drewN ?_ _ | refine blk_drew ?_ | refine blk_alloc ?_ _)); refine blk_put (cs := #[.bool t287, .bool t288, .bool t289, .bool false]) ?_ 3 _ rfl; (with_reducible repeat (first | refine blk_drewN ?_ _ | refine blk_drew ?_ | refine blk_alloc ?_ _)); refine blk_put (cs := #[.bool t287, .bool t288, .bool false, .bool false]) ?_ 2 _ rfl; (with_reducible repeat (first | refine blk_drewN ?_ _ | refine blk_drew ?_ | refine blk_alloc ?_ _)); refine blk_put (cs := #[.bool t287, .bool false, .bool false, .bool false]) ?_ 1 _ rfl; (with_reducible repeat (first | refine blk_drewN ?_ _ | refine blk_drew ?_ | refine blk_alloc ?_ _)); refine blk_put (cs := #[.bool false, .bool false, .bool false, .bool false]) ?_ 0 _ rfl; (with_reducible repeat (first | refine blk_drewN ?_ _ | refine blk_drew ?_ | refine blk_alloc ?_ _)); exact BK291.out⟩, ⟨by repeat (first | (with_reducible first | exact HB.out | apply below_alloc | apply pw_below_drewN | apply below_drew1 | refine below_set ?_ GE260.out | refine below_set ?_ GE267.out | refine below_set ?_ GE273.out | refine below_set ?_ GE279.out | refine below_set ?_ GE285.out | refine below_set ?_ GE291.out) | exact HB.out)⟩⟩
    · replace c49 := Bool.eq_false_iff.mpr c49
      subst c49
      have H1 : (whirligiglaw03_ShiftWorth.j0 k a0 a1 t261 t262 t268 t274 t286 0 a2_0 a2_1 a2_2 a2_3 t269 t270 t271 t272 t275 t276 t277 t278) = some r := by rw [if_neg (show ¬ (false = true) by decide)] at H; exact H
      clear H
      have H := H1
      clear H1
      have H' := Aside0.mk H
      clear H
      go_wp2
      go_meet
      case rel => exact ⟨_, (0), (by first | rfl | (simp; done) | (simp [*]; done)), H', ⟨by first | omega | exact Nat.le_refl _⟩, ⟨by (with_reducible repeat (first | refine blk_drewN ?_ _ | refine blk_drew ?_ | refine blk_alloc ?_ _)); refine blk_far ?_ NB260_291.out _; (with_reducible repeat (first | refine blk_drewN ?_ _ | refine blk_drew ?_ | refine blk_alloc ?_ _)); refine blk_far ?_ NB260_291.out _; (with_reducible repeat (first | refine blk_drewN ?_ _ | refine blk_drew ?_ | refine blk_alloc ?_ _)); refine blk_far ?_ NB260_291.out _; (with_reducible repeat (first | refine blk_drewN ?_ _ | refine blk_drew ?_ | refine blk_alloc ?_ _)); refine blk_far ?_ NB260_291.out _; (with_reducible repeat (first | refine blk_drewN ?_ _ | refine blk_drew ?_ | refine blk_alloc ?_ _)); exact BK260.out⟩, ⟨by (with_reducible repeat (first | refine blk_drewN ?_ _ | refine blk_drew ?_ | refine blk_alloc ?_ _)); refine blk_far ?_ NB267_291.out _; (with_reducible repeat (first | refine blk_drewN ?_ _ | refine blk_drew ?_ | refine blk_alloc ?_ _)); refine blk_far ?_ NB267_291.out _; (with_reducible repeat (first | refine blk_drewN ?_ _ | refine blk_drew ?_ | refine blk_alloc ?_ _)); refine blk_far ?_ NB267_291.out _; (with_reducible repeat (first | refine blk_drewN ?_ _ | refine blk_drew ?_ | refine blk_alloc ?_ _)); refine blk_far ?_ NB267_291.out _; (with_reducible repeat (first | refine blk_drewN ?_ _ | refine blk_drew ?_ | refine blk_alloc ?_ _)); exact BK267.out⟩, ⟨by (with_reducible repeat (first | refine blk_drewN ?_ _ | refine blk_drew ?_ | refine blk_alloc ?_ _)); refine blk_far ?_ NB273_291.out _; (with_reducible repeat (first | refine blk_drewN ?_ _ | refine blk_drew ?_ | refine blk_alloc ?_ _)); refine blk_far ?_ NB273_291.out _; (with_reducible repeat (first | refine blk_drewN ?_ _ | refine blk_drew ?_ | refine blk_alloc ?_ _)); refine blk_far ?_ NB273_291.out _; (with_reducible repeat (first | refine blk_drewN ?_ _ | refine blk_drew ?_ | refine blk_alloc ?_ _)); refine blk_far ?_ NB273_291.out _; (with_reducible repeat (first | refine blk_drewN ?_ _ | refine blk_drew ?_ | refine blk_alloc ?_ _)); exact BK273.out⟩, ⟨by (with_reducible repeat (first | refine blk_drewN ?_ _ | refine blk_drew ?_ | refine blk_alloc ?_ _)); refine blk_far ?_ NB279_291.out _; (with_reducible repeat (first | refine blk_drewN ?_ _ | refine blk_drew ?_ | refine blk_alloc ?_ _)); refine blk_far ?_ NB279_291.out _; (with_reducible repeat (first | refine blk_drewN ?_ _ | refine blk_drew ?_ | refine blk_alloc ?_ _)); refine blk_far ?_ NB279_291.out _; (with_reducible repeat (first | refine blk_drewN ?_ _ | refine blk_drew ?_ | refine blk_alloc ?_ _)); refine blk_far ?_ NB279_291.out _; (with_reducible repeat (first | refine blk_drewN ?_ _ | refine blk_drew ?_ | refine blk_alloc ?_ _)); exact BK279.out⟩, ⟨by (with_reducible repeat (first | refine blk_drewN ?_ _ | refine blk_drew ?_ | refine blk_alloc ?_ _)); refine blk_far ?_ NB285_291.out _; (with_reducible repeat (first | refine blk_drewN ?_ _ | refine blk_drew ?_ | refine blk_alloc ?_ _)); refine blk_far ?_ NB285_291.out _; (with_reducible repeat (first | refine blk_drewN ?_ _ | refine blk_drew ?_ | refine blk_alloc ?_ _)); refine blk_far ?_ NB285_291.out _; (with_reducible repeat (first | refine blk_drewN ?_ _ | refine blk_drew ?_ | refine blk_alloc ?_ _)); refine blk_far ?_ NB285_291.out _; (with_reducible repeat (first | refine blk_drewN ?_ _ | refine blk_drew ?_ | refine blk_alloc ?_ _)); exact BK285.out⟩, ⟨by (with_reducible repeat (first | refine blk_drewN ?_ _ | refine blk_drew ?_ | refine blk_alloc ?_ _)); refine blk_put (cs := #[.bool t287, .bool t288, .bool t289, .bool false]) ?_ 3 _ rfl; (with_reducible repeat (first | refine blk_drewN ?_ _ | refine blk_drew ?_ | refine blk_alloc ?_ _)); refine blk_put (cs := #[.bool t287, .bool t288, .bool false, .bool false]) ?_ 2 _ rfl; (with_reducible repeat (first | refine blk_drewN ?_ _ | refine blk_drew ?_ | refine blk_alloc ?_ _)); refine blk_put (cs := #[.bool t287, .bool false, .bool false, .bool false]) ?_ 1 _ rfl; (with_reducible repeat (first | refine blk_drewN ?_ _ | refine blk_drew ?_ | refine blk_alloc ?_ _)); refine blk_put (cs := #[.bool false, .bool false, .bool false, .bool false]) ?_ 0 _ rfl; (with_reducible repeat (first | refine blk_drewN ?_ _ | refine blk_drew ?_ | refine blk_alloc ?_ _)); exact BK291.out⟩, ⟨by repeat (first | (with_reducible first | exact HB.out | apply below_alloc | apply pw_below_drewN | apply below_drew1 | refine below_set ?_ GE260.out | refine below_set ?_ GE267.out | refine below_set ?_ GE273.out | refine below_set ?_ GE279.out | refine below_set ?_ GE285.out | refine below_set ?_ GE291.out) | exact HB.out)⟩⟩
  case rest =>
    clear HC10
    try clear c1
    try clear c2
    try clear p2
    try clear c3
    try clear c4
    try clear c9
    try clear c10
    try clear c11
    try clear c16
    try clear c21
    try clear c22
    try clear c27
    try clear c28
    try clear c29
    try clear c34
    try clear c35
    try clear c36
    try clear c37
    try clear c42
    try clear c43
    try clear c44
    try clear c45
    try clear c46
    try clear c49
    try clear hcz13_0
    try clear hcz13_1
    try clear hcz13_2
    try clear hcz13_3
    try clear hcz17_0
    try clear hcz17_1
    try clear hcz17_2
    try clear hcz17_3
    try clear hcz18_0
    try clear hcz18_1
    try clear hcz18_2
    try clear hcz18_3
    try clear hcz23_0
    try clear hcz23_1
    try clear hcz23_2
    try clear hcz23_3
    try clear hcz24_0
    try clear hcz24_1
    try clear hcz24_2
    try clear hcz24_3
    try clear hcz30_0
    try clear hcz30_1
    try clear hcz30_2
    try clear hcz30_3
    try clear hcz31_0
    try clear hcz31_1
    try clear hcz31_2
    try clear hcz31_3
    try clear hcz38_0
    try clear hcz38_1
    try clear hcz38_2
    try clear hcz38_3
    try clear hcz39_0
    try clear hcz39_1
    try clear hcz39_2
    try clear hcz39_3
    try clear hcz47_0
    try clear hcz47_1
    try clear hcz47_2
    try clear hcz47_3
    try clear hcz48_0
    try clear hcz48_1
    try clear hcz48_2
    try clear hcz48_3
    try clear hfz13_0
    try clear hfz13_1
    try clear hfz13_2
    try clear hfz13_3
    try clear hfz17_0
    try clear hfz17_1
    try clear hfz17_2
    try clear hfz17_3
    try clear hfz18_0
    try clear hfz18_1
    try clear hfz18_2
    try clear hfz18_3
    try clear hfz23_0
    try clear hfz23_1
    try clear hfz23_2
    try clear hfz23_3
    try clear hfz24_0
    try clear hfz24_1
    try clear hfz24_2
    try clear hfz24_3
    try clear hfz30_0
    try clear hfz30_1
    try clear hfz30_2
    try clear hfz30_3
    try clear hfz31_0
    try clear hfz31_1
    try clear hfz31_2
    try clear hfz31_3
    try clear hfz38_0
    try clear hfz38_1
    try clear hfz38_2
    try clear hfz38_3
    try clear hfz39_0
    try clear hfz39_1
    try clear hfz39_2
    try clear hfz39_3
    try clear hfz47_0
    try clear hfz47_1
    try clear hfz47_2
    try clear hfz47_3
    try clear hfz48_0
    try clear hfz48_1
    try clear hfz48_2
    try clear hfz48_3
    obtain ⟨kq, x18_9, rfl, HA, HJ9, BK260, BK267, BK273, BK279, BK285, BK291, HB⟩ := hcut
    cases kq with
    | zero => exact absurd HA.out (by simp [whirligiglaw03_ShiftWorth.j0])
    | succ kj9 =>
      have H := HA.out
      clear HA
      simp only [whirligiglaw03_ShiftWorth.j0] at H
      have HC50 := Aside0.mk H
      clear H
      have hnb51 := NB273_260.out
      have hnc51 := NB260_273.out
      have hnb52 := NB273_267.out
      have hnc52 := NB267_273.out
      have hnb53 := NB273_279.out
      have hnc53 := NB279_273.out
      have hnb54 := NB273_285.out
      have hnc54 := NB285_273.out
      have hnb55 := NB273_291.out
      have hnc55 := NB291_273.out
      have hcz56_0 : wc.cell? ⟨gb273, 0, none⟩ = some (.bool t269) := (blk_cell BK273.out 0).trans rfl
      have hcz56_1 : wc.cell? ⟨gb273, 1, none⟩ = some (.bool t270) := (blk_cell BK273.out 1).trans rfl
      have hcz56_2 : wc.cell? ⟨gb273, 2, none⟩ = some (.bool t271) := (blk_cell BK273.out 2).trans rfl
      have hcz56_3 : wc.cell? ⟨gb273, 3, none⟩ = some (.bool t272) := (blk_cell BK273.out 3).trans rfl
      have hfz56_0 := blk_frozen BK273.out 0
      have hfz56_1 := blk_frozen BK273.out 1
      have hfz56_2 := blk_frozen BK273.out 2
      have hfz56_3 := blk_frozen BK273.out 3
      go_upto_if 56 with (fail)
      go_cut [19] (fun v19 wc => ∃ (kq : Nat) (x19_49 : Int), v19 = .int .i64 x19_49 ∧ Aside0 (whirligiglaw03_ShiftWorth.j1 kq a0 a1 t261 t262 t268 t274 t286 x18_9 x19_49 a2_0 a2_1 a2_2 a2_3 t269 t270 t271 t272 t275 t276 t277 t278 = some r) ∧ Aside0 (kq ≤ kj9) ∧ Aside0 (wc.heap[gb260]? = some (.cells #[.bool a2_0, .bool a2_1, .bool a2_2, .bool a2_3] 23 (0, 0))) ∧ Aside0 (wc.heap[gb267]? = some (.cells #[.bool t263, .bool t264, .bool t265, .bool t266] 23 (0, 0))) ∧ Aside0 (wc.heap[gb273]? = some (.cells #[.bool t269, .bool t270, .bool t271, .bool t272] 23 (0, 0))) ∧ Aside0 (wc.heap[gb279]? = some (.cells #[.bool t275, .bool t276, .bool t277, .bool t278] 23 (0, 0))) ∧ Aside0 (wc.heap[gb285]? = some (.cells #[.bool t281, .bool t282, .bool t283, .bool t284] 23 (0, 0))) ∧ Aside0 (wc.heap[gb291]? = some (.cells #[.bool t287, .bool t288, .bool t289, .bool t290] 23 (0, 0))) ∧ Aside0 (Below w.heap.size w wc))
      case first =>
        have H := HC50.out
        clear HC50
        by_cases c57 : t272 = true
        · subst c57
          have H1 : (whirligiglaw03_ShiftWorth.j1 kj9 a0 a1 t261 t262 t268 t274 t286 x18_9 1 a2_0 a2_1 a2_2 a2_3 t269 t270 t271 true t275 t276 t277 t278) = some r := by rw [if_pos rfl] at H; exact H
          clear H
          have H := H1
          clear H1
          have H' := Aside0.mk H
          clear H
          go_wp2
          go_meet
          case rel => exact ⟨_, (1), (by first | rfl | (simp; done) | (simp [*]; done)), H', ⟨by have := HJ9.out; first | omega | exact Nat.le_refl _⟩, ⟨by (with_reducible repeat (first | refine blk_drewN ?_ _ | refine blk_drew ?_ | refine blk_alloc ?_ _)); exact BK260.out⟩, ⟨by (with_reducible repeat (first | refine blk_drewN ?_ _ | refine blk_drew ?_ | refine blk_alloc ?_ _)); exact BK267.out⟩, ⟨by (with_reducible repeat (first | refine blk_drewN ?_ _ | refine blk_drew ?_ | refine blk_alloc ?_ _)); exact BK273.out⟩, ⟨by (with_reducible repeat (first | refine blk_drewN ?_ _ | refine blk_drew ?_ | refine blk_alloc ?_ _)); exact BK279.out⟩, ⟨by (with_reducible repeat (first | refine blk_drewN ?_ _ | refine blk_drew ?_ | refine blk_alloc ?_ _)); exact BK285.out⟩, ⟨by (with_reducible repeat (first | refine blk_drewN ?_ _ | refine blk_drew ?_ | refine blk_alloc ?_ _)); exact BK291.out⟩, ⟨by repeat (first | (with_reducible first | exact HB.out | apply below_alloc | apply pw_below_drewN | apply below_drew1 | refine below_set ?_ GE260.out | refine below_set ?_ GE267.out | refine below_set ?_ GE273.out | refine below_set ?_ GE279.out | refine below_set ?_ GE285.out | refine below_set ?_ GE291.out) | exact HB.out)⟩⟩
        · replace c57 := Bool.eq_false_iff.mpr c57
          subst c57
          have H1 : (whirligiglaw03_ShiftWorth.j1 kj9 a0 a1 t261 t262 t268 t274 t286 x18_9 0 a2_0 a2_1 a2_2 a2_3 t269 t270 t271 false t275 t276 t277 t278) = some r := by rw [if_neg (show ¬ (false = true) by decide)] at H; exact H
          clear H
          have H := H1
          clear H1
          have H' := Aside0.mk H
          clear H
          go_wp2
          go_meet
          case rel => exact ⟨_, (0), (by first | rfl | (simp; done) | (simp [*]; done)), H', ⟨by have := HJ9.out; first | omega | exact Nat.le_refl _⟩, ⟨by (with_reducible repeat (first | refine blk_drewN ?_ _ | refine blk_drew ?_ | refine blk_alloc ?_ _)); exact BK260.out⟩, ⟨by (with_reducible repeat (first | refine blk_drewN ?_ _ | refine blk_drew ?_ | refine blk_alloc ?_ _)); exact BK267.out⟩, ⟨by (with_reducible repeat (first | refine blk_drewN ?_ _ | refine blk_drew ?_ | refine blk_alloc ?_ _)); exact BK273.out⟩, ⟨by (with_reducible repeat (first | refine blk_drewN ?_ _ | refine blk_drew ?_ | refine blk_alloc ?_ _)); exact BK279.out⟩, ⟨by (with_reducible repeat (first | refine blk_drewN ?_ _ | refine blk_drew ?_ | refine blk_alloc ?_ _)); exact BK285.out⟩, ⟨by (with_reducible repeat (first | refine blk_drewN ?_ _ | refine blk_drew ?_ | refine blk_alloc ?_ _)); exact BK291.out⟩, ⟨by repeat (first | (with_reducible first | exact HB.out | apply below_alloc | apply pw_below_drewN | apply below_drew1 | refine below_set ?_ GE260.out | refine below_set ?_ GE267.out | refine below_set ?_ GE273.out | refine below_set ?_ GE279.out | refine below_set ?_ GE285.out | refine below_set ?_ GE291.out) | exact HB.out)⟩⟩
      case rest =>
        clear HC50
        try clear c1
        try clear c2
        try clear p2
        try clear c3
        try clear c4
        try clear c5
        try clear c9
        try clear c10
        try clear c11
        try clear c16
        try clear c21
        try clear c22
        try clear c27
        try clear c28
        try clear c29
        try clear c34
        try clear c35
        try clear c36
        try clear c37
        try clear c42
        try clear c43
        try clear c44
        try clear c45
        try clear c46
        try clear c49
        try clear c51
        try clear c52
        try clear c53
        try clear c54
        try clear c55
        try clear c57
        try clear hcz13_0
        try clear hcz13_1
        try clear hcz13_2
        try clear hcz13_3
        try clear hcz17_0
        try clear hcz17_1
        try clear hcz17_2
        try clear hcz17_3
        try clear hcz18_0
        try clear hcz18_1
        try clear hcz18_2
        try clear hcz18_3
        try clear hcz23_0
        try clear hcz23_1
        try clear hcz23_2
        try clear hcz23_3
        try clear hcz24_0
        try clear hcz24_1
        try clear hcz24_2
        try clear hcz24_3
        try clear hcz30_0
        try clear hcz30_1
        try clear hcz30_2
        try clear hcz30_3
        try clear hcz31_0
        try clear hcz31_1
        try clear hcz31_2
        try clear hcz31_3
        try clear hcz38_0
        try clear hcz38_1
        try clear hcz38_2
        try clear hcz38_3
        try clear hcz39_0
        try clear hcz39_1
        try clear hcz39_2
        try clear hcz39_3
        try clear hcz47_0
        try clear hcz47_1
        try clear hcz47_2
        try clear hcz47_3
        try clear hcz48_0
        try clear hcz48_1
        try clear hcz48_2
        try clear hcz48_3
        try clear hcz56_0
        try clear hcz56_1
        try clear hcz56_2
        try clear hcz56_3
        try clear hfz13_0
        try clear hfz13_1
        try clear hfz13_2
        try clear hfz13_3
        try clear hfz17_0
        try clear hfz17_1
        try clear hfz17_2
        try clear hfz17_3
        try clear hfz18_0
        try clear hfz18_1
        try clear hfz18_2
        try clear hfz18_3
        try clear hfz23_0
        try clear hfz23_1
        try clear hfz23_2
        try clear hfz23_3
        try clear hfz24_0
        try clear hfz24_1
        try clear hfz24_2
        try clear hfz24_3
        try clear hfz30_0
        try clear hfz30_1
        try clear hfz30_2
        try clear hfz30_3
        try clear hfz31_0
        try clear hfz31_1
        try clear hfz31_2
        try clear hfz31_3
        try clear hfz38_0
        try clear hfz38_1
        try clear hfz38_2
        try clear hfz38_3
        try clear hfz39_0
        try clear hfz39_1
        try clear hfz39_2
        try clear hfz39_3
        try clear hfz47_0
        try clear hfz47_1
        try clear hfz47_2
        try clear hfz47_3
        try clear hfz48_0
        try clear hfz48_1
        try clear hfz48_2
        try clear hfz48_3
        try clear hfz56_0
        try clear hfz56_1
        try clear hfz56_2
        try clear hfz56_3
        try clear p2
        obtain ⟨kq, x19_49, rfl, HA, HJ49, BK260, BK267, BK273, BK279, BK285, BK291, HB⟩ := hcut
        cases kq with
        | zero => exact absurd HA.out (by simp [whirligiglaw03_ShiftWorth.j1])
        | succ kj49 =>
          have H := HA.out
          clear HA
          simp only [whirligiglaw03_ShiftWorth.j1] at H
          replace H := Option.bind_eq_some_iff.mp H
          obtain ⟨t292, A580, H⟩ := H
          replace H : ((shift_Test.f a1 t292 a2_0 a2_1 a2_2 a2_3).bind fun bt293 => ((shift_Res.f kj49 a1 a0).bind fun t298 => ((shift_Test.f a1 t298 a2_0 a2_1 a2_2 a2_3).bind fun bt299 => (if t261 = true then (if (wrap64 ((wrap64 (t262)) + x18_9)) = (wrap64 (2 * (wrap64 (a0)))) then (if (wrap64 ((wrap64 (2 * (wrap64 (t268)))) + x19_49)) = (wrap64 (a0)) then (if (wrap64 ((wrap64 (2 * (wrap64 (IntKind.i8.wrap (t274))))) + x19_49)) = (wrap64 (IntKind.i8.wrap (a0))) then (if (t278 == t272) = true then (if t286 = a0 then (if bt293.1 = true then (some false) else (some bt299.1)) else (some false)) else (some false)) else (some false)) else (some false)) else (some false)) else (some false))))) = some r := H
          have A58 := Aside0.mk A580
          clear A580
          replace H := Option.bind_eq_some_iff.mp H
          obtain ⟨⟨t293, t294, t295, t296⟩, A590, H⟩ := H
          replace H : ((shift_Res.f kj49 a1 a0).bind fun t298 => ((shift_Test.f a1 t298 a2_0 a2_1 a2_2 a2_3).bind fun bt299 => (if t261 = true then (if (wrap64 ((wrap64 (t262)) + x18_9)) = (wrap64 (2 * (wrap64 (a0)))) then (if (wrap64 ((wrap64 (2 * (wrap64 (t268)))) + x19_49)) = (wrap64 (a0)) then (if (wrap64 ((wrap64 (2 * (wrap64 (IntKind.i8.wrap (t274))))) + x19_49)) = (wrap64 (IntKind.i8.wrap (a0))) then (if (t278 == t272) = true then (if t286 = a0 then (if t293 = true then (some false) else (some bt299.1)) else (some false)) else (some false)) else (some false)) else (some false)) else (some false)) else (some false)))) = some r := H
          have A59 := Aside0.mk A590
          clear A590
          replace H := Option.bind_eq_some_iff.mp H
          obtain ⟨t298, A600, H⟩ := H
          replace H : ((shift_Test.f a1 t298 a2_0 a2_1 a2_2 a2_3).bind fun bt299 => (if t261 = true then (if (wrap64 ((wrap64 (t262)) + x18_9)) = (wrap64 (2 * (wrap64 (a0)))) then (if (wrap64 ((wrap64 (2 * (wrap64 (t268)))) + x19_49)) = (wrap64 (a0)) then (if (wrap64 ((wrap64 (2 * (wrap64 (IntKind.i8.wrap (t274))))) + x19_49)) = (wrap64 (IntKind.i8.wrap (a0))) then (if (t278 == t272) = true then (if t286 = a0 then (if t293 = true then (some false) else (some bt299.1)) else (some false)) else (some false)) else (some false)) else (some false)) else (some false)) else (some false))) = some r := H
          have A60 := Aside0.mk A600
          clear A600
          replace H := Option.bind_eq_some_iff.mp H
          obtain ⟨⟨t299, t300, t301, t302⟩, A610, H⟩ := H
          replace H : (if t261 = true then (if (wrap64 ((wrap64 (t262)) + x18_9)) = (wrap64 (2 * (wrap64 (a0)))) then (if (wrap64 ((wrap64 (2 * (wrap64 (t268)))) + x19_49)) = (wrap64 (a0)) then (if (wrap64 ((wrap64 (2 * (wrap64 (IntKind.i8.wrap (t274))))) + x19_49)) = (wrap64 (IntKind.i8.wrap (a0))) then (if (t278 == t272) = true then (if t286 = a0 then (if t293 = true then (some false) else (some t299)) else (some false)) else (some false)) else (some false)) else (some false)) else (some false)) else (some false)) = some r := H
          have A61 := Aside0.mk A610
          clear A610
          by_cases c62 : t261 = true
          · subst c62
            have H1 : (if (wrap64 ((wrap64 (t262)) + x18_9)) = (wrap64 (2 * (wrap64 (a0)))) then (if (wrap64 ((wrap64 (2 * (wrap64 (t268)))) + x19_49)) = (wrap64 (a0)) then (if (wrap64 ((wrap64 (2 * (wrap64 (IntKind.i8.wrap (t274))))) + x19_49)) = (wrap64 (IntKind.i8.wrap (a0))) then (if (t278 == t272) = true then (if t286 = a0 then (if t293 = true then (some false) else (some t299)) else (some false)) else (some false)) else (some false)) else (some false)) else (some false)) = some r := by rw [if_pos rfl] at H; exact H
            clear H
            have H := H1
            clear H1
            by_cases c63 : (wrap64 ((wrap64 (t262)) + x18_9)) = (wrap64 (2 * (wrap64 (a0))))
            · rw [if_pos c63] at H
              have c63b0 : ((wrap64 ((wrap64 (t262)) + x18_9)) == (wrap64 (2 * (wrap64 (a0))))) = true := beq_iff_eq.mpr c63
              have c63b1 : ((wrap64 ((wrap64 (t262)) + x18_9)) != (wrap64 (2 * (wrap64 (a0))))) = false := bne_eq_false_iff_eq.mpr c63
              clear c63
              by_cases c64 : (wrap64 ((wrap64 (2 * (wrap64 (t268)))) + x19_49)) = (wrap64 (a0))
              · rw [if_pos c64] at H
                have c64b0 : ((wrap64 ((wrap64 (2 * (wrap64 (t268)))) + x19_49)) == (wrap64 (a0))) = true := beq_iff_eq.mpr c64
                have c64b1 : ((wrap64 ((wrap64 (2 * (wrap64 (t268)))) + x19_49)) != (wrap64 (a0))) = false := bne_eq_false_iff_eq.mpr c64
                clear c64
                by_cases c65 : (wrap64 ((wrap64 (2 * (wrap64 (IntKind.i8.wrap (t274))))) + x19_49)) = (wrap64 (IntKind.i8.wrap (a0)))
                · rw [if_pos c65] at H
                  have c65b0 : ((wrap64 ((wrap64 (2 * (wrap64 (IntKind.i8.wrap (t274))))) + x19_49)) == (wrap64 (IntKind.i8.wrap (a0)))) = true := beq_iff_eq.mpr c65
                  have c65b1 : ((wrap64 ((wrap64 (2 * (wrap64 (IntKind.i8.wrap (t274))))) + x19_49)) != (wrap64 (IntKind.i8.wrap (a0)))) = false := bne_eq_false_iff_eq.mpr c65
                  clear c65
                  by_cases c66 : (t278 == t272) = true
                  · rw [if_pos c66] at H
                    have c66b0 : (t278 == t272) = true := c66
                    (try (have c66b1 : decide (t278 = t272) = true := by simpa using c66))
                    (try (have c66b2 : (t278 == t272) = true := by simpa using c66))
                    clear c66
                    by_cases c67 : t286 = a0
                    · rw [if_pos c67] at H
                      have c67b0 : (t286 == a0) = true := beq_iff_eq.mpr c67
                      have c67b1 : (t286 != a0) = false := bne_eq_false_iff_eq.mpr c67
                      clear c67
                      by_cases c68 : t293 = true
                      · subst c68
                        have H1 : (some false) = some r := by rw [if_pos rfl] at H; exact H
                        clear H
                        have H := H1
                        clear H1
                        exact absurd ((Option.some.inj H).trans HT.out) (by simp)
                      · replace c68 := Bool.eq_false_iff.mpr c68
                        subst c68
                        have H1 : (some t299) = some r := by rw [if_neg (show ¬ (false = true) by decide)] at H; exact H
                        clear H
                        have H := H1
                        clear H1
                        obtain rfl := Option.some.inj H
                        try go_wp2
                        have n0_ := Aside0.mk (blk_drew BK260.out)
                        have n1_ := Aside0.mk (blk_drew BK267.out)
                        have n2_ := Aside0.mk (blk_drew BK273.out)
                        have n3_ := Aside0.mk (blk_drew BK279.out)
                        have n4_ := Aside0.mk (blk_drew BK285.out)
                        have n5_ := Aside0.mk (blk_drew BK291.out)
                        have n6_ := Aside0.mk (below_drew1 HB.out)
                        clear BK260
                        clear BK267
                        clear BK273
                        clear BK279
                        clear BK285
                        clear BK291
                        clear HB
                        have BK260 := n0_
                        have BK267 := n1_
                        have BK273 := n2_
                        have BK279 := n3_
                        have BK285 := n4_
                        have BK291 := n5_
                        have HB := n6_
                        clear n0_ n1_ n2_ n3_ n4_ n5_ n6_
                        refine start_ (n := 8) (S := fun w' => w'.cell? ⟨gb260, 0, none⟩ = some (.bool a2_0) ∧ w'.cell? ⟨gb260, 1, none⟩ = some (.bool a2_1) ∧ w'.cell? ⟨gb260, 2, none⟩ = some (.bool a2_2) ∧ w'.cell? ⟨gb260, 3, none⟩ = some (.bool a2_3)) (ds := []) #[false, false, false, false, false, false, false, false] (by kernel_rfl) rfl rfl ⟨(blk_cell BK260.out 0).trans rfl, (blk_cell BK260.out 1).trans rfl, (blk_cell BK260.out 2).trans rfl, (blk_cell BK260.out 3).trans rfl⟩ (fun hHeld => ?_); refine with_tabW whirligiglaw03_ShiftWorth.tab13 whirligiglaw03_ShiftWorth.bits13 (fun HT_ HW_ => ?_)
                        generalize wc.drew = w107 at BK260 BK267 BK273 BK279 BK285 BK291 HB hHeld ⊢
                        refine pure_ (i := 0) (N := some 57) (v := ?_) (a' := ?_) #[true, false, false, false, false, false, false, false] rfl rfl (any_of HT_.out (by kernel_rfl)) (fun _ _ _ h => h) (Or.inl ⟨by rfl, ?_⟩) ?_ ?_
                        rotate_left
                        · intro w'
                          go_simp
                          with_reducible rfl
                        rotate_left
                        · simp only [Act.put, List.setIfInBounds_toArray, List.set_cons_zero, List.set_cons_succ, i64_w, i32_w]
                          rfl
                        refine pure_ (i := 1) (N := some 58) (v := ?_) (a' := ?_) #[true, true, false, false, false, false, false, false] rfl rfl (any_of HT_.out (by kernel_rfl)) (fun _ _ _ h => h) (Or.inl ⟨by rfl, ?_⟩) ?_ ?_
                        rotate_left
                        · intro w'
                          go_simp
                          with_reducible rfl
                        rotate_left
                        · simp only [Act.put, List.setIfInBounds_toArray, List.set_cons_zero, List.set_cons_succ, i64_w, i32_w]
                          rfl
                        refine pure_ (i := 2) (N := some 59) (v := ?_) (a' := ?_) #[true, true, true, false, false, false, false, false] rfl rfl (any_of HT_.out (by kernel_rfl)) (fun _ _ _ h => h) (Or.inl ⟨by rfl, ?_⟩) ?_ ?_
                        rotate_left
                        · intro w'
                          go_simp
                          with_reducible rfl
                        rotate_left
                        · simp only [Act.put, List.setIfInBounds_toArray, List.set_cons_zero, List.set_cons_succ, i64_w, i32_w]
                          rfl
                        refine take_ (i := 4) (N := some 61) (v := ?_) (a' := ?_) #[true, true, true, false, true, false, false, false] rfl rfl (take_ofW HT_.out HW_.out (by kernel_rfl)) (fun _ _ _ h => h) (Or.inl ⟨by rfl, ?_⟩) hHeld ?_ ?_
                        rotate_left
                        · rintro w' ⟨s0, s1, s2, s3⟩
                          go_simp
                          with_reducible rfl
                        rotate_left
                        · simp only [Act.put, List.setIfInBounds_toArray, List.set_cons_zero, List.set_cons_succ, i64_w, i32_w]
                          rfl
                        refine join_ (σ := Nat) 1 #[true, true, true, true, true, true, true, false] (fun s_ => [(60, .int .u8 t292), (62, .agg #[.bool false, .bool t294, .bool t295, .bool t296]), (20, .pointer (some ⟨s_, 0, none⟩))]) (fun s_ w' => (w'.cell? ⟨gb260, 0, none⟩ = some (.bool a2_0) ∧ w'.cell? ⟨gb260, 1, none⟩ = some (.bool a2_1) ∧ w'.cell? ⟨gb260, 2, none⟩ = some (.bool a2_2) ∧ w'.cell? ⟨gb260, 3, none⟩ = some (.bool a2_3)) ∧ (w'.heap[gb260]? = some (.cells #[.bool a2_0, .bool a2_1, .bool a2_2, .bool a2_3] 23 (0, 0))) ∧ (w'.heap[gb267]? = some (.cells #[.bool t263, .bool t264, .bool t265, .bool t266] 23 (0, 0))) ∧ (w'.heap[gb273]? = some (.cells #[.bool t269, .bool t270, .bool t271, .bool t272] 23 (0, 0))) ∧ (w'.heap[gb279]? = some (.cells #[.bool t275, .bool t276, .bool t277, .bool t278] 23 (0, 0))) ∧ (w'.heap[gb285]? = some (.cells #[.bool t281, .bool t282, .bool t283, .bool t284] 23 (0, 0))) ∧ (w'.heap[gb291]? = some (.cells #[.bool t287, .bool t288, .bool t289, .bool t290] 23 (0, 0))) ∧ (w'.heap[s_]? = some (.cells #[.bool false, .bool false, .bool false, .bool false] 23 (0, 0))) ∧ (w.heap.size ≤ s_) ∧ (w.heap.size ≤ s_) ∧ (gb260 ≠ s_) ∧ (s_ ≠ gb260) ∧ (gb267 ≠ s_) ∧ (s_ ≠ gb267) ∧ (gb273 ≠ s_) ∧ (s_ ≠ gb273) ∧ (gb279 ≠ s_) ∧ (s_ ≠ gb279) ∧ (gb285 ≠ s_) ∧ (s_ ≠ gb285) ∧ (gb291 ≠ s_) ∧ (s_ ≠ gb291) ∧ (Below w.heap.size w w')) ?_ ?_
                        rotate_left
                        · intro hCont
                          refine two_ (i := 3) (j := 6) (Ni := some 60) (Nj := some 20) #[true, true, true, true, true, false, false, false] #[true, true, true, false, true, false, true, false] rfl rfl rfl rfl (two_of HT_.out (by kernel_rfl)) (by decide) (by decide) (fun K hK => ?_) (fun K hK => ?_)
                          · skip
                            refine goes_ Try.func19 (by kernel_rfl) rfl #[.int .i64 a1, .int .u8 a0] (by rfl) rfl rfl (by (try simp only [List.map_toArray, List.map_cons, List.map_nil]); first | done | rfl | (simp only [List.length_drop, List.length_take]; rfl)) ?_
                            with_reducible refine (shift_Set.calls kj49 a1 a0 t292 _ A58.out).mono ?_
                            rintro e w' ⟨rfl, ⟨nd, rfl⟩⟩
                            refine ⟨_, rfl, ?_⟩
                            refine hK.out _ _ ⟨(blk_cell BK260.out 0).trans rfl, (blk_cell BK260.out 1).trans rfl, (blk_cell BK260.out 2).trans rfl, (blk_cell BK260.out 3).trans rfl⟩ (fun hHeld => ?_)
                            clear hK K
                            refine norm_ (a' := ?_) ?_ ?_
                            rotate_left
                            · show Act.put _ (some 60) _ = _
                              simp only [Act.put, List.setIfInBounds_toArray, List.set_cons_zero, List.set_cons_succ, i64_w, i32_w]
                              rfl
                            refine two_ (i := 5) (j := 6) (Ni := some 62) (Nj := some 20) #[true, true, true, true, true, true, false, false] #[true, true, true, true, true, false, true, false] rfl rfl rfl rfl (two_of HT_.out (by kernel_rfl)) (by decide) (by decide) (fun K hK => ?_) (fun K hK => ?_)
                            · skip
                              refine goes_ Try.func15 (by kernel_rfl) rfl #[.int .i64 a1, .int .u8 t292, .agg #[.bool a2_0, .bool a2_1, .bool a2_2, .bool a2_3]] (by rfl) rfl rfl (by (try simp only [List.map_toArray, List.map_cons, List.map_nil]); first | done | rfl | (simp only [List.length_drop, List.length_take]; rfl)) ?_
                              with_reducible refine (shift_Test.calls a1 t292 a2_0 a2_1 a2_2 a2_3 false t294 t295 t296 _ A59.out).mono ?_
                              rintro e w108 ⟨rfl, hb⟩
                              refine ⟨_, rfl, ?_⟩
                              have n0_ := Aside0.mk (blk_below (g := gb260) (o := .cells #[.bool a2_0, .bool a2_1, .bool a2_2, .bool a2_3] 23 (0, 0)) (by (with_reducible repeat (first | refine blk_drewN ?_ _ | refine blk_drew ?_ | refine blk_alloc ?_ _)); exact BK260.out) hb)
                              have n1_ := Aside0.mk (blk_below (g := gb267) (o := .cells #[.bool t263, .bool t264, .bool t265, .bool t266] 23 (0, 0)) (by (with_reducible repeat (first | refine blk_drewN ?_ _ | refine blk_drew ?_ | refine blk_alloc ?_ _)); exact BK267.out) hb)
                              have n2_ := Aside0.mk (blk_below (g := gb273) (o := .cells #[.bool t269, .bool t270, .bool t271, .bool t272] 23 (0, 0)) (by (with_reducible repeat (first | refine blk_drewN ?_ _ | refine blk_drew ?_ | refine blk_alloc ?_ _)); exact BK273.out) hb)
                              have n3_ := Aside0.mk (blk_below (g := gb279) (o := .cells #[.bool t275, .bool t276, .bool t277, .bool t278] 23 (0, 0)) (by (with_reducible repeat (first | refine blk_drewN ?_ _ | refine blk_drew ?_ | refine blk_alloc ?_ _)); exact BK279.out) hb)
                              have n4_ := Aside0.mk (blk_below (g := gb285) (o := .cells #[.bool t281, .bool t282, .bool t283, .bool t284] 23 (0, 0)) (by (with_reducible repeat (first | refine blk_drewN ?_ _ | refine blk_drew ?_ | refine blk_alloc ?_ _)); exact BK285.out) hb)
                              have n5_ := Aside0.mk (blk_below (g := gb291) (o := .cells #[.bool t287, .bool t288, .bool t289, .bool t290] 23 (0, 0)) (by (with_reducible repeat (first | refine blk_drewN ?_ _ | refine blk_drew ?_ | refine blk_alloc ?_ _)); exact BK291.out) hb)
                              have n6_ := Aside0.mk (below_step (by repeat (first | (with_reducible first | exact HB.out | apply below_alloc | apply pw_below_drewN | apply below_drew1 | refine below_set ?_ GE260.out | refine below_set ?_ GE267.out | refine below_set ?_ GE273.out | refine below_set ?_ GE279.out | refine below_set ?_ GE285.out | refine below_set ?_ GE291.out) | exact HB.out)) hb)
                              clear BK260
                              clear BK267
                              clear BK273
                              clear BK279
                              clear BK285
                              clear BK291
                              clear HB
                              have BK260 := n0_
                              have BK267 := n1_
                              have BK273 := n2_
                              have BK279 := n3_
                              have BK285 := n4_
                              have BK291 := n5_
                              have HB := n6_
                              clear n0_ n1_ n2_ n3_ n4_ n5_ n6_
                              (try clear hb)
                              (try clear hb2)
                              (try clear hk)
                              (try clear hi)
                              refine hK.out _ _ ⟨(blk_cell BK260.out 0).trans rfl, (blk_cell BK260.out 1).trans rfl, (blk_cell BK260.out 2).trans rfl, (blk_cell BK260.out 3).trans rfl⟩ (fun hHeld => ?_)
                              clear hK K
                              refine norm_ (a' := ?_) ?_ ?_
                              rotate_left
                              · show Act.put _ (some 62) _ = _
                                simp only [Act.put, List.setIfInBounds_toArray, List.set_cons_zero, List.set_cons_succ, i64_w, i32_w]
                                rfl
                              refine one_ (i := 6) (N := some 20) #[true, true, true, true, true, true, true, false] rfl rfl (one_of HT_.out (by kernel_rfl)) (by decide) (fun K hK => ?_)
                              refine box_step ?hg (N := 20) ?hd (cs := #[.bool false, .bool false, .bool false, .bool false]) (t := 23) ?hr ?_; (case hd => rfl); (case hg => rfl); (case hr => first | (go_simp; done) | (go_simp; rfl))
                              intro gb297 hg w109 hbox hb
                              have n0_ := Aside0.mk (blk_below (g := gb260) (o := .cells #[.bool a2_0, .bool a2_1, .bool a2_2, .bool a2_3] 23 (0, 0)) (by (with_reducible repeat (first | refine blk_drewN ?_ _ | refine blk_drew ?_ | refine blk_alloc ?_ _)); exact BK260.out) hb)
                              have n1_ := Aside0.mk (blk_below (g := gb267) (o := .cells #[.bool t263, .bool t264, .bool t265, .bool t266] 23 (0, 0)) (by (with_reducible repeat (first | refine blk_drewN ?_ _ | refine blk_drew ?_ | refine blk_alloc ?_ _)); exact BK267.out) hb)
                              have n2_ := Aside0.mk (blk_below (g := gb273) (o := .cells #[.bool t269, .bool t270, .bool t271, .bool t272] 23 (0, 0)) (by (with_reducible repeat (first | refine blk_drewN ?_ _ | refine blk_drew ?_ | refine blk_alloc ?_ _)); exact BK273.out) hb)
                              have n3_ := Aside0.mk (blk_below (g := gb279) (o := .cells #[.bool t275, .bool t276, .bool t277, .bool t278] 23 (0, 0)) (by (with_reducible repeat (first | refine blk_drewN ?_ _ | refine blk_drew ?_ | refine blk_alloc ?_ _)); exact BK279.out) hb)
                              have n4_ := Aside0.mk (blk_below (g := gb285) (o := .cells #[.bool t281, .bool t282, .bool t283, .bool t284] 23 (0, 0)) (by (with_reducible repeat (first | refine blk_drewN ?_ _ | refine blk_drew ?_ | refine blk_alloc ?_ _)); exact BK285.out) hb)
                              have n5_ := Aside0.mk (blk_below (g := gb291) (o := .cells #[.bool t287, .bool t288, .bool t289, .bool t290] 23 (0, 0)) (by (with_reducible repeat (first | refine blk_drewN ?_ _ | refine blk_drew ?_ | refine blk_alloc ?_ _)); exact BK291.out) hb)
                              have n6_ := Aside0.mk (below_step (by repeat (first | (with_reducible first | exact HB.out | apply below_alloc | apply pw_below_drewN | apply below_drew1 | refine below_set ?_ GE260.out | refine below_set ?_ GE267.out | refine below_set ?_ GE273.out | refine below_set ?_ GE279.out | refine below_set ?_ GE285.out | refine below_set ?_ GE291.out) | exact HB.out)) hb)
                              have n7_ := Aside0.mk (hbox)
                              have n8_ := Aside0.mk ((by rw [hg]; exact (below_size (by repeat (first | (with_reducible first | exact HB.out | apply below_alloc | apply pw_below_drewN | apply below_drew1 | refine below_set ?_ GE260.out | refine below_set ?_ GE267.out | refine below_set ?_ GE273.out | refine below_set ?_ GE279.out | refine below_set ?_ GE285.out | refine below_set ?_ GE291.out) | exact HB.out))) : w.heap.size ≤ gb297))
                              have n9_ := Aside0.mk ((by rw [hg]; exact (below_size (by repeat (first | (with_reducible first | exact HB.out | apply below_alloc | apply pw_below_drewN | apply below_drew1 | refine below_set ?_ GE260.out | refine below_set ?_ GE267.out | refine below_set ?_ GE273.out | refine below_set ?_ GE279.out | refine below_set ?_ GE285.out | refine below_set ?_ GE291.out) | exact HB.out))) : w.heap.size ≤ gb297))
                              have n10_ := Aside0.mk ((by rw [hg]; exact Nat.ne_of_lt (blk_lt (g := gb260) (o := .cells #[.bool a2_0, .bool a2_1, .bool a2_2, .bool a2_3] 23 (0, 0)) (by (with_reducible repeat (first | refine blk_drewN ?_ _ | refine blk_drew ?_ | refine blk_alloc ?_ _)); exact BK260.out)) : gb260 ≠ gb297))
                              have n11_ := Aside0.mk ((by rw [hg]; exact Nat.ne_of_gt (blk_lt (g := gb260) (o := .cells #[.bool a2_0, .bool a2_1, .bool a2_2, .bool a2_3] 23 (0, 0)) (by (with_reducible repeat (first | refine blk_drewN ?_ _ | refine blk_drew ?_ | refine blk_alloc ?_ _)); exact BK260.out)) : gb297 ≠ gb260))
                              have n12_ := Aside0.mk ((by rw [hg]; exact Nat.ne_of_lt (blk_lt (g := gb267) (o := .cells #[.bool t263, .bool t264, .bool t265, .bool t266] 23 (0, 0)) (by (with_reducible repeat (first | refine blk_drewN ?_ _ | refine blk_drew ?_ | refine blk_alloc ?_ _)); exact BK267.out)) : gb267 ≠ gb297))
                              have n13_ := Aside0.mk ((by rw [hg]; exact Nat.ne_of_gt (blk_lt (g := gb267) (o := .cells #[.bool t263, .bool t264, .bool t265, .bool t266] 23 (0, 0)) (by (with_reducible repeat (first | refine blk_drewN ?_ _ | refine blk_drew ?_ | refine blk_alloc ?_ _)); exact BK267.out)) : gb297 ≠ gb267))
                              have n14_ := Aside0.mk ((by rw [hg]; exact Nat.ne_of_lt (blk_lt (g := gb273) (o := .cells #[.bool t269, .bool t270, .bool t271, .bool t272] 23 (0, 0)) (by (with_reducible repeat (first | refine blk_drewN ?_ _ | refine blk_drew ?_ | refine blk_alloc ?_ _)); exact BK273.out)) : gb273 ≠ gb297))
                              have n15_ := Aside0.mk ((by rw [hg]; exact Nat.ne_of_gt (blk_lt (g := gb273) (o := .cells #[.bool t269, .bool t270, .bool t271, .bool t272] 23 (0, 0)) (by (with_reducible repeat (first | refine blk_drewN ?_ _ | refine blk_drew ?_ | refine blk_alloc ?_ _)); exact BK273.out)) : gb297 ≠ gb273))
                              have n16_ := Aside0.mk ((by rw [hg]; exact Nat.ne_of_lt (blk_lt (g := gb279) (o := .cells #[.bool t275, .bool t276, .bool t277, .bool t278] 23 (0, 0)) (by (with_reducible repeat (first | refine blk_drewN ?_ _ | refine blk_drew ?_ | refine blk_alloc ?_ _)); exact BK279.out)) : gb279 ≠ gb297))
                              have n17_ := Aside0.mk ((by rw [hg]; exact Nat.ne_of_gt (blk_lt (g := gb279) (o := .cells #[.bool t275, .bool t276, .bool t277, .bool t278] 23 (0, 0)) (by (with_reducible repeat (first | refine blk_drewN ?_ _ | refine blk_drew ?_ | refine blk_alloc ?_ _)); exact BK279.out)) : gb297 ≠ gb279))
                              have n18_ := Aside0.mk ((by rw [hg]; exact Nat.ne_of_lt (blk_lt (g := gb285) (o := .cells #[.bool t281, .bool t282, .bool t283, .bool t284] 23 (0, 0)) (by (with_reducible repeat (first | refine blk_drewN ?_ _ | refine blk_drew ?_ | refine blk_alloc ?_ _)); exact BK285.out)) : gb285 ≠ gb297))
                              have n19_ := Aside0.mk ((by rw [hg]; exact Nat.ne_of_gt (blk_lt (g := gb285) (o := .cells #[.bool t281, .bool t282, .bool t283, .bool t284] 23 (0, 0)) (by (with_reducible repeat (first | refine blk_drewN ?_ _ | refine blk_drew ?_ | refine blk_alloc ?_ _)); exact BK285.out)) : gb297 ≠ gb285))
                              have n20_ := Aside0.mk ((by rw [hg]; exact Nat.ne_of_lt (blk_lt (g := gb291) (o := .cells #[.bool t287, .bool t288, .bool t289, .bool t290] 23 (0, 0)) (by (with_reducible repeat (first | refine blk_drewN ?_ _ | refine blk_drew ?_ | refine blk_alloc ?_ _)); exact BK291.out)) : gb291 ≠ gb297))
                              have n21_ := Aside0.mk ((by rw [hg]; exact Nat.ne_of_gt (blk_lt (g := gb291) (o := .cells #[.bool t287, .bool t288, .bool t289, .bool t290] 23 (0, 0)) (by (with_reducible repeat (first | refine blk_drewN ?_ _ | refine blk_drew ?_ | refine blk_alloc ?_ _)); exact BK291.out)) : gb297 ≠ gb291))
                              clear BK260
                              clear BK267
                              clear BK273
                              clear BK279
                              clear BK285
                              clear BK291
                              clear HB
                              have BK260 := n0_
                              have BK267 := n1_
                              have BK273 := n2_
                              have BK279 := n3_
                              have BK285 := n4_
                              have BK291 := n5_
                              have HB := n6_
                              have BK297 := n7_
                              have GW297 := n8_
                              have GE297 := n9_
                              have NB260_297 := n10_
                              have NB297_260 := n11_
                              have NB267_297 := n12_
                              have NB297_267 := n13_
                              have NB273_297 := n14_
                              have NB297_273 := n15_
                              have NB279_297 := n16_
                              have NB297_279 := n17_
                              have NB285_297 := n18_
                              have NB297_285 := n19_
                              have NB291_297 := n20_
                              have NB297_291 := n21_
                              clear n0_ n1_ n2_ n3_ n4_ n5_ n6_ n7_ n8_ n9_ n10_ n11_ n12_ n13_ n14_ n15_ n16_ n17_ n18_ n19_ n20_ n21_
                              clear hb hbox hg
                              refine hK.out _ _ ⟨(blk_cell BK260.out 0).trans rfl, (blk_cell BK260.out 1).trans rfl, (blk_cell BK260.out 2).trans rfl, (blk_cell BK260.out 3).trans rfl⟩ (fun hHeld => ?_)
                              clear hK K
                              refine norm_ (a' := ?_) ?_ ?_
                              rotate_left
                              · show Act.put _ (some 20) _ = _
                                simp only [Act.put, List.setIfInBounds_toArray, List.set_cons_zero, List.set_cons_succ, i64_w, i32_w]
                                rfl
                              exact norm_ (by simp only [putAll, Act.put, List.setIfInBounds_toArray, List.set_cons_zero, List.set_cons_succ]) (hCont (gb297) _ ⟨hHeld, (by (with_reducible repeat (first | refine blk_drewN ?_ _ | refine blk_drew ?_ | refine blk_alloc ?_ _)); exact BK260.out), (by (with_reducible repeat (first | refine blk_drewN ?_ _ | refine blk_drew ?_ | refine blk_alloc ?_ _)); exact BK267.out), (by (with_reducible repeat (first | refine blk_drewN ?_ _ | refine blk_drew ?_ | refine blk_alloc ?_ _)); exact BK273.out), (by (with_reducible repeat (first | refine blk_drewN ?_ _ | refine blk_drew ?_ | refine blk_alloc ?_ _)); exact BK279.out), (by (with_reducible repeat (first | refine blk_drewN ?_ _ | refine blk_drew ?_ | refine blk_alloc ?_ _)); exact BK285.out), (by (with_reducible repeat (first | refine blk_drewN ?_ _ | refine blk_drew ?_ | refine blk_alloc ?_ _)); exact BK291.out), (by (with_reducible repeat (first | refine blk_drewN ?_ _ | refine blk_drew ?_ | refine blk_alloc ?_ _)); exact BK297.out), GW297.out, GE297.out, NB260_297.out, NB297_260.out, NB267_297.out, NB297_267.out, NB273_297.out, NB297_273.out, NB279_297.out, NB297_279.out, NB285_297.out, NB297_285.out, NB291_297.out, NB297_291.out, (by repeat (first | (with_reducible first | exact HB.out | apply below_alloc | apply pw_below_drewN | apply below_drew1 | refine below_set ?_ GE260.out | refine below_set ?_ GE267.out | refine below_set ?_ GE273.out | refine below_set ?_ GE279.out | refine below_set ?_ GE285.out | refine below_set ?_ GE291.out | refine below_set ?_ GE297.out) | exact HB.out))⟩)
                            · skip
                              refine box_step ?hg (N := 20) ?hd (cs := #[.bool false, .bool false, .bool false, .bool false]) (t := 23) ?hr ?_; (case hd => rfl); (case hg => rfl); (case hr => first | (go_simp; done) | (go_simp; rfl))
                              intro gb297 hg w108 hbox hb
                              have n0_ := Aside0.mk (blk_below (g := gb260) (o := .cells #[.bool a2_0, .bool a2_1, .bool a2_2, .bool a2_3] 23 (0, 0)) (by (with_reducible repeat (first | refine blk_drewN ?_ _ | refine blk_drew ?_ | refine blk_alloc ?_ _)); exact BK260.out) hb)
                              have n1_ := Aside0.mk (blk_below (g := gb267) (o := .cells #[.bool t263, .bool t264, .bool t265, .bool t266] 23 (0, 0)) (by (with_reducible repeat (first | refine blk_drewN ?_ _ | refine blk_drew ?_ | refine blk_alloc ?_ _)); exact BK267.out) hb)
                              have n2_ := Aside0.mk (blk_below (g := gb273) (o := .cells #[.bool t269, .bool t270, .bool t271, .bool t272] 23 (0, 0)) (by (with_reducible repeat (first | refine blk_drewN ?_ _ | refine blk_drew ?_ | refine blk_alloc ?_ _)); exact BK273.out) hb)
                              have n3_ := Aside0.mk (blk_below (g := gb279) (o := .cells #[.bool t275, .bool t276, .bool t277, .bool t278] 23 (0, 0)) (by (with_reducible repeat (first | refine blk_drewN ?_ _ | refine blk_drew ?_ | refine blk_alloc ?_ _)); exact BK279.out) hb)
                              have n4_ := Aside0.mk (blk_below (g := gb285) (o := .cells #[.bool t281, .bool t282, .bool t283, .bool t284] 23 (0, 0)) (by (with_reducible repeat (first | refine blk_drewN ?_ _ | refine blk_drew ?_ | refine blk_alloc ?_ _)); exact BK285.out) hb)
                              have n5_ := Aside0.mk (blk_below (g := gb291) (o := .cells #[.bool t287, .bool t288, .bool t289, .bool t290] 23 (0, 0)) (by (with_reducible repeat (first | refine blk_drewN ?_ _ | refine blk_drew ?_ | refine blk_alloc ?_ _)); exact BK291.out) hb)
                              have n6_ := Aside0.mk (below_step (by repeat (first | (with_reducible first | exact HB.out | apply below_alloc | apply pw_below_drewN | apply below_drew1 | refine below_set ?_ GE260.out | refine below_set ?_ GE267.out | refine below_set ?_ GE273.out | refine below_set ?_ GE279.out | refine below_set ?_ GE285.out | refine below_set ?_ GE291.out) | exact HB.out)) hb)
                              have n7_ := Aside0.mk (hbox)
                              have n8_ := Aside0.mk ((by rw [hg]; exact (below_size (by repeat (first | (with_reducible first | exact HB.out | apply below_alloc | apply pw_below_drewN | apply below_drew1 | refine below_set ?_ GE260.out | refine below_set ?_ GE267.out | refine below_set ?_ GE273.out | refine below_set ?_ GE279.out | refine below_set ?_ GE285.out | refine below_set ?_ GE291.out) | exact HB.out))) : w.heap.size ≤ gb297))
                              have n9_ := Aside0.mk ((by rw [hg]; exact (below_size (by repeat (first | (with_reducible first | exact HB.out | apply below_alloc | apply pw_below_drewN | apply below_drew1 | refine below_set ?_ GE260.out | refine below_set ?_ GE267.out | refine below_set ?_ GE273.out | refine below_set ?_ GE279.out | refine below_set ?_ GE285.out | refine below_set ?_ GE291.out) | exact HB.out))) : w.heap.size ≤ gb297))
                              have n10_ := Aside0.mk ((by rw [hg]; exact Nat.ne_of_lt (blk_lt (g := gb260) (o := .cells #[.bool a2_0, .bool a2_1, .bool a2_2, .bool a2_3] 23 (0, 0)) (by (with_reducible repeat (first | refine blk_drewN ?_ _ | refine blk_drew ?_ | refine blk_alloc ?_ _)); exact BK260.out)) : gb260 ≠ gb297))
                              have n11_ := Aside0.mk ((by rw [hg]; exact Nat.ne_of_gt (blk_lt (g := gb260) (o := .cells #[.bool a2_0, .bool a2_1, .bool a2_2, .bool a2_3] 23 (0, 0)) (by (with_reducible repeat (first | refine blk_drewN ?_ _ | refine blk_drew ?_ | refine blk_alloc ?_ _)); exact BK260.out)) : gb297 ≠ gb260))
                              have n12_ := Aside0.mk ((by rw [hg]; exact Nat.ne_of_lt (blk_lt (g := gb267) (o := .cells #[.bool t263, .bool t264, .bool t265, .bool t266] 23 (0, 0)) (by (with_reducible repeat (first | refine blk_drewN ?_ _ | refine blk_drew ?_ | refine blk_alloc ?_ _)); exact BK267.out)) : gb267 ≠ gb297))
                              have n13_ := Aside0.mk ((by rw [hg]; exact Nat.ne_of_gt (blk_lt (g := gb267) (o := .cells #[.bool t263, .bool t264, .bool t265, .bool t266] 23 (0, 0)) (by (with_reducible repeat (first | refine blk_drewN ?_ _ | refine blk_drew ?_ | refine blk_alloc ?_ _)); exact BK267.out)) : gb297 ≠ gb267))
                              have n14_ := Aside0.mk ((by rw [hg]; exact Nat.ne_of_lt (blk_lt (g := gb273) (o := .cells #[.bool t269, .bool t270, .bool t271, .bool t272] 23 (0, 0)) (by (with_reducible repeat (first | refine blk_drewN ?_ _ | refine blk_drew ?_ | refine blk_alloc ?_ _)); exact BK273.out)) : gb273 ≠ gb297))
                              have n15_ := Aside0.mk ((by rw [hg]; exact Nat.ne_of_gt (blk_lt (g := gb273) (o := .cells #[.bool t269, .bool t270, .bool t271, .bool t272] 23 (0, 0)) (by (with_reducible repeat (first | refine blk_drewN ?_ _ | refine blk_drew ?_ | refine blk_alloc ?_ _)); exact BK273.out)) : gb297 ≠ gb273))
                              have n16_ := Aside0.mk ((by rw [hg]; exact Nat.ne_of_lt (blk_lt (g := gb279) (o := .cells #[.bool t275, .bool t276, .bool t277, .bool t278] 23 (0, 0)) (by (with_reducible repeat (first | refine blk_drewN ?_ _ | refine blk_drew ?_ | refine blk_alloc ?_ _)); exact BK279.out)) : gb279 ≠ gb297))
                              have n17_ := Aside0.mk ((by rw [hg]; exact Nat.ne_of_gt (blk_lt (g := gb279) (o := .cells #[.bool t275, .bool t276, .bool t277, .bool t278] 23 (0, 0)) (by (with_reducible repeat (first | refine blk_drewN ?_ _ | refine blk_drew ?_ | refine blk_alloc ?_ _)); exact BK279.out)) : gb297 ≠ gb279))
                              have n18_ := Aside0.mk ((by rw [hg]; exact Nat.ne_of_lt (blk_lt (g := gb285) (o := .cells #[.bool t281, .bool t282, .bool t283, .bool t284] 23 (0, 0)) (by (with_reducible repeat (first | refine blk_drewN ?_ _ | refine blk_drew ?_ | refine blk_alloc ?_ _)); exact BK285.out)) : gb285 ≠ gb297))
                              have n19_ := Aside0.mk ((by rw [hg]; exact Nat.ne_of_gt (blk_lt (g := gb285) (o := .cells #[.bool t281, .bool t282, .bool t283, .bool t284] 23 (0, 0)) (by (with_reducible repeat (first | refine blk_drewN ?_ _ | refine blk_drew ?_ | refine blk_alloc ?_ _)); exact BK285.out)) : gb297 ≠ gb285))
                              have n20_ := Aside0.mk ((by rw [hg]; exact Nat.ne_of_lt (blk_lt (g := gb291) (o := .cells #[.bool t287, .bool t288, .bool t289, .bool t290] 23 (0, 0)) (by (with_reducible repeat (first | refine blk_drewN ?_ _ | refine blk_drew ?_ | refine blk_alloc ?_ _)); exact BK291.out)) : gb291 ≠ gb297))
                              have n21_ := Aside0.mk ((by rw [hg]; exact Nat.ne_of_gt (blk_lt (g := gb291) (o := .cells #[.bool t287, .bool t288, .bool t289, .bool t290] 23 (0, 0)) (by (with_reducible repeat (first | refine blk_drewN ?_ _ | refine blk_drew ?_ | refine blk_alloc ?_ _)); exact BK291.out)) : gb297 ≠ gb291))
                              clear BK260
                              clear BK267
                              clear BK273
                              clear BK279
                              clear BK285
                              clear BK291
                              clear HB
                              have BK260 := n0_
                              have BK267 := n1_
                              have BK273 := n2_
                              have BK279 := n3_
                              have BK285 := n4_
                              have BK291 := n5_
                              have HB := n6_
                              have BK297 := n7_
                              have GW297 := n8_
                              have GE297 := n9_
                              have NB260_297 := n10_
                              have NB297_260 := n11_
                              have NB267_297 := n12_
                              have NB297_267 := n13_
                              have NB273_297 := n14_
                              have NB297_273 := n15_
                              have NB279_297 := n16_
                              have NB297_279 := n17_
                              have NB285_297 := n18_
                              have NB297_285 := n19_
                              have NB291_297 := n20_
                              have NB297_291 := n21_
                              clear n0_ n1_ n2_ n3_ n4_ n5_ n6_ n7_ n8_ n9_ n10_ n11_ n12_ n13_ n14_ n15_ n16_ n17_ n18_ n19_ n20_ n21_
                              clear hb hbox hg
                              refine hK.out _ _ ⟨(blk_cell BK260.out 0).trans rfl, (blk_cell BK260.out 1).trans rfl, (blk_cell BK260.out 2).trans rfl, (blk_cell BK260.out 3).trans rfl⟩ (fun hHeld => ?_)
                              clear hK K
                              refine norm_ (a' := ?_) ?_ ?_
                              rotate_left
                              · show Act.put _ (some 20) _ = _
                                simp only [Act.put, List.setIfInBounds_toArray, List.set_cons_zero, List.set_cons_succ, i64_w, i32_w]
                                rfl
                              refine one_ (i := 5) (N := some 62) #[true, true, true, true, true, true, true, false] rfl rfl (one_of HT_.out (by kernel_rfl)) (by decide) (fun K hK => ?_)
                              refine goes_ Try.func15 (by kernel_rfl) rfl #[.int .i64 a1, .int .u8 t292, .agg #[.bool a2_0, .bool a2_1, .bool a2_2, .bool a2_3]] (by rfl) rfl rfl (by (try simp only [List.map_toArray, List.map_cons, List.map_nil]); first | done | rfl | (simp only [List.length_drop, List.length_take]; rfl)) ?_
                              with_reducible refine (shift_Test.calls a1 t292 a2_0 a2_1 a2_2 a2_3 false t294 t295 t296 _ A59.out).mono ?_
                              rintro e w109 ⟨rfl, hb⟩
                              refine ⟨_, rfl, ?_⟩
                              have n0_ := Aside0.mk (blk_below (g := gb260) (o := .cells #[.bool a2_0, .bool a2_1, .bool a2_2, .bool a2_3] 23 (0, 0)) (by (with_reducible repeat (first | refine blk_drewN ?_ _ | refine blk_drew ?_ | refine blk_alloc ?_ _)); exact BK260.out) hb)
                              have n1_ := Aside0.mk (blk_below (g := gb267) (o := .cells #[.bool t263, .bool t264, .bool t265, .bool t266] 23 (0, 0)) (by (with_reducible repeat (first | refine blk_drewN ?_ _ | refine blk_drew ?_ | refine blk_alloc ?_ _)); exact BK267.out) hb)
                              have n2_ := Aside0.mk (blk_below (g := gb273) (o := .cells #[.bool t269, .bool t270, .bool t271, .bool t272] 23 (0, 0)) (by (with_reducible repeat (first | refine blk_drewN ?_ _ | refine blk_drew ?_ | refine blk_alloc ?_ _)); exact BK273.out) hb)
                              have n3_ := Aside0.mk (blk_below (g := gb279) (o := .cells #[.bool t275, .bool t276, .bool t277, .bool t278] 23 (0, 0)) (by (with_reducible repeat (first | refine blk_drewN ?_ _ | refine blk_drew ?_ | refine blk_alloc ?_ _)); exact BK279.out) hb)
                              have n4_ := Aside0.mk (blk_below (g := gb285) (o := .cells #[.bool t281, .bool t282, .bool t283, .bool t284] 23 (0, 0)) (by (with_reducible repeat (first | refine blk_drewN ?_ _ | refine blk_drew ?_ | refine blk_alloc ?_ _)); exact BK285.out) hb)
                              have n5_ := Aside0.mk (blk_below (g := gb291) (o := .cells #[.bool t287, .bool t288, .bool t289, .bool t290] 23 (0, 0)) (by (with_reducible repeat (first | refine blk_drewN ?_ _ | refine blk_drew ?_ | refine blk_alloc ?_ _)); exact BK291.out) hb)
                              have n6_ := Aside0.mk (blk_below (g := gb297) (o := .cells #[.bool false, .bool false, .bool false, .bool false] 23 (0, 0)) (by (with_reducible repeat (first | refine blk_drewN ?_ _ | refine blk_drew ?_ | refine blk_alloc ?_ _)); exact BK297.out) hb)
                              have n7_ := Aside0.mk (below_step (by repeat (first | (with_reducible first | exact HB.out | apply below_alloc | apply pw_below_drewN | apply below_drew1 | refine below_set ?_ GE260.out | refine below_set ?_ GE267.out | refine below_set ?_ GE273.out | refine below_set ?_ GE279.out | refine below_set ?_ GE285.out | refine below_set ?_ GE291.out | refine below_set ?_ GE297.out) | exact HB.out)) hb)
                              clear BK260
                              clear BK267
                              clear BK273
                              clear BK279
                              clear BK285
                              clear BK291
                              clear BK297
                              clear HB
                              have BK260 := n0_
                              have BK267 := n1_
                              have BK273 := n2_
                              have BK279 := n3_
                              have BK285 := n4_
                              have BK291 := n5_
                              have BK297 := n6_
                              have HB := n7_
                              clear n0_ n1_ n2_ n3_ n4_ n5_ n6_ n7_
                              (try clear hb)
                              (try clear hb2)
                              (try clear hk)
                              (try clear hi)
                              refine hK.out _ _ ⟨(blk_cell BK260.out 0).trans rfl, (blk_cell BK260.out 1).trans rfl, (blk_cell BK260.out 2).trans rfl, (blk_cell BK260.out 3).trans rfl⟩ (fun hHeld => ?_)
                              clear hK K
                              refine norm_ (a' := ?_) ?_ ?_
                              rotate_left
                              · show Act.put _ (some 62) _ = _
                                simp only [Act.put, List.setIfInBounds_toArray, List.set_cons_zero, List.set_cons_succ, i64_w, i32_w]
                                rfl
                              exact norm_ (by simp only [putAll, Act.put, List.setIfInBounds_toArray, List.set_cons_zero, List.set_cons_succ]) (hCont (gb297) _ ⟨hHeld, (by (with_reducible repeat (first | refine blk_drewN ?_ _ | refine blk_drew ?_ | refine blk_alloc ?_ _)); exact BK260.out), (by (with_reducible repeat (first | refine blk_drewN ?_ _ | refine blk_drew ?_ | refine blk_alloc ?_ _)); exact BK267.out), (by (with_reducible repeat (first | refine blk_drewN ?_ _ | refine blk_drew ?_ | refine blk_alloc ?_ _)); exact BK273.out), (by (with_reducible repeat (first | refine blk_drewN ?_ _ | refine blk_drew ?_ | refine blk_alloc ?_ _)); exact BK279.out), (by (with_reducible repeat (first | refine blk_drewN ?_ _ | refine blk_drew ?_ | refine blk_alloc ?_ _)); exact BK285.out), (by (with_reducible repeat (first | refine blk_drewN ?_ _ | refine blk_drew ?_ | refine blk_alloc ?_ _)); exact BK291.out), (by (with_reducible repeat (first | refine blk_drewN ?_ _ | refine blk_drew ?_ | refine blk_alloc ?_ _)); exact BK297.out), GW297.out, GE297.out, NB260_297.out, NB297_260.out, NB267_297.out, NB297_267.out, NB273_297.out, NB297_273.out, NB279_297.out, NB297_279.out, NB285_297.out, NB297_285.out, NB291_297.out, NB297_291.out, (by repeat (first | (with_reducible first | exact HB.out | apply below_alloc | apply pw_below_drewN | apply below_drew1 | refine below_set ?_ GE260.out | refine below_set ?_ GE267.out | refine below_set ?_ GE273.out | refine below_set ?_ GE279.out | refine below_set ?_ GE285.out | refine below_set ?_ GE291.out | refine below_set ?_ GE297.out) | exact HB.out))⟩)
                          · skip
                            refine box_step ?hg (N := 20) ?hd (cs := #[.bool false, .bool false, .bool false, .bool false]) (t := 23) ?hr ?_; (case hd => rfl); (case hg => rfl); (case hr => first | (go_simp; done) | (go_simp; rfl))
                            intro gb297 hg w108 hbox hb
                            have n0_ := Aside0.mk (blk_below (g := gb260) (o := .cells #[.bool a2_0, .bool a2_1, .bool a2_2, .bool a2_3] 23 (0, 0)) (by (with_reducible repeat (first | refine blk_drewN ?_ _ | refine blk_drew ?_ | refine blk_alloc ?_ _)); exact BK260.out) hb)
                            have n1_ := Aside0.mk (blk_below (g := gb267) (o := .cells #[.bool t263, .bool t264, .bool t265, .bool t266] 23 (0, 0)) (by (with_reducible repeat (first | refine blk_drewN ?_ _ | refine blk_drew ?_ | refine blk_alloc ?_ _)); exact BK267.out) hb)
                            have n2_ := Aside0.mk (blk_below (g := gb273) (o := .cells #[.bool t269, .bool t270, .bool t271, .bool t272] 23 (0, 0)) (by (with_reducible repeat (first | refine blk_drewN ?_ _ | refine blk_drew ?_ | refine blk_alloc ?_ _)); exact BK273.out) hb)
                            have n3_ := Aside0.mk (blk_below (g := gb279) (o := .cells #[.bool t275, .bool t276, .bool t277, .bool t278] 23 (0, 0)) (by (with_reducible repeat (first | refine blk_drewN ?_ _ | refine blk_drew ?_ | refine blk_alloc ?_ _)); exact BK279.out) hb)
                            have n4_ := Aside0.mk (blk_below (g := gb285) (o := .cells #[.bool t281, .bool t282, .bool t283, .bool t284] 23 (0, 0)) (by (with_reducible repeat (first | refine blk_drewN ?_ _ | refine blk_drew ?_ | refine blk_alloc ?_ _)); exact BK285.out) hb)
                            have n5_ := Aside0.mk (blk_below (g := gb291) (o := .cells #[.bool t287, .bool t288, .bool t289, .bool t290] 23 (0, 0)) (by (with_reducible repeat (first | refine blk_drewN ?_ _ | refine blk_drew ?_ | refine blk_alloc ?_ _)); exact BK291.out) hb)
                            have n6_ := Aside0.mk (below_step (by repeat (first | (with_reducible first | exact HB.out | apply below_alloc | apply pw_below_drewN | apply below_drew1 | refine below_set ?_ GE260.out | refine below_set ?_ GE267.out | refine below_set ?_ GE273.out | refine below_set ?_ GE279.out | refine below_set ?_ GE285.out | refine below_set ?_ GE291.out) | exact HB.out)) hb)
                            have n7_ := Aside0.mk (hbox)
                            have n8_ := Aside0.mk ((by rw [hg]; exact (below_size (by repeat (first | (with_reducible first | exact HB.out | apply below_alloc | apply pw_below_drewN | apply below_drew1 | refine below_set ?_ GE260.out | refine below_set ?_ GE267.out | refine below_set ?_ GE273.out | refine below_set ?_ GE279.out | refine below_set ?_ GE285.out | refine below_set ?_ GE291.out) | exact HB.out))) : w.heap.size ≤ gb297))
                            have n9_ := Aside0.mk ((by rw [hg]; exact (below_size (by repeat (first | (with_reducible first | exact HB.out | apply below_alloc | apply pw_below_drewN | apply below_drew1 | refine below_set ?_ GE260.out | refine below_set ?_ GE267.out | refine below_set ?_ GE273.out | refine below_set ?_ GE279.out | refine below_set ?_ GE285.out | refine below_set ?_ GE291.out) | exact HB.out))) : w.heap.size ≤ gb297))
                            have n10_ := Aside0.mk ((by rw [hg]; exact Nat.ne_of_lt (blk_lt (g := gb260) (o := .cells #[.bool a2_0, .bool a2_1, .bool a2_2, .bool a2_3] 23 (0, 0)) (by (with_reducible repeat (first | refine blk_drewN ?_ _ | refine blk_drew ?_ | refine blk_alloc ?_ _)); exact BK260.out)) : gb260 ≠ gb297))
                            have n11_ := Aside0.mk ((by rw [hg]; exact Nat.ne_of_gt (blk_lt (g := gb260) (o := .cells #[.bool a2_0, .bool a2_1, .bool a2_2, .bool a2_3] 23 (0, 0)) (by (with_reducible repeat (first | refine blk_drewN ?_ _ | refine blk_drew ?_ | refine blk_alloc ?_ _)); exact BK260.out)) : gb297 ≠ gb260))
                            have n12_ := Aside0.mk ((by rw [hg]; exact Nat.ne_of_lt (blk_lt (g := gb267) (o := .cells #[.bool t263, .bool t264, .bool t265, .bool t266] 23 (0, 0)) (by (with_reducible repeat (first | refine blk_drewN ?_ _ | refine blk_drew ?_ | refine blk_alloc ?_ _)); exact BK267.out)) : gb267 ≠ gb297))
                            have n13_ := Aside0.mk ((by rw [hg]; exact Nat.ne_of_gt (blk_lt (g := gb267) (o := .cells #[.bool t263, .bool t264, .bool t265, .bool t266] 23 (0, 0)) (by (with_reducible repeat (first | refine blk_drewN ?_ _ | refine blk_drew ?_ | refine blk_alloc ?_ _)); exact BK267.out)) : gb297 ≠ gb267))
                            have n14_ := Aside0.mk ((by rw [hg]; exact Nat.ne_of_lt (blk_lt (g := gb273) (o := .cells #[.bool t269, .bool t270, .bool t271, .bool t272] 23 (0, 0)) (by (with_reducible repeat (first | refine blk_drewN ?_ _ | refine blk_drew ?_ | refine blk_alloc ?_ _)); exact BK273.out)) : gb273 ≠ gb297))
                            have n15_ := Aside0.mk ((by rw [hg]; exact Nat.ne_of_gt (blk_lt (g := gb273) (o := .cells #[.bool t269, .bool t270, .bool t271, .bool t272] 23 (0, 0)) (by (with_reducible repeat (first | refine blk_drewN ?_ _ | refine blk_drew ?_ | refine blk_alloc ?_ _)); exact BK273.out)) : gb297 ≠ gb273))
                            have n16_ := Aside0.mk ((by rw [hg]; exact Nat.ne_of_lt (blk_lt (g := gb279) (o := .cells #[.bool t275, .bool t276, .bool t277, .bool t278] 23 (0, 0)) (by (with_reducible repeat (first | refine blk_drewN ?_ _ | refine blk_drew ?_ | refine blk_alloc ?_ _)); exact BK279.out)) : gb279 ≠ gb297))
                            have n17_ := Aside0.mk ((by rw [hg]; exact Nat.ne_of_gt (blk_lt (g := gb279) (o := .cells #[.bool t275, .bool t276, .bool t277, .bool t278] 23 (0, 0)) (by (with_reducible repeat (first | refine blk_drewN ?_ _ | refine blk_drew ?_ | refine blk_alloc ?_ _)); exact BK279.out)) : gb297 ≠ gb279))
                            have n18_ := Aside0.mk ((by rw [hg]; exact Nat.ne_of_lt (blk_lt (g := gb285) (o := .cells #[.bool t281, .bool t282, .bool t283, .bool t284] 23 (0, 0)) (by (with_reducible repeat (first | refine blk_drewN ?_ _ | refine blk_drew ?_ | refine blk_alloc ?_ _)); exact BK285.out)) : gb285 ≠ gb297))
                            have n19_ := Aside0.mk ((by rw [hg]; exact Nat.ne_of_gt (blk_lt (g := gb285) (o := .cells #[.bool t281, .bool t282, .bool t283, .bool t284] 23 (0, 0)) (by (with_reducible repeat (first | refine blk_drewN ?_ _ | refine blk_drew ?_ | refine blk_alloc ?_ _)); exact BK285.out)) : gb297 ≠ gb285))
                            have n20_ := Aside0.mk ((by rw [hg]; exact Nat.ne_of_lt (blk_lt (g := gb291) (o := .cells #[.bool t287, .bool t288, .bool t289, .bool t290] 23 (0, 0)) (by (with_reducible repeat (first | refine blk_drewN ?_ _ | refine blk_drew ?_ | refine blk_alloc ?_ _)); exact BK291.out)) : gb291 ≠ gb297))
                            have n21_ := Aside0.mk ((by rw [hg]; exact Nat.ne_of_gt (blk_lt (g := gb291) (o := .cells #[.bool t287, .bool t288, .bool t289, .bool t290] 23 (0, 0)) (by (with_reducible repeat (first | refine blk_drewN ?_ _ | refine blk_drew ?_ | refine blk_alloc ?_ _)); exact BK291.out)) : gb297 ≠ gb291))
                            clear BK260
                            clear BK267
                            clear BK273
                            clear BK279
                            clear BK285
                            clear BK291
                            clear HB
                            have BK260 := n0_
                            have BK267 := n1_
                            have BK273 := n2_
                            have BK279 := n3_
                            have BK285 := n4_
                            have BK291 := n5_
                            have HB := n6_
                            have BK297 := n7_
                            have GW297 := n8_
                            have GE297 := n9_
                            have NB260_297 := n10_
                            have NB297_260 := n11_
                            have NB267_297 := n12_
                            have NB297_267 := n13_
                            have NB273_297 := n14_
                            have NB297_273 := n15_
                            have NB279_297 := n16_
                            have NB297_279 := n17_
                            have NB285_297 := n18_
                            have NB297_285 := n19_
                            have NB291_297 := n20_
                            have NB297_291 := n21_
                            clear n0_ n1_ n2_ n3_ n4_ n5_ n6_ n7_ n8_ n9_ n10_ n11_ n12_ n13_ n14_ n15_ n16_ n17_ n18_ n19_ n20_ n21_
                            clear hb hbox hg
                            refine hK.out _ _ ⟨(blk_cell BK260.out 0).trans rfl, (blk_cell BK260.out 1).trans rfl, (blk_cell BK260.out 2).trans rfl, (blk_cell BK260.out 3).trans rfl⟩ (fun hHeld => ?_)
                            clear hK K
                            refine norm_ (a' := ?_) ?_ ?_
                            rotate_left
                            · show Act.put _ (some 20) _ = _
                              simp only [Act.put, List.setIfInBounds_toArray, List.set_cons_zero, List.set_cons_succ, i64_w, i32_w]
                              rfl
                            refine one_ (i := 3) (N := some 60) #[true, true, true, true, true, false, true, false] rfl rfl (one_of HT_.out (by kernel_rfl)) (by decide) (fun K hK => ?_)
                            refine goes_ Try.func19 (by kernel_rfl) rfl #[.int .i64 a1, .int .u8 a0] (by rfl) rfl rfl (by (try simp only [List.map_toArray, List.map_cons, List.map_nil]); first | done | rfl | (simp only [List.length_drop, List.length_take]; rfl)) ?_
                            with_reducible refine (shift_Set.calls kj49 a1 a0 t292 _ A58.out).mono ?_
                            rintro e w' ⟨rfl, ⟨nd, rfl⟩⟩
                            refine ⟨_, rfl, ?_⟩
                            refine hK.out _ _ ⟨(blk_cell BK260.out 0).trans rfl, (blk_cell BK260.out 1).trans rfl, (blk_cell BK260.out 2).trans rfl, (blk_cell BK260.out 3).trans rfl⟩ (fun hHeld => ?_)
                            clear hK K
                            refine norm_ (a' := ?_) ?_ ?_
                            rotate_left
                            · show Act.put _ (some 60) _ = _
                              simp only [Act.put, List.setIfInBounds_toArray, List.set_cons_zero, List.set_cons_succ, i64_w, i32_w]
                              rfl
                            refine one_ (i := 5) (N := some 62) #[true, true, true, true, true, true, true, false] rfl rfl (one_of HT_.out (by kernel_rfl)) (by decide) (fun K hK => ?_)
                            refine goes_ Try.func15 (by kernel_rfl) rfl #[.int .i64 a1, .int .u8 t292, .agg #[.bool a2_0, .bool a2_1, .bool a2_2, .bool a2_3]] (by rfl) rfl rfl (by (try simp only [List.map_toArray, List.map_cons, List.map_nil]); first | done | rfl | (simp only [List.length_drop, List.length_take]; rfl)) ?_
                            with_reducible refine (shift_Test.calls a1 t292 a2_0 a2_1 a2_2 a2_3 false t294 t295 t296 _ A59.out).mono ?_
                            rintro e w109 ⟨rfl, hb⟩
                            refine ⟨_, rfl, ?_⟩
                            have n0_ := Aside0.mk (blk_below (g := gb260) (o := .cells #[.bool a2_0, .bool a2_1, .bool a2_2, .bool a2_3] 23 (0, 0)) (by (with_reducible repeat (first | refine blk_drewN ?_ _ | refine blk_drew ?_ | refine blk_alloc ?_ _)); exact BK260.out) hb)
                            have n1_ := Aside0.mk (blk_below (g := gb267) (o := .cells #[.bool t263, .bool t264, .bool t265, .bool t266] 23 (0, 0)) (by (with_reducible repeat (first | refine blk_drewN ?_ _ | refine blk_drew ?_ | refine blk_alloc ?_ _)); exact BK267.out) hb)
                            have n2_ := Aside0.mk (blk_below (g := gb273) (o := .cells #[.bool t269, .bool t270, .bool t271, .bool t272] 23 (0, 0)) (by (with_reducible repeat (first | refine blk_drewN ?_ _ | refine blk_drew ?_ | refine blk_alloc ?_ _)); exact BK273.out) hb)
                            have n3_ := Aside0.mk (blk_below (g := gb279) (o := .cells #[.bool t275, .bool t276, .bool t277, .bool t278] 23 (0, 0)) (by (with_reducible repeat (first | refine blk_drewN ?_ _ | refine blk_drew ?_ | refine blk_alloc ?_ _)); exact BK279.out) hb)
                            have n4_ := Aside0.mk (blk_below (g := gb285) (o := .cells #[.bool t281, .bool t282, .bool t283, .bool t284] 23 (0, 0)) (by (with_reducible repeat (first | refine blk_drewN ?_ _ | refine blk_drew ?_ | refine blk_alloc ?_ _)); exact BK285.out) hb)
                            have n5_ := Aside0.mk (blk_below (g := gb291) (o := .cells #[.bool t287, .bool t288, .bool t289, .bool t290] 23 (0, 0)) (by (with_reducible repeat (first | refine blk_drewN ?_ _ | refine blk_drew ?_ | refine blk_alloc ?_ _)); exact BK291.out) hb)
                            have n6_ := Aside0.mk (blk_below (g := gb297) (o := .cells #[.bool false, .bool false, .bool false, .bool false] 23 (0, 0)) (by (with_reducible repeat (first | refine blk_drewN ?_ _ | refine blk_drew ?_ | refine blk_alloc ?_ _)); exact BK297.out) hb)
                            have n7_ := Aside0.mk (below_step (by repeat (first | (with_reducible first | exact HB.out | apply below_alloc | apply pw_below_drewN | apply below_drew1 | refine below_set ?_ GE260.out | refine below_set ?_ GE267.out | refine below_set ?_ GE273.out | refine below_set ?_ GE279.out | refine below_set ?_ GE285.out | refine below_set ?_ GE291.out | refine below_set ?_ GE297.out) | exact HB.out)) hb)
                            clear BK260
                            clear BK267
                            clear BK273
                            clear BK279
                            clear BK285
                            clear BK291
                            clear BK297
                            clear HB
                            have BK260 := n0_
                            have BK267 := n1_
                            have BK273 := n2_
                            have BK279 := n3_
                            have BK285 := n4_
                            have BK291 := n5_
                            have BK297 := n6_
                            have HB := n7_
                            clear n0_ n1_ n2_ n3_ n4_ n5_ n6_ n7_
                            (try clear hb)
                            (try clear hb2)
                            (try clear hk)
                            (try clear hi)
                            refine hK.out _ _ ⟨(blk_cell BK260.out 0).trans rfl, (blk_cell BK260.out 1).trans rfl, (blk_cell BK260.out 2).trans rfl, (blk_cell BK260.out 3).trans rfl⟩ (fun hHeld => ?_)
                            clear hK K
                            refine norm_ (a' := ?_) ?_ ?_
                            rotate_left
                            · show Act.put _ (some 62) _ = _
                              simp only [Act.put, List.setIfInBounds_toArray, List.set_cons_zero, List.set_cons_succ, i64_w, i32_w]
                              rfl
                            exact norm_ (by simp only [putAll, Act.put, List.setIfInBounds_toArray, List.set_cons_zero, List.set_cons_succ]) (hCont (gb297) _ ⟨hHeld, (by (with_reducible repeat (first | refine blk_drewN ?_ _ | refine blk_drew ?_ | refine blk_alloc ?_ _)); exact BK260.out), (by (with_reducible repeat (first | refine blk_drewN ?_ _ | refine blk_drew ?_ | refine blk_alloc ?_ _)); exact BK267.out), (by (with_reducible repeat (first | refine blk_drewN ?_ _ | refine blk_drew ?_ | refine blk_alloc ?_ _)); exact BK273.out), (by (with_reducible repeat (first | refine blk_drewN ?_ _ | refine blk_drew ?_ | refine blk_alloc ?_ _)); exact BK279.out), (by (with_reducible repeat (first | refine blk_drewN ?_ _ | refine blk_drew ?_ | refine blk_alloc ?_ _)); exact BK285.out), (by (with_reducible repeat (first | refine blk_drewN ?_ _ | refine blk_drew ?_ | refine blk_alloc ?_ _)); exact BK291.out), (by (with_reducible repeat (first | refine blk_drewN ?_ _ | refine blk_drew ?_ | refine blk_alloc ?_ _)); exact BK297.out), GW297.out, GE297.out, NB260_297.out, NB297_260.out, NB267_297.out, NB297_267.out, NB273_297.out, NB297_273.out, NB279_297.out, NB297_279.out, NB285_297.out, NB297_285.out, NB291_297.out, NB297_291.out, (by repeat (first | (with_reducible first | exact HB.out | apply below_alloc | apply pw_below_drewN | apply below_drew1 | refine below_set ?_ GE260.out | refine below_set ?_ GE267.out | refine below_set ?_ GE273.out | refine below_set ?_ GE279.out | refine below_set ?_ GE285.out | refine below_set ?_ GE291.out | refine below_set ?_ GE297.out) | exact HB.out))⟩)
                        rintro gb297 w110 ⟨hS_, h0_, h1_, h2_, h3_, h4_, h5_, h6_, h7_, h8_, h9_, h10_, h11_, h12_, h13_, h14_, h15_, h16_, h17_, h18_, h19_, h20_, h21_⟩
                        have n0_ : Aside0 (w110.heap[gb260]? = some (.cells #[.bool a2_0, .bool a2_1, .bool a2_2, .bool a2_3] 23 (0, 0))) := ⟨h0_⟩
                        have n1_ : Aside0 (w110.heap[gb267]? = some (.cells #[.bool t263, .bool t264, .bool t265, .bool t266] 23 (0, 0))) := ⟨h1_⟩
                        have n2_ : Aside0 (w110.heap[gb273]? = some (.cells #[.bool t269, .bool t270, .bool t271, .bool t272] 23 (0, 0))) := ⟨h2_⟩
                        have n3_ : Aside0 (w110.heap[gb279]? = some (.cells #[.bool t275, .bool t276, .bool t277, .bool t278] 23 (0, 0))) := ⟨h3_⟩
                        have n4_ : Aside0 (w110.heap[gb285]? = some (.cells #[.bool t281, .bool t282, .bool t283, .bool t284] 23 (0, 0))) := ⟨h4_⟩
                        have n5_ : Aside0 (w110.heap[gb291]? = some (.cells #[.bool t287, .bool t288, .bool t289, .bool t290] 23 (0, 0))) := ⟨h5_⟩
                        have n6_ : Aside0 (w110.heap[gb297]? = some (.cells #[.bool false, .bool false, .bool false, .bool false] 23 (0, 0))) := ⟨h6_⟩
                        have n7_ : Aside0 (w.heap.size ≤ gb297) := ⟨h7_⟩
                        have n8_ : Aside0 (w.heap.size ≤ gb297) := ⟨h8_⟩
                        have n9_ : Aside0 (gb260 ≠ gb297) := ⟨h9_⟩
                        have n10_ : Aside0 (gb297 ≠ gb260) := ⟨h10_⟩
                        have n11_ : Aside0 (gb267 ≠ gb297) := ⟨h11_⟩
                        have n12_ : Aside0 (gb297 ≠ gb267) := ⟨h12_⟩
                        have n13_ : Aside0 (gb273 ≠ gb297) := ⟨h13_⟩
                        have n14_ : Aside0 (gb297 ≠ gb273) := ⟨h14_⟩
                        have n15_ : Aside0 (gb279 ≠ gb297) := ⟨h15_⟩
                        have n16_ : Aside0 (gb297 ≠ gb279) := ⟨h16_⟩
                        have n17_ : Aside0 (gb285 ≠ gb297) := ⟨h17_⟩
                        have n18_ : Aside0 (gb297 ≠ gb285) := ⟨h18_⟩
                        have n19_ : Aside0 (gb291 ≠ gb297) := ⟨h19_⟩
                        have n20_ : Aside0 (gb297 ≠ gb291) := ⟨h20_⟩
                        have n21_ : Aside0 (Below w.heap.size w w110) := ⟨h21_⟩
                        clear BK260
                        clear BK267
                        clear BK273
                        clear BK279
                        clear BK285
                        clear BK291
                        clear HB
                        clear h0_ h1_ h2_ h3_ h4_ h5_ h6_ h7_ h8_ h9_ h10_ h11_ h12_ h13_ h14_ h15_ h16_ h17_ h18_ h19_ h20_ h21_
                        have BK260 := n0_
                        have BK267 := n1_
                        have BK273 := n2_
                        have BK279 := n3_
                        have BK285 := n4_
                        have BK291 := n5_
                        have BK297 := n6_
                        have GW297 := n7_
                        have GE297 := n8_
                        have NB260_297 := n9_
                        have NB297_260 := n10_
                        have NB267_297 := n11_
                        have NB297_267 := n12_
                        have NB273_297 := n13_
                        have NB297_273 := n14_
                        have NB279_297 := n15_
                        have NB297_279 := n16_
                        have NB285_297 := n17_
                        have NB297_285 := n18_
                        have NB291_297 := n19_
                        have NB297_291 := n20_
                        have HB := n21_
                        clear n0_ n1_ n2_ n3_ n4_ n5_ n6_ n7_ n8_ n9_ n10_ n11_ n12_ n13_ n14_ n15_ n16_ n17_ n18_ n19_ n20_ n21_
                        have hHeld : w110.cell? ⟨gb260, 0, none⟩ = some (.bool a2_0) ∧ w110.cell? ⟨gb260, 1, none⟩ = some (.bool a2_1) ∧ w110.cell? ⟨gb260, 2, none⟩ = some (.bool a2_2) ∧ w110.cell? ⟨gb260, 3, none⟩ = some (.bool a2_3) := hS_
                        refine norm_ (a' := ?_) ?_ ?_
                        rotate_left
                        · simp only [putAll, Act.put, List.setIfInBounds_toArray, List.set_cons_zero, List.set_cons_succ]
                          rfl
                        refine one_ (i := 7) (N := none) #[true, true, true, true, true, true, true, true] rfl rfl (one_of HT_.out (by kernel_rfl)) (by decide) (fun K hK => ?_)
                        have hs111 : w110.cell? ⟨gb297, 0, none⟩ = some (.bool false) := (blk_cell BK297.out 0).trans rfl
                        have hfs111 := blk_frozen BK297.out 0
                        have hns111_0 := NB260_297.out
                        have hns111_1 := NB267_297.out
                        have hns111_2 := NB273_297.out
                        have hns111_3 := NB279_297.out
                        have hns111_4 := NB285_297.out
                        have hns111_5 := NB291_297.out
                        have hms111_0 := NB297_260.out
                        have hms111_1 := NB297_267.out
                        have hms111_2 := NB297_273.out
                        have hms111_3 := NB297_279.out
                        have hms111_4 := NB297_285.out
                        have hms111_5 := NB297_291.out
                        have hs112 : w110.cell? ⟨gb297, 1, none⟩ = some (.bool false) := (blk_cell BK297.out 1).trans rfl
                        have hfs112 := blk_frozen BK297.out 1
                        have hns112_0 := NB260_297.out
                        have hns112_1 := NB267_297.out
                        have hns112_2 := NB273_297.out
                        have hns112_3 := NB279_297.out
                        have hns112_4 := NB285_297.out
                        have hns112_5 := NB291_297.out
                        have hms112_0 := NB297_260.out
                        have hms112_1 := NB297_267.out
                        have hms112_2 := NB297_273.out
                        have hms112_3 := NB297_279.out
                        have hms112_4 := NB297_285.out
                        have hms112_5 := NB297_291.out
                        have hs113 : w110.cell? ⟨gb297, 2, none⟩ = some (.bool false) := (blk_cell BK297.out 2).trans rfl
                        have hfs113 := blk_frozen BK297.out 2
                        have hns113_0 := NB260_297.out
                        have hns113_1 := NB267_297.out
                        have hns113_2 := NB273_297.out
                        have hns113_3 := NB279_297.out
                        have hns113_4 := NB285_297.out
                        have hns113_5 := NB291_297.out
                        have hms113_0 := NB297_260.out
                        have hms113_1 := NB297_267.out
                        have hms113_2 := NB297_273.out
                        have hms113_3 := NB297_279.out
                        have hms113_4 := NB297_285.out
                        have hms113_5 := NB297_291.out
                        have hs114 : w110.cell? ⟨gb297, 3, none⟩ = some (.bool false) := (blk_cell BK297.out 3).trans rfl
                        have hfs114 := blk_frozen BK297.out 3
                        have hns114_0 := NB260_297.out
                        have hns114_1 := NB267_297.out
                        have hns114_2 := NB273_297.out
                        have hns114_3 := NB279_297.out
                        have hns114_4 := NB285_297.out
                        have hns114_5 := NB291_297.out
                        have hms114_0 := NB297_260.out
                        have hms114_1 := NB297_267.out
                        have hms114_2 := NB297_273.out
                        have hms114_3 := NB297_279.out
                        have hms114_4 := NB297_285.out
                        have hms114_5 := NB297_291.out
                        refine skip_ (w1 := ?_) (by rfl) rfl ?_ ?_
                        rotate_left
                        · go_simp
                          rfl
                        refine hK.out _ _ ⟨((cell_far (p := ⟨gb297, _, none⟩) NB260_297.out _).trans (((cell_far (p := ⟨gb297, _, none⟩) NB260_297.out _).trans (((cell_far (p := ⟨gb297, _, none⟩) NB260_297.out _).trans (((cell_far (p := ⟨gb297, _, none⟩) NB260_297.out _).trans (hHeld.1)))))))), ((cell_far (p := ⟨gb297, _, none⟩) NB260_297.out _).trans (((cell_far (p := ⟨gb297, _, none⟩) NB260_297.out _).trans (((cell_far (p := ⟨gb297, _, none⟩) NB260_297.out _).trans (((cell_far (p := ⟨gb297, _, none⟩) NB260_297.out _).trans (hHeld.2.1)))))))), ((cell_far (p := ⟨gb297, _, none⟩) NB260_297.out _).trans (((cell_far (p := ⟨gb297, _, none⟩) NB260_297.out _).trans (((cell_far (p := ⟨gb297, _, none⟩) NB260_297.out _).trans (((cell_far (p := ⟨gb297, _, none⟩) NB260_297.out _).trans (hHeld.2.2.1)))))))), ((cell_far (p := ⟨gb297, _, none⟩) NB260_297.out _).trans (((cell_far (p := ⟨gb297, _, none⟩) NB260_297.out _).trans (((cell_far (p := ⟨gb297, _, none⟩) NB260_297.out _).trans (((cell_far (p := ⟨gb297, _, none⟩) NB260_297.out _).trans (hHeld.2.2.2))))))))⟩ (fun hHeld => ?_)
                        clear hK K
                        refine done_ (done_of HT_.out (by kernel_rfl)) ?_
                        try go_wp2
                        have n0_ : Aside0 (((((w110.setCell ⟨gb297, 0, none⟩ (.bool false)).setCell ⟨gb297, 1, none⟩ (.bool t294)).setCell ⟨gb297, 2, none⟩ (.bool t295)).setCell ⟨gb297, 3, none⟩ (.bool t296)).heap[gb260]? = some (.cells #[.bool a2_0, .bool a2_1, .bool a2_2, .bool a2_3] 23 (0, 0))) := ⟨by (with_reducible repeat (first | refine blk_drewN ?_ _ | refine blk_drew ?_ | refine blk_alloc ?_ _)); refine blk_far ?_ NB260_297.out _; (with_reducible repeat (first | refine blk_drewN ?_ _ | refine blk_drew ?_ | refine blk_alloc ?_ _)); refine blk_far ?_ NB260_297.out _; (with_reducible repeat (first | refine blk_drewN ?_ _ | refine blk_drew ?_ | refine blk_alloc ?_ _)); refine blk_far ?_ NB260_297.out _; (with_reducible repeat (first | refine blk_drewN ?_ _ | refine blk_drew ?_ | refine blk_alloc ?_ _)); refine blk_far ?_ NB260_297.out _; (with_reducible repeat (first | refine blk_drewN ?_ _ | refine blk_drew ?_ | refine blk_alloc ?_ _)); exact BK260.out⟩
                        have n1_ : Aside0 (((((w110.setCell ⟨gb297, 0, none⟩ (.bool false)).setCell ⟨gb297, 1, none⟩ (.bool t294)).setCell ⟨gb297, 2, none⟩ (.bool t295)).setCell ⟨gb297, 3, none⟩ (.bool t296)).heap[gb267]? = some (.cells #[.bool t263, .bool t264, .bool t265, .bool t266] 23 (0, 0))) := ⟨by (with_reducible repeat (first | refine blk_drewN ?_ _ | refine blk_drew ?_ | refine blk_alloc ?_ _)); refine blk_far ?_ NB267_297.out _; (with_reducible repeat (first | refine blk_drewN ?_ _ | refine blk_drew ?_ | refine blk_alloc ?_ _)); refine blk_far ?_ NB267_297.out _; (with_reducible repeat (first | refine blk_drewN ?_ _ | refine blk_drew ?_ | refine blk_alloc ?_ _)); refine blk_far ?_ NB267_297.out _; (with_reducible repeat (first | refine blk_drewN ?_ _ | refine blk_drew ?_ | refine blk_alloc ?_ _)); refine blk_far ?_ NB267_297.out _; (with_reducible repeat (first | refine blk_drewN ?_ _ | refine blk_drew ?_ | refine blk_alloc ?_ _)); exact BK267.out⟩
                        have n2_ : Aside0 (((((w110.setCell ⟨gb297, 0, none⟩ (.bool false)).setCell ⟨gb297, 1, none⟩ (.bool t294)).setCell ⟨gb297, 2, none⟩ (.bool t295)).setCell ⟨gb297, 3, none⟩ (.bool t296)).heap[gb273]? = some (.cells #[.bool t269, .bool t270, .bool t271, .bool t272] 23 (0, 0))) := ⟨by (with_reducible repeat (first | refine blk_drewN ?_ _ | refine blk_drew ?_ | refine blk_alloc ?_ _)); refine blk_far ?_ NB273_297.out _; (with_reducible repeat (first | refine blk_drewN ?_ _ | refine blk_drew ?_ | refine blk_alloc ?_ _)); refine blk_far ?_ NB273_297.out _; (with_reducible repeat (first | refine blk_drewN ?_ _ | refine blk_drew ?_ | refine blk_alloc ?_ _)); refine blk_far ?_ NB273_297.out _; (with_reducible repeat (first | refine blk_drewN ?_ _ | refine blk_drew ?_ | refine blk_alloc ?_ _)); refine blk_far ?_ NB273_297.out _; (with_reducible repeat (first | refine blk_drewN ?_ _ | refine blk_drew ?_ | refine blk_alloc ?_ _)); exact BK273.out⟩
                        have n3_ : Aside0 (((((w110.setCell ⟨gb297, 0, none⟩ (.bool false)).setCell ⟨gb297, 1, none⟩ (.bool t294)).setCell ⟨gb297, 2, none⟩ (.bool t295)).setCell ⟨gb297, 3, none⟩ (.bool t296)).heap[gb279]? = some (.cells #[.bool t275, .bool t276, .bool t277, .bool t278] 23 (0, 0))) := ⟨by (with_reducible repeat (first | refine blk_drewN ?_ _ | refine blk_drew ?_ | refine blk_alloc ?_ _)); refine blk_far ?_ NB279_297.out _; (with_reducible repeat (first | refine blk_drewN ?_ _ | refine blk_drew ?_ | refine blk_alloc ?_ _)); refine blk_far ?_ NB279_297.out _; (with_reducible repeat (first | refine blk_drewN ?_ _ | refine blk_drew ?_ | refine blk_alloc ?_ _)); refine blk_far ?_ NB279_297.out _; (with_reducible repeat (first | refine blk_drewN ?_ _ | refine blk_drew ?_ | refine blk_alloc ?_ _)); refine blk_far ?_ NB279_297.out _; (with_reducible repeat (first | refine blk_drewN ?_ _ | refine blk_drew ?_ | refine blk_alloc ?_ _)); exact BK279.out⟩
                        have n4_ : Aside0 (((((w110.setCell ⟨gb297, 0, none⟩ (.bool false)).setCell ⟨gb297, 1, none⟩ (.bool t294)).setCell ⟨gb297, 2, none⟩ (.bool t295)).setCell ⟨gb297, 3, none⟩ (.bool t296)).heap[gb285]? = some (.cells #[.bool t281, .bool t282, .bool t283, .bool t284] 23 (0, 0))) := ⟨by (with_reducible repeat (first | refine blk_drewN ?_ _ | refine blk_drew ?_ | refine blk_alloc ?_ _)); refine blk_far ?_ NB285_297.out _; (with_reducible repeat (first | refine blk_drewN ?_ _ | refine blk_drew ?_ | refine blk_alloc ?_ _)); refine blk_far ?_ NB285_297.out _; (with_reducible repeat (first | refine blk_drewN ?_ _ | refine blk_drew ?_ | refine blk_alloc ?_ _)); refine blk_far ?_ NB285_297.out _; (with_reducible repeat (first | refine blk_drewN ?_ _ | refine blk_drew ?_ | refine blk_alloc ?_ _)); refine blk_far ?_ NB285_297.out _; (with_reducible repeat (first | refine blk_drewN ?_ _ | refine blk_drew ?_ | refine blk_alloc ?_ _)); exact BK285.out⟩
                        have n5_ : Aside0 (((((w110.setCell ⟨gb297, 0, none⟩ (.bool false)).setCell ⟨gb297, 1, none⟩ (.bool t294)).setCell ⟨gb297, 2, none⟩ (.bool t295)).setCell ⟨gb297, 3, none⟩ (.bool t296)).heap[gb291]? = some (.cells #[.bool t287, .bool t288, .bool t289, .bool t290] 23 (0, 0))) := ⟨by (with_reducible repeat (first | refine blk_drewN ?_ _ | refine blk_drew ?_ | refine blk_alloc ?_ _)); refine blk_far ?_ NB291_297.out _; (with_reducible repeat (first | refine blk_drewN ?_ _ | refine blk_drew ?_ | refine blk_alloc ?_ _)); refine blk_far ?_ NB291_297.out _; (with_reducible repeat (first | refine blk_drewN ?_ _ | refine blk_drew ?_ | refine blk_alloc ?_ _)); refine blk_far ?_ NB291_297.out _; (with_reducible repeat (first | refine blk_drewN ?_ _ | refine blk_drew ?_ | refine blk_alloc ?_ _)); refine blk_far ?_ NB291_297.out _; (with_reducible repeat (first | refine blk_drewN ?_ _ | refine blk_drew ?_ | refine blk_alloc ?_ _)); exact BK291.out⟩
                        have n6_ : Aside0 (((((w110.setCell ⟨gb297, 0, none⟩ (.bool false)).setCell ⟨gb297, 1, none⟩ (.bool t294)).setCell ⟨gb297, 2, none⟩ (.bool t295)).setCell ⟨gb297, 3, none⟩ (.bool t296)).heap[gb297]? = some (.cells #[.bool false, .bool t294, .bool t295, .bool t296] 23 (0, 0))) := ⟨by (with_reducible repeat (first | refine blk_drewN ?_ _ | refine blk_drew ?_ | refine blk_alloc ?_ _)); refine blk_put (cs := #[.bool false, .bool t294, .bool t295, .bool false]) ?_ 3 _ rfl; (with_reducible repeat (first | refine blk_drewN ?_ _ | refine blk_drew ?_ | refine blk_alloc ?_ _)); refine blk_put (cs := #[.bool false, .bool t294, .bool false, .bool false]) ?_ 2 _ rfl; (with_reducible repeat (first | refine blk_drewN ?_ _ | refine blk_drew ?_ | refine blk_alloc ?_ _)); refine blk_put (cs := #[.bool false, .bool false, .bool false, .bool false]) ?_ 1 _ rfl; (with_reducible repeat (first | refine blk_drewN ?_ _ | refine blk_drew ?_ | refine blk_alloc ?_ _)); refine blk_put (cs := #[.bool false, .bool false, .bool false, .bool false]) ?_ 0 _ rfl; (with_reducible repeat (first | refine blk_drewN ?_ _ | refine blk_drew ?_ | refine blk_alloc ?_ _)); exact BK297.out⟩
                        have n7_ : Aside0 (Below w.heap.size w ((((w110.setCell ⟨gb297, 0, none⟩ (.bool false)).setCell ⟨gb297, 1, none⟩ (.bool t294)).setCell ⟨gb297, 2, none⟩ (.bool t295)).setCell ⟨gb297, 3, none⟩ (.bool t296))) := ⟨by repeat (first | (with_reducible first | exact HB.out | apply below_alloc | apply pw_below_drewN | apply below_drew1 | refine below_set ?_ GE260.out | refine below_set ?_ GE267.out | refine below_set ?_ GE273.out | refine below_set ?_ GE279.out | refine below_set ?_ GE285.out | refine below_set ?_ GE291.out | refine below_set ?_ GE297.out) | exact HB.out)⟩
                        (try clear BK260)
                        (try clear BK267)
                        (try clear BK273)
                        (try clear BK279)
                        (try clear BK285)
                        (try clear BK291)
                        (try clear BK297)
                        (try clear HB)
                        generalize ((((w110.setCell ⟨gb297, 0, none⟩ (.bool false)).setCell ⟨gb297, 1, none⟩ (.bool t294)).setCell ⟨gb297, 2, none⟩ (.bool t295)).setCell ⟨gb297, 3, none⟩ (.bool t296)) = w115 at n0_ n1_ n2_ n3_ n4_ n5_ n6_ n7_ ⊢
                        have BK260 := n0_
                        have BK267 := n1_
                        have BK273 := n2_
                        have BK279 := n3_
                        have BK285 := n4_
                        have BK291 := n5_
                        have BK297 := n6_
                        have HB := n7_
                        clear n0_ n1_ n2_ n3_ n4_ n5_ n6_ n7_
                        have n0_ := Aside0.mk (blk_drew BK260.out)
                        have n1_ := Aside0.mk (blk_drew BK267.out)
                        have n2_ := Aside0.mk (blk_drew BK273.out)
                        have n3_ := Aside0.mk (blk_drew BK279.out)
                        have n4_ := Aside0.mk (blk_drew BK285.out)
                        have n5_ := Aside0.mk (blk_drew BK291.out)
                        have n6_ := Aside0.mk (blk_drew BK297.out)
                        have n7_ := Aside0.mk (below_drew1 HB.out)
                        clear BK260
                        clear BK267
                        clear BK273
                        clear BK279
                        clear BK285
                        clear BK291
                        clear BK297
                        clear HB
                        have BK260 := n0_
                        have BK267 := n1_
                        have BK273 := n2_
                        have BK279 := n3_
                        have BK285 := n4_
                        have BK291 := n5_
                        have BK297 := n6_
                        have HB := n7_
                        clear n0_ n1_ n2_ n3_ n4_ n5_ n6_ n7_
                        refine start_ (n := 8) (S := fun w' => w'.cell? ⟨gb260, 0, none⟩ = some (.bool a2_0) ∧ w'.cell? ⟨gb260, 1, none⟩ = some (.bool a2_1) ∧ w'.cell? ⟨gb260, 2, none⟩ = some (.bool a2_2) ∧ w'.cell? ⟨gb260, 3, none⟩ = some (.bool a2_3)) (ds := []) #[false, false, false, false, false, false, false, false] (by kernel_rfl) rfl rfl ⟨(blk_cell BK260.out 0).trans rfl, (blk_cell BK260.out 1).trans rfl, (blk_cell BK260.out 2).trans rfl, (blk_cell BK260.out 3).trans rfl⟩ (fun hHeld => ?_); refine with_tabW whirligiglaw03_ShiftWorth.tab14 whirligiglaw03_ShiftWorth.bits14 (fun HT_ HW_ => ?_)
                        generalize w115.drew = w116 at BK260 BK267 BK273 BK279 BK285 BK291 BK297 HB hHeld ⊢
                        refine pure_ (i := 0) (N := some 63) (v := ?_) (a' := ?_) #[true, false, false, false, false, false, false, false] rfl rfl (any_of HT_.out (by kernel_rfl)) (fun _ _ _ h => h) (Or.inl ⟨by rfl, ?_⟩) ?_ ?_
                        rotate_left
                        · intro w'
                          go_simp
                          with_reducible rfl
                        rotate_left
                        · simp only [Act.put, List.setIfInBounds_toArray, List.set_cons_zero, List.set_cons_succ, i64_w, i32_w]
                          rfl
                        refine pure_ (i := 1) (N := some 64) (v := ?_) (a' := ?_) #[true, true, false, false, false, false, false, false] rfl rfl (any_of HT_.out (by kernel_rfl)) (fun _ _ _ h => h) (Or.inl ⟨by rfl, ?_⟩) ?_ ?_
                        rotate_left
                        · intro w'
                          go_simp
                          with_reducible rfl
                        rotate_left
                        · simp only [Act.put, List.setIfInBounds_toArray, List.set_cons_zero, List.set_cons_succ, i64_w, i32_w]
                          rfl
                        refine pure_ (i := 2) (N := some 65) (v := ?_) (a' := ?_) #[true, true, true, false, false, false, false, false] rfl rfl (any_of HT_.out (by kernel_rfl)) (fun _ _ _ h => h) (Or.inl ⟨by rfl, ?_⟩) ?_ ?_
                        rotate_left
                        · intro w'
                          go_simp
                          with_reducible rfl
                        rotate_left
                        · simp only [Act.put, List.setIfInBounds_toArray, List.set_cons_zero, List.set_cons_succ, i64_w, i32_w]
                          rfl
                        refine take_ (i := 4) (N := some 67) (v := ?_) (a' := ?_) #[true, true, true, false, true, false, false, false] rfl rfl (take_ofW HT_.out HW_.out (by kernel_rfl)) (fun _ _ _ h => h) (Or.inl ⟨by rfl, ?_⟩) hHeld ?_ ?_
                        rotate_left
                        · rintro w' ⟨s0, s1, s2, s3⟩
                          go_simp
                          with_reducible rfl
                        rotate_left
                        · simp only [Act.put, List.setIfInBounds_toArray, List.set_cons_zero, List.set_cons_succ, i64_w, i32_w]
                          rfl
                        refine join_ (σ := Nat) 1 #[true, true, true, true, true, true, true, false] (fun s_ => [(66, .int .u8 t298), (68, .agg #[.bool t299, .bool t300, .bool t301, .bool t302]), (21, .pointer (some ⟨s_, 0, none⟩))]) (fun s_ w' => (w'.cell? ⟨gb260, 0, none⟩ = some (.bool a2_0) ∧ w'.cell? ⟨gb260, 1, none⟩ = some (.bool a2_1) ∧ w'.cell? ⟨gb260, 2, none⟩ = some (.bool a2_2) ∧ w'.cell? ⟨gb260, 3, none⟩ = some (.bool a2_3)) ∧ (w'.heap[gb260]? = some (.cells #[.bool a2_0, .bool a2_1, .bool a2_2, .bool a2_3] 23 (0, 0))) ∧ (w'.heap[gb267]? = some (.cells #[.bool t263, .bool t264, .bool t265, .bool t266] 23 (0, 0))) ∧ (w'.heap[gb273]? = some (.cells #[.bool t269, .bool t270, .bool t271, .bool t272] 23 (0, 0))) ∧ (w'.heap[gb279]? = some (.cells #[.bool t275, .bool t276, .bool t277, .bool t278] 23 (0, 0))) ∧ (w'.heap[gb285]? = some (.cells #[.bool t281, .bool t282, .bool t283, .bool t284] 23 (0, 0))) ∧ (w'.heap[gb291]? = some (.cells #[.bool t287, .bool t288, .bool t289, .bool t290] 23 (0, 0))) ∧ (w'.heap[gb297]? = some (.cells #[.bool false, .bool t294, .bool t295, .bool t296] 23 (0, 0))) ∧ (w'.heap[s_]? = some (.cells #[.bool false, .bool false, .bool false, .bool false] 23 (0, 0))) ∧ (w.heap.size ≤ s_) ∧ (w.heap.size ≤ s_) ∧ (gb260 ≠ s_) ∧ (s_ ≠ gb260) ∧ (gb267 ≠ s_) ∧ (s_ ≠ gb267) ∧ (gb273 ≠ s_) ∧ (s_ ≠ gb273) ∧ (gb279 ≠ s_) ∧ (s_ ≠ gb279) ∧ (gb285 ≠ s_) ∧ (s_ ≠ gb285) ∧ (gb291 ≠ s_) ∧ (s_ ≠ gb291) ∧ (gb297 ≠ s_) ∧ (s_ ≠ gb297) ∧ (Below w.heap.size w w')) ?_ ?_
                        rotate_left
                        · intro hCont
                          refine two_ (i := 3) (j := 6) (Ni := some 66) (Nj := some 21) #[true, true, true, true, true, false, false, false] #[true, true, true, false, true, false, true, false] rfl rfl rfl rfl (two_of HT_.out (by kernel_rfl)) (by decide) (by decide) (fun K hK => ?_) (fun K hK => ?_)
                          · skip
                            refine goes_ Try.func17 (by kernel_rfl) rfl #[.int .i64 a1, .int .u8 a0] (by rfl) rfl rfl (by (try simp only [List.map_toArray, List.map_cons, List.map_nil]); first | done | rfl | (simp only [List.length_drop, List.length_take]; rfl)) ?_
                            with_reducible refine (shift_Res.calls kj49 a1 a0 t298 _ A60.out).mono ?_
                            rintro e w' ⟨rfl, ⟨nd, rfl⟩⟩
                            refine ⟨_, rfl, ?_⟩
                            refine hK.out _ _ ⟨(blk_cell BK260.out 0).trans rfl, (blk_cell BK260.out 1).trans rfl, (blk_cell BK260.out 2).trans rfl, (blk_cell BK260.out 3).trans rfl⟩ (fun hHeld => ?_)
                            clear hK K
                            refine norm_ (a' := ?_) ?_ ?_
                            rotate_left
                            · show Act.put _ (some 66) _ = _
                              simp only [Act.put, List.setIfInBounds_toArray, List.set_cons_zero, List.set_cons_succ, i64_w, i32_w]
                              rfl
                            refine two_ (i := 5) (j := 6) (Ni := some 68) (Nj := some 21) #[true, true, true, true, true, true, false, false] #[true, true, true, true, true, false, true, false] rfl rfl rfl rfl (two_of HT_.out (by kernel_rfl)) (by decide) (by decide) (fun K hK => ?_) (fun K hK => ?_)
                            · skip
                              refine goes_ Try.func15 (by kernel_rfl) rfl #[.int .i64 a1, .int .u8 t298, .agg #[.bool a2_0, .bool a2_1, .bool a2_2, .bool a2_3]] (by rfl) rfl rfl (by (try simp only [List.map_toArray, List.map_cons, List.map_nil]); first | done | rfl | (simp only [List.length_drop, List.length_take]; rfl)) ?_
                              with_reducible refine (shift_Test.calls a1 t298 a2_0 a2_1 a2_2 a2_3 t299 t300 t301 t302 _ A61.out).mono ?_
                              rintro e w117 ⟨rfl, hb⟩
                              refine ⟨_, rfl, ?_⟩
                              have n0_ := Aside0.mk (blk_below (g := gb260) (o := .cells #[.bool a2_0, .bool a2_1, .bool a2_2, .bool a2_3] 23 (0, 0)) (by (with_reducible repeat (first | refine blk_drewN ?_ _ | refine blk_drew ?_ | refine blk_alloc ?_ _)); exact BK260.out) hb)
                              have n1_ := Aside0.mk (blk_below (g := gb267) (o := .cells #[.bool t263, .bool t264, .bool t265, .bool t266] 23 (0, 0)) (by (with_reducible repeat (first | refine blk_drewN ?_ _ | refine blk_drew ?_ | refine blk_alloc ?_ _)); exact BK267.out) hb)
                              have n2_ := Aside0.mk (blk_below (g := gb273) (o := .cells #[.bool t269, .bool t270, .bool t271, .bool t272] 23 (0, 0)) (by (with_reducible repeat (first | refine blk_drewN ?_ _ | refine blk_drew ?_ | refine blk_alloc ?_ _)); exact BK273.out) hb)
                              have n3_ := Aside0.mk (blk_below (g := gb279) (o := .cells #[.bool t275, .bool t276, .bool t277, .bool t278] 23 (0, 0)) (by (with_reducible repeat (first | refine blk_drewN ?_ _ | refine blk_drew ?_ | refine blk_alloc ?_ _)); exact BK279.out) hb)
                              have n4_ := Aside0.mk (blk_below (g := gb285) (o := .cells #[.bool t281, .bool t282, .bool t283, .bool t284] 23 (0, 0)) (by (with_reducible repeat (first | refine blk_drewN ?_ _ | refine blk_drew ?_ | refine blk_alloc ?_ _)); exact BK285.out) hb)
                              have n5_ := Aside0.mk (blk_below (g := gb291) (o := .cells #[.bool t287, .bool t288, .bool t289, .bool t290] 23 (0, 0)) (by (with_reducible repeat (first | refine blk_drewN ?_ _ | refine blk_drew ?_ | refine blk_alloc ?_ _)); exact BK291.out) hb)
                              have n6_ := Aside0.mk (blk_below (g := gb297) (o := .cells #[.bool false, .bool t294, .bool t295, .bool t296] 23 (0, 0)) (by (with_reducible repeat (first | refine blk_drewN ?_ _ | refine blk_drew ?_ | refine blk_alloc ?_ _)); exact BK297.out) hb)
                              have n7_ := Aside0.mk (below_step (by repeat (first | (with_reducible first | exact HB.out | apply below_alloc | apply pw_below_drewN | apply below_drew1 | refine below_set ?_ GE260.out | refine below_set ?_ GE267.out | refine below_set ?_ GE273.out | refine below_set ?_ GE279.out | refine below_set ?_ GE285.out | refine below_set ?_ GE291.out | refine below_set ?_ GE297.out) | exact HB.out)) hb)
                              clear BK260
                              clear BK267
                              clear BK273
                              clear BK279
                              clear BK285
                              clear BK291
                              clear BK297
                              clear HB
                              have BK260 := n0_
                              have BK267 := n1_
                              have BK273 := n2_
                              have BK279 := n3_
                              have BK285 := n4_
                              have BK291 := n5_
                              have BK297 := n6_
                              have HB := n7_
                              clear n0_ n1_ n2_ n3_ n4_ n5_ n6_ n7_
                              (try clear hb)
                              (try clear hb2)
                              (try clear hk)
                              (try clear hi)
                              refine hK.out _ _ ⟨(blk_cell BK260.out 0).trans rfl, (blk_cell BK260.out 1).trans rfl, (blk_cell BK260.out 2).trans rfl, (blk_cell BK260.out 3).trans rfl⟩ (fun hHeld => ?_)
                              clear hK K
                              refine norm_ (a' := ?_) ?_ ?_
                              rotate_left
                              · show Act.put _ (some 68) _ = _
                                simp only [Act.put, List.setIfInBounds_toArray, List.set_cons_zero, List.set_cons_succ, i64_w, i32_w]
                                rfl
                              refine one_ (i := 6) (N := some 21) #[true, true, true, true, true, true, true, false] rfl rfl (one_of HT_.out (by kernel_rfl)) (by decide) (fun K hK => ?_)
                              refine box_step ?hg (N := 21) ?hd (cs := #[.bool false, .bool false, .bool false, .bool false]) (t := 23) ?hr ?_; (case hd => rfl); (case hg => rfl); (case hr => first | (go_simp; done) | (go_simp; rfl))
                              intro gb303 hg w118 hbox hb
                              have n0_ := Aside0.mk (blk_below (g := gb260) (o := .cells #[.bool a2_0, .bool a2_1, .bool a2_2, .bool a2_3] 23 (0, 0)) (by (with_reducible repeat (first | refine blk_drewN ?_ _ | refine blk_drew ?_ | refine blk_alloc ?_ _)); exact BK260.out) hb)
                              have n1_ := Aside0.mk (blk_below (g := gb267) (o := .cells #[.bool t263, .bool t264, .bool t265, .bool t266] 23 (0, 0)) (by (with_reducible repeat (first | refine blk_drewN ?_ _ | refine blk_drew ?_ | refine blk_alloc ?_ _)); exact BK267.out) hb)
                              have n2_ := Aside0.mk (blk_below (g := gb273) (o := .cells #[.bool t269, .bool t270, .bool t271, .bool t272] 23 (0, 0)) (by (with_reducible repeat (first | refine blk_drewN ?_ _ | refine blk_drew ?_ | refine blk_alloc ?_ _)); exact BK273.out) hb)
                              have n3_ := Aside0.mk (blk_below (g := gb279) (o := .cells #[.bool t275, .bool t276, .bool t277, .bool t278] 23 (0, 0)) (by (with_reducible repeat (first | refine blk_drewN ?_ _ | refine blk_drew ?_ | refine blk_alloc ?_ _)); exact BK279.out) hb)
                              have n4_ := Aside0.mk (blk_below (g := gb285) (o := .cells #[.bool t281, .bool t282, .bool t283, .bool t284] 23 (0, 0)) (by (with_reducible repeat (first | refine blk_drewN ?_ _ | refine blk_drew ?_ | refine blk_alloc ?_ _)); exact BK285.out) hb)
                              have n5_ := Aside0.mk (blk_below (g := gb291) (o := .cells #[.bool t287, .bool t288, .bool t289, .bool t290] 23 (0, 0)) (by (with_reducible repeat (first | refine blk_drewN ?_ _ | refine blk_drew ?_ | refine blk_alloc ?_ _)); exact BK291.out) hb)
                              have n6_ := Aside0.mk (blk_below (g := gb297) (o := .cells #[.bool false, .bool t294, .bool t295, .bool t296] 23 (0, 0)) (by (with_reducible repeat (first | refine blk_drewN ?_ _ | refine blk_drew ?_ | refine blk_alloc ?_ _)); exact BK297.out) hb)
                              have n7_ := Aside0.mk (below_step (by repeat (first | (with_reducible first | exact HB.out | apply below_alloc | apply pw_below_drewN | apply below_drew1 | refine below_set ?_ GE260.out | refine below_set ?_ GE267.out | refine below_set ?_ GE273.out | refine below_set ?_ GE279.out | refine below_set ?_ GE285.out | refine below_set ?_ GE291.out | refine below_set ?_ GE297.out) | exact HB.out)) hb)
                              have n8_ := Aside0.mk (hbox)
                              have n9_ := Aside0.mk ((by rw [hg]; exact (below_size (by repeat (first | (with_reducible first | exact HB.out | apply below_alloc | apply pw_below_drewN | apply below_drew1 | refine below_set ?_ GE260.out | refine below_set ?_ GE267.out | refine below_set ?_ GE273.out | refine below_set ?_ GE279.out | refine below_set ?_ GE285.out | refine below_set ?_ GE291.out | refine below_set ?_ GE297.out) | exact HB.out))) : w.heap.size ≤ gb303))
                              have n10_ := Aside0.mk ((by rw [hg]; exact (below_size (by repeat (first | (with_reducible first | exact HB.out | apply below_alloc | apply pw_below_drewN | apply below_drew1 | refine below_set ?_ GE260.out | refine below_set ?_ GE267.out | refine below_set ?_ GE273.out | refine below_set ?_ GE279.out | refine below_set ?_ GE285.out | refine below_set ?_ GE291.out | refine below_set ?_ GE297.out) | exact HB.out))) : w.heap.size ≤ gb303))
                              have n11_ := Aside0.mk ((by rw [hg]; exact Nat.ne_of_lt (blk_lt (g := gb260) (o := .cells #[.bool a2_0, .bool a2_1, .bool a2_2, .bool a2_3] 23 (0, 0)) (by (with_reducible repeat (first | refine blk_drewN ?_ _ | refine blk_drew ?_ | refine blk_alloc ?_ _)); exact BK260.out)) : gb260 ≠ gb303))
                              have n12_ := Aside0.mk ((by rw [hg]; exact Nat.ne_of_gt (blk_lt (g := gb260) (o := .cells #[.bool a2_0, .bool a2_1, .bool a2_2, .bool a2_3] 23 (0, 0)) (by (with_reducible repeat (first | refine blk_drewN ?_ _ | refine blk_drew ?_ | refine blk_alloc ?_ _)); exact BK260.out)) : gb303 ≠ gb260))
                              have n13_ := Aside0.mk ((by rw [hg]; exact Nat.ne_of_lt (blk_lt (g := gb267) (o := .cells #[.bool t263, .bool t264, .bool t265, .bool t266] 23 (0, 0)) (by (with_reducible repeat (first | refine blk_drewN ?_ _ | refine blk_drew ?_ | refine blk_alloc ?_ _)); exact BK267.out)) : gb267 ≠ gb303))
                              have n14_ := Aside0.mk ((by rw [hg]; exact Nat.ne_of_gt (blk_lt (g := gb267) (o := .cells #[.bool t263, .bool t264, .bool t265, .bool t266] 23 (0, 0)) (by (with_reducible repeat (first | refine blk_drewN ?_ _ | refine blk_drew ?_ | refine blk_alloc ?_ _)); exact BK267.out)) : gb303 ≠ gb267))
                              have n15_ := Aside0.mk ((by rw [hg]; exact Nat.ne_of_lt (blk_lt (g := gb273) (o := .cells #[.bool t269, .bool t270, .bool t271, .bool t272] 23 (0, 0)) (by (with_reducible repeat (first | refine blk_drewN ?_ _ | refine blk_drew ?_ | refine blk_alloc ?_ _)); exact BK273.out)) : gb273 ≠ gb303))
                              have n16_ := Aside0.mk ((by rw [hg]; exact Nat.ne_of_gt (blk_lt (g := gb273) (o := .cells #[.bool t269, .bool t270, .bool t271, .bool t272] 23 (0, 0)) (by (with_reducible repeat (first | refine blk_drewN ?_ _ | refine blk_drew ?_ | refine blk_alloc ?_ _)); exact BK273.out)) : gb303 ≠ gb273))
                              have n17_ := Aside0.mk ((by rw [hg]; exact Nat.ne_of_lt (blk_lt (g := gb279) (o := .cells #[.bool t275, .bool t276, .bool t277, .bool t278] 23 (0, 0)) (by (with_reducible repeat (first | refine blk_drewN ?_ _ | refine blk_drew ?_ | refine blk_alloc ?_ _)); exact BK279.out)) : gb279 ≠ gb303))
                              have n18_ := Aside0.mk ((by rw [hg]; exact Nat.ne_of_gt (blk_lt (g := gb279) (o := .cells #[.bool t275, .bool t276, .bool t277, .bool t278] 23 (0, 0)) (by (with_reducible repeat (first | refine blk_drewN ?_ _ | refine blk_drew ?_ | refine blk_alloc ?_ _)); exact BK279.out)) : gb303 ≠ gb279))
                              have n19_ := Aside0.mk ((by rw [hg]; exact Nat.ne_of_lt (blk_lt (g := gb285) (o := .cells #[.bool t281, .bool t282, .bool t283, .bool t284] 23 (0, 0)) (by (with_reducible repeat (first | refine blk_drewN ?_ _ | refine blk_drew ?_ | refine blk_alloc ?_ _)); exact BK285.out)) : gb285 ≠ gb303))
                              have n20_ := Aside0.mk ((by rw [hg]; exact Nat.ne_of_gt (blk_lt (g := gb285) (o := .cells #[.bool t281, .bool t282, .bool t283, .bool t284] 23 (0, 0)) (by (with_reducible repeat (first | refine blk_drewN ?_ _ | refine blk_drew ?_ | refine blk_alloc ?_ _)); exact BK285.out)) : gb303 ≠ gb285))
                              have n21_ := Aside0.mk ((by rw [hg]; exact Nat.ne_of_lt (blk_lt (g := gb291) (o := .cells #[.bool t287, .bool t288, .bool t289, .bool t290] 23 (0, 0)) (by (with_reducible repeat (first | refine blk_drewN ?_ _ | refine blk_drew ?_ | refine blk_alloc ?_ _)); exact BK291.out)) : gb291 ≠ gb303))
                              have n22_ := Aside0.mk ((by rw [hg]; exact Nat.ne_of_gt (blk_lt (g := gb291) (o := .cells #[.bool t287, .bool t288, .bool t289, .bool t290] 23 (0, 0)) (by (with_reducible repeat (first | refine blk_drewN ?_ _ | refine blk_drew ?_ | refine blk_alloc ?_ _)); exact BK291.out)) : gb303 ≠ gb291))
                              have n23_ := Aside0.mk ((by rw [hg]; exact Nat.ne_of_lt (blk_lt (g := gb297) (o := .cells #[.bool false, .bool t294, .bool t295, .bool t296] 23 (0, 0)) (by (with_reducible repeat (first | refine blk_drewN ?_ _ | refine blk_drew ?_ | refine blk_alloc ?_ _)); exact BK297.out)) : gb297 ≠ gb303))
                              have n24_ := Aside0.mk ((by rw [hg]; exact Nat.ne_of_gt (blk_lt (g := gb297) (o := .cells #[.bool false, .bool t294, .bool t295, .bool t296] 23 (0, 0)) (by (with_reducible repeat (first | refine blk_drewN ?_ _ | refine blk_drew ?_ | refine blk_alloc ?_ _)); exact BK297.out)) : gb303 ≠ gb297))
                              clear BK260
                              clear BK267
                              clear BK273
                              clear BK279
                              clear BK285
                              clear BK291
                              clear BK297
                              clear HB
                              have BK260 := n0_
                              have BK267 := n1_
                              have BK273 := n2_
                              have BK279 := n3_
                              have BK285 := n4_
                              have BK291 := n5_
                              have BK297 := n6_
                              have HB := n7_
                              have BK303 := n8_
                              have GW303 := n9_
                              have GE303 := n10_
                              have NB260_303 := n11_
                              have NB303_260 := n12_
                              have NB267_303 := n13_
                              have NB303_267 := n14_
                              have NB273_303 := n15_
                              have NB303_273 := n16_
                              have NB279_303 := n17_
                              have NB303_279 := n18_
                              have NB285_303 := n19_
                              have NB303_285 := n20_
                              have NB291_303 := n21_
                              have NB303_291 := n22_
                              have NB297_303 := n23_
                              have NB303_297 := n24_
                              clear n0_ n1_ n2_ n3_ n4_ n5_ n6_ n7_ n8_ n9_ n10_ n11_ n12_ n13_ n14_ n15_ n16_ n17_ n18_ n19_ n20_ n21_ n22_ n23_ n24_
                              clear hb hbox hg
                              refine hK.out _ _ ⟨(blk_cell BK260.out 0).trans rfl, (blk_cell BK260.out 1).trans rfl, (blk_cell BK260.out 2).trans rfl, (blk_cell BK260.out 3).trans rfl⟩ (fun hHeld => ?_)
                              clear hK K
                              refine norm_ (a' := ?_) ?_ ?_
                              rotate_left
                              · show Act.put _ (some 21) _ = _
                                simp only [Act.put, List.setIfInBounds_toArray, List.set_cons_zero, List.set_cons_succ, i64_w, i32_w]
                                rfl
                              exact norm_ (by simp only [putAll, Act.put, List.setIfInBounds_toArray, List.set_cons_zero, List.set_cons_succ]) (hCont (gb303) _ ⟨hHeld, (by (with_reducible repeat (first | refine blk_drewN ?_ _ | refine blk_drew ?_ | refine blk_alloc ?_ _)); exact BK260.out), (by (with_reducible repeat (first | refine blk_drewN ?_ _ | refine blk_drew ?_ | refine blk_alloc ?_ _)); exact BK267.out), (by (with_reducible repeat (first | refine blk_drewN ?_ _ | refine blk_drew ?_ | refine blk_alloc ?_ _)); exact BK273.out), (by (with_reducible repeat (first | refine blk_drewN ?_ _ | refine blk_drew ?_ | refine blk_alloc ?_ _)); exact BK279.out), (by (with_reducible repeat (first | refine blk_drewN ?_ _ | refine blk_drew ?_ | refine blk_alloc ?_ _)); exact BK285.out), (by (with_reducible repeat (first | refine blk_drewN ?_ _ | refine blk_drew ?_ | refine blk_alloc ?_ _)); exact BK291.out), (by (with_reducible repeat (first | refine blk_drewN ?_ _ | refine blk_drew ?_ | refine blk_alloc ?_ _)); exact BK297.out), (by (with_reducible repeat (first | refine blk_drewN ?_ _ | refine blk_drew ?_ | refine blk_alloc ?_ _)); exact BK303.out), GW303.out, GE303.out, NB260_303.out, NB303_260.out, NB267_303.out, NB303_267.out, NB273_303.out, NB303_273.out, NB279_303.out, NB303_279.out, NB285_303.out, NB303_285.out, NB291_303.out, NB303_291.out, NB297_303.out, NB303_297.out, (by repeat (first | (with_reducible first | exact HB.out | apply below_alloc | apply pw_below_drewN | apply below_drew1 | refine below_set ?_ GE260.out | refine below_set ?_ GE267.out | refine below_set ?_ GE273.out | refine below_set ?_ GE279.out | refine below_set ?_ GE285.out | refine below_set ?_ GE291.out | refine below_set ?_ GE297.out | refine below_set ?_ GE303.out) | exact HB.out))⟩)
                            · skip
                              refine box_step ?hg (N := 21) ?hd (cs := #[.bool false, .bool false, .bool false, .bool false]) (t := 23) ?hr ?_; (case hd => rfl); (case hg => rfl); (case hr => first | (go_simp; done) | (go_simp; rfl))
                              intro gb303 hg w117 hbox hb
                              have n0_ := Aside0.mk (blk_below (g := gb260) (o := .cells #[.bool a2_0, .bool a2_1, .bool a2_2, .bool a2_3] 23 (0, 0)) (by (with_reducible repeat (first | refine blk_drewN ?_ _ | refine blk_drew ?_ | refine blk_alloc ?_ _)); exact BK260.out) hb)
                              have n1_ := Aside0.mk (blk_below (g := gb267) (o := .cells #[.bool t263, .bool t264, .bool t265, .bool t266] 23 (0, 0)) (by (with_reducible repeat (first | refine blk_drewN ?_ _ | refine blk_drew ?_ | refine blk_alloc ?_ _)); exact BK267.out) hb)
                              have n2_ := Aside0.mk (blk_below (g := gb273) (o := .cells #[.bool t269, .bool t270, .bool t271, .bool t272] 23 (0, 0)) (by (with_reducible repeat (first | refine blk_drewN ?_ _ | refine blk_drew ?_ | refine blk_alloc ?_ _)); exact BK273.out) hb)
                              have n3_ := Aside0.mk (blk_below (g := gb279) (o := .cells #[.bool t275, .bool t276, .bool t277, .bool t278] 23 (0, 0)) (by (with_reducible repeat (first | refine blk_drewN ?_ _ | refine blk_drew ?_ | refine blk_alloc ?_ _)); exact BK279.out) hb)
                              have n4_ := Aside0.mk (blk_below (g := gb285) (o := .cells #[.bool t281, .bool t282, .bool t283, .bool t284] 23 (0, 0)) (by (with_reducible repeat (first | refine blk_drewN ?_ _ | refine blk_drew ?_ | refine blk_alloc ?_ _)); exact BK285.out) hb)
                              have n5_ := Aside0.mk (blk_below (g := gb291) (o := .cells #[.bool t287, .bool t288, .bool t289, .bool t290] 23 (0, 0)) (by (with_reducible repeat (first | refine blk_drewN ?_ _ | refine blk_drew ?_ | refine blk_alloc ?_ _)); exact BK291.out) hb)
                              have n6_ := Aside0.mk (blk_below (g := gb297) (o := .cells #[.bool false, .bool t294, .bool t295, .bool t296] 23 (0, 0)) (by (with_reducible repeat (first | refine blk_drewN ?_ _ | refine blk_drew ?_ | refine blk_alloc ?_ _)); exact BK297.out) hb)
                              have n7_ := Aside0.mk (below_step (by repeat (first | (with_reducible first | exact HB.out | apply below_alloc | apply pw_below_drewN | apply below_drew1 | refine below_set ?_ GE260.out | refine below_set ?_ GE267.out | refine below_set ?_ GE273.out | refine below_set ?_ GE279.out | refine below_set ?_ GE285.out | refine below_set ?_ GE291.out | refine below_set ?_ GE297.out) | exact HB.out)) hb)
                              have n8_ := Aside0.mk (hbox)
                              have n9_ := Aside0.mk ((by rw [hg]; exact (below_size (by repeat (first | (with_reducible first | exact HB.out | apply below_alloc | apply pw_below_drewN | apply below_drew1 | refine below_set ?_ GE260.out | refine below_set ?_ GE267.out | refine below_set ?_ GE273.out | refine below_set ?_ GE279.out | refine below_set ?_ GE285.out | refine below_set ?_ GE291.out | refine below_set ?_ GE297.out) | exact HB.out))) : w.heap.size ≤ gb303))
                              have n10_ := Aside0.mk ((by rw [hg]; exact (below_size (by repeat (first | (with_reducible first | exact HB.out | apply below_alloc | apply pw_below_drewN | apply below_drew1 | refine below_set ?_ GE260.out | refine below_set ?_ GE267.out | refine below_set ?_ GE273.out | refine below_set ?_ GE279.out | refine below_set ?_ GE285.out | refine below_set ?_ GE291.out | refine below_set ?_ GE297.out) | exact HB.out))) : w.heap.size ≤ gb303))
                              have n11_ := Aside0.mk ((by rw [hg]; exact Nat.ne_of_lt (blk_lt (g := gb260) (o := .cells #[.bool a2_0, .bool a2_1, .bool a2_2, .bool a2_3] 23 (0, 0)) (by (with_reducible repeat (first | refine blk_drewN ?_ _ | refine blk_drew ?_ | refine blk_alloc ?_ _)); exact BK260.out)) : gb260 ≠ gb303))
                              have n12_ := Aside0.mk ((by rw [hg]; exact Nat.ne_of_gt (blk_lt (g := gb260) (o := .cells #[.bool a2_0, .bool a2_1, .bool a2_2, .bool a2_3] 23 (0, 0)) (by (with_reducible repeat (first | refine blk_drewN ?_ _ | refine blk_drew ?_ | refine blk_alloc ?_ _)); exact BK260.out)) : gb303 ≠ gb260))
                              have n13_ := Aside0.mk ((by rw [hg]; exact Nat.ne_of_lt (blk_lt (g := gb267) (o := .cells #[.bool t263, .bool t264, .bool t265, .bool t266] 23 (0, 0)) (by (with_reducible repeat (first | refine blk_drewN ?_ _ | refine blk_drew ?_ | refine blk_alloc ?_ _)); exact BK267.out)) : gb267 ≠ gb303))
                              have n14_ := Aside0.mk ((by rw [hg]; exact Nat.ne_of_gt (blk_lt (g := gb267) (o := .cells #[.bool t263, .bool t264, .bool t265, .bool t266] 23 (0, 0)) (by (with_reducible repeat (first | refine blk_drewN ?_ _ | refine blk_drew ?_ | refine blk_alloc ?_ _)); exact BK267.out)) : gb303 ≠ gb267))
                              have n15_ := Aside0.mk ((by rw [hg]; exact Nat.ne_of_lt (blk_lt (g := gb273) (o := .cells #[.bool t269, .bool t270, .bool t271, .bool t272] 23 (0, 0)) (by (with_reducible repeat (first | refine blk_drewN ?_ _ | refine blk_drew ?_ | refine blk_alloc ?_ _)); exact BK273.out)) : gb273 ≠ gb303))
                              have n16_ := Aside0.mk ((by rw [hg]; exact Nat.ne_of_gt (blk_lt (g := gb273) (o := .cells #[.bool t269, .bool t270, .bool t271, .bool t272] 23 (0, 0)) (by (with_reducible repeat (first | refine blk_drewN ?_ _ | refine blk_drew ?_ | refine blk_alloc ?_ _)); exact BK273.out)) : gb303 ≠ gb273))
                              have n17_ := Aside0.mk ((by rw [hg]; exact Nat.ne_of_lt (blk_lt (g := gb279) (o := .cells #[.bool t275, .bool t276, .bool t277, .bool t278] 23 (0, 0)) (by (with_reducible repeat (first | refine blk_drewN ?_ _ | refine blk_drew ?_ | refine blk_alloc ?_ _)); exact BK279.out)) : gb279 ≠ gb303))
                              have n18_ := Aside0.mk ((by rw [hg]; exact Nat.ne_of_gt (blk_lt (g := gb279) (o := .cells #[.bool t275, .bool t276, .bool t277, .bool t278] 23 (0, 0)) (by (with_reducible repeat (first | refine blk_drewN ?_ _ | refine blk_drew ?_ | refine blk_alloc ?_ _)); exact BK279.out)) : gb303 ≠ gb279))
                              have n19_ := Aside0.mk ((by rw [hg]; exact Nat.ne_of_lt (blk_lt (g := gb285) (o := .cells #[.bool t281, .bool t282, .bool t283, .bool t284] 23 (0, 0)) (by (with_reducible repeat (first | refine blk_drewN ?_ _ | refine blk_drew ?_ | refine blk_alloc ?_ _)); exact BK285.out)) : gb285 ≠ gb303))
                              have n20_ := Aside0.mk ((by rw [hg]; exact Nat.ne_of_gt (blk_lt (g := gb285) (o := .cells #[.bool t281, .bool t282, .bool t283, .bool t284] 23 (0, 0)) (by (with_reducible repeat (first | refine blk_drewN ?_ _ | refine blk_drew ?_ | refine blk_alloc ?_ _)); exact BK285.out)) : gb303 ≠ gb285))
                              have n21_ := Aside0.mk ((by rw [hg]; exact Nat.ne_of_lt (blk_lt (g := gb291) (o := .cells #[.bool t287, .bool t288, .bool t289, .bool t290] 23 (0, 0)) (by (with_reducible repeat (first | refine blk_drewN ?_ _ | refine blk_drew ?_ | refine blk_alloc ?_ _)); exact BK291.out)) : gb291 ≠ gb303))
                              have n22_ := Aside0.mk ((by rw [hg]; exact Nat.ne_of_gt (blk_lt (g := gb291) (o := .cells #[.bool t287, .bool t288, .bool t289, .bool t290] 23 (0, 0)) (by (with_reducible repeat (first | refine blk_drewN ?_ _ | refine blk_drew ?_ | refine blk_alloc ?_ _)); exact BK291.out)) : gb303 ≠ gb291))
                              have n23_ := Aside0.mk ((by rw [hg]; exact Nat.ne_of_lt (blk_lt (g := gb297) (o := .cells #[.bool false, .bool t294, .bool t295, .bool t296] 23 (0, 0)) (by (with_reducible repeat (first | refine blk_drewN ?_ _ | refine blk_drew ?_ | refine blk_alloc ?_ _)); exact BK297.out)) : gb297 ≠ gb303))
                              have n24_ := Aside0.mk ((by rw [hg]; exact Nat.ne_of_gt (blk_lt (g := gb297) (o := .cells #[.bool false, .bool t294, .bool t295, .bool t296] 23 (0, 0)) (by (with_reducible repeat (first | refine blk_drewN ?_ _ | refine blk_drew ?_ | refine blk_alloc ?_ _)); exact BK297.out)) : gb303 ≠ gb297))
                              clear BK260
                              clear BK267
                              clear BK273
                              clear BK279
                              clear BK285
                              clear BK291
                              clear BK297
                              clear HB
                              have BK260 := n0_
                              have BK267 := n1_
                              have BK273 := n2_
                              have BK279 := n3_
                              have BK285 := n4_
                              have BK291 := n5_
                              have BK297 := n6_
                              have HB := n7_
                              have BK303 := n8_
                              have GW303 := n9_
                              have GE303 := n10_
                              have NB260_303 := n11_
                              have NB303_260 := n12_
                              have NB267_303 := n13_
                              have NB303_267 := n14_
                              have NB273_303 := n15_
                              have NB303_273 := n16_
                              have NB279_303 := n17_
                              have NB303_279 := n18_
                              have NB285_303 := n19_
                              have NB303_285 := n20_
                              have NB291_303 := n21_
                              have NB303_291 := n22_
                              have NB297_303 := n23_
                              have NB303_297 := n24_
                              clear n0_ n1_ n2_ n3_ n4_ n5_ n6_ n7_ n8_ n9_ n10_ n11_ n12_ n13_ n14_ n15_ n16_ n17_ n18_ n19_ n20_ n21_ n22_ n23_ n24_
                              clear hb hbox hg
                              refine hK.out _ _ ⟨(blk_cell BK260.out 0).trans rfl, (blk_cell BK260.out 1).trans rfl, (blk_cell BK260.out 2).trans rfl, (blk_cell BK260.out 3).trans rfl⟩ (fun hHeld => ?_)
                              clear hK K
                              refine norm_ (a' := ?_) ?_ ?_
                              rotate_left
                              · show Act.put _ (some 21) _ = _
                                simp only [Act.put, List.setIfInBounds_toArray, List.set_cons_zero, List.set_cons_succ, i64_w, i32_w]
                                rfl
                              refine one_ (i := 5) (N := some 68) #[true, true, true, true, true, true, true, false] rfl rfl (one_of HT_.out (by kernel_rfl)) (by decide) (fun K hK => ?_)
                              refine goes_ Try.func15 (by kernel_rfl) rfl #[.int .i64 a1, .int .u8 t298, .agg #[.bool a2_0, .bool a2_1, .bool a2_2, .bool a2_3]] (by rfl) rfl rfl (by (try simp only [List.map_toArray, List.map_cons, List.map_nil]); first | done | rfl | (simp only [List.length_drop, List.length_take]; rfl)) ?_
                              with_reducible refine (shift_Test.calls a1 t298 a2_0 a2_1 a2_2 a2_3 t299 t300 t301 t302 _ A61.out).mono ?_
                              rintro e w118 ⟨rfl, hb⟩
                              refine ⟨_, rfl, ?_⟩
                              have n0_ := Aside0.mk (blk_below (g := gb260) (o := .cells #[.bool a2_0, .bool a2_1, .bool a2_2, .bool a2_3] 23 (0, 0)) (by (with_reducible repeat (first | refine blk_drewN ?_ _ | refine blk_drew ?_ | refine blk_alloc ?_ _)); exact BK260.out) hb)
                              have n1_ := Aside0.mk (blk_below (g := gb267) (o := .cells #[.bool t263, .bool t264, .bool t265, .bool t266] 23 (0, 0)) (by (with_reducible repeat (first | refine blk_drewN ?_ _ | refine blk_drew ?_ | refine blk_alloc ?_ _)); exact BK267.out) hb)
                              have n2_ := Aside0.mk (blk_below (g := gb273) (o := .cells #[.bool t269, .bool t270, .bool t271, .bool t272] 23 (0, 0)) (by (with_reducible repeat (first | refine blk_drewN ?_ _ | refine blk_drew ?_ | refine blk_alloc ?_ _)); exact BK273.out) hb)
                              have n3_ := Aside0.mk (blk_below (g := gb279) (o := .cells #[.bool t275, .bool t276, .bool t277, .bool t278] 23 (0, 0)) (by (with_reducible repeat (first | refine blk_drewN ?_ _ | refine blk_drew ?_ | refine blk_alloc ?_ _)); exact BK279.out) hb)
                              have n4_ := Aside0.mk (blk_below (g := gb285) (o := .cells #[.bool t281, .bool t282, .bool t283, .bool t284] 23 (0, 0)) (by (with_reducible repeat (first | refine blk_drewN ?_ _ | refine blk_drew ?_ | refine blk_alloc ?_ _)); exact BK285.out) hb)
                              have n5_ := Aside0.mk (blk_below (g := gb291) (o := .cells #[.bool t287, .bool t288, .bool t289, .bool t290] 23 (0, 0)) (by (with_reducible repeat (first | refine blk_drewN ?_ _ | refine blk_drew ?_ | refine blk_alloc ?_ _)); exact BK291.out) hb)
                              have n6_ := Aside0.mk (blk_below (g := gb297) (o := .cells #[.bool false, .bool t294, .bool t295, .bool t296] 23 (0, 0)) (by (with_reducible repeat (first | refine blk_drewN ?_ _ | refine blk_drew ?_ | refine blk_alloc ?_ _)); exact BK297.out) hb)
                              have n7_ := Aside0.mk (blk_below (g := gb303) (o := .cells #[.bool false, .bool false, .bool false, .bool false] 23 (0, 0)) (by (with_reducible repeat (first | refine blk_drewN ?_ _ | refine blk_drew ?_ | refine blk_alloc ?_ _)); exact BK303.out) hb)
                              have n8_ := Aside0.mk (below_step (by repeat (first | (with_reducible first | exact HB.out | apply below_alloc | apply pw_below_drewN | apply below_drew1 | refine below_set ?_ GE260.out | refine below_set ?_ GE267.out | refine below_set ?_ GE273.out | refine below_set ?_ GE279.out | refine below_set ?_ GE285.out | refine below_set ?_ GE291.out | refine below_set ?_ GE297.out | refine below_set ?_ GE303.out) | exact HB.out)) hb)
                              clear BK260
                              clear BK267
                              clear BK273
                              clear BK279
                              clear BK285
                              clear BK291
                              clear BK297
                              clear BK303
                              clear HB
                              have BK260 := n0_
                              have BK267 := n1_
                              have BK273 := n2_
                              have BK279 := n3_
                              have BK285 := n4_
                              have BK291 := n5_
                              have BK297 := n6_
                              have BK303 := n7_
                              have HB := n8_
                              clear n0_ n1_ n2_ n3_ n4_ n5_ n6_ n7_ n8_
                              (try clear hb)
                              (try clear hb2)
                              (try clear hk)
                              (try clear hi)
                              refine hK.out _ _ ⟨(blk_cell BK260.out 0).trans rfl, (blk_cell BK260.out 1).trans rfl, (blk_cell BK260.out 2).trans rfl, (blk_cell BK260.out 3).trans rfl⟩ (fun hHeld => ?_)
                              clear hK K
                              refine norm_ (a' := ?_) ?_ ?_
                              rotate_left
                              · show Act.put _ (some 68) _ = _
                                simp only [Act.put, List.setIfInBounds_toArray, List.set_cons_zero, List.set_cons_succ, i64_w, i32_w]
                                rfl
                              exact norm_ (by simp only [putAll, Act.put, List.setIfInBounds_toArray, List.set_cons_zero, List.set_cons_succ]) (hCont (gb303) _ ⟨hHeld, (by (with_reducible repeat (first | refine blk_drewN ?_ _ | refine blk_drew ?_ | refine blk_alloc ?_ _)); exact BK260.out), (by (with_reducible repeat (first | refine blk_drewN ?_ _ | refine blk_drew ?_ | refine blk_alloc ?_ _)); exact BK267.out), (by (with_reducible repeat (first | refine blk_drewN ?_ _ | refine blk_drew ?_ | refine blk_alloc ?_ _)); exact BK273.out), (by (with_reducible repeat (first | refine blk_drewN ?_ _ | refine blk_drew ?_ | refine blk_alloc ?_ _)); exact BK279.out), (by (with_reducible repeat (first | refine blk_drewN ?_ _ | refine blk_drew ?_ | refine blk_alloc ?_ _)); exact BK285.out), (by (with_reducible repeat (first | refine blk_drewN ?_ _ | refine blk_drew ?_ | refine blk_alloc ?_ _)); exact BK291.out), (by (with_reducible repeat (first | refine blk_drewN ?_ _ | refine blk_drew ?_ | refine blk_alloc ?_ _)); exact BK297.out), (by (with_reducible repeat (first | refine blk_drewN ?_ _ | refine blk_drew ?_ | refine blk_alloc ?_ _)); exact BK303.out), GW303.out, GE303.out, NB260_303.out, NB303_260.out, NB267_303.out, NB303_267.out, NB273_303.out, NB303_273.out, NB279_303.out, NB303_279.out, NB285_303.out, NB303_285.out, NB291_303.out, NB303_291.out, NB297_303.out, NB303_297.out, (by repeat (first | (with_reducible first | exact HB.out | apply below_alloc | apply pw_below_drewN | apply below_drew1 | refine below_set ?_ GE260.out | refine below_set ?_ GE267.out | refine below_set ?_ GE273.out | refine below_set ?_ GE279.out | refine below_set ?_ GE285.out | refine below_set ?_ GE291.out | refine below_set ?_ GE297.out | refine below_set ?_ GE303.out) | exact HB.out))⟩)
                          · skip
                            refine box_step ?hg (N := 21) ?hd (cs := #[.bool false, .bool false, .bool false, .bool false]) (t := 23) ?hr ?_; (case hd => rfl); (case hg => rfl); (case hr => first | (go_simp; done) | (go_simp; rfl))
                            intro gb303 hg w117 hbox hb
                            have n0_ := Aside0.mk (blk_below (g := gb260) (o := .cells #[.bool a2_0, .bool a2_1, .bool a2_2, .bool a2_3] 23 (0, 0)) (by (with_reducible repeat (first | refine blk_drewN ?_ _ | refine blk_drew ?_ | refine blk_alloc ?_ _)); exact BK260.out) hb)
                            have n1_ := Aside0.mk (blk_below (g := gb267) (o := .cells #[.bool t263, .bool t264, .bool t265, .bool t266] 23 (0, 0)) (by (with_reducible repeat (first | refine blk_drewN ?_ _ | refine blk_drew ?_ | refine blk_alloc ?_ _)); exact BK267.out) hb)
                            have n2_ := Aside0.mk (blk_below (g := gb273) (o := .cells #[.bool t269, .bool t270, .bool t271, .bool t272] 23 (0, 0)) (by (with_reducible repeat (first | refine blk_drewN ?_ _ | refine blk_drew ?_ | refine blk_alloc ?_ _)); exact BK273.out) hb)
                            have n3_ := Aside0.mk (blk_below (g := gb279) (o := .cells #[.bool t275, .bool t276, .bool t277, .bool t278] 23 (0, 0)) (by (with_reducible repeat (first | refine blk_drewN ?_ _ | refine blk_drew ?_ | refine blk_alloc ?_ _)); exact BK279.out) hb)
                            have n4_ := Aside0.mk (blk_below (g := gb285) (o := .cells #[.bool t281, .bool t282, .bool t283, .bool t284] 23 (0, 0)) (by (with_reducible repeat (first | refine blk_drewN ?_ _ | refine blk_drew ?_ | refine blk_alloc ?_ _)); exact BK285.out) hb)
                            have n5_ := Aside0.mk (blk_below (g := gb291) (o := .cells #[.bool t287, .bool t288, .bool t289, .bool t290] 23 (0, 0)) (by (with_reducible repeat (first | refine blk_drewN ?_ _ | refine blk_drew ?_ | refine blk_alloc ?_ _)); exact BK291.out) hb)
                            have n6_ := Aside0.mk (blk_below (g := gb297) (o := .cells #[.bool false, .bool t294, .bool t295, .bool t296] 23 (0, 0)) (by (with_reducible repeat (first | refine blk_drewN ?_ _ | refine blk_drew ?_ | refine blk_alloc ?_ _)); exact BK297.out) hb)
                            have n7_ := Aside0.mk (below_step (by repeat (first | (with_reducible first | exact HB.out | apply below_alloc | apply pw_below_drewN | apply below_drew1 | refine below_set ?_ GE260.out | refine below_set ?_ GE267.out | refine below_set ?_ GE273.out | refine below_set ?_ GE279.out | refine below_set ?_ GE285.out | refine below_set ?_ GE291.out | refine below_set ?_ GE297.out) | exact HB.out)) hb)
                            have n8_ := Aside0.mk (hbox)
                            have n9_ := Aside0.mk ((by rw [hg]; exact (below_size (by repeat (first | (with_reducible first | exact HB.out | apply below_alloc | apply pw_below_drewN | apply below_drew1 | refine below_set ?_ GE260.out | refine below_set ?_ GE267.out | refine below_set ?_ GE273.out | refine below_set ?_ GE279.out | refine below_set ?_ GE285.out | refine below_set ?_ GE291.out | refine below_set ?_ GE297.out) | exact HB.out))) : w.heap.size ≤ gb303))
                            have n10_ := Aside0.mk ((by rw [hg]; exact (below_size (by repeat (first | (with_reducible first | exact HB.out | apply below_alloc | apply pw_below_drewN | apply below_drew1 | refine below_set ?_ GE260.out | refine below_set ?_ GE267.out | refine below_set ?_ GE273.out | refine below_set ?_ GE279.out | refine below_set ?_ GE285.out | refine below_set ?_ GE291.out | refine below_set ?_ GE297.out) | exact HB.out))) : w.heap.size ≤ gb303))
                            have n11_ := Aside0.mk ((by rw [hg]; exact Nat.ne_of_lt (blk_lt (g := gb260) (o := .cells #[.bool a2_0, .bool a2_1, .bool a2_2, .bool a2_3] 23 (0, 0)) (by (with_reducible repeat (first | refine blk_drewN ?_ _ | refine blk_drew ?_ | refine blk_alloc ?_ _)); exact BK260.out)) : gb260 ≠ gb303))
                            have n12_ := Aside0.mk ((by rw [hg]; exact Nat.ne_of_gt (blk_lt (g := gb260) (o := .cells #[.bool a2_0, .bool a2_1, .bool a2_2, .bool a2_3] 23 (0, 0)) (by (with_reducible repeat (first | refine blk_drewN ?_ _ | refine blk_drew ?_ | refine blk_alloc ?_ _)); exact BK260.out)) : gb303 ≠ gb260))
                            have n13_ := Aside0.mk ((by rw [hg]; exact Nat.ne_of_lt (blk_lt (g := gb267) (o := .cells #[.bool t263, .bool t264, .bool t265, .bool t266] 23 (0, 0)) (by (with_reducible repeat (first | refine blk_drewN ?_ _ | refine blk_drew ?_ | refine blk_alloc ?_ _)); exact BK267.out)) : gb267 ≠ gb303))
                            have n14_ := Aside0.mk ((by rw [hg]; exact Nat.ne_of_gt (blk_lt (g := gb267) (o := .cells #[.bool t263, .bool t264, .bool t265, .bool t266] 23 (0, 0)) (by (with_reducible repeat (first | refine blk_drewN ?_ _ | refine blk_drew ?_ | refine blk_alloc ?_ _)); exact BK267.out)) : gb303 ≠ gb267))
                            have n15_ := Aside0.mk ((by rw [hg]; exact Nat.ne_of_lt (blk_lt (g := gb273) (o := .cells #[.bool t269, .bool t270, .bool t271, .bool t272] 23 (0, 0)) (by (with_reducible repeat (first | refine blk_drewN ?_ _ | refine blk_drew ?_ | refine blk_alloc ?_ _)); exact BK273.out)) : gb273 ≠ gb303))
                            have n16_ := Aside0.mk ((by rw [hg]; exact Nat.ne_of_gt (blk_lt (g := gb273) (o := .cells #[.bool t269, .bool t270, .bool t271, .bool t272] 23 (0, 0)) (by (with_reducible repeat (first | refine blk_drewN ?_ _ | refine blk_drew ?_ | refine blk_alloc ?_ _)); exact BK273.out)) : gb303 ≠ gb273))
                            have n17_ := Aside0.mk ((by rw [hg]; exact Nat.ne_of_lt (blk_lt (g := gb279) (o := .cells #[.bool t275, .bool t276, .bool t277, .bool t278] 23 (0, 0)) (by (with_reducible repeat (first | refine blk_drewN ?_ _ | refine blk_drew ?_ | refine blk_alloc ?_ _)); exact BK279.out)) : gb279 ≠ gb303))
                            have n18_ := Aside0.mk ((by rw [hg]; exact Nat.ne_of_gt (blk_lt (g := gb279) (o := .cells #[.bool t275, .bool t276, .bool t277, .bool t278] 23 (0, 0)) (by (with_reducible repeat (first | refine blk_drewN ?_ _ | refine blk_drew ?_ | refine blk_alloc ?_ _)); exact BK279.out)) : gb303 ≠ gb279))
                            have n19_ := Aside0.mk ((by rw [hg]; exact Nat.ne_of_lt (blk_lt (g := gb285) (o := .cells #[.bool t281, .bool t282, .bool t283, .bool t284] 23 (0, 0)) (by (with_reducible repeat (first | refine blk_drewN ?_ _ | refine blk_drew ?_ | refine blk_alloc ?_ _)); exact BK285.out)) : gb285 ≠ gb303))
                            have n20_ := Aside0.mk ((by rw [hg]; exact Nat.ne_of_gt (blk_lt (g := gb285) (o := .cells #[.bool t281, .bool t282, .bool t283, .bool t284] 23 (0, 0)) (by (with_reducible repeat (first | refine blk_drewN ?_ _ | refine blk_drew ?_ | refine blk_alloc ?_ _)); exact BK285.out)) : gb303 ≠ gb285))
                            have n21_ := Aside0.mk ((by rw [hg]; exact Nat.ne_of_lt (blk_lt (g := gb291) (o := .cells #[.bool t287, .bool t288, .bool t289, .bool t290] 23 (0, 0)) (by (with_reducible repeat (first | refine blk_drewN ?_ _ | refine blk_drew ?_ | refine blk_alloc ?_ _)); exact BK291.out)) : gb291 ≠ gb303))
                            have n22_ := Aside0.mk ((by rw [hg]; exact Nat.ne_of_gt (blk_lt (g := gb291) (o := .cells #[.bool t287, .bool t288, .bool t289, .bool t290] 23 (0, 0)) (by (with_reducible repeat (first | refine blk_drewN ?_ _ | refine blk_drew ?_ | refine blk_alloc ?_ _)); exact BK291.out)) : gb303 ≠ gb291))
                            have n23_ := Aside0.mk ((by rw [hg]; exact Nat.ne_of_lt (blk_lt (g := gb297) (o := .cells #[.bool false, .bool t294, .bool t295, .bool t296] 23 (0, 0)) (by (with_reducible repeat (first | refine blk_drewN ?_ _ | refine blk_drew ?_ | refine blk_alloc ?_ _)); exact BK297.out)) : gb297 ≠ gb303))
                            have n24_ := Aside0.mk ((by rw [hg]; exact Nat.ne_of_gt (blk_lt (g := gb297) (o := .cells #[.bool false, .bool t294, .bool t295, .bool t296] 23 (0, 0)) (by (with_reducible repeat (first | refine blk_drewN ?_ _ | refine blk_drew ?_ | refine blk_alloc ?_ _)); exact BK297.out)) : gb303 ≠ gb297))
                            clear BK260
                            clear BK267
                            clear BK273
                            clear BK279
                            clear BK285
                            clear BK291
                            clear BK297
                            clear HB
                            have BK260 := n0_
                            have BK267 := n1_
                            have BK273 := n2_
                            have BK279 := n3_
                            have BK285 := n4_
                            have BK291 := n5_
                            have BK297 := n6_
                            have HB := n7_
                            have BK303 := n8_
                            have GW303 := n9_
                            have GE303 := n10_
                            have NB260_303 := n11_
                            have NB303_260 := n12_
                            have NB267_303 := n13_
                            have NB303_267 := n14_
                            have NB273_303 := n15_
                            have NB303_273 := n16_
                            have NB279_303 := n17_
                            have NB303_279 := n18_
                            have NB285_303 := n19_
                            have NB303_285 := n20_
                            have NB291_303 := n21_
                            have NB303_291 := n22_
                            have NB297_303 := n23_
                            have NB303_297 := n24_
                            clear n0_ n1_ n2_ n3_ n4_ n5_ n6_ n7_ n8_ n9_ n10_ n11_ n12_ n13_ n14_ n15_ n16_ n17_ n18_ n19_ n20_ n21_ n22_ n23_ n24_
                            clear hb hbox hg
                            refine hK.out _ _ ⟨(blk_cell BK260.out 0).trans rfl, (blk_cell BK260.out 1).trans rfl, (blk_cell BK260.out 2).trans rfl, (blk_cell BK260.out 3).trans rfl⟩ (fun hHeld => ?_)
                            clear hK K
                            refine norm_ (a' := ?_) ?_ ?_
                            rotate_left
                            · show Act.put _ (some 21) _ = _
                              simp only [Act.put, List.setIfInBounds_toArray, List.set_cons_zero, List.set_cons_succ, i64_w, i32_w]
                              rfl
                            refine one_ (i := 3) (N := some 66) #[true, true, true, true, true, false, true, false] rfl rfl (one_of HT_.out (by kernel_rfl)) (by decide) (fun K hK => ?_)
                            refine goes_ Try.func17 (by kernel_rfl) rfl #[.int .i64 a1, .int .u8 a0] (by rfl) rfl rfl (by (try simp only [List.map_toArray, List.map_cons, List.map_nil]); first | done | rfl | (simp only [List.length_drop, List.length_take]; rfl)) ?_
                            with_reducible refine (shift_Res.calls kj49 a1 a0 t298 _ A60.out).mono ?_
                            rintro e w' ⟨rfl, ⟨nd, rfl⟩⟩
                            refine ⟨_, rfl, ?_⟩
                            refine hK.out _ _ ⟨(blk_cell BK260.out 0).trans rfl, (blk_cell BK260.out 1).trans rfl, (blk_cell BK260.out 2).trans rfl, (blk_cell BK260.out 3).trans rfl⟩ (fun hHeld => ?_)
                            clear hK K
                            refine norm_ (a' := ?_) ?_ ?_
                            rotate_left
                            · show Act.put _ (some 66) _ = _
                              simp only [Act.put, List.setIfInBounds_toArray, List.set_cons_zero, List.set_cons_succ, i64_w, i32_w]
                              rfl
                            refine one_ (i := 5) (N := some 68) #[true, true, true, true, true, true, true, false] rfl rfl (one_of HT_.out (by kernel_rfl)) (by decide) (fun K hK => ?_)
                            refine goes_ Try.func15 (by kernel_rfl) rfl #[.int .i64 a1, .int .u8 t298, .agg #[.bool a2_0, .bool a2_1, .bool a2_2, .bool a2_3]] (by rfl) rfl rfl (by (try simp only [List.map_toArray, List.map_cons, List.map_nil]); first | done | rfl | (simp only [List.length_drop, List.length_take]; rfl)) ?_
                            with_reducible refine (shift_Test.calls a1 t298 a2_0 a2_1 a2_2 a2_3 t299 t300 t301 t302 _ A61.out).mono ?_
                            rintro e w118 ⟨rfl, hb⟩
                            refine ⟨_, rfl, ?_⟩
                            have n0_ := Aside0.mk (blk_below (g := gb260) (o := .cells #[.bool a2_0, .bool a2_1, .bool a2_2, .bool a2_3] 23 (0, 0)) (by (with_reducible repeat (first | refine blk_drewN ?_ _ | refine blk_drew ?_ | refine blk_alloc ?_ _)); exact BK260.out) hb)
                            have n1_ := Aside0.mk (blk_below (g := gb267) (o := .cells #[.bool t263, .bool t264, .bool t265, .bool t266] 23 (0, 0)) (by (with_reducible repeat (first | refine blk_drewN ?_ _ | refine blk_drew ?_ | refine blk_alloc ?_ _)); exact BK267.out) hb)
                            have n2_ := Aside0.mk (blk_below (g := gb273) (o := .cells #[.bool t269, .bool t270, .bool t271, .bool t272] 23 (0, 0)) (by (with_reducible repeat (first | refine blk_drewN ?_ _ | refine blk_drew ?_ | refine blk_alloc ?_ _)); exact BK273.out) hb)
                            have n3_ := Aside0.mk (blk_below (g := gb279) (o := .cells #[.bool t275, .bool t276, .bool t277, .bool t278] 23 (0, 0)) (by (with_reducible repeat (first | refine blk_drewN ?_ _ | refine blk_drew ?_ | refine blk_alloc ?_ _)); exact BK279.out) hb)
                            have n4_ := Aside0.mk (blk_below (g := gb285) (o := .cells #[.bool t281, .bool t282, .bool t283, .bool t284] 23 (0, 0)) (by (with_reducible repeat (first | refine blk_drewN ?_ _ | refine blk_drew ?_ | refine blk_alloc ?_ _)); exact BK285.out) hb)
                            have n5_ := Aside0.mk (blk_below (g := gb291) (o := .cells #[.bool t287, .bool t288, .bool t289, .bool t290] 23 (0, 0)) (by (with_reducible repeat (first | refine blk_drewN ?_ _ | refine blk_drew ?_ | refine blk_alloc ?_ _)); exact BK291.out) hb)
                            have n6_ := Aside0.mk (blk_below (g := gb297) (o := .cells #[.bool false, .bool t294, .bool t295, .bool t296] 23 (0, 0)) (by (with_reducible repeat (first | refine blk_drewN ?_ _ | refine blk_drew ?_ | refine blk_alloc ?_ _)); exact BK297.out) hb)
                            have n7_ := Aside0.mk (blk_below (g := gb303) (o := .cells #[.bool false, .bool false, .bool false, .bool false] 23 (0, 0)) (by (with_reducible repeat (first | refine blk_drewN ?_ _ | refine blk_drew ?_ | refine blk_alloc ?_ _)); exact BK303.out) hb)
                            have n8_ := Aside0.mk (below_step (by repeat (first | (with_reducible first | exact HB.out | apply below_alloc | apply pw_below_drewN | apply below_drew1 | refine below_set ?_ GE260.out | refine below_set ?_ GE267.out | refine below_set ?_ GE273.out | refine below_set ?_ GE279.out | refine below_set ?_ GE285.out | refine below_set ?_ GE291.out | refine below_set ?_ GE297.out | refine below_set ?_ GE303.out) | exact HB.out)) hb)
                            clear BK260
                            clear BK267
                            clear BK273
                            clear BK279
                            clear BK285
                            clear BK291
                            clear BK297
                            clear BK303
                            clear HB
                            have BK260 := n0_
                            have BK267 := n1_
                            have BK273 := n2_
                            have BK279 := n3_
                            have BK285 := n4_
                            have BK291 := n5_
                            have BK297 := n6_
                            have BK303 := n7_
                            have HB := n8_
                            clear n0_ n1_ n2_ n3_ n4_ n5_ n6_ n7_ n8_
                            (try clear hb)
                            (try clear hb2)
                            (try clear hk)
                            (try clear hi)
                            refine hK.out _ _ ⟨(blk_cell BK260.out 0).trans rfl, (blk_cell BK260.out 1).trans rfl, (blk_cell BK260.out 2).trans rfl, (blk_cell BK260.out 3).trans rfl⟩ (fun hHeld => ?_)
                            clear hK K
                            refine norm_ (a' := ?_) ?_ ?_
                            rotate_left
                            · show Act.put _ (some 68) _ = _
                              simp only [Act.put, List.setIfInBounds_toArray, List.set_cons_zero, List.set_cons_succ, i64_w, i32_w]
                              rfl
                            exact norm_ (by simp only [putAll, Act.put, List.setIfInBounds_toArray, List.set_cons_zero, List.set_cons_succ]) (hCont (gb303) _ ⟨hHeld, (by (with_reducible repeat (first | refine blk_drewN ?_ _ | refine blk_drew ?_ | refine blk_alloc ?_ _)); exact BK260.out), (by (with_reducible repeat (first | refine blk_drewN ?_ _ | refine blk_drew ?_ | refine blk_alloc ?_ _)); exact BK267.out), (by (with_reducible repeat (first | refine blk_drewN ?_ _ | refine blk_drew ?_ | refine blk_alloc ?_ _)); exact BK273.out), (by (with_reducible repeat (first | refine blk_drewN ?_ _ | refine blk_drew ?_ | refine blk_alloc ?_ _)); exact BK279.out), (by (with_reducible repeat (first | refine blk_drewN ?_ _ | refine blk_drew ?_ | refine blk_alloc ?_ _)); exact BK285.out), (by (with_reducible repeat (first | refine blk_drewN ?_ _ | refine blk_drew ?_ | refine blk_alloc ?_ _)); exact BK291.out), (by (with_reducible repeat (first | refine blk_drewN ?_ _ | refine blk_drew ?_ | refine blk_alloc ?_ _)); exact BK297.out), (by (with_reducible repeat (first | refine blk_drewN ?_ _ | refine blk_drew ?_ | refine blk_alloc ?_ _)); exact BK303.out), GW303.out, GE303.out, NB260_303.out, NB303_260.out, NB267_303.out, NB303_267.out, NB273_303.out, NB303_273.out, NB279_303.out, NB303_279.out, NB285_303.out, NB303_285.out, NB291_303.out, NB303_291.out, NB297_303.out, NB303_297.out, (by repeat (first | (with_reducible first | exact HB.out | apply below_alloc | apply pw_below_drewN | apply below_drew1 | refine below_set ?_ GE260.out | refine below_set ?_ GE267.out | refine below_set ?_ GE273.out | refine below_set ?_ GE279.out | refine below_set ?_ GE285.out | refine below_set ?_ GE291.out | refine below_set ?_ GE297.out | refine below_set ?_ GE303.out) | exact HB.out))⟩)
                        rintro gb303 w119 ⟨hS_, h0_, h1_, h2_, h3_, h4_, h5_, h6_, h7_, h8_, h9_, h10_, h11_, h12_, h13_, h14_, h15_, h16_, h17_, h18_, h19_, h20_, h21_, h22_, h23_, h24_⟩
                        have n0_ : Aside0 (w119.heap[gb260]? = some (.cells #[.bool a2_0, .bool a2_1, .bool a2_2, .bool a2_3] 23 (0, 0))) := ⟨h0_⟩
                        have n1_ : Aside0 (w119.heap[gb267]? = some (.cells #[.bool t263, .bool t264, .bool t265, .bool t266] 23 (0, 0))) := ⟨h1_⟩
                        have n2_ : Aside0 (w119.heap[gb273]? = some (.cells #[.bool t269, .bool t270, .bool t271, .bool t272] 23 (0, 0))) := ⟨h2_⟩
                        have n3_ : Aside0 (w119.heap[gb279]? = some (.cells #[.bool t275, .bool t276, .bool t277, .bool t278] 23 (0, 0))) := ⟨h3_⟩
                        have n4_ : Aside0 (w119.heap[gb285]? = some (.cells #[.bool t281, .bool t282, .bool t283, .bool t284] 23 (0, 0))) := ⟨h4_⟩
                        have n5_ : Aside0 (w119.heap[gb291]? = some (.cells #[.bool t287, .bool t288, .bool t289, .bool t290] 23 (0, 0))) := ⟨h5_⟩
                        have n6_ : Aside0 (w119.heap[gb297]? = some (.cells #[.bool false, .bool t294, .bool t295, .bool t296] 23 (0, 0))) := ⟨h6_⟩
                        have n7_ : Aside0 (w119.heap[gb303]? = some (.cells #[.bool false, .bool false, .bool false, .bool false] 23 (0, 0))) := ⟨h7_⟩
                        have n8_ : Aside0 (w.heap.size ≤ gb303) := ⟨h8_⟩
                        have n9_ : Aside0 (w.heap.size ≤ gb303) := ⟨h9_⟩
                        have n10_ : Aside0 (gb260 ≠ gb303) := ⟨h10_⟩
                        have n11_ : Aside0 (gb303 ≠ gb260) := ⟨h11_⟩
                        have n12_ : Aside0 (gb267 ≠ gb303) := ⟨h12_⟩
                        have n13_ : Aside0 (gb303 ≠ gb267) := ⟨h13_⟩
                        have n14_ : Aside0 (gb273 ≠ gb303) := ⟨h14_⟩
                        have n15_ : Aside0 (gb303 ≠ gb273) := ⟨h15_⟩
                        have n16_ : Aside0 (gb279 ≠ gb303) := ⟨h16_⟩
                        have n17_ : Aside0 (gb303 ≠ gb279) := ⟨h17_⟩
                        have n18_ : Aside0 (gb285 ≠ gb303) := ⟨h18_⟩
                        have n19_ : Aside0 (gb303 ≠ gb285) := ⟨h19_⟩
                        have n20_ : Aside0 (gb291 ≠ gb303) := ⟨h20_⟩
                        have n21_ : Aside0 (gb303 ≠ gb291) := ⟨h21_⟩
                        have n22_ : Aside0 (gb297 ≠ gb303) := ⟨h22_⟩
                        have n23_ : Aside0 (gb303 ≠ gb297) := ⟨h23_⟩
                        have n24_ : Aside0 (Below w.heap.size w w119) := ⟨h24_⟩
                        clear BK260
                        clear BK267
                        clear BK273
                        clear BK279
                        clear BK285
                        clear BK291
                        clear BK297
                        clear HB
                        clear h0_ h1_ h2_ h3_ h4_ h5_ h6_ h7_ h8_ h9_ h10_ h11_ h12_ h13_ h14_ h15_ h16_ h17_ h18_ h19_ h20_ h21_ h22_ h23_ h24_
                        have BK260 := n0_
                        have BK267 := n1_
                        have BK273 := n2_
                        have BK279 := n3_
                        have BK285 := n4_
                        have BK291 := n5_
                        have BK297 := n6_
                        have BK303 := n7_
                        have GW303 := n8_
                        have GE303 := n9_
                        have NB260_303 := n10_
                        have NB303_260 := n11_
                        have NB267_303 := n12_
                        have NB303_267 := n13_
                        have NB273_303 := n14_
                        have NB303_273 := n15_
                        have NB279_303 := n16_
                        have NB303_279 := n17_
                        have NB285_303 := n18_
                        have NB303_285 := n19_
                        have NB291_303 := n20_
                        have NB303_291 := n21_
                        have NB297_303 := n22_
                        have NB303_297 := n23_
                        have HB := n24_
                        clear n0_ n1_ n2_ n3_ n4_ n5_ n6_ n7_ n8_ n9_ n10_ n11_ n12_ n13_ n14_ n15_ n16_ n17_ n18_ n19_ n20_ n21_ n22_ n23_ n24_
                        have hHeld : w119.cell? ⟨gb260, 0, none⟩ = some (.bool a2_0) ∧ w119.cell? ⟨gb260, 1, none⟩ = some (.bool a2_1) ∧ w119.cell? ⟨gb260, 2, none⟩ = some (.bool a2_2) ∧ w119.cell? ⟨gb260, 3, none⟩ = some (.bool a2_3) := hS_
                        refine norm_ (a' := ?_) ?_ ?_
                        rotate_left
                        · simp only [putAll, Act.put, List.setIfInBounds_toArray, List.set_cons_zero, List.set_cons_succ]
                          rfl
                        refine one_ (i := 7) (N := none) #[true, true, true, true, true, true, true, true] rfl rfl (one_of HT_.out (by kernel_rfl)) (by decide) (fun K hK => ?_)
                        have hs120 : w119.cell? ⟨gb303, 0, none⟩ = some (.bool false) := (blk_cell BK303.out 0).trans rfl
                        have hfs120 := blk_frozen BK303.out 0
                        have hns120_0 := NB260_303.out
                        have hns120_1 := NB267_303.out
                        have hns120_2 := NB273_303.out
                        have hns120_3 := NB279_303.out
                        have hns120_4 := NB285_303.out
                        have hns120_5 := NB291_303.out
                        have hns120_6 := NB297_303.out
                        have hms120_0 := NB303_260.out
                        have hms120_1 := NB303_267.out
                        have hms120_2 := NB303_273.out
                        have hms120_3 := NB303_279.out
                        have hms120_4 := NB303_285.out
                        have hms120_5 := NB303_291.out
                        have hms120_6 := NB303_297.out
                        have hs121 : w119.cell? ⟨gb303, 1, none⟩ = some (.bool false) := (blk_cell BK303.out 1).trans rfl
                        have hfs121 := blk_frozen BK303.out 1
                        have hns121_0 := NB260_303.out
                        have hns121_1 := NB267_303.out
                        have hns121_2 := NB273_303.out
                        have hns121_3 := NB279_303.out
                        have hns121_4 := NB285_303.out
                        have hns121_5 := NB291_303.out
                        have hns121_6 := NB297_303.out
                        have hms121_0 := NB303_260.out
                        have hms121_1 := NB303_267.out
                        have hms121_2 := NB303_273.out
                        have hms121_3 := NB303_279.out
                        have hms121_4 := NB303_285.out
                        have hms121_5 := NB303_291.out
                        have hms121_6 := NB303_297.out
                        have hs122 : w119.cell? ⟨gb303, 2, none⟩ = some (.bool false) := (blk_cell BK303.out 2).trans rfl
                        have hfs122 := blk_frozen BK303.out 2
                        have hns122_0 := NB260_303.out
                        have hns122_1 := NB267_303.out
                        have hns122_2 := NB273_303.out
                        have hns122_3 := NB279_303.out
                        have hns122_4 := NB285_303.out
                        have hns122_5 := NB291_303.out
                        have hns122_6 := NB297_303.out
                        have hms122_0 := NB303_260.out
                        have hms122_1 := NB303_267.out
                        have hms122_2 := NB303_273.out
                        have hms122_3 := NB303_279.out
                        have hms122_4 := NB303_285.out
                        have hms122_5 := NB303_291.out
                        have hms122_6 := NB303_297.out
                        have hs123 : w119.cell? ⟨gb303, 3, none⟩ = some (.bool false) := (blk_cell BK303.out 3).trans rfl
                        have hfs123 := blk_frozen BK303.out 3
                        have hns123_0 := NB260_303.out
                        have hns123_1 := NB267_303.out
                        have hns123_2 := NB273_303.out
                        have hns123_3 := NB279_303.out
                        have hns123_4 := NB285_303.out
                        have hns123_5 := NB291_303.out
                        have hns123_6 := NB297_303.out
                        have hms123_0 := NB303_260.out
                        have hms123_1 := NB303_267.out
                        have hms123_2 := NB303_273.out
                        have hms123_3 := NB303_279.out
                        have hms123_4 := NB303_285.out
                        have hms123_5 := NB303_291.out
                        have hms123_6 := NB303_297.out
                        refine skip_ (w1 := ?_) (by rfl) rfl ?_ ?_
                        rotate_left
                        · go_simp
                          rfl
                        refine hK.out _ _ ⟨((cell_far (p := ⟨gb303, _, none⟩) NB260_303.out _).trans (((cell_far (p := ⟨gb303, _, none⟩) NB260_303.out _).trans (((cell_far (p := ⟨gb303, _, none⟩) NB260_303.out _).trans (((cell_far (p := ⟨gb303, _, none⟩) NB260_303.out _).trans (hHeld.1)))))))), ((cell_far (p := ⟨gb303, _, none⟩) NB260_303.out _).trans (((cell_far (p := ⟨gb303, _, none⟩) NB260_303.out _).trans (((cell_far (p := ⟨gb303, _, none⟩) NB260_303.out _).trans (((cell_far (p := ⟨gb303, _, none⟩) NB260_303.out _).trans (hHeld.2.1)))))))), ((cell_far (p := ⟨gb303, _, none⟩) NB260_303.out _).trans (((cell_far (p := ⟨gb303, _, none⟩) NB260_303.out _).trans (((cell_far (p := ⟨gb303, _, none⟩) NB260_303.out _).trans (((cell_far (p := ⟨gb303, _, none⟩) NB260_303.out _).trans (hHeld.2.2.1)))))))), ((cell_far (p := ⟨gb303, _, none⟩) NB260_303.out _).trans (((cell_far (p := ⟨gb303, _, none⟩) NB260_303.out _).trans (((cell_far (p := ⟨gb303, _, none⟩) NB260_303.out _).trans (((cell_far (p := ⟨gb303, _, none⟩) NB260_303.out _).trans (hHeld.2.2.2))))))))⟩ (fun hHeld => ?_)
                        clear hK K
                        refine done_ (done_of HT_.out (by kernel_rfl)) ?_
                        have hnb124 := NB279_260.out
                        have hnc124 := NB260_279.out
                        have hnb125 := NB279_267.out
                        have hnc125 := NB267_279.out
                        have hnb126 := NB279_273.out
                        have hnc126 := NB273_279.out
                        have hnb127 := NB279_285.out
                        have hnc127 := NB285_279.out
                        have hnb128 := NB279_291.out
                        have hnc128 := NB291_279.out
                        have hnb129 := NB279_297.out
                        have hnc129 := NB297_279.out
                        have hnb130 := NB279_303.out
                        have hnc130 := NB303_279.out
                        have hcz131_0 : w119.cell? ⟨gb279, 0, none⟩ = some (.bool t275) := (blk_cell BK279.out 0).trans rfl
                        have hcz131_1 : w119.cell? ⟨gb279, 1, none⟩ = some (.bool t276) := (blk_cell BK279.out 1).trans rfl
                        have hcz131_2 : w119.cell? ⟨gb279, 2, none⟩ = some (.bool t277) := (blk_cell BK279.out 2).trans rfl
                        have hcz131_3 : w119.cell? ⟨gb279, 3, none⟩ = some (.bool t278) := (blk_cell BK279.out 3).trans rfl
                        have hfz131_0 := blk_frozen BK279.out 0
                        have hfz131_1 := blk_frozen BK279.out 1
                        have hfz131_2 := blk_frozen BK279.out 2
                        have hfz131_3 := blk_frozen BK279.out 3
                        have hnb132 := NB273_260.out
                        have hnc132 := NB260_273.out
                        have hnb133 := NB273_267.out
                        have hnc133 := NB267_273.out
                        have hnb134 := NB273_285.out
                        have hnc134 := NB285_273.out
                        have hnb135 := NB273_291.out
                        have hnc135 := NB291_273.out
                        have hnb136 := NB273_297.out
                        have hnc136 := NB297_273.out
                        have hnb137 := NB273_303.out
                        have hnc137 := NB303_273.out
                        have hcz138_0 : w119.cell? ⟨gb273, 0, none⟩ = some (.bool t269) := (blk_cell BK273.out 0).trans rfl
                        have hcz138_1 : w119.cell? ⟨gb273, 1, none⟩ = some (.bool t270) := (blk_cell BK273.out 1).trans rfl
                        have hcz138_2 : w119.cell? ⟨gb273, 2, none⟩ = some (.bool t271) := (blk_cell BK273.out 2).trans rfl
                        have hcz138_3 : w119.cell? ⟨gb273, 3, none⟩ = some (.bool t272) := (blk_cell BK273.out 3).trans rfl
                        have hfz138_0 := blk_frozen BK273.out 0
                        have hfz138_1 := blk_frozen BK273.out 1
                        have hfz138_2 := blk_frozen BK273.out 2
                        have hfz138_3 := blk_frozen BK273.out 3
                        have hnb139 := NB297_260.out
                        have hnc139 := NB260_297.out
                        have hnb140 := NB297_267.out
                        have hnc140 := NB267_297.out
                        have hnb141 := NB297_285.out
                        have hnc141 := NB285_297.out
                        have hnb142 := NB297_291.out
                        have hnc142 := NB291_297.out
                        have hnb143 := NB297_303.out
                        have hnc143 := NB303_297.out
                        have hcz144_0 : w119.cell? ⟨gb297, 0, none⟩ = some (.bool false) := (blk_cell BK297.out 0).trans rfl
                        have hcz144_1 : w119.cell? ⟨gb297, 1, none⟩ = some (.bool t294) := (blk_cell BK297.out 1).trans rfl
                        have hcz144_2 : w119.cell? ⟨gb297, 2, none⟩ = some (.bool t295) := (blk_cell BK297.out 2).trans rfl
                        have hcz144_3 : w119.cell? ⟨gb297, 3, none⟩ = some (.bool t296) := (blk_cell BK297.out 3).trans rfl
                        have hfz144_0 := blk_frozen BK297.out 0
                        have hfz144_1 := blk_frozen BK297.out 1
                        have hfz144_2 := blk_frozen BK297.out 2
                        have hfz144_3 := blk_frozen BK297.out 3
                        have hnb145 := NB303_260.out
                        have hnc145 := NB260_303.out
                        have hnb146 := NB303_267.out
                        have hnc146 := NB267_303.out
                        have hnb147 := NB303_285.out
                        have hnc147 := NB285_303.out
                        have hnb148 := NB303_291.out
                        have hnc148 := NB291_303.out
                        have hcz149_0 : w119.cell? ⟨gb303, 0, none⟩ = some (.bool false) := (blk_cell BK303.out 0).trans rfl
                        have hcz149_1 : w119.cell? ⟨gb303, 1, none⟩ = some (.bool false) := (blk_cell BK303.out 1).trans rfl
                        have hcz149_2 : w119.cell? ⟨gb303, 2, none⟩ = some (.bool false) := (blk_cell BK303.out 2).trans rfl
                        have hcz149_3 : w119.cell? ⟨gb303, 3, none⟩ = some (.bool false) := (blk_cell BK303.out 3).trans rfl
                        have hfz149_0 := blk_frozen BK303.out 0
                        have hfz149_1 := blk_frozen BK303.out 1
                        have hfz149_2 := blk_frozen BK303.out 2
                        have hfz149_3 := blk_frozen BK303.out 3
                        try go_wp2
                        go_ret
                        exact ⟨by first | rfl | (simp [errW_none, errW_some] <;> rfl) | (simp [*, errW_none, errW_some] <;> rfl), by repeat (first | (with_reducible first | exact HB.out | apply below_alloc | apply pw_below_drewN | apply below_drew1 | refine below_set ?_ GE260.out | refine below_set ?_ GE267.out | refine below_set ?_ GE273.out | refine below_set ?_ GE279.out | refine below_set ?_ GE285.out | refine below_set ?_ GE291.out | refine below_set ?_ GE297.out | refine below_set ?_ GE303.out) | exact HB.out)⟩
                    · rw [if_neg c67] at H
                      have c67b0 : (t286 == a0) = false := beq_eq_false_iff_ne.mpr c67
                      have c67b1 : (t286 != a0) = true := bne_iff_ne.mpr c67
                      exact absurd ((Option.some.inj H).trans HT.out) (by simp)
                  · rw [if_neg c66] at H
                    have c66b0 : (t278 == t272) = false := by simpa using c66
                    (try (have c66b1 : decide (t278 = t272) = false := by simpa using c66))
                    (try (have c66b2 : (t278 == t272) = false := by simpa using c66))
                    (try (have c66b3 : ¬ (t278 = t272) := by simpa using c66))
                    clear c66
                    exact absurd ((Option.some.inj H).trans HT.out) (by simp)
                · rw [if_neg c65] at H
                  have c65b0 : ((wrap64 ((wrap64 (2 * (wrap64 (IntKind.i8.wrap (t274))))) + x19_49)) == (wrap64 (IntKind.i8.wrap (a0)))) = false := beq_eq_false_iff_ne.mpr c65
                  have c65b1 : ((wrap64 ((wrap64 (2 * (wrap64 (IntKind.i8.wrap (t274))))) + x19_49)) != (wrap64 (IntKind.i8.wrap (a0)))) = true := bne_iff_ne.mpr c65
                  exact absurd ((Option.some.inj H).trans HT.out) (by simp)
              · rw [if_neg c64] at H
                have c64b0 : ((wrap64 ((wrap64 (2 * (wrap64 (t268)))) + x19_49)) == (wrap64 (a0))) = false := beq_eq_false_iff_ne.mpr c64
                have c64b1 : ((wrap64 ((wrap64 (2 * (wrap64 (t268)))) + x19_49)) != (wrap64 (a0))) = true := bne_iff_ne.mpr c64
                exact absurd ((Option.some.inj H).trans HT.out) (by simp)
            · rw [if_neg c63] at H
              have c63b0 : ((wrap64 ((wrap64 (t262)) + x18_9)) == (wrap64 (2 * (wrap64 (a0))))) = false := beq_eq_false_iff_ne.mpr c63
              have c63b1 : ((wrap64 ((wrap64 (t262)) + x18_9)) != (wrap64 (2 * (wrap64 (a0))))) = true := bne_iff_ne.mpr c63
              exact absurd ((Option.some.inj H).trans HT.out) (by simp)
          · replace c62 := Bool.eq_false_iff.mpr c62
            subst c62
            have H1 : (some false) = some r := by rw [if_neg (show ¬ (false = true) by decide)] at H; exact H
            clear H
            have H := H1
            clear H1
            exact absurd ((Option.some.inj H).trans HT.out) (by simp)

end Go.Proofs.Ytmhoekdobodfeaa.G
